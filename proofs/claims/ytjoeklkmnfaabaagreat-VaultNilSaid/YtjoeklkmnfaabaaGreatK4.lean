/-
  Parts of the walk, one behind the other.
-/
import Derived.Test.YtjoeklkmnfaabaaGreatK3
/- Walks of layer 2, printed by wip/gen/codec.py. -/
namespace Go.Proofs.YtjoeklkmnfaabaaGreat
open Go Go.RowKit
set_option linter.unusedVariables false
attribute [local irreducible] Still Ops Does Cd
set_option maxRecDepth 100000 in
set_option maxHeartbeats 16000000 in
theorem entry_v (gs : Nat) (s : Sv) (A1 : Option Addr) (k1 : Nat) (A2 : Option Addr) (k2 : Nat) (A3 : Option Addr) (k3 : Nat) (n : Nt) (B1 : Option Addr) (j1 : Nat) (B2 : Option Addr) (j2 : Nat) (okn : Nat → Prop) (w0 : World) (hrow : w0.heap[gs]? = some (.cells [.int .i64 s.p.r, .int .i64 s.p.n, .slice A1 s.votes.length k1, .int .i64 s.index, .slice A2 s.image.length k2, .slice A3 s.entries.length k3].toArray 97 (0, 0))) (ok : Nat → Prop) (hok : ¬ ok gs) (hv1 : Sl (VtR w0 ok) 4 w0 ok A1 s.votes) (hv2 : Bs w0 ok A2 s.image) (hv3 : Sl (EnR w0 ok) 2 w0 ok A3 s.entries) (hokn : ¬ okn gs) (hb : Bs w0 okn B2 n.entry.val) (hvl : s.votes.length ≤ 1000) (hi : 0 ≤ s.index ∧ s.index ≤ 1099511627776) (he : s.entries.length ≤ 1099511627776) :
    Does Tryz.prog 118 #[.pointer (some ⟨gs, 0, none⟩), .agg [.int .i64 n.kind, .int .i64 n.group, .int .i64 n.b.r, .int .i64 n.b.n, .int .i64 n.vote.slot, .int .i64 n.vote.b.r, .int .i64 n.vote.b.n, .slice B1 n.vote.val.length j1, .int .i64 n.entry.slot, .slice B2 n.entry.val.length j2, .int .i64 n.right.g, strV n.right.key, .int .i64 n.right.lease, .int .i64 n.right.net, .int .i64 n.client, .int .i64 n.seq].toArray] w0 (fun _ w' => ∃ cs', Hp w0 w' [gs] [((some gs, 97, cs') : Ent)] ∧ SvR w' (up ok w0.heap.size) cs' (if n.entry.slot = s.last + 1 then { s with entries := s.entries ++ [n.entry], votes := behind s.votes n.entry.slot } else s)) := by
  refine does_of Tryz.func118 Tryz.ntmps118 rfl ?_
  refine nR38 ?_
  have H := Hp.old hrow
  have hks := up_k (n := w0.heap.size) (ok := ok) (S := [gs]) fun x hx hg => hok (by rw [← List.mem_singleton.1 hg]; exact hx)
  have hkn : ∀ x, okn x → x < w0.heap.size → x ∉ [gs] ∧ okn x := fun x hx _ => ⟨fun hg => hokn (by rw [← List.mem_singleton.1 hg]; exact hx), hx⟩
  obtain ⟨pe, hpe, hre, hae, he2⟩ := id hv3
  have hel := he2.len
  have hon := he2.ones fun _ _ h => h.ones
  have hkB : ∀ x, ok x → x < w0.heap.size → x ∉ [gs] ∧ (ok x ∧ x < w0.heap.size) := fun x hx hl => ⟨(hks x hx hl).1, hx, hl⟩
  refine run_seq ?_
  refine run_region ?_
  refine ops_box rfl rfl H ?_
  intro w1 g1 H1 hg1
  refine ops_nil ?_
  refine nR38 ?_
  refine run_seq ?_
  refine run_region ?_
  refine ops_val (ex_fieldAddr fl81_4 rfl) ?_
  refine ops_val (ex_loadN ty79 rfl (vs := [.int .i64 n.entry.slot, .slice B2 n.entry.val.length j2]) rfl (H1.cellsR (i := 1) rfl rfl)) ?_
  refine ops_alloc ty79 H1 ?_
  intro w2 g2 H2 hg2
  refine ops_store ty79 H2 2 rfl rfl rfl rfl rfl (by first | decide | (simp; done) | simp [putAt]) rfl ?_
  intro w3 H3
  refine ops_nil ?_
  refine nR38 ?_
  refine run_seq ?_
  refine run_seq ?_
  refine run_mixZ 5 [(true, 0), (true, 1), (true, 2), (false, 3), (true, 4), (false, 5)] H3 [0, 1, 2] mixed (by decide) (by kernel_rfl) ?_
  rintro w4 hw4
  have H4 := Hp.drew H3; rw [← hw4] at H4
  refine mixz_p rfl ?_
  refine mix1_val (fun wz hz => ex_fieldAddr fl79_0 rfl) ?_
  refine mixz_p rfl ?_
  refine mix1_val (fun wz hz => ex_load ty3 rfl (hz.cell (i := 2) rfl rfl)) ?_
  refine mixz_p rfl ?_
  refine mix1_val (fun wz hz => ex_move rfl) ?_
  refine mixz_o rfl ?_
  refine ops_call_val (ex_call gf163 rfl) (last_v gs _ _ _ _ s.index A3 s.entries.length k3 _ (H4.at (i := 0) rfl) ⟨by omega, by omega⟩ (by omega)) ?_
  intro w5 Hd
  have H5 := H4.callN Hd
  refine ops_nil ?_
  refine ⟨fun hne => H5.pick [0, 1, 2] (by decide), ?_⟩
  refine nZ38 ?_
  refine mixz_p rfl ?_
  refine mix1_val (fun wz hz => ex_add rfl rfl (IntWalk.i64_in _ (by omega))) ?_
  refine mixz_o rfl ?_
  refine ops_test (ex_neq rfl rfl) (fun hp12 => ?_) (fun hp12 => ?_)
  · skip
    refine ops_nil ?_
    refine ⟨fun hne => absurd rfl hne, ?_⟩
    refine mixz_nil ?_
    refine nR38 ?_
    refine run_cond_true rfl ?_
    refine run_ret ?_
    refine fin_ret0 rfl ?_
    rw [if_neg (by unfold Sv.last; exact hp12)]
    exact ⟨_, H5.pick [0] (by decide), A1, k1, A2, k2, A3, k3, rfl, hv1.toV H5 hks, hv2.to H5 hks, hv3.toE H5 hks⟩
  · skip
    refine ops_nil ?_
    refine ⟨fun hne => absurd rfl hne, ?_⟩
    refine mixz_nil ?_
    refine nR38 ?_
    refine run_cond_false rfl ?_
    refine run_skip ?_
    refine run_seq ?_
    refine run_region ?_
    refine ops_val (ex_fieldAddr fl79_1 rfl) ?_
    refine ops_val (ex_load ty73 rfl (H5.cell (i := 2) rfl rfl)) ?_
    refine ops_call_own (ex_call gf62 rfl) (clone_any B2 n.entry.val j2 _ (hb.to H5 hkn).1 (by have := hb.2.2; omega)) ?_
    intro w6 gb cb sb hmb hcb hgb Hc
    have H6 := H5.call0 Hc
    refine ops_val (ex_fieldAddr fl79_1 rfl) ?_
    refine nO38 ?_
    refine ops_store1 ty73 H6 2 rfl rfl rfl rfl (by first | decide | (simp; done) | simp [putAt]) rfl ?_
    intro w7 H7
    refine ops_nil ?_
    refine nR38 ?_
    refine run_seq ?_
    refine run_mixT 11 (.p 0 (.p 1 (.p 2 (.p 3 (.p 4 (.p 6 (.two 5 (.o 7 (.o 8 (.p 9 (.p 10 (.o 11 .nil))))) 7 (.o 5 (.o 8 (.p 9 (.p 10 (.o 11 .nil)))))))))))) H7 [0, 1, 2, 3] mixed (by decide) (by kernel_rfl) ?_
    rintro w8 hw8
    have H8 := Hp.drew H7; rw [← hw8] at H8
    refine mixt_p rfl ?_
    refine mix1_val (fun wz hz => ex_move rfl) ?_
    refine mixt_p rfl ?_
    refine mix1_val (fun wz hz => ex_move rfl) ?_
    refine mixt_p rfl ?_
    refine mix1_val (fun wz hz => ex_nilCheck rfl) ?_
    refine mixt_p rfl ?_
    refine mix1_val (fun wz hz => ex_fieldAddr fl97_4 rfl) ?_
    change MixT _ _ _ _ _ _ [_, _, _, _, _, _, _, _, _, _, _, _, _, _, _, _, _, _, _, _, _, _, _, _, _, _, _, _, _, _, _, _, _, _, _, _, _, _] _
    refine mixt_p rfl ?_
    refine mix1_val (fun wz hz => ex_load ty95 rfl (hz.cell (i := 0) rfl rfl)) ?_
    refine mixt_p rfl ?_
    refine mix1_val (fun wz hz => ex_loadN ty79 rfl (vs := [.int .i64 n.entry.slot, .slice (hd gb) n.entry.val.length cb]) rfl (hz.cellsR (i := 2) rfl rfl)) ?_
    refine mixt_two ?_ ?_
    · skip
      refine mixt_o rfl ?_
      refine ops_call (ex_call gf88 rfl) (cloneE A3 s.entries.length k3 pe.flatten _ (hre.move (by decide) hae H8 hks).1 (ones_flatten hon) (by omega)) ?_
      rintro _ w9 ⟨ge, ce, se, rfl, hme, hce, hge0, Hc⟩
      have H9 := H8.call0 Hc
      refine ops_nil ?_
      refine ⟨fun hne => H9.pick [0, 1, 2, 3] (by decide), ?_⟩
      change MixT _ _ _ _ _ _ [_, _, _, _, _, _, _, _, _, _, _, _, _, _, _, _, _, _, _, _, _, _, _, _, _, _, _, _, _, _, _, _, _, _, _, _, _, _] _
      refine mixt_o rfl ?_
      refine ops_buildSlice Tryz.underlying95 ty79 H9 rfl (by decide) rfl ?_
      intro w10 g10 H10 hg10
      refine ops_nil ?_
      refine ⟨fun hne => H10.pick [0, 1, 2, 3] (by decide), ?_⟩
      change MixT _ _ _ _ _ _ [_, _, _, _, _, _, _, _, _, _, _, _, _, _, _, _, _, _, _, _, _, _, _, _, _, _, _, _, _, _, _, _, _, _, _, _, _, _] _
      refine mixt_o rfl ?_
      refine ops_append Tryz.underlying95 ty79 (by decide) H10 4 (g := ge) (n := s.entries.length) (xs := pe.flatten) (sp := se) rfl rfl (by rw [hpe.len, hel]) hce hme hge0 rfl (H10.rd (i := 5) (o := some _) (xs := ([.int .i64 n.entry.slot, .slice (hd gb) n.entry.val.length cb] : List Value)) (sp := []) rfl rfl (by decide)) rfl (by omega) (by omega) (by decide) ?_
      intro w11 gw cw sw H11 hcw hmw hgw
      refine ops_nil ?_
      refine ⟨fun hne => H11.pick [0, 1, 2, 3] (by decide), ?_⟩
      change MixT _ _ _ _ _ _ [_, _, _, _, _, _, _, _, _, _, _, _, _, _, _, _, _, _, _, _, _, _, _, _, _, _, _, _, _, _, _, _, _, _, _, _, _, _] _
      refine mixt_p rfl ?_
      refine mix1_val (fun wz hz => ex_nilCheck rfl) ?_
      refine mixt_p rfl ?_
      refine mix1_val (fun wz hz => ex_fieldAddr fl97_4 rfl) ?_
      refine mixt_o rfl ?_
      refine ops_store1 ty95 H11 0 rfl rfl rfl rfl (by first | decide | (simp; done) | simp [putAt]) rfl ?_
      intro w12 H12
      refine ops_nil ?_
      refine ⟨fun hne => absurd rfl hne, ?_⟩
      change MixT _ _ _ _ _ _ [_, _, _, _, _, _, _, _, _, _, _, _, _, _, _, _, _, _, _, _, _, _, _, _, _, _, _, _, _, _, _, _, _, _, _, _, _, _] _
      refine mixt_nil ?_
      refine nR38 ?_
      refine run_mixZ 10 [(true, 0), (true, 1), (true, 2), (true, 3), (true, 4), (true, 5), (true, 6), (false, 7), (true, 8), (true, 9), (false, 10)] H12 [0, 1, 2, 3, 4, 5] mixed (by decide) (by kernel_rfl) ?_
      rintro w13 hw13
      have H13 := Hp.drew H12; rw [← hw13] at H13
      refine mixz_p rfl ?_
      refine mix1_val (fun wz hz => ex_move rfl) ?_
      refine mixz_p rfl ?_
      refine mix1_val (fun wz hz => ex_move rfl) ?_
      refine mixz_p rfl ?_
      refine mix1_val (fun wz hz => ex_nilCheck rfl) ?_
      refine mixz_p rfl ?_
      refine mix1_val (fun wz hz => ex_fieldAddr fl97_1 rfl) ?_
      refine nZ38 ?_
      refine mixz_p rfl ?_
      refine mix1_val (fun wz hz => ex_load ty94 rfl (hz.cell (i := 0) rfl rfl)) ?_
      refine mixz_p rfl ?_
      refine mix1_val (fun wz hz => ex_fieldAddr fl79_0 rfl) ?_
      refine mixz_p rfl ?_
      refine mix1_val (fun wz hz => ex_load ty3 rfl (hz.cell (i := 2) rfl rfl)) ?_
      refine mixz_o rfl ?_
      refine ops_call (ex_call gf167 rfl) (behind_v A1 k1 s.votes n.entry.slot (fun x => ok x ∧ x < w0.heap.size) _ (hv1.toV H13 hkB) (by omega)) ?_
      rintro _ w14 ⟨A9, k9, rfl, hv9, Hd⟩
      have hsz9 := H13.size
      have hlt9 := fun x hx => bl_lt H13 (b := x) hx
      have H14 := H13.callN Hd
      have hpl9 := bl_place H14
      refine ops_nil ?_
      refine ⟨fun hne => H14.pick [0, 1, 2, 3, 4, 5] (by decide), ?_⟩
      refine nZ38 ?_
      refine mixz_p rfl ?_
      refine mix1_val (fun wz hz => ex_nilCheck rfl) ?_
      refine mixz_p rfl ?_
      refine mix1_val (fun wz hz => ex_fieldAddr fl97_1 rfl) ?_
      refine mixz_o rfl ?_
      have HB := H14
      have HL := HB.here
      refine ops_store1 ty94 HL 0 rfl rfl rfl rfl (by first | (simp; done) | simp [putAt]) rfl ?_
      intro w15 H15
      have HW := HB.all H15
      have hv9 := hv9.toV (ok' := up ok w0.heap.size) H15 (fun x hx hl => ?_)
      rotate_left
      · rcases hx with hx | hx
        · refine ⟨fun hb => ?_, .inl hx.1⟩
          rcases hpl9 x hb with h | h
          · exact (hks x hx.1 hx.2).1 h
          · have := hx.2; omega
        · exact ⟨fun hb => by have := hlt9 x hb; omega, .inr (by omega)⟩
      refine ops_nil ?_
      refine ⟨fun hne => absurd rfl hne, ?_⟩
      refine nZ38 ?_
      refine mixz_nil ?_
      refine nR38 ?_
      refine run_nil ?_
      refine fin_end0 rfl ?_
      rw [if_pos (by unfold Sv.last; omega)]
      have hgb2 := row_new (ok := ok) HW (i := 3) rfl (fun b hb => by rw [List.mem_singleton.1 hb]; exact fun e => HW.ne (i := 3) (j := 0) (g := gs) (by rw [e]; rfl) rfl (by decide) rfl)
      have hgw2 := row_new (ok := ok) HW (i := 4) rfl (fun b hb => by rw [List.mem_singleton.1 hb]; exact fun e => HW.ne (i := 4) (j := 0) (g := gs) (by rw [e]; rfl) rfl (by decide) rfl)
      have hnew : EnR w15 (up ok w0.heap.size) ([.int .i64 n.entry.slot, .slice (hd gb) n.entry.val.length cb] : List Value) n.entry := ⟨hd gb, cb, rfl, Bs.row HW (i := 3) rfl hb.2.2 hgb2⟩
      have hold := he2.imp (R' := EnR w15 (up ok w0.heap.size)) fun p x h => h.to HW hks
      have hfl : pe.flatten ++ ([.int .i64 n.entry.slot, .slice (hd gb) n.entry.val.length cb] : List Value) = (pe ++ [([.int .i64 n.entry.slot, .slice (hd gb) n.entry.val.length cb] : List Value)]).flatten := by rw [List.flatten_append]; simp
      refine ⟨_, HW.pick [0] (by decide), A9, k9, A2, k2, hd gw, cw, by rw [List.length_append]; rfl, hv9, hv2.to HW hks, ?_⟩
      exact Sl.row HW (i := 4) (by rw [← hfl]; rfl) (hpe.app (Pl.one rfl)) (by decide) (hold.app (All2.one hnew)) hgw2
    · skip
      refine mixt_o rfl ?_
      refine ops_buildSlice Tryz.underlying95 ty79 H8 rfl (by decide) rfl ?_
      intro w9 g9 H9 hg9
      refine ops_nil ?_
      refine ⟨fun hne => H9.pick [0, 1, 2, 3] (by decide), ?_⟩
      change MixT _ _ _ _ _ _ [_, _, _, _, _, _, _, _, _, _, _, _, _, _, _, _, _, _, _, _, _, _, _, _, _, _, _, _, _, _, _, _, _, _, _, _, _, _] _
      refine mixt_o rfl ?_
      refine ops_call (ex_call gf88 rfl) (cloneE A3 s.entries.length k3 pe.flatten _ (hre.move (by decide) hae H9 hks).1 (ones_flatten hon) (by omega)) ?_
      rintro _ w10 ⟨ge, ce, se, rfl, hme, hce, hge0, Hc⟩
      have H10 := (H9.call0 Hc).pick [0, 1, 2, 3, 5, 4] (by decide)
      refine ops_nil ?_
      refine ⟨fun hne => H10.pick [0, 1, 2, 3] (by decide), ?_⟩
      change MixT _ _ _ _ _ _ [_, _, _, _, _, _, _, _, _, _, _, _, _, _, _, _, _, _, _, _, _, _, _, _, _, _, _, _, _, _, _, _, _, _, _, _, _, _] _
      refine mixt_o rfl ?_
      refine ops_append Tryz.underlying95 ty79 (by decide) H10 4 (g := ge) (n := s.entries.length) (xs := pe.flatten) (sp := se) rfl rfl (by rw [hpe.len, hel]) hce hme hge0 rfl (H10.rd (i := 5) (o := some _) (xs := ([.int .i64 n.entry.slot, .slice (hd gb) n.entry.val.length cb] : List Value)) (sp := []) rfl rfl (by decide)) rfl (by omega) (by omega) (by decide) ?_
      intro w11 gw cw sw H11 hcw hmw hgw
      refine ops_nil ?_
      refine ⟨fun hne => H11.pick [0, 1, 2, 3] (by decide), ?_⟩
      change MixT _ _ _ _ _ _ [_, _, _, _, _, _, _, _, _, _, _, _, _, _, _, _, _, _, _, _, _, _, _, _, _, _, _, _, _, _, _, _, _, _, _, _, _, _] _
      refine mixt_p rfl ?_
      refine mix1_val (fun wz hz => ex_nilCheck rfl) ?_
      refine mixt_p rfl ?_
      refine mix1_val (fun wz hz => ex_fieldAddr fl97_4 rfl) ?_
      refine mixt_o rfl ?_
      refine ops_store1 ty95 H11 0 rfl rfl rfl rfl (by first | decide | (simp; done) | simp [putAt]) rfl ?_
      intro w12 H12
      refine ops_nil ?_
      refine ⟨fun hne => absurd rfl hne, ?_⟩
      change MixT _ _ _ _ _ _ [_, _, _, _, _, _, _, _, _, _, _, _, _, _, _, _, _, _, _, _, _, _, _, _, _, _, _, _, _, _, _, _, _, _, _, _, _, _] _
      refine mixt_nil ?_
      refine nR38 ?_
      refine run_mixZ 10 [(true, 0), (true, 1), (true, 2), (true, 3), (true, 4), (true, 5), (true, 6), (false, 7), (true, 8), (true, 9), (false, 10)] H12 [0, 1, 2, 3, 4, 5] mixed (by decide) (by kernel_rfl) ?_
      rintro w13 hw13
      have H13 := Hp.drew H12; rw [← hw13] at H13
      refine mixz_p rfl ?_
      refine mix1_val (fun wz hz => ex_move rfl) ?_
      refine mixz_p rfl ?_
      refine mix1_val (fun wz hz => ex_move rfl) ?_
      refine mixz_p rfl ?_
      refine mix1_val (fun wz hz => ex_nilCheck rfl) ?_
      refine mixz_p rfl ?_
      refine mix1_val (fun wz hz => ex_fieldAddr fl97_1 rfl) ?_
      refine nZ38 ?_
      refine mixz_p rfl ?_
      refine mix1_val (fun wz hz => ex_load ty94 rfl (hz.cell (i := 0) rfl rfl)) ?_
      refine mixz_p rfl ?_
      refine mix1_val (fun wz hz => ex_fieldAddr fl79_0 rfl) ?_
      refine mixz_p rfl ?_
      refine mix1_val (fun wz hz => ex_load ty3 rfl (hz.cell (i := 2) rfl rfl)) ?_
      refine mixz_o rfl ?_
      refine ops_call (ex_call gf167 rfl) (behind_v A1 k1 s.votes n.entry.slot (fun x => ok x ∧ x < w0.heap.size) _ (hv1.toV H13 hkB) (by omega)) ?_
      rintro _ w14 ⟨A9, k9, rfl, hv9, Hd⟩
      have hsz9 := H13.size
      have hlt9 := fun x hx => bl_lt H13 (b := x) hx
      have H14 := H13.callN Hd
      have hpl9 := bl_place H14
      refine ops_nil ?_
      refine ⟨fun hne => H14.pick [0, 1, 2, 3, 4, 5] (by decide), ?_⟩
      refine nZ38 ?_
      refine mixz_p rfl ?_
      refine mix1_val (fun wz hz => ex_nilCheck rfl) ?_
      refine mixz_p rfl ?_
      refine mix1_val (fun wz hz => ex_fieldAddr fl97_1 rfl) ?_
      refine mixz_o rfl ?_
      have HB := H14
      have HL := HB.here
      refine ops_store1 ty94 HL 0 rfl rfl rfl rfl (by first | (simp; done) | simp [putAt]) rfl ?_
      intro w15 H15
      have HW := HB.all H15
      have hv9 := hv9.toV (ok' := up ok w0.heap.size) H15 (fun x hx hl => ?_)
      rotate_left
      · rcases hx with hx | hx
        · refine ⟨fun hb => ?_, .inl hx.1⟩
          rcases hpl9 x hb with h | h
          · exact (hks x hx.1 hx.2).1 h
          · have := hx.2; omega
        · exact ⟨fun hb => by have := hlt9 x hb; omega, .inr (by omega)⟩
      refine ops_nil ?_
      refine ⟨fun hne => absurd rfl hne, ?_⟩
      refine nZ38 ?_
      refine mixz_nil ?_
      refine nR38 ?_
      refine run_nil ?_
      refine fin_end0 rfl ?_
      rw [if_pos (by unfold Sv.last; omega)]
      have hgb2 := row_new (ok := ok) HW (i := 3) rfl (fun b hb => by rw [List.mem_singleton.1 hb]; exact fun e => HW.ne (i := 3) (j := 0) (g := gs) (by rw [e]; rfl) rfl (by decide) rfl)
      have hgw2 := row_new (ok := ok) HW (i := 4) rfl (fun b hb => by rw [List.mem_singleton.1 hb]; exact fun e => HW.ne (i := 4) (j := 0) (g := gs) (by rw [e]; rfl) rfl (by decide) rfl)
      have hnew : EnR w15 (up ok w0.heap.size) ([.int .i64 n.entry.slot, .slice (hd gb) n.entry.val.length cb] : List Value) n.entry := ⟨hd gb, cb, rfl, Bs.row HW (i := 3) rfl hb.2.2 hgb2⟩
      have hold := he2.imp (R' := EnR w15 (up ok w0.heap.size)) fun p x h => h.to HW hks
      have hfl : pe.flatten ++ ([.int .i64 n.entry.slot, .slice (hd gb) n.entry.val.length cb] : List Value) = (pe ++ [([.int .i64 n.entry.slot, .slice (hd gb) n.entry.val.length cb] : List Value)]).flatten := by rw [List.flatten_append]; simp
      refine ⟨_, HW.pick [0] (by decide), A9, k9, A2, k2, hd gw, cw, by rw [List.length_append]; rfl, hv9, hv2.to HW hks, ?_⟩
      exact Sl.row HW (i := 4) (by rw [← hfl]; rfl) (hpe.app (Pl.one rfl)) (by decide) (hold.app (All2.one hnew)) hgw2
set_option maxRecDepth 100000 in
set_option maxHeartbeats 16000000 in
theorem image_v (gs : Nat) (s : Sv) (A1 : Option Addr) (k1 : Nat) (A2 : Option Addr) (k2 : Nat) (A3 : Option Addr) (k3 : Nat) (n : Nt) (B1 : Option Addr) (j1 : Nat) (B2 : Option Addr) (j2 : Nat) (okn : Nat → Prop) (w0 : World) (hrow : w0.heap[gs]? = some (.cells [.int .i64 s.p.r, .int .i64 s.p.n, .slice A1 s.votes.length k1, .int .i64 s.index, .slice A2 s.image.length k2, .slice A3 s.entries.length k3].toArray 97 (0, 0))) (ok : Nat → Prop) (hok : ¬ ok gs) (hv1 : Sl (VtR w0 ok) 4 w0 ok A1 s.votes) (hv2 : Bs w0 ok A2 s.image) (hv3 : Sl (EnR w0 ok) 2 w0 ok A3 s.entries) (hokn : ¬ okn gs) (hb : Bs w0 okn B2 n.entry.val) (hvl : s.votes.length ≤ 1000) (hes : ∀ x ∈ s.entries, x.slot ≤ 1099511627776) (hi : 0 ≤ s.index ∧ s.index ≤ 1099511627776) (he : s.entries.length ≤ 1099511627776) :
    Does Tryz.prog 119 #[.pointer (some ⟨gs, 0, none⟩), .agg [.int .i64 n.kind, .int .i64 n.group, .int .i64 n.b.r, .int .i64 n.b.n, .int .i64 n.vote.slot, .int .i64 n.vote.b.r, .int .i64 n.vote.b.n, .slice B1 n.vote.val.length j1, .int .i64 n.entry.slot, .slice B2 n.entry.val.length j2, .int .i64 n.right.g, strV n.right.key, .int .i64 n.right.lease, .int .i64 n.right.net, .int .i64 n.client, .int .i64 n.seq].toArray] w0 (fun _ w' => ∃ cs', Hp w0 w' [gs] [((some gs, 97, cs') : Ent)] ∧ SvR w' (up ok w0.heap.size) cs' (if n.entry.slot ≤ s.index then s else { s with index := n.entry.slot, image := n.entry.val, entries := imgEn s.entries n.entry.slot, votes := behind s.votes n.entry.slot })) := by
  refine does_of Tryz.func119 Tryz.ntmps119 rfl ?_
  refine nR67 ?_
  have H := Hp.old hrow
  have hks := up_k (n := w0.heap.size) (ok := ok) (S := [gs]) fun x hx hg => hok (by rw [← List.mem_singleton.1 hg]; exact hx)
  have hkn : ∀ x, okn x → x < w0.heap.size → x ∉ [gs] ∧ okn x := fun x hx _ => ⟨fun hg => hokn (by rw [← List.mem_singleton.1 hg]; exact hx), hx⟩
  obtain ⟨pe, hpe, hre, hae, he2⟩ := id hv3
  have hel := he2.len
  have hon := he2.ones fun _ _ h => h.ones
  have hkB : ∀ x, ok x → x < w0.heap.size → x ∉ [gs] ∧ (ok x ∧ x < w0.heap.size) := fun x hx hl => ⟨(hks x hx hl).1, hx, hl⟩
  refine run_seq ?_
  refine run_region ?_
  refine ops_box rfl rfl H ?_
  intro w1 g1 H1 hg1
  refine ops_nil ?_
  refine nR67 ?_
  refine run_seq ?_
  refine run_region ?_
  refine ops_val (ex_fieldAddr fl81_4 rfl) ?_
  refine ops_val (ex_loadN ty79 rfl (vs := [.int .i64 n.entry.slot, .slice B2 n.entry.val.length j2]) rfl (H1.cellsR (i := 1) rfl rfl)) ?_
  refine ops_alloc ty79 H1 ?_
  intro w2 g2 H2 hg2
  refine ops_store ty79 H2 2 rfl rfl rfl rfl rfl (by first | decide | (simp; done) | simp [putAt]) rfl ?_
  intro w3 H3
  refine ops_nil ?_
  refine nR67 ?_
  refine run_seq ?_
  refine run_seq ?_
  refine run_mixZ 6 [(true, 0), (true, 1), (true, 2), (true, 3), (true, 4), (true, 5), (false, 6)] H3 [0, 1, 2] mixed (by decide) (by kernel_rfl) ?_
  rintro w4 hw4
  have H4 := Hp.drew H3; rw [← hw4] at H4
  refine mixz_p rfl ?_
  refine mix1_val (fun wz hz => ex_fieldAddr fl79_0 rfl) ?_
  refine mixz_p rfl ?_
  refine mix1_val (fun wz hz => ex_load ty3 rfl (hz.cell (i := 2) rfl rfl)) ?_
  refine mixz_p rfl ?_
  refine mix1_val (fun wz hz => ex_move rfl) ?_
  refine mixz_p rfl ?_
  refine mix1_val (fun wz hz => ex_nilCheck rfl) ?_
  refine nZ67 ?_
  refine mixz_p rfl ?_
  refine mix1_val (fun wz hz => ex_fieldAddr fl97_2 rfl) ?_
  refine mixz_p rfl ?_
  refine mix1_val (fun wz hz => ex_load ty3 rfl (hz.cell (i := 0) rfl rfl)) ?_
  refine mixz_o rfl ?_
  refine ops_test (ex_leq rfl rfl) (fun hp13 => ?_) (fun hp13 => ?_)
  · skip
    refine ops_nil ?_
    refine ⟨fun hne => absurd rfl hne, ?_⟩
    refine mixz_nil ?_
    refine nR67 ?_
    refine run_cond_true rfl ?_
    refine run_ret ?_
    refine fin_ret0 rfl ?_
    rw [if_pos hp13]
    exact ⟨_, H4.pick [0] (by decide), A1, k1, A2, k2, A3, k3, rfl, hv1.toV H4 hks, hv2.to H4 hks, hv3.toE H4 hks⟩
  · skip
    refine ops_nil ?_
    refine ⟨fun hne => absurd rfl hne, ?_⟩
    refine mixz_nil ?_
    refine nR67 ?_
    refine run_cond_false rfl ?_
    refine run_skip ?_
    refine run_seq ?_
    refine run_region ?_
    refine ops_val (ex_move rfl) ?_
    refine ops_val (ex_move rfl) ?_
    refine ops_val (ex_nilCheck rfl) ?_
    refine ops_val (ex_fieldAddr fl97_4 rfl) ?_
    refine nO67 ?_
    refine ops_val (ex_load ty95 rfl (H4.cell (i := 0) rfl rfl)) ?_
    refine ops_call (ex_call gf88 rfl) (cloneE A3 s.entries.length k3 pe.flatten _ (hre.move (by decide) hae H4 hks).1 (ones_flatten hon) (by omega)) ?_
    rintro _ w5 ⟨ge, ce, se, rfl, hme, hce, hge0, Hc⟩
    have H5 := H4.call0 Hc
    refine ops_val (ex_makeFunc rfl rfl) ?_
    refine ops_call (ex_call gf168 rfl) (deleteE ge ce s.entries.length pe hel se 169 _ (vtLe n.entry.slot) _ (H5.pick [3] (by decide)).here hpe hon (by omega) (by omega) hce (prd_image he2 (H5.at (i := 2) rfl) rfl) (row_not H5 (i := 2) (is := [3]) rfl (by decide))) ?_
    rintro _ w6 ⟨se2, rfl, hl2, Hd⟩
    have H6 := (H5.callr [3] rfl Hd).pick [0, 1, 2, 4] (by decide)
    have HI := H6
    have hef := he2.filter (f := fun p => !vtLe n.entry.slot p) (g := fun x => decide (n.entry.slot < x.slot)) (fun p x h => by
      rw [enLe_eq h]
      by_cases hx : x.slot ≤ n.entry.slot
      · rw [decide_eq_true hx, decide_eq_false (by omega)]; rfl
      · rw [decide_eq_false hx, decide_eq_true (by omega)]; rfl)
    have hefl := hef.len
    have hpf : Pl 2 (pe.filter fun p => !vtLe n.entry.slot p) := hpe.sub fun x hx => (List.mem_filter.1 hx).1
    refine nO67 ?_
    refine ops_val (ex_nilCheck rfl) ?_
    refine ops_val (ex_fieldAddr fl97_4 rfl) ?_
    refine ops_store1 ty95 H6 0 rfl rfl rfl rfl (by first | (simp; done) | simp [putAt]) rfl ?_
    intro w7 H7
    refine ops_nil ?_
    refine nR67 ?_
    refine run_seq ?_
    refine run_seq ?_
    refine run_mixZ 18 [(true, 0), (true, 1), (true, 2), (true, 3), (true, 4), (true, 5), (true, 6), (true, 7), (true, 8), (true, 9), (true, 10), (true, 11), (true, 12), (true, 13), (true, 14), (true, 15), (true, 16), (true, 17), (false, 18)] H7 [0, 1, 2, 3] mixed (by decide) (by kernel_rfl) ?_
    rintro w8 hw8
    have H8 := Hp.drew H7; rw [← hw8] at H8
    refine mixz_p rfl ?_
    refine mix1_val (fun wz hz => ex_move rfl) ?_
    refine mixz_p rfl ?_
    refine mix1_val (fun wz hz => ex_nilCheck rfl) ?_
    refine mixz_p rfl ?_
    refine mix1_val (fun wz hz => ex_fieldAddr fl97_4 rfl) ?_
    refine mixz_p rfl ?_
    refine mix1_val (fun wz hz => ex_load ty95 rfl (hz.cell (i := 0) rfl rfl)) ?_
    refine nZ67 ?_
    refine mixz_p rfl ?_
    refine mix1_val (fun wz hz => ex_len_slice Tryz.underlying95 rfl) ?_
    refine mixz_p rfl ?_
    refine mix1_test (fun wz hz => ex_gtr rfl rfl) (fun hp29 => ?_) (fun hp29 => ?_)
    · obtain ⟨p0, hp0⟩ := get_of (l := (pe.filter fun p => !vtLe n.entry.slot p)) (j := 0) (by omega)
      obtain ⟨e0, he0, hR0⟩ := hef.getL hp0
      have hmem0 := (List.mem_filter.1 (List.mem_of_getElem? he0))
      have hsl0 := hes e0 hmem0.1
      have hgt0 : n.entry.slot < e0.slot := by simpa using hmem0.2
      obtain ⟨Aq, kq, hpq, _⟩ := hR0
      subst hpq
      have hc0 : ((pe.filter fun p => !vtLe n.entry.slot p).flatten ++ se2)[0 + 0 * 2 + 0]? = some (.int .i64 e0.slot) := by
        have h1 := hpf.get hp0 (j := 0) (u := .int .i64 e0.slot) rfl
        rw [List.getElem?_append_left (lt_of_get h1)]; exact h1
      obtain ⟨gx, rfl⟩ := own_some HI (i := 3) rfl (lt_of_get hc0)
      refine mixz_p rfl ?_
      refine mix1_val (fun wz hz => ex_move rfl) ?_
      refine mixz_p rfl ?_
      refine mix1_yes rfl ?_
      refine mix1_val (fun wz hz => ex_move rfl) ?_
      refine mixz_p rfl ?_
      refine mix1_yes rfl ?_
      refine mix1_val (fun wz hz => ex_nilCheck rfl) ?_
      refine nZ67 ?_
      refine mixz_p rfl ?_
      refine mix1_yes rfl ?_
      refine mix1_val (fun wz hz => ex_fieldAddr fl97_4 rfl) ?_
      refine mixz_p rfl ?_
      refine mix1_yes rfl ?_
      refine mix1_val (fun wz hz => ex_load ty95 rfl (hz.cell (i := 0) rfl rfl)) ?_
      refine mixz_p rfl ?_
      refine mix1_yes rfl ?_
      refine mix1_val (fun wz hz => ex_idxN Tryz.underlying95 ty79 rfl rfl (i := 0) rfl (by omega)) ?_
      refine mixz_p rfl ?_
      refine mix1_yes rfl ?_
      refine mix1_val (fun wz hz => ex_fieldAddr fl79_0 rfl) ?_
      refine nZ67 ?_
      refine mixz_p rfl ?_
      refine mix1_yes rfl ?_
      refine mix1_val (fun wz hz => ex_load ty3 rfl (hz.cell (i := 3) rfl hc0)) ?_
      refine mixz_p rfl ?_
      refine mix1_yes rfl ?_
      refine mix1_val (fun wz hz => ex_fieldAddr fl79_0 rfl) ?_
      refine mixz_p rfl ?_
      refine mix1_yes rfl ?_
      refine mix1_val (fun wz hz => ex_load ty3 rfl (hz.cell (i := 2) rfl rfl)) ?_
      refine mixz_p rfl ?_
      refine mix1_yes rfl ?_
      refine mix1_val (fun wz hz => ex_add rfl rfl (IntWalk.i64_in _ (by omega))) ?_
      refine nZ67 ?_
      refine mixz_p rfl ?_
      refine mix1_yes rfl ?_
      refine mix1_test (fun wz hz => ex_neq rfl rfl) (fun hp41 => ?_) (fun hp41 => ?_)
      · skip
        refine mixz_o rfl ?_
        refine ops_val (ex_pick_t rfl rfl) ?_
        refine ops_nil ?_
        refine ⟨fun hne => absurd rfl hne, ?_⟩
        refine nZ67 ?_
        refine mixz_nil ?_
        refine nR67 ?_
        refine run_cond_true rfl ?_
        refine run_region ?_
        refine ops_val (ex_move rfl) ?_
        refine ops_val (ex_nilCheck rfl) ?_
        refine ops_val (ex_fieldAddr fl97_4 rfl) ?_
        refine ops_store1 ty95 H8 0 rfl rfl rfl rfl (by first | (simp; done) | simp [putAt]) rfl ?_
        intro w9 H9
        refine ops_nil ?_
        refine nR67 ?_
        refine run_seq ?_
        refine run_mixZ 12 [(true, 0), (true, 1), (true, 2), (true, 3), (true, 4), (true, 5), (false, 6), (true, 7), (true, 8), (false, 9), (true, 10), (true, 11), (false, 12)] H9 [1, 2, 3] mixed (by decide) (by kernel_rfl) ?_
        rintro w10 hw10
        have H10 := Hp.drew H9; rw [← hw10] at H10
        refine mixz_p rfl ?_
        refine mix1_val (fun wz hz => ex_move rfl) ?_
        refine mixz_p rfl ?_
        refine mix1_val (fun wz hz => ex_move rfl) ?_
        refine mixz_p rfl ?_
        refine mix1_val (fun wz hz => ex_fieldAddr fl79_0 rfl) ?_
        refine mixz_p rfl ?_
        refine mix1_val (fun wz hz => ex_load ty3 rfl (hz.cell (i := 1) rfl rfl)) ?_
        refine nZ67 ?_
        refine mixz_p rfl ?_
        refine mix1_val (fun wz hz => ex_fieldAddr fl79_1 rfl) ?_
        refine mixz_p rfl ?_
        refine mix1_val (fun wz hz => ex_load ty73 rfl (hz.cell (i := 1) rfl rfl)) ?_
        refine mixz_o rfl ?_
        refine ops_call_own (ex_call gf62 rfl) (clone_any B2 n.entry.val j2 _ (hb.to H10 hkn).1 (by have := hb.2.2; omega)) ?_
        intro w11 gb cb sb hmb hcb hgb Hc
        have H11 := H10.call0 Hc
        refine ops_nil ?_
        refine ⟨fun hne => H11.pick [1, 2, 3] (by decide), ?_⟩
        refine nZ67 ?_
        refine mixz_p rfl ?_
        refine mix1_val (fun wz hz => ex_nilCheck rfl) ?_
        refine mixz_p rfl ?_
        refine mix1_val (fun wz hz => ex_fieldAddr fl97_2 rfl) ?_
        refine mixz_o rfl ?_
        refine ops_store1 ty3 H11 0 rfl rfl rfl rfl (by first | decide | (simp; done) | simp [putAt]) rfl ?_
        intro w12 H12
        refine ops_nil ?_
        refine ⟨fun hne => H12.pick [1, 2, 3] (by decide), ?_⟩
        refine nZ67 ?_
        refine mixz_p rfl ?_
        refine mix1_val (fun wz hz => ex_nilCheck rfl) ?_
        refine mixz_p rfl ?_
        refine mix1_val (fun wz hz => ex_fieldAddr fl97_3 rfl) ?_
        refine mixz_o rfl ?_
        refine ops_store1 ty73 H12 0 rfl rfl rfl rfl (by first | decide | (simp; done) | simp [putAt]) rfl ?_
        intro w13 H13
        refine ops_nil ?_
        refine ⟨fun hne => absurd rfl hne, ?_⟩
        refine nZ67 ?_
        refine mixz_nil ?_
        refine nR67 ?_
        refine run_mixZ 10 [(true, 0), (true, 1), (true, 2), (true, 3), (true, 4), (true, 5), (true, 6), (false, 7), (true, 8), (true, 9), (false, 10)] H13 [0, 1, 2, 3, 4] mixed (by decide) (by kernel_rfl) ?_
        rintro w14 hw14
        have H14 := Hp.drew H13; rw [← hw14] at H14
        refine mixz_p rfl ?_
        refine mix1_val (fun wz hz => ex_move rfl) ?_
        refine mixz_p rfl ?_
        refine mix1_val (fun wz hz => ex_move rfl) ?_
        refine mixz_p rfl ?_
        refine mix1_val (fun wz hz => ex_nilCheck rfl) ?_
        refine mixz_p rfl ?_
        refine mix1_val (fun wz hz => ex_fieldAddr fl97_1 rfl) ?_
        refine nZ67 ?_
        refine mixz_p rfl ?_
        refine mix1_val (fun wz hz => ex_load ty94 rfl (hz.cell (i := 0) rfl rfl)) ?_
        refine mixz_p rfl ?_
        refine mix1_val (fun wz hz => ex_fieldAddr fl79_0 rfl) ?_
        refine mixz_p rfl ?_
        refine mix1_val (fun wz hz => ex_load ty3 rfl (hz.cell (i := 2) rfl rfl)) ?_
        refine mixz_o rfl ?_
        refine ops_call (ex_call gf167 rfl) (behind_v A1 k1 s.votes n.entry.slot (fun x => ok x ∧ x < w0.heap.size) _ (hv1.toV H14 hkB) (by omega)) ?_
        rintro _ w15 ⟨A9, k9, rfl, hv9, Hd⟩
        have hsz9 := H14.size
        have hlt9 := fun x hx => bl_lt H14 (b := x) hx
        have H15 := H14.callN Hd
        have hpl9 := bl_place H15
        refine ops_nil ?_
        refine ⟨fun hne => H15.pick [0, 1, 2, 3, 4] (by decide), ?_⟩
        refine nZ67 ?_
        refine mixz_p rfl ?_
        refine mix1_val (fun wz hz => ex_nilCheck rfl) ?_
        refine mixz_p rfl ?_
        refine mix1_val (fun wz hz => ex_fieldAddr fl97_1 rfl) ?_
        refine mixz_o rfl ?_
        have HB := H15
        have HL := HB.here
        refine ops_store1 ty94 HL 0 rfl rfl rfl rfl (by first | (simp; done) | simp [putAt]) rfl ?_
        intro w16 H16
        have HW := HB.all H16
        have hv9 := hv9.toV (ok' := up ok w0.heap.size) H16 (fun x hx hl => ?_)
        rotate_left
        · rcases hx with hx | hx
          · refine ⟨fun hb => ?_, .inl hx.1⟩
            rcases hpl9 x hb with h | h
            · exact (hks x hx.1 hx.2).1 h
            · have := hx.2; omega
          · exact ⟨fun hb => by have := hlt9 x hb; omega, .inr (by omega)⟩
        refine ops_nil ?_
        refine ⟨fun hne => absurd rfl hne, ?_⟩
        refine nZ67 ?_
        refine mixz_nil ?_
        refine nR67 ?_
        refine run_nil ?_
        refine fin_end0 rfl ?_
        rw [if_neg hp13]
        have hgb2 := row_new (ok := ok) HW (i := 4) rfl (fun b hb => by rw [List.mem_singleton.1 hb]; exact fun e => HW.ne (i := 4) (j := 0) (g := gs) (by rw [e]; rfl) rfl (by decide) rfl)
        have hge2 := row_new (ok := ok) HW (i := 3) rfl (fun b hb => by rw [List.mem_singleton.1 hb]; exact fun e => HW.ne (i := 3) (j := 0) (g := gs) (by rw [e]; rfl) rfl (by decide) rfl)
        have hold := hef.imp (R' := EnR w16 (up ok w0.heap.size)) fun p x h => h.to HW hks
        have h0 : imgEn s.entries n.entry.slot = [] := by
          unfold imgEn
          cases hq : (s.entries.filter fun x => decide (n.entry.slot < x.slot)) with
          | nil => rfl
          | cons a r =>
            rw [hq] at he0
            cases he0
            exact if_neg hp41
        rw [h0]
        refine ⟨_, HW.pick [0] (by decide), A9, k9, hd gb, cb, none, 0, rfl, hv9, Bs.row HW (i := 4) rfl hb.2.2 hgb2, Sl.none _ _ _ _⟩
      · skip
        refine mixz_o rfl ?_
        refine ops_val (ex_pick_t rfl rfl) ?_
        refine ops_nil ?_
        refine ⟨fun hne => absurd rfl hne, ?_⟩
        refine nZ67 ?_
        refine mixz_nil ?_
        refine nR67 ?_
        refine run_cond_false rfl ?_
        refine run_skip ?_
        refine run_seq ?_
        refine run_mixZ 12 [(true, 0), (true, 1), (true, 2), (true, 3), (true, 4), (true, 5), (false, 6), (true, 7), (true, 8), (false, 9), (true, 10), (true, 11), (false, 12)] H8 [1, 2, 3] mixed (by decide) (by kernel_rfl) ?_
        rintro w9 hw9
        have H9 := Hp.drew H8; rw [← hw9] at H9
        refine mixz_p rfl ?_
        refine mix1_val (fun wz hz => ex_move rfl) ?_
        refine mixz_p rfl ?_
        refine mix1_val (fun wz hz => ex_move rfl) ?_
        refine mixz_p rfl ?_
        refine mix1_val (fun wz hz => ex_fieldAddr fl79_0 rfl) ?_
        refine mixz_p rfl ?_
        refine mix1_val (fun wz hz => ex_load ty3 rfl (hz.cell (i := 1) rfl rfl)) ?_
        refine nZ67 ?_
        refine mixz_p rfl ?_
        refine mix1_val (fun wz hz => ex_fieldAddr fl79_1 rfl) ?_
        refine mixz_p rfl ?_
        refine mix1_val (fun wz hz => ex_load ty73 rfl (hz.cell (i := 1) rfl rfl)) ?_
        refine mixz_o rfl ?_
        refine ops_call_own (ex_call gf62 rfl) (clone_any B2 n.entry.val j2 _ (hb.to H9 hkn).1 (by have := hb.2.2; omega)) ?_
        intro w10 gb cb sb hmb hcb hgb Hc
        have H10 := H9.call0 Hc
        refine ops_nil ?_
        refine ⟨fun hne => H10.pick [1, 2, 3] (by decide), ?_⟩
        refine nZ67 ?_
        refine mixz_p rfl ?_
        refine mix1_val (fun wz hz => ex_nilCheck rfl) ?_
        refine mixz_p rfl ?_
        refine mix1_val (fun wz hz => ex_fieldAddr fl97_2 rfl) ?_
        refine mixz_o rfl ?_
        refine ops_store1 ty3 H10 0 rfl rfl rfl rfl (by first | decide | (simp; done) | simp [putAt]) rfl ?_
        intro w11 H11
        refine ops_nil ?_
        refine ⟨fun hne => H11.pick [1, 2, 3] (by decide), ?_⟩
        refine nZ67 ?_
        refine mixz_p rfl ?_
        refine mix1_val (fun wz hz => ex_nilCheck rfl) ?_
        refine mixz_p rfl ?_
        refine mix1_val (fun wz hz => ex_fieldAddr fl97_3 rfl) ?_
        refine mixz_o rfl ?_
        refine ops_store1 ty73 H11 0 rfl rfl rfl rfl (by first | decide | (simp; done) | simp [putAt]) rfl ?_
        intro w12 H12
        refine ops_nil ?_
        refine ⟨fun hne => absurd rfl hne, ?_⟩
        refine nZ67 ?_
        refine mixz_nil ?_
        refine nR67 ?_
        refine run_mixZ 10 [(true, 0), (true, 1), (true, 2), (true, 3), (true, 4), (true, 5), (true, 6), (false, 7), (true, 8), (true, 9), (false, 10)] H12 [0, 1, 2, 3, 4] mixed (by decide) (by kernel_rfl) ?_
        rintro w13 hw13
        have H13 := Hp.drew H12; rw [← hw13] at H13
        refine mixz_p rfl ?_
        refine mix1_val (fun wz hz => ex_move rfl) ?_
        refine mixz_p rfl ?_
        refine mix1_val (fun wz hz => ex_move rfl) ?_
        refine mixz_p rfl ?_
        refine mix1_val (fun wz hz => ex_nilCheck rfl) ?_
        refine mixz_p rfl ?_
        refine mix1_val (fun wz hz => ex_fieldAddr fl97_1 rfl) ?_
        refine nZ67 ?_
        refine mixz_p rfl ?_
        refine mix1_val (fun wz hz => ex_load ty94 rfl (hz.cell (i := 0) rfl rfl)) ?_
        refine mixz_p rfl ?_
        refine mix1_val (fun wz hz => ex_fieldAddr fl79_0 rfl) ?_
        refine mixz_p rfl ?_
        refine mix1_val (fun wz hz => ex_load ty3 rfl (hz.cell (i := 2) rfl rfl)) ?_
        refine mixz_o rfl ?_
        refine ops_call (ex_call gf167 rfl) (behind_v A1 k1 s.votes n.entry.slot (fun x => ok x ∧ x < w0.heap.size) _ (hv1.toV H13 hkB) (by omega)) ?_
        rintro _ w14 ⟨A9, k9, rfl, hv9, Hd⟩
        have hsz9 := H13.size
        have hlt9 := fun x hx => bl_lt H13 (b := x) hx
        have H14 := H13.callN Hd
        have hpl9 := bl_place H14
        refine ops_nil ?_
        refine ⟨fun hne => H14.pick [0, 1, 2, 3, 4] (by decide), ?_⟩
        refine nZ67 ?_
        refine mixz_p rfl ?_
        refine mix1_val (fun wz hz => ex_nilCheck rfl) ?_
        refine mixz_p rfl ?_
        refine mix1_val (fun wz hz => ex_fieldAddr fl97_1 rfl) ?_
        refine mixz_o rfl ?_
        have HB := H14
        have HL := HB.here
        refine ops_store1 ty94 HL 0 rfl rfl rfl rfl (by first | (simp; done) | simp [putAt]) rfl ?_
        intro w15 H15
        have HW := HB.all H15
        have hv9 := hv9.toV (ok' := up ok w0.heap.size) H15 (fun x hx hl => ?_)
        rotate_left
        · rcases hx with hx | hx
          · refine ⟨fun hb => ?_, .inl hx.1⟩
            rcases hpl9 x hb with h | h
            · exact (hks x hx.1 hx.2).1 h
            · have := hx.2; omega
          · exact ⟨fun hb => by have := hlt9 x hb; omega, .inr (by omega)⟩
        refine ops_nil ?_
        refine ⟨fun hne => absurd rfl hne, ?_⟩
        refine nZ67 ?_
        refine mixz_nil ?_
        refine nR67 ?_
        refine run_nil ?_
        refine fin_end0 rfl ?_
        rw [if_neg hp13]
        have hgb2 := row_new (ok := ok) HW (i := 4) rfl (fun b hb => by rw [List.mem_singleton.1 hb]; exact fun e => HW.ne (i := 4) (j := 0) (g := gs) (by rw [e]; rfl) rfl (by decide) rfl)
        have hge2 := row_new (ok := ok) HW (i := 3) rfl (fun b hb => by rw [List.mem_singleton.1 hb]; exact fun e => HW.ne (i := 3) (j := 0) (g := gs) (by rw [e]; rfl) rfl (by decide) rfl)
        have hold := hef.imp (R' := EnR w15 (up ok w0.heap.size)) fun p x h => h.to HW hks
        have h0 : imgEn s.entries n.entry.slot = (s.entries.filter fun x => decide (n.entry.slot < x.slot)) := by
          unfold imgEn
          cases hq : (s.entries.filter fun x => decide (n.entry.slot < x.slot)) with
          | nil => simp [hq] at he0
          | cons a r =>
            rw [hq] at he0
            cases he0
            exact if_pos (by omega)
        rw [h0]
        refine ⟨_, HW.pick [0] (by decide), A9, k9, hd gb, cb, hd (some gx), ce, by rw [← hefl]; rfl, hv9, Bs.row HW (i := 4) rfl hb.2.2 hgb2, Sl.row HW (i := 3) rfl hpf (by decide) hold hge2⟩
    · skip
      refine mixz_p rfl ?_
      refine mix1_val (fun wz hz => ex_move rfl) ?_
      refine mixz_p rfl ?_
      refine mix1_no rfl ?_
      refine nZ67 ?_
      refine mixz_p rfl ?_
      refine mix1_no rfl ?_
      refine mixz_p rfl ?_
      refine mix1_no rfl ?_
      refine nZ67 ?_
      refine mixz_p rfl ?_
      refine mix1_no rfl ?_
      refine mixz_p rfl ?_
      refine mix1_no rfl ?_
      refine nZ67 ?_
      refine mixz_p rfl ?_
      refine mix1_no rfl ?_
      refine mixz_p rfl ?_
      refine mix1_no rfl ?_
      refine nZ67 ?_
      refine mixz_p rfl ?_
      refine mix1_no rfl ?_
      refine mixz_p rfl ?_
      refine mix1_no rfl ?_
      refine nZ67 ?_
      refine mixz_p rfl ?_
      refine mix1_no rfl ?_
      refine mixz_p rfl ?_
      refine mix1_no rfl ?_
      refine nZ67 ?_
      refine mixz_o rfl ?_
      refine ops_val (ex_pick_f rfl rfl) ?_
      refine ops_nil ?_
      refine ⟨fun hne => absurd rfl hne, ?_⟩
      refine nZ67 ?_
      refine mixz_nil ?_
      refine nR67 ?_
      refine run_cond_false rfl ?_
      refine run_skip ?_
      refine run_seq ?_
      refine run_mixZ 12 [(true, 0), (true, 1), (true, 2), (true, 3), (true, 4), (true, 5), (false, 6), (true, 7), (true, 8), (false, 9), (true, 10), (true, 11), (false, 12)] H8 [1, 2, 3] mixed (by decide) (by kernel_rfl) ?_
      rintro w9 hw9
      have H9 := Hp.drew H8; rw [← hw9] at H9
      refine mixz_p rfl ?_
      refine mix1_val (fun wz hz => ex_move rfl) ?_
      refine mixz_p rfl ?_
      refine mix1_val (fun wz hz => ex_move rfl) ?_
      refine mixz_p rfl ?_
      refine mix1_val (fun wz hz => ex_fieldAddr fl79_0 rfl) ?_
      refine mixz_p rfl ?_
      refine mix1_val (fun wz hz => ex_load ty3 rfl (hz.cell (i := 1) rfl rfl)) ?_
      refine nZ67 ?_
      refine mixz_p rfl ?_
      refine mix1_val (fun wz hz => ex_fieldAddr fl79_1 rfl) ?_
      refine mixz_p rfl ?_
      refine mix1_val (fun wz hz => ex_load ty73 rfl (hz.cell (i := 1) rfl rfl)) ?_
      refine mixz_o rfl ?_
      refine ops_call_own (ex_call gf62 rfl) (clone_any B2 n.entry.val j2 _ (hb.to H9 hkn).1 (by have := hb.2.2; omega)) ?_
      intro w10 gb cb sb hmb hcb hgb Hc
      have H10 := H9.call0 Hc
      refine ops_nil ?_
      refine ⟨fun hne => H10.pick [1, 2, 3] (by decide), ?_⟩
      refine nZ67 ?_
      refine mixz_p rfl ?_
      refine mix1_val (fun wz hz => ex_nilCheck rfl) ?_
      refine mixz_p rfl ?_
      refine mix1_val (fun wz hz => ex_fieldAddr fl97_2 rfl) ?_
      refine mixz_o rfl ?_
      refine ops_store1 ty3 H10 0 rfl rfl rfl rfl (by first | decide | (simp; done) | simp [putAt]) rfl ?_
      intro w11 H11
      refine ops_nil ?_
      refine ⟨fun hne => H11.pick [1, 2, 3] (by decide), ?_⟩
      refine nZ67 ?_
      refine mixz_p rfl ?_
      refine mix1_val (fun wz hz => ex_nilCheck rfl) ?_
      refine mixz_p rfl ?_
      refine mix1_val (fun wz hz => ex_fieldAddr fl97_3 rfl) ?_
      refine mixz_o rfl ?_
      refine ops_store1 ty73 H11 0 rfl rfl rfl rfl (by first | decide | (simp; done) | simp [putAt]) rfl ?_
      intro w12 H12
      refine ops_nil ?_
      refine ⟨fun hne => absurd rfl hne, ?_⟩
      refine nZ67 ?_
      refine mixz_nil ?_
      refine nR67 ?_
      refine run_mixZ 10 [(true, 0), (true, 1), (true, 2), (true, 3), (true, 4), (true, 5), (true, 6), (false, 7), (true, 8), (true, 9), (false, 10)] H12 [0, 1, 2, 3, 4] mixed (by decide) (by kernel_rfl) ?_
      rintro w13 hw13
      have H13 := Hp.drew H12; rw [← hw13] at H13
      refine mixz_p rfl ?_
      refine mix1_val (fun wz hz => ex_move rfl) ?_
      refine mixz_p rfl ?_
      refine mix1_val (fun wz hz => ex_move rfl) ?_
      refine mixz_p rfl ?_
      refine mix1_val (fun wz hz => ex_nilCheck rfl) ?_
      refine mixz_p rfl ?_
      refine mix1_val (fun wz hz => ex_fieldAddr fl97_1 rfl) ?_
      refine nZ67 ?_
      refine mixz_p rfl ?_
      refine mix1_val (fun wz hz => ex_load ty94 rfl (hz.cell (i := 0) rfl rfl)) ?_
      refine mixz_p rfl ?_
      refine mix1_val (fun wz hz => ex_fieldAddr fl79_0 rfl) ?_
      refine mixz_p rfl ?_
      refine mix1_val (fun wz hz => ex_load ty3 rfl (hz.cell (i := 2) rfl rfl)) ?_
      refine mixz_o rfl ?_
      refine ops_call (ex_call gf167 rfl) (behind_v A1 k1 s.votes n.entry.slot (fun x => ok x ∧ x < w0.heap.size) _ (hv1.toV H13 hkB) (by omega)) ?_
      rintro _ w14 ⟨A9, k9, rfl, hv9, Hd⟩
      have hsz9 := H13.size
      have hlt9 := fun x hx => bl_lt H13 (b := x) hx
      have H14 := H13.callN Hd
      have hpl9 := bl_place H14
      refine ops_nil ?_
      refine ⟨fun hne => H14.pick [0, 1, 2, 3, 4] (by decide), ?_⟩
      refine nZ67 ?_
      refine mixz_p rfl ?_
      refine mix1_val (fun wz hz => ex_nilCheck rfl) ?_
      refine mixz_p rfl ?_
      refine mix1_val (fun wz hz => ex_fieldAddr fl97_1 rfl) ?_
      refine mixz_o rfl ?_
      have HB := H14
      have HL := HB.here
      refine ops_store1 ty94 HL 0 rfl rfl rfl rfl (by first | (simp; done) | simp [putAt]) rfl ?_
      intro w15 H15
      have HW := HB.all H15
      have hv9 := hv9.toV (ok' := up ok w0.heap.size) H15 (fun x hx hl => ?_)
      rotate_left
      · rcases hx with hx | hx
        · refine ⟨fun hb => ?_, .inl hx.1⟩
          rcases hpl9 x hb with h | h
          · exact (hks x hx.1 hx.2).1 h
          · have := hx.2; omega
        · exact ⟨fun hb => by have := hlt9 x hb; omega, .inr (by omega)⟩
      refine ops_nil ?_
      refine ⟨fun hne => absurd rfl hne, ?_⟩
      refine nZ67 ?_
      refine mixz_nil ?_
      refine nR67 ?_
      refine run_nil ?_
      refine fin_end0 rfl ?_
      rw [if_neg hp13]
      have hgb2 := row_new (ok := ok) HW (i := 4) rfl (fun b hb => by rw [List.mem_singleton.1 hb]; exact fun e => HW.ne (i := 4) (j := 0) (g := gs) (by rw [e]; rfl) rfl (by decide) rfl)
      have hge2 := row_new (ok := ok) HW (i := 3) rfl (fun b hb => by rw [List.mem_singleton.1 hb]; exact fun e => HW.ne (i := 3) (j := 0) (g := gs) (by rw [e]; rfl) rfl (by decide) rfl)
      have hold := hef.imp (R' := EnR w15 (up ok w0.heap.size)) fun p x h => h.to HW hks
      have h0 : imgEn s.entries n.entry.slot = (s.entries.filter fun x => decide (n.entry.slot < x.slot)) := by
        unfold imgEn
        have : (s.entries.filter fun x => decide (n.entry.slot < x.slot)) = [] := List.eq_nil_of_length_eq_zero (by omega)
        rw [this]
      rw [h0]
      refine ⟨_, HW.pick [0] (by decide), A9, k9, hd gb, cb, hd ge, ce, by rw [← hefl]; rfl, hv9, Bs.row HW (i := 4) rfl hb.2.2 hgb2, Sl.row HW (i := 3) rfl hpf (by decide) hold hge2⟩
end Go.Proofs.YtjoeklkmnfaabaaGreat
/- Walks of layer 2, printed by wip/gen/codec.py. -/
namespace Go.Proofs.YtjoeklkmnfaabaaGreat
open Go Go.RowKit
set_option linter.unusedVariables false
attribute [local irreducible] Still Ops Does Cd
set_option maxRecDepth 100000 in
set_option maxHeartbeats 4000000 in
theorem copied_a (x : Vt) (Ax : Option Addr) (kx : Nat) (ok : Nat → Prop) (w0 : World) (hb : Bs w0 ok Ax x.val) :
    Does Tryz.prog 199 #[.agg [.int .i64 x.slot, .int .i64 x.b.r, .int .i64 x.b.n, .slice Ax x.val.length kx].toArray] w0 (fun _ w' => Hp w0 w' [] []) := by
  refine does_of Tryz.func199 Tryz.ntmps199 rfl ?_
  change Run _ _ _ _ [.agg [.int .i64 x.slot, .int .i64 x.b.r, .int .i64 x.b.n, .slice Ax x.val.length kx].toArray, undef, undef, undef, undef, undef, undef, undef] _
  have H := Hp.refl w0
  refine run_seq ?_
  refine run_region ?_
  refine ops_box rfl rfl H ?_
  intro w1 g1 H1 hg1
  refine ops_alloc ty77 H1 ?_
  intro w2 g2 H2 hg2
  refine ops_nil ?_
  change Run _ _ _ _ [_, _, _, _, _, _, _, _] _
  refine run_seq ?_
  refine run_region ?_
  refine ops_val (ex_fieldAddr fl77_2 rfl) ?_
  refine ops_val (ex_load ty73 rfl (H2.cell (i := 0) rfl rfl)) ?_
  refine ops_call_own (ex_call gf62 rfl) (clone_any Ax x.val kx _ (hb.1.to0 H2) (by have := hb.2.2; omega)) ?_
  intro w3 gb cb sb hmb hcb hgb Hc
  have H3 := H2.call0 Hc
  refine ops_val (ex_fieldAddr fl77_2 rfl) ?_
  change Ops _ _ _ _ _ _ [_, _, _, _, _, _, _, _] _
  refine ops_store1 ty73 H3 0 rfl rfl rfl rfl (by first | decide | (simp; done) | simp [putAt]) rfl ?_
  intro w4 H4
  refine ops_nil ?_
  change Run _ _ _ _ [_, _, _, _, _, _, _, _] _
  refine run_seq ?_
  refine run_region ?_
  refine ops_val (ex_loadN ty77 rfl (vs := [.int .i64 x.slot, .int .i64 x.b.r, .int .i64 x.b.n, .slice (hd gb) x.val.length cb]) rfl (H4.cellsR (i := 0) rfl rfl)) ?_
  refine ops_store ty77 H4 1 rfl rfl rfl rfl rfl (by first | decide | (simp; done) | simp [putAt]) rfl ?_
  intro w5 H5
  refine ops_nil ?_
  change Run _ _ _ _ [_, _, _, _, _, _, _, _] _
  refine run_ret ?_
  refine fin_cell rfl ty77 (cs := [.int .i64 x.slot, .int .i64 x.b.r, .int .i64 x.b.n, .slice (hd gb) x.val.length cb]) rfl rfl (H5.cellsR (i := 1) rfl rfl) ?_
  exact H5.noRows
set_option maxRecDepth 100000 in
set_option maxHeartbeats 16000000 in
theorem load_a (p : Bal) (first : Int) (A : Option Addr) (k : Nat) (l : List Vt) (ok : Nat → Prop) (w0 : World) (hl : Sl (VtR w0 ok) 4 w0 ok A l) (hn : l.length ≤ 1000000000000000000) :
    Does Tryz.prog 171 #[.agg [.int .i64 p.r, .int .i64 p.n].toArray, .int .i64 first, .slice A l.length k] w0 (fun r w' => ∃ (v : Value) (e : Int), r = .tuple #[v, .int .i64 e] ∧ Ans (ldOk p first l) e ∧ Hp w0 w' [] []) := by
  refine does_of Tryz.func171 Tryz.ntmps171 rfl ?_
  refine nR82 ?_
  have H := Hp.refl w0
  obtain ⟨ps, hp, hr, ha, h2⟩ := hl
  have hlen := h2.len
  refine run_seq ?_
  refine run_region ?_
  refine ops_box rfl rfl H ?_
  intro w1 gp H1 _
  refine ops_val (ex_assign rfl) ?_
  refine ops_val (ex_assign rfl) ?_
  refine ops_nil ?_
  refine nR82 ?_
  refine run_seq ?_
  refine run_seq ?_
  refine run_region ?_
  refine ops_val (ex_move rfl) ?_
  refine ops_test (ex_lss rfl rfl) (fun hp13 => ?_) (fun hp13 => ?_)
  · skip
    refine ops_val (ex_move rfl) ?_
    refine nO82 ?_
    refine ops_no rfl ?_
    refine ops_no rfl ?_
    refine ops_val (ex_pick_t rfl rfl) ?_
    refine ops_val (ex_move rfl) ?_
    refine nO82 ?_
    refine ops_no rfl ?_
    refine ops_no rfl ?_
    refine nO82 ?_
    refine ops_no rfl ?_
    refine ops_no rfl ?_
    refine nO82 ?_
    refine ops_no rfl ?_
    refine ops_no rfl ?_
    refine nO82 ?_
    refine ops_no rfl ?_
    refine ops_no rfl ?_
    refine ops_val (ex_pick_t rfl rfl) ?_
    refine ops_nil ?_
    refine nR82 ?_
    refine run_cond_true rfl ?_
    refine run_seq ?_
    refine run_region ?_
    refine ops_val (ex_assign rfl) ?_
    refine ops_val (ex_assign rfl) ?_
    refine ops_nil ?_
    refine nR82 ?_
    refine run_ret ?_
    refine fin_ret2 rfl rfl rfl ?_
    exact ⟨_, _, rfl, Ans.no (ld_f1 (by omega)), H1.noRows⟩
  · skip
    refine ops_val (ex_move rfl) ?_
    refine nO82 ?_
    refine ops_yes rfl ?_
    refine ops_val (ex_move rfl) ?_
    refine ops_yes rfl ?_
    refine ops_test (ex_gtr rfl rfl) (fun hp16 => ?_) (fun hp16 => ?_)
    · skip
      refine ops_val (ex_pick_f rfl rfl) ?_
      refine ops_val (ex_move rfl) ?_
      refine nO82 ?_
      refine ops_no rfl ?_
      refine ops_no rfl ?_
      refine nO82 ?_
      refine ops_no rfl ?_
      refine ops_no rfl ?_
      refine nO82 ?_
      refine ops_no rfl ?_
      refine ops_no rfl ?_
      refine nO82 ?_
      refine ops_no rfl ?_
      refine ops_no rfl ?_
      refine ops_val (ex_pick_t rfl rfl) ?_
      refine ops_nil ?_
      refine nR82 ?_
      refine run_cond_true rfl ?_
      refine run_seq ?_
      refine run_region ?_
      refine ops_val (ex_assign rfl) ?_
      refine ops_val (ex_assign rfl) ?_
      refine ops_nil ?_
      refine nR82 ?_
      refine run_ret ?_
      refine fin_ret2 rfl rfl rfl ?_
      exact ⟨_, _, rfl, Ans.no (ld_f1 (by omega)), H1.noRows⟩
    · skip
      refine ops_val (ex_pick_f rfl rfl) ?_
      refine ops_val (ex_move rfl) ?_
      refine nO82 ?_
      refine ops_yes rfl ?_
      refine ops_val (ex_loadN ty75 rfl (vs := [.int .i64 p.r, .int .i64 p.n]) rfl (H1.cellsR (i := 0) rfl rfl)) ?_
      refine ops_yes rfl ?_
      refine ops_val (ex_build ty75 pl75 rfl rfl) ?_
      refine nO82 ?_
      refine ops_yes rfl ?_
      refine ops_test (ex_neq_bal rfl rfl) (fun hp21 => ?_) (fun hp21 => ?_)
      · skip
        refine ops_yes rfl ?_
        refine ops_val (ex_move rfl) ?_
        refine ops_yes rfl ?_
        refine ops_val (ex_loadN ty75 rfl (vs := [.int .i64 p.r, .int .i64 p.n]) rfl (H1.cellsR (i := 0) rfl rfl)) ?_
        refine nO82 ?_
        refine ops_yes rfl ?_
        refine ops_call_test (ex_call gf198 rfl) (real_a _ _) (fun hp24 w2 Hd => ?_) (fun hp24 w2 Hd => ?_)
        · have H2 := H1.callN Hd
          refine ops_yes rfl ?_
          refine ops_val (ex_not rfl) ?_
          refine ops_yes rfl ?_
          refine ops_val (ex_pick_t rfl rfl) ?_
          refine ops_val (ex_pick_f rfl rfl) ?_
          refine ops_nil ?_
          refine nR82 ?_
          refine run_cond_false rfl ?_
          refine run_skip ?_
          refine run_seq ?_
          refine run_region ?_
          refine ops_val (ex_loadN ty75 rfl (vs := [.int .i64 p.r, .int .i64 p.n]) rfl (H2.cellsR (i := 0) rfl rfl)) ?_
          refine ops_val (ex_move rfl) ?_
          refine ops_makeMap H2 ?_
          intro w3 gm H3 hgm hgm0
          have hIM := IntMap.new hgm
          have hgmw : w0.heap.size ≤ gm := by have := H2.size; omega
          refine ops_val (ex_build ty263 pl263 rfl rfl) ?_
          refine nO82 ?_
          have HB := H3
          have H3 := HB.here
          refine ops_box rfl rfl H3 ?_
          intro w4 ga H4 _
          have hIM := hIM.to H4 (fun hb => by obtain ⟨arr, T, z, hh⟩ := bl_cells HB gm hb; exact hIM.not _ _ _ hh)
          replace H4 := HB.all H4
          refine ops_val (ex_assign rfl) ?_
          refine ops_nil ?_
          refine nR82 ?_
          refine run_seq ?_
          refine run_region ?_
          refine ops_val (ex_move rfl) ?_
          refine ops_val (ex_assign rfl) ?_
          refine ops_nil ?_
          refine nR82 ?_
          refine run_seq ?_
          refine run_seq ?_
          refine run_region ?_
          refine ops_val (ex_move rfl) ?_
          refine ops_val (ex_len_slice Tryz.underlying94 rfl) ?_
          refine ops_val (ex_move rfl) ?_
          refine ops_nil ?_
          refine nR82 ?_
          refine run_block ?_
          refine run_loop (fun nQ lQ w => ∃ (i : Nat) (y m : Int), l.length - i = nQ ∧ Fits [some (.agg [.int .i64 p.r, .int .i64 p.n].toArray), some (.int .i64 first), none, some (.pointer (some ⟨gp, 0, none⟩)), none, none, none, none, some (.pointer (some ⟨ga, 0, none⟩)), some (.int .i64 m), none, none, none, none, none, none, none, none, none, none, none, none, none, none, none, none, none, none, none, none, none, none, none, none, some (.slice A l.length k), some (.int .i64 (l.length : Int)), some (.int .i64 y), none, none, none, none, none, none, none, none, none, none, none, none, none, none, none, none, none, none, none, none, none, none, none, none, none, none, none, none, none, none, none, none, none, none, none, none, none, none, none, none, none, none, none, none, none] lQ ∧ y = (i : Int) ∧ i ≤ l.length ∧ vtsOk p first first l = vtsOk p first m (l.drop i) ∧ first ≤ m ∧ IntMap w gm ∧ Hp w0 w [] [((some gp, 75, [.int .i64 p.r, .int .i64 p.n]) : Ent), (some ga, 263, [.int .i64 p.r, .int .i64 p.n, .int .i64 first, .map (some gm)])]) (l.length) ?_ ?_
          · exact ⟨0, _, first, rfl, (fs (fs (fn (fs (fn (fn (fn (fn (fs (fs (fn (fn (fn (fn (fn (fn (fn (fn (fn (fn (fn (fn (fn (fn (fn (fn (fn (fn (fn (fn (fn (fn (fn (fn (fs (fs (fs (fn (fn (fn (fn (fn (fn (fn (fn (fn (fn (fn (fn (fn (fn (fn (fn (fn (fn (fn (fn (fn (fn (fn (fn (fn (fn (fn (fn (fn (fn (fn (fn (fn (fn (fn (fn (fn (fn (fn (fn (fn (fn (fn (fn (fn f0)))))))))))))))))))))))))))))))))))))))))))))))))))))))))))))))))))))))))))))))))), rfl, Nat.zero_le _, rfl, Int.le_refl _, hIM, H4⟩
          · rintro nQ lQ w5 ⟨i, y, m, rfl, hfit, rfl, hi, hinv, hfm, hIM, H5⟩
            obtain ⟨j, rfl⟩ := hfit.open
            refine nR82 ?_
            clear hfit
            have HB := H5
            replace H5 := HB.here
            have hgmn : gm ∉ bl _ := fun hb => by obtain ⟨arr, T, z, hh⟩ := bl_cells HB gm hb; exact hIM.not _ _ _ hh
            refine run_seq ?_
            refine run_region ?_
            refine ops_test (ex_lss rfl rfl) (fun hp37 => ?_) (fun hp37 => ?_)
            · have hil : i < l.length := by omega
              obtain ⟨x, hx⟩ := get_of hil
              obtain ⟨p1, hp1, hR⟩ := h2.get hx
              obtain ⟨Ax, kx, rfl, hbx⟩ := hR
              obtain ⟨a1, ha1⟩ := hr.some_ (by omega)
              subst ha1
              refine ops_nil ?_
              refine nR82 ?_
              refine run_seq ?_
              refine run_cond_true rfl ?_
              refine run_skip ?_
              refine run_seq ?_
              refine run_block ?_
              refine run_seq ?_
              refine run_region ?_
              refine ops_val (ex_idx Tryz.underlying94 ty77 rfl rfl rfl hil rfl) ?_
              refine ops_val (ex_loadN ty77 rfl (vs := [.int .i64 x.slot, .int .i64 x.b.r, .int .i64 x.b.n, .slice Ax x.val.length kx]) rfl ((hr.to0 (HB.all H5)).elem hp hp1)) ?_
              refine ops_alloc ty77 H5 ?_
              intro w6 g6 H6 hg6
              refine ops_store ty77 H6 2 rfl rfl rfl rfl rfl (by first | decide | (simp; done) | simp [putAt]) rfl ?_
              intro w7 H7
              refine ops_nil ?_
              refine nR82 ?_
              refine run_seq ?_
              refine run_seq ?_
              refine run_region ?_
              refine ops_val (ex_fieldAddr fl77_0 rfl) ?_
              refine ops_val (ex_load ty3 rfl (H7.cell (i := 2) rfl rfl)) ?_
              refine ops_val (ex_move rfl) ?_
              refine ops_test (ex_lss rfl rfl) (fun hp43 => ?_) (fun hp43 => ?_)
              · skip
                refine ops_val (ex_move rfl) ?_
                refine nO82 ?_
                refine ops_no rfl ?_
                refine ops_no rfl ?_
                refine nO82 ?_
                refine ops_no rfl ?_
                refine ops_no rfl ?_
                refine nO82 ?_
                refine ops_no rfl ?_
                refine ops_val (ex_pick_t rfl rfl) ?_
                refine ops_val (ex_move rfl) ?_
                refine nO82 ?_
                refine ops_no rfl ?_
                refine ops_no rfl ?_
                refine nO82 ?_
                refine ops_no rfl ?_
                refine ops_no rfl ?_
                refine ops_val (ex_pick_t rfl rfl) ?_
                refine ops_val (ex_move rfl) ?_
                refine nO82 ?_
                refine ops_no rfl ?_
                refine ops_no rfl ?_
                refine nO82 ?_
                refine ops_no rfl ?_
                refine ops_no rfl ?_
                refine ops_val (ex_pick_t rfl rfl) ?_
                refine ops_val (ex_move rfl) ?_
                refine nO82 ?_
                refine ops_no rfl ?_
                refine ops_no rfl ?_
                refine nO82 ?_
                refine ops_no rfl ?_
                refine ops_no rfl ?_
                refine ops_val (ex_pick_t rfl rfl) ?_
                refine ops_nil ?_
                refine nR82 ?_
                refine run_cond_true rfl ?_
                refine run_seq ?_
                refine run_region ?_
                refine ops_val (ex_assign rfl) ?_
                refine ops_val (ex_assign rfl) ?_
                refine ops_nil ?_
                refine nR82 ?_
                refine run_ret ?_
                refine blk_ret ?_
                refine rnd_ret ?_
                refine blk_ret ?_
                refine fin_ret2 rfl rfl rfl ?_
                exact ⟨_, _, rfl, Ans.no (by rw [ld_v (by omega) (by omega), hinv]; exact vts_no hx fun hh => by omega), (HB.all H7).noRows⟩
              · skip
                refine ops_val (ex_move rfl) ?_
                refine nO82 ?_
                refine ops_yes rfl ?_
                refine ops_val (ex_fieldAddr fl77_0 rfl) ?_
                refine ops_yes rfl ?_
                refine ops_val (ex_load ty3 rfl (H7.cell (i := 2) rfl rfl)) ?_
                refine nO82 ?_
                refine ops_yes rfl ?_
                refine ops_val (ex_move rfl) ?_
                refine ops_yes rfl ?_
                refine ops_val (ex_add rfl rfl (IntWalk.i64_in _ (by omega))) ?_
                refine nO82 ?_
                refine ops_yes rfl ?_
                refine ops_test (ex_geq rfl rfl) (fun hp49 => ?_) (fun hp49 => ?_)
                · skip
                  refine ops_val (ex_pick_f rfl rfl) ?_
                  refine ops_val (ex_move rfl) ?_
                  refine nO82 ?_
                  refine ops_no rfl ?_
                  refine ops_no rfl ?_
                  refine nO82 ?_
                  refine ops_no rfl ?_
                  refine ops_no rfl ?_
                  refine ops_val (ex_pick_t rfl rfl) ?_
                  refine ops_val (ex_move rfl) ?_
                  refine nO82 ?_
                  refine ops_no rfl ?_
                  refine ops_no rfl ?_
                  refine nO82 ?_
                  refine ops_no rfl ?_
                  refine ops_no rfl ?_
                  refine ops_val (ex_pick_t rfl rfl) ?_
                  refine ops_val (ex_move rfl) ?_
                  refine nO82 ?_
                  refine ops_no rfl ?_
                  refine ops_no rfl ?_
                  refine nO82 ?_
                  refine ops_no rfl ?_
                  refine ops_no rfl ?_
                  refine ops_val (ex_pick_t rfl rfl) ?_
                  refine ops_nil ?_
                  refine nR82 ?_
                  refine run_cond_true rfl ?_
                  refine run_seq ?_
                  refine run_region ?_
                  refine ops_val (ex_assign rfl) ?_
                  refine ops_val (ex_assign rfl) ?_
                  refine ops_nil ?_
                  refine nR82 ?_
                  refine run_ret ?_
                  refine blk_ret ?_
                  refine rnd_ret ?_
                  refine blk_ret ?_
                  refine fin_ret2 rfl rfl rfl ?_
                  exact ⟨_, _, rfl, Ans.no (by rw [ld_v (by omega) (by omega), hinv]; exact vts_no hx fun hh => by omega), (HB.all H7).noRows⟩
                · skip
                  refine ops_val (ex_pick_f rfl rfl) ?_
                  refine ops_val (ex_move rfl) ?_
                  refine nO82 ?_
                  refine ops_yes rfl ?_
                  refine ops_val (ex_fieldAddr fl77_1 rfl) ?_
                  refine ops_yes rfl ?_
                  refine ops_val (ex_loadN ty75 rfl (vs := [.int .i64 x.b.r, .int .i64 x.b.n]) rfl (H7.cellsR (i := 2) rfl rfl)) ?_
                  refine nO82 ?_
                  refine ops_yes rfl ?_
                  refine ops_call_test (ex_call gf198 rfl) (real_a _ _) (fun hp54 w8 Hd => ?_) (fun hp54 w8 Hd => ?_)
                  · have H8 := H7.callN Hd
                    refine ops_yes rfl ?_
                    refine ops_val (ex_not rfl) ?_
                    refine ops_val (ex_pick_f rfl rfl) ?_
                    refine ops_val (ex_move rfl) ?_
                    refine nO82 ?_
                    refine ops_yes rfl ?_
                    refine ops_val (ex_loadN ty75 rfl (vs := [.int .i64 p.r, .int .i64 p.n]) rfl (H8.cellsR (i := 0) rfl rfl)) ?_
                    refine ops_yes rfl ?_
                    refine ops_val (ex_fieldAddr fl77_1 rfl) ?_
                    refine nO82 ?_
                    refine ops_yes rfl ?_
                    refine ops_val (ex_loadN ty75 rfl (vs := [.int .i64 x.b.r, .int .i64 x.b.n]) rfl (H8.cellsR (i := 2) rfl rfl)) ?_
                    refine ops_yes rfl ?_
                    refine ops_call_test (ex_call gf162 rfl) (less_b _ _ _) (fun hp61 w9 Hd => ?_) (fun hp61 w9 Hd => ?_)
                    · have H9 := H8.callN Hd
                      refine ops_val (ex_pick_f rfl rfl) ?_
                      refine ops_val (ex_move rfl) ?_
                      refine nO82 ?_
                      refine ops_no rfl ?_
                      refine ops_no rfl ?_
                      refine nO82 ?_
                      refine ops_no rfl ?_
                      refine ops_no rfl ?_
                      refine ops_val (ex_pick_t rfl rfl) ?_
                      refine ops_nil ?_
                      refine nR82 ?_
                      refine run_cond_true rfl ?_
                      refine run_seq ?_
                      refine run_region ?_
                      refine ops_val (ex_assign rfl) ?_
                      refine ops_val (ex_assign rfl) ?_
                      refine ops_nil ?_
                      refine nR82 ?_
                      refine run_ret ?_
                      refine blk_ret ?_
                      refine rnd_ret ?_
                      refine blk_ret ?_
                      refine fin_ret2 rfl rfl rfl ?_
                      exact ⟨_, _, rfl, Ans.no (by rw [ld_v (by omega) (by omega), hinv]; exact vts_no hx fun hh => hh.2.2.2.2.1 hp61), (HB.all H9).noRows⟩
                    · have H9 := H8.callN Hd
                      refine ops_val (ex_pick_f rfl rfl) ?_
                      refine ops_val (ex_move rfl) ?_
                      refine nO82 ?_
                      refine ops_yes rfl ?_
                      refine ops_val (ex_fieldAddr fl77_2 rfl) ?_
                      refine ops_yes rfl ?_
                      refine ops_val (ex_load ty73 rfl (H9.cell (i := 2) rfl rfl)) ?_
                      refine nO82 ?_
                      refine ops_yes rfl ?_
                      refine ops_val (ex_len_slice Tryz.underlying73 rfl) ?_
                      refine ops_yes rfl ?_
                      refine ops_test (ex_gtr rfl rfl) (fun hp67 => ?_) (fun hp67 => ?_)
                      · skip
                        refine ops_val (ex_pick_f rfl rfl) ?_
                        refine ops_nil ?_
                        refine nR82 ?_
                        refine run_cond_true rfl ?_
                        refine run_seq ?_
                        refine run_region ?_
                        refine ops_val (ex_assign rfl) ?_
                        refine ops_val (ex_assign rfl) ?_
                        refine ops_nil ?_
                        refine nR82 ?_
                        refine run_ret ?_
                        refine blk_ret ?_
                        refine rnd_ret ?_
                        refine blk_ret ?_
                        refine fin_ret2 rfl rfl rfl ?_
                        exact ⟨_, _, rfl, Ans.no (by rw [ld_v (by omega) (by omega), hinv]; exact vts_no hx fun hh => by omega), (HB.all H9).noRows⟩
                      · skip
                        refine ops_val (ex_pick_f rfl rfl) ?_
                        refine ops_nil ?_
                        refine nR82 ?_
                        refine run_cond_false rfl ?_
                        refine run_skip ?_
                        refine run_seq ?_
                        refine run_mixZ 8 [(true, 0), (true, 1), (true, 2), (true, 3), (true, 4), (true, 5), (true, 6), (false, 7), (false, 8)] H9 [0, 1, 2] mixed (by decide) (by kernel_rfl) ?_
                        rintro w10 hw10
                        have H10 := Hp.drew H9; rw [← hw10] at H10
                        refine mixz_p rfl ?_
                        refine mix1_val (fun wz hz => ex_move rfl) ?_
                        refine mixz_p rfl ?_
                        refine mix1_val (fun wz hz => ex_nilCheck rfl) ?_
                        refine mixz_p rfl ?_
                        refine mix1_val (fun wz hz => ex_fieldAddr fl263_2 rfl) ?_
                        refine mixz_p rfl ?_
                        refine mix1_val (fun wz hz => ex_load ty261 rfl (hz.cell (i := 1) rfl rfl)) ?_
                        refine nZ82 ?_
                        refine mixz_p rfl ?_
                        refine mix1_val (fun wz hz => ex_fieldAddr fl77_0 rfl) ?_
                        refine mixz_p rfl ?_
                        refine mix1_val (fun wz hz => ex_load ty3 rfl (hz.cell (i := 2) rfl rfl)) ?_
                        refine mixz_p rfl ?_
                        refine mix1_val (fun wz hz => ex_loadN ty77 rfl (vs := [.int .i64 x.slot, .int .i64 x.b.r, .int .i64 x.b.n, .slice Ax x.val.length kx]) rfl (hz.cellsR (i := 2) rfl rfl)) ?_
                        refine mixz_o rfl ?_
                        refine ops_call (ex_call gf199 rfl) (copied_a x Ax kx (fun _ => True) _ (hbx.to (HB.all H10) (fun _ _ _ => ⟨by simp, trivial⟩))) ?_
                        intro r w11 Hd
                        have H11 := H10.callN Hd
                        refine ops_nil ?_
                        refine ⟨fun hne => H11.pick [0, 1, 2] (by decide), ?_⟩
                        refine nZ82 ?_
                        refine mixz_o rfl ?_
                        have HW := HB.all H11
                        refine ops_mapUpdate Tryz.underlying261 Tryz.underlying3 HW rfl rfl rfl (hIM.to H11 hgmn) hgmw ?_
                        intro w12 H12 hIM _
                        have hgo := vts_go (p := p) (first := first) (m := m) hx ⟨by omega, by omega, hp54.1, hp54.2, hp61, by omega⟩
                        refine ops_nil ?_
                        refine ⟨fun hne => absurd rfl hne, ?_⟩
                        refine nZ82 ?_
                        refine mixz_nil ?_
                        refine nR82 ?_
                        refine run_region ?_
                        refine ops_val (ex_fieldAddr fl77_0 rfl) ?_
                        refine ops_val (ex_load ty3 rfl (H12.cell (i := 2) rfl rfl)) ?_
                        refine ops_val (ex_add rfl rfl (IntWalk.i64_in _ (by omega))) ?_
                        refine ops_val (ex_assign rfl) ?_
                        refine ops_nil ?_
                        refine nR82 ?_
                        refine run_nil (blk_normal ?_)
                        refine run_region ?_
                        refine ops_val (ex_add rfl rfl (IntWalk.i64_in _ (by omega))) ?_
                        refine ops_val (ex_move rfl) ?_
                        refine ops_nil ?_
                        refine nR82 ?_
                        refine run_nil (rnd_normal ?_)
                        exact ⟨l.length - (i + 1), by omega, i + 1, _, x.slot + 1, rfl, (fs (fs (fn (fs (fn (fn (fn (fn (fs (fs (fn (fn (fn (fn (fn (fn (fn (fn (fn (fn (fn (fn (fn (fn (fn (fn (fn (fn (fn (fn (fn (fn (fn (fn (fs (fs (fs (fn (fn (fn (fn (fn (fn (fn (fn (fn (fn (fn (fn (fn (fn (fn (fn (fn (fn (fn (fn (fn (fn (fn (fn (fn (fn (fn (fn (fn (fn (fn (fn (fn (fn (fn (fn (fn (fn (fn (fn (fn (fn (fn (fn (fn f0)))))))))))))))))))))))))))))))))))))))))))))))))))))))))))))))))))))))))))))))))), by omega, by omega, by rw [hinv, hgo], by omega, hIM, H12.pick [0, 1] (by decide)⟩
                  · have H8 := H7.callN Hd
                    refine ops_yes rfl ?_
                    refine ops_val (ex_not rfl) ?_
                    refine ops_val (ex_pick_f rfl rfl) ?_
                    refine ops_val (ex_move rfl) ?_
                    refine nO82 ?_
                    refine ops_no rfl ?_
                    refine ops_no rfl ?_
                    refine nO82 ?_
                    refine ops_no rfl ?_
                    refine ops_no rfl ?_
                    refine ops_val (ex_pick_t rfl rfl) ?_
                    refine ops_val (ex_move rfl) ?_
                    refine nO82 ?_
                    refine ops_no rfl ?_
                    refine ops_no rfl ?_
                    refine nO82 ?_
                    refine ops_no rfl ?_
                    refine ops_no rfl ?_
                    refine ops_val (ex_pick_t rfl rfl) ?_
                    refine ops_nil ?_
                    refine nR82 ?_
                    refine run_cond_true rfl ?_
                    refine run_seq ?_
                    refine run_region ?_
                    refine ops_val (ex_assign rfl) ?_
                    refine ops_val (ex_assign rfl) ?_
                    refine ops_nil ?_
                    refine nR82 ?_
                    refine run_ret ?_
                    refine blk_ret ?_
                    refine rnd_ret ?_
                    refine blk_ret ?_
                    refine fin_ret2 rfl rfl rfl ?_
                    exact ⟨_, _, rfl, Ans.no (by rw [ld_v (by omega) (by omega), hinv]; exact vts_no hx fun hh => hp54 ⟨hh.2.2.1, hh.2.2.2.1⟩), (HB.all H8).noRows⟩
            · obtain rfl : i = l.length := by omega
              refine ops_nil ?_
              refine nR82 ?_
              refine run_seq ?_
              refine run_cond_false rfl ?_
              refine run_exit ?_
              refine rnd_exit ?_
              refine blk_exit ?_
              refine run_seq ?_
              refine run_region ?_
              refine ops_val (ex_move rfl) ?_
              refine ops_val (ex_assign rfl) ?_
              refine ops_val (ex_assign rfl) ?_
              refine ops_nil ?_
              refine nR82 ?_
              refine run_ret ?_
              refine fin_ret2 rfl rfl rfl ?_
              exact ⟨_, _, rfl, Ans.ok (by rw [ld_v (by omega) (by omega), hinv]; exact vts_end), (HB.all H5).noRows⟩
        · have H2 := H1.callN Hd
          refine ops_yes rfl ?_
          refine ops_val (ex_not rfl) ?_
          refine ops_yes rfl ?_
          refine ops_val (ex_pick_t rfl rfl) ?_
          refine ops_val (ex_pick_f rfl rfl) ?_
          refine ops_nil ?_
          refine nR82 ?_
          refine run_cond_true rfl ?_
          refine run_seq ?_
          refine run_region ?_
          refine ops_val (ex_assign rfl) ?_
          refine ops_val (ex_assign rfl) ?_
          refine ops_nil ?_
          refine nR82 ?_
          refine run_ret ?_
          refine fin_ret2 rfl rfl rfl ?_
          exact ⟨_, _, rfl, Ans.no (ld_f2 (by omega)), H2.noRows⟩
      · skip
        refine ops_yes rfl ?_
        refine ops_val (ex_move rfl) ?_
        refine ops_no rfl ?_
        refine nO82 ?_
        refine ops_no rfl ?_
        refine ops_no rfl ?_
        refine nO82 ?_
        refine ops_yes rfl ?_
        refine ops_val (ex_pick_f rfl rfl) ?_
        refine ops_val (ex_pick_f rfl rfl) ?_
        refine ops_nil ?_
        refine nR82 ?_
        refine run_cond_false rfl ?_
        refine run_skip ?_
        refine run_seq ?_
        refine run_region ?_
        refine ops_val (ex_loadN ty75 rfl (vs := [.int .i64 p.r, .int .i64 p.n]) rfl (H1.cellsR (i := 0) rfl rfl)) ?_
        refine ops_val (ex_move rfl) ?_
        refine ops_makeMap H1 ?_
        intro w2 gm H2 hgm hgm0
        have hIM := IntMap.new hgm
        have hgmw : w0.heap.size ≤ gm := by have := H1.size; omega
        refine ops_val (ex_build ty263 pl263 rfl rfl) ?_
        refine nO82 ?_
        have HB := H2
        have H2 := HB.here
        refine ops_box rfl rfl H2 ?_
        intro w3 ga H3 _
        have hIM := hIM.to H3 (fun hb => by obtain ⟨arr, T, z, hh⟩ := bl_cells HB gm hb; exact hIM.not _ _ _ hh)
        replace H3 := HB.all H3
        refine ops_val (ex_assign rfl) ?_
        refine ops_nil ?_
        refine nR82 ?_
        refine run_seq ?_
        refine run_region ?_
        refine ops_val (ex_move rfl) ?_
        refine ops_val (ex_assign rfl) ?_
        refine ops_nil ?_
        refine nR82 ?_
        refine run_seq ?_
        refine run_seq ?_
        refine run_region ?_
        refine ops_val (ex_move rfl) ?_
        refine ops_val (ex_len_slice Tryz.underlying94 rfl) ?_
        refine ops_val (ex_move rfl) ?_
        refine ops_nil ?_
        refine nR82 ?_
        refine run_block ?_
        refine run_loop (fun nQ lQ w => ∃ (i : Nat) (y m : Int), l.length - i = nQ ∧ Fits [some (.agg [.int .i64 p.r, .int .i64 p.n].toArray), some (.int .i64 first), none, some (.pointer (some ⟨gp, 0, none⟩)), none, none, none, none, some (.pointer (some ⟨ga, 0, none⟩)), some (.int .i64 m), none, none, none, none, none, none, none, none, none, none, none, none, none, none, none, none, none, none, none, none, none, none, none, none, some (.slice A l.length k), some (.int .i64 (l.length : Int)), some (.int .i64 y), none, none, none, none, none, none, none, none, none, none, none, none, none, none, none, none, none, none, none, none, none, none, none, none, none, none, none, none, none, none, none, none, none, none, none, none, none, none, none, none, none, none, none, none, none] lQ ∧ y = (i : Int) ∧ i ≤ l.length ∧ vtsOk p first first l = vtsOk p first m (l.drop i) ∧ first ≤ m ∧ IntMap w gm ∧ Hp w0 w [] [((some gp, 75, [.int .i64 p.r, .int .i64 p.n]) : Ent), (some ga, 263, [.int .i64 p.r, .int .i64 p.n, .int .i64 first, .map (some gm)])]) (l.length) ?_ ?_
        · exact ⟨0, _, first, rfl, (fs (fs (fn (fs (fn (fn (fn (fn (fs (fs (fn (fn (fn (fn (fn (fn (fn (fn (fn (fn (fn (fn (fn (fn (fn (fn (fn (fn (fn (fn (fn (fn (fn (fn (fs (fs (fs (fn (fn (fn (fn (fn (fn (fn (fn (fn (fn (fn (fn (fn (fn (fn (fn (fn (fn (fn (fn (fn (fn (fn (fn (fn (fn (fn (fn (fn (fn (fn (fn (fn (fn (fn (fn (fn (fn (fn (fn (fn (fn (fn (fn (fn f0)))))))))))))))))))))))))))))))))))))))))))))))))))))))))))))))))))))))))))))))))), rfl, Nat.zero_le _, rfl, Int.le_refl _, hIM, H3⟩
        · rintro nQ lQ w4 ⟨i, y, m, rfl, hfit, rfl, hi, hinv, hfm, hIM, H4⟩
          obtain ⟨j, rfl⟩ := hfit.open
          refine nR82 ?_
          clear hfit
          have HB := H4
          replace H4 := HB.here
          have hgmn : gm ∉ bl _ := fun hb => by obtain ⟨arr, T, z, hh⟩ := bl_cells HB gm hb; exact hIM.not _ _ _ hh
          refine run_seq ?_
          refine run_region ?_
          refine ops_test (ex_lss rfl rfl) (fun hp37 => ?_) (fun hp37 => ?_)
          · have hil : i < l.length := by omega
            obtain ⟨x, hx⟩ := get_of hil
            obtain ⟨p1, hp1, hR⟩ := h2.get hx
            obtain ⟨Ax, kx, rfl, hbx⟩ := hR
            obtain ⟨a1, ha1⟩ := hr.some_ (by omega)
            subst ha1
            refine ops_nil ?_
            refine nR82 ?_
            refine run_seq ?_
            refine run_cond_true rfl ?_
            refine run_skip ?_
            refine run_seq ?_
            refine run_block ?_
            refine run_seq ?_
            refine run_region ?_
            refine ops_val (ex_idx Tryz.underlying94 ty77 rfl rfl rfl hil rfl) ?_
            refine ops_val (ex_loadN ty77 rfl (vs := [.int .i64 x.slot, .int .i64 x.b.r, .int .i64 x.b.n, .slice Ax x.val.length kx]) rfl ((hr.to0 (HB.all H4)).elem hp hp1)) ?_
            refine ops_alloc ty77 H4 ?_
            intro w5 g5 H5 hg5
            refine ops_store ty77 H5 2 rfl rfl rfl rfl rfl (by first | decide | (simp; done) | simp [putAt]) rfl ?_
            intro w6 H6
            refine ops_nil ?_
            refine nR82 ?_
            refine run_seq ?_
            refine run_seq ?_
            refine run_region ?_
            refine ops_val (ex_fieldAddr fl77_0 rfl) ?_
            refine ops_val (ex_load ty3 rfl (H6.cell (i := 2) rfl rfl)) ?_
            refine ops_val (ex_move rfl) ?_
            refine ops_test (ex_lss rfl rfl) (fun hp43 => ?_) (fun hp43 => ?_)
            · skip
              refine ops_val (ex_move rfl) ?_
              refine nO82 ?_
              refine ops_no rfl ?_
              refine ops_no rfl ?_
              refine nO82 ?_
              refine ops_no rfl ?_
              refine ops_no rfl ?_
              refine nO82 ?_
              refine ops_no rfl ?_
              refine ops_val (ex_pick_t rfl rfl) ?_
              refine ops_val (ex_move rfl) ?_
              refine nO82 ?_
              refine ops_no rfl ?_
              refine ops_no rfl ?_
              refine nO82 ?_
              refine ops_no rfl ?_
              refine ops_no rfl ?_
              refine ops_val (ex_pick_t rfl rfl) ?_
              refine ops_val (ex_move rfl) ?_
              refine nO82 ?_
              refine ops_no rfl ?_
              refine ops_no rfl ?_
              refine nO82 ?_
              refine ops_no rfl ?_
              refine ops_no rfl ?_
              refine ops_val (ex_pick_t rfl rfl) ?_
              refine ops_val (ex_move rfl) ?_
              refine nO82 ?_
              refine ops_no rfl ?_
              refine ops_no rfl ?_
              refine nO82 ?_
              refine ops_no rfl ?_
              refine ops_no rfl ?_
              refine ops_val (ex_pick_t rfl rfl) ?_
              refine ops_nil ?_
              refine nR82 ?_
              refine run_cond_true rfl ?_
              refine run_seq ?_
              refine run_region ?_
              refine ops_val (ex_assign rfl) ?_
              refine ops_val (ex_assign rfl) ?_
              refine ops_nil ?_
              refine nR82 ?_
              refine run_ret ?_
              refine blk_ret ?_
              refine rnd_ret ?_
              refine blk_ret ?_
              refine fin_ret2 rfl rfl rfl ?_
              exact ⟨_, _, rfl, Ans.no (by rw [ld_v (by omega) (by omega), hinv]; exact vts_no hx fun hh => by omega), (HB.all H6).noRows⟩
            · skip
              refine ops_val (ex_move rfl) ?_
              refine nO82 ?_
              refine ops_yes rfl ?_
              refine ops_val (ex_fieldAddr fl77_0 rfl) ?_
              refine ops_yes rfl ?_
              refine ops_val (ex_load ty3 rfl (H6.cell (i := 2) rfl rfl)) ?_
              refine nO82 ?_
              refine ops_yes rfl ?_
              refine ops_val (ex_move rfl) ?_
              refine ops_yes rfl ?_
              refine ops_val (ex_add rfl rfl (IntWalk.i64_in _ (by omega))) ?_
              refine nO82 ?_
              refine ops_yes rfl ?_
              refine ops_test (ex_geq rfl rfl) (fun hp49 => ?_) (fun hp49 => ?_)
              · skip
                refine ops_val (ex_pick_f rfl rfl) ?_
                refine ops_val (ex_move rfl) ?_
                refine nO82 ?_
                refine ops_no rfl ?_
                refine ops_no rfl ?_
                refine nO82 ?_
                refine ops_no rfl ?_
                refine ops_no rfl ?_
                refine ops_val (ex_pick_t rfl rfl) ?_
                refine ops_val (ex_move rfl) ?_
                refine nO82 ?_
                refine ops_no rfl ?_
                refine ops_no rfl ?_
                refine nO82 ?_
                refine ops_no rfl ?_
                refine ops_no rfl ?_
                refine ops_val (ex_pick_t rfl rfl) ?_
                refine ops_val (ex_move rfl) ?_
                refine nO82 ?_
                refine ops_no rfl ?_
                refine ops_no rfl ?_
                refine nO82 ?_
                refine ops_no rfl ?_
                refine ops_no rfl ?_
                refine ops_val (ex_pick_t rfl rfl) ?_
                refine ops_nil ?_
                refine nR82 ?_
                refine run_cond_true rfl ?_
                refine run_seq ?_
                refine run_region ?_
                refine ops_val (ex_assign rfl) ?_
                refine ops_val (ex_assign rfl) ?_
                refine ops_nil ?_
                refine nR82 ?_
                refine run_ret ?_
                refine blk_ret ?_
                refine rnd_ret ?_
                refine blk_ret ?_
                refine fin_ret2 rfl rfl rfl ?_
                exact ⟨_, _, rfl, Ans.no (by rw [ld_v (by omega) (by omega), hinv]; exact vts_no hx fun hh => by omega), (HB.all H6).noRows⟩
              · skip
                refine ops_val (ex_pick_f rfl rfl) ?_
                refine ops_val (ex_move rfl) ?_
                refine nO82 ?_
                refine ops_yes rfl ?_
                refine ops_val (ex_fieldAddr fl77_1 rfl) ?_
                refine ops_yes rfl ?_
                refine ops_val (ex_loadN ty75 rfl (vs := [.int .i64 x.b.r, .int .i64 x.b.n]) rfl (H6.cellsR (i := 2) rfl rfl)) ?_
                refine nO82 ?_
                refine ops_yes rfl ?_
                refine ops_call_test (ex_call gf198 rfl) (real_a _ _) (fun hp54 w7 Hd => ?_) (fun hp54 w7 Hd => ?_)
                · have H7 := H6.callN Hd
                  refine ops_yes rfl ?_
                  refine ops_val (ex_not rfl) ?_
                  refine ops_val (ex_pick_f rfl rfl) ?_
                  refine ops_val (ex_move rfl) ?_
                  refine nO82 ?_
                  refine ops_yes rfl ?_
                  refine ops_val (ex_loadN ty75 rfl (vs := [.int .i64 p.r, .int .i64 p.n]) rfl (H7.cellsR (i := 0) rfl rfl)) ?_
                  refine ops_yes rfl ?_
                  refine ops_val (ex_fieldAddr fl77_1 rfl) ?_
                  refine nO82 ?_
                  refine ops_yes rfl ?_
                  refine ops_val (ex_loadN ty75 rfl (vs := [.int .i64 x.b.r, .int .i64 x.b.n]) rfl (H7.cellsR (i := 2) rfl rfl)) ?_
                  refine ops_yes rfl ?_
                  refine ops_call_test (ex_call gf162 rfl) (less_b _ _ _) (fun hp61 w8 Hd => ?_) (fun hp61 w8 Hd => ?_)
                  · have H8 := H7.callN Hd
                    refine ops_val (ex_pick_f rfl rfl) ?_
                    refine ops_val (ex_move rfl) ?_
                    refine nO82 ?_
                    refine ops_no rfl ?_
                    refine ops_no rfl ?_
                    refine nO82 ?_
                    refine ops_no rfl ?_
                    refine ops_no rfl ?_
                    refine ops_val (ex_pick_t rfl rfl) ?_
                    refine ops_nil ?_
                    refine nR82 ?_
                    refine run_cond_true rfl ?_
                    refine run_seq ?_
                    refine run_region ?_
                    refine ops_val (ex_assign rfl) ?_
                    refine ops_val (ex_assign rfl) ?_
                    refine ops_nil ?_
                    refine nR82 ?_
                    refine run_ret ?_
                    refine blk_ret ?_
                    refine rnd_ret ?_
                    refine blk_ret ?_
                    refine fin_ret2 rfl rfl rfl ?_
                    exact ⟨_, _, rfl, Ans.no (by rw [ld_v (by omega) (by omega), hinv]; exact vts_no hx fun hh => hh.2.2.2.2.1 hp61), (HB.all H8).noRows⟩
                  · have H8 := H7.callN Hd
                    refine ops_val (ex_pick_f rfl rfl) ?_
                    refine ops_val (ex_move rfl) ?_
                    refine nO82 ?_
                    refine ops_yes rfl ?_
                    refine ops_val (ex_fieldAddr fl77_2 rfl) ?_
                    refine ops_yes rfl ?_
                    refine ops_val (ex_load ty73 rfl (H8.cell (i := 2) rfl rfl)) ?_
                    refine nO82 ?_
                    refine ops_yes rfl ?_
                    refine ops_val (ex_len_slice Tryz.underlying73 rfl) ?_
                    refine ops_yes rfl ?_
                    refine ops_test (ex_gtr rfl rfl) (fun hp67 => ?_) (fun hp67 => ?_)
                    · skip
                      refine ops_val (ex_pick_f rfl rfl) ?_
                      refine ops_nil ?_
                      refine nR82 ?_
                      refine run_cond_true rfl ?_
                      refine run_seq ?_
                      refine run_region ?_
                      refine ops_val (ex_assign rfl) ?_
                      refine ops_val (ex_assign rfl) ?_
                      refine ops_nil ?_
                      refine nR82 ?_
                      refine run_ret ?_
                      refine blk_ret ?_
                      refine rnd_ret ?_
                      refine blk_ret ?_
                      refine fin_ret2 rfl rfl rfl ?_
                      exact ⟨_, _, rfl, Ans.no (by rw [ld_v (by omega) (by omega), hinv]; exact vts_no hx fun hh => by omega), (HB.all H8).noRows⟩
                    · skip
                      refine ops_val (ex_pick_f rfl rfl) ?_
                      refine ops_nil ?_
                      refine nR82 ?_
                      refine run_cond_false rfl ?_
                      refine run_skip ?_
                      refine run_seq ?_
                      refine run_mixZ 8 [(true, 0), (true, 1), (true, 2), (true, 3), (true, 4), (true, 5), (true, 6), (false, 7), (false, 8)] H8 [0, 1, 2] mixed (by decide) (by kernel_rfl) ?_
                      rintro w9 hw9
                      have H9 := Hp.drew H8; rw [← hw9] at H9
                      refine mixz_p rfl ?_
                      refine mix1_val (fun wz hz => ex_move rfl) ?_
                      refine mixz_p rfl ?_
                      refine mix1_val (fun wz hz => ex_nilCheck rfl) ?_
                      refine mixz_p rfl ?_
                      refine mix1_val (fun wz hz => ex_fieldAddr fl263_2 rfl) ?_
                      refine mixz_p rfl ?_
                      refine mix1_val (fun wz hz => ex_load ty261 rfl (hz.cell (i := 1) rfl rfl)) ?_
                      refine nZ82 ?_
                      refine mixz_p rfl ?_
                      refine mix1_val (fun wz hz => ex_fieldAddr fl77_0 rfl) ?_
                      refine mixz_p rfl ?_
                      refine mix1_val (fun wz hz => ex_load ty3 rfl (hz.cell (i := 2) rfl rfl)) ?_
                      refine mixz_p rfl ?_
                      refine mix1_val (fun wz hz => ex_loadN ty77 rfl (vs := [.int .i64 x.slot, .int .i64 x.b.r, .int .i64 x.b.n, .slice Ax x.val.length kx]) rfl (hz.cellsR (i := 2) rfl rfl)) ?_
                      refine mixz_o rfl ?_
                      refine ops_call (ex_call gf199 rfl) (copied_a x Ax kx (fun _ => True) _ (hbx.to (HB.all H9) (fun _ _ _ => ⟨by simp, trivial⟩))) ?_
                      intro r w10 Hd
                      have H10 := H9.callN Hd
                      refine ops_nil ?_
                      refine ⟨fun hne => H10.pick [0, 1, 2] (by decide), ?_⟩
                      refine nZ82 ?_
                      refine mixz_o rfl ?_
                      have HW := HB.all H10
                      refine ops_mapUpdate Tryz.underlying261 Tryz.underlying3 HW rfl rfl rfl (hIM.to H10 hgmn) hgmw ?_
                      intro w11 H11 hIM _
                      have hgo := vts_go (p := p) (first := first) (m := m) hx ⟨by omega, by omega, hp54.1, hp54.2, hp61, by omega⟩
                      refine ops_nil ?_
                      refine ⟨fun hne => absurd rfl hne, ?_⟩
                      refine nZ82 ?_
                      refine mixz_nil ?_
                      refine nR82 ?_
                      refine run_region ?_
                      refine ops_val (ex_fieldAddr fl77_0 rfl) ?_
                      refine ops_val (ex_load ty3 rfl (H11.cell (i := 2) rfl rfl)) ?_
                      refine ops_val (ex_add rfl rfl (IntWalk.i64_in _ (by omega))) ?_
                      refine ops_val (ex_assign rfl) ?_
                      refine ops_nil ?_
                      refine nR82 ?_
                      refine run_nil (blk_normal ?_)
                      refine run_region ?_
                      refine ops_val (ex_add rfl rfl (IntWalk.i64_in _ (by omega))) ?_
                      refine ops_val (ex_move rfl) ?_
                      refine ops_nil ?_
                      refine nR82 ?_
                      refine run_nil (rnd_normal ?_)
                      exact ⟨l.length - (i + 1), by omega, i + 1, _, x.slot + 1, rfl, (fs (fs (fn (fs (fn (fn (fn (fn (fs (fs (fn (fn (fn (fn (fn (fn (fn (fn (fn (fn (fn (fn (fn (fn (fn (fn (fn (fn (fn (fn (fn (fn (fn (fn (fs (fs (fs (fn (fn (fn (fn (fn (fn (fn (fn (fn (fn (fn (fn (fn (fn (fn (fn (fn (fn (fn (fn (fn (fn (fn (fn (fn (fn (fn (fn (fn (fn (fn (fn (fn (fn (fn (fn (fn (fn (fn (fn (fn (fn (fn (fn (fn f0)))))))))))))))))))))))))))))))))))))))))))))))))))))))))))))))))))))))))))))))))), by omega, by omega, by rw [hinv, hgo], by omega, hIM, H11.pick [0, 1] (by decide)⟩
                · have H7 := H6.callN Hd
                  refine ops_yes rfl ?_
                  refine ops_val (ex_not rfl) ?_
                  refine ops_val (ex_pick_f rfl rfl) ?_
                  refine ops_val (ex_move rfl) ?_
                  refine nO82 ?_
                  refine ops_no rfl ?_
                  refine ops_no rfl ?_
                  refine nO82 ?_
                  refine ops_no rfl ?_
                  refine ops_no rfl ?_
                  refine ops_val (ex_pick_t rfl rfl) ?_
                  refine ops_val (ex_move rfl) ?_
                  refine nO82 ?_
                  refine ops_no rfl ?_
                  refine ops_no rfl ?_
                  refine nO82 ?_
                  refine ops_no rfl ?_
                  refine ops_no rfl ?_
                  refine ops_val (ex_pick_t rfl rfl) ?_
                  refine ops_nil ?_
                  refine nR82 ?_
                  refine run_cond_true rfl ?_
                  refine run_seq ?_
                  refine run_region ?_
                  refine ops_val (ex_assign rfl) ?_
                  refine ops_val (ex_assign rfl) ?_
                  refine ops_nil ?_
                  refine nR82 ?_
                  refine run_ret ?_
                  refine blk_ret ?_
                  refine rnd_ret ?_
                  refine blk_ret ?_
                  refine fin_ret2 rfl rfl rfl ?_
                  exact ⟨_, _, rfl, Ans.no (by rw [ld_v (by omega) (by omega), hinv]; exact vts_no hx fun hh => hp54 ⟨hh.2.2.1, hh.2.2.2.1⟩), (HB.all H7).noRows⟩
          · obtain rfl : i = l.length := by omega
            refine ops_nil ?_
            refine nR82 ?_
            refine run_seq ?_
            refine run_cond_false rfl ?_
            refine run_exit ?_
            refine rnd_exit ?_
            refine blk_exit ?_
            refine run_seq ?_
            refine run_region ?_
            refine ops_val (ex_move rfl) ?_
            refine ops_val (ex_assign rfl) ?_
            refine ops_val (ex_assign rfl) ?_
            refine ops_nil ?_
            refine nR82 ?_
            refine run_ret ?_
            refine fin_ret2 rfl rfl rfl ?_
            exact ⟨_, _, rfl, Ans.ok (by rw [ld_v (by omega) (by omega), hinv]; exact vts_end), (HB.all H4).noRows⟩
set_option maxRecDepth 100000 in
set_option maxHeartbeats 16000000 in
theorem load_p (s : Sv) (A1 : Option Addr) (k1 : Nat) (A2 : Option Addr) (k2 : Nat) (A3 : Option Addr) (k3 : Nat) (ok : Nat → Prop) (w0 : World) (hv1 : Sl (VtR w0 ok) 4 w0 ok A1 s.votes) (hv2 : Bs w0 ok A2 s.image) (hv3 : Sl (EnR w0 ok) 2 w0 ok A3 s.entries) (hvl : s.votes.length ≤ 1000000000000000000) (hel2 : s.entries.length ≤ 1000000000000000000) :
    Does Tryz.prog 120 #[.int .i64 1, .int .i64 5, .agg [.int .i64 s.p.r, .int .i64 s.p.n, .slice A1 s.votes.length k1, .int .i64 s.index, .slice A2 s.image.length k2, .slice A3 s.entries.length k3].toArray] w0 (fun r w' => ∃ (v : Value) (e : Int), r = .tuple #[v, .int .i64 e] ∧ Ans (chk s) e ∧ Hp w0 w' [] []) := by
  refine does_of Tryz.func120 Tryz.ntmps120 rfl ?_
  refine nR115 ?_
  have H := Hp.refl w0
  obtain ⟨pe, hpe, hre, hae, he2⟩ := id hv3
  have hel := he2.len
  refine run_seq ?_
  refine run_region ?_
  refine ops_box rfl rfl H ?_
  intro w1 gs H1 _
  refine ops_val (ex_assign rfl) ?_
  refine ops_val (ex_assign rfl) ?_
  refine ops_nil ?_
  refine nR115 ?_
  refine run_seq ?_
  refine run_seq ?_
  refine run_region ?_
  refine ops_val (ex_move rfl) ?_
  refine ops_true (ex_neq rfl rfl) (by decide) ?_
  refine ops_val (ex_move rfl) ?_
  refine nO115 ?_
  refine ops_yes rfl ?_
  refine ops_val (ex_move rfl) ?_
  refine ops_yes rfl ?_
  refine ops_true (ex_neq rfl rfl) (by decide) ?_
  refine ops_val (ex_pick_t rfl rfl) ?_
  refine ops_val (ex_move rfl) ?_
  refine nO115 ?_
  refine ops_yes rfl ?_
  refine ops_val (ex_move rfl) ?_
  refine ops_yes rfl ?_
  refine ops_false (ex_neq rfl rfl) (by decide) ?_
  refine ops_val (ex_pick_t rfl rfl) ?_
  refine ops_val (ex_move rfl) ?_
  refine nO115 ?_
  refine ops_yes rfl ?_
  refine ops_val (ex_move rfl) ?_
  refine ops_yes rfl ?_
  refine ops_false (ex_lss rfl rfl) (by decide) ?_
  refine ops_val (ex_pick_f rfl rfl) ?_
  refine ops_val (ex_move rfl) ?_
  refine nO115 ?_
  refine ops_yes rfl ?_
  refine ops_val (ex_move rfl) ?_
  refine ops_yes rfl ?_
  refine ops_val (ex_move rfl) ?_
  refine nO115 ?_
  refine ops_yes rfl ?_
  refine ops_false (ex_gtr rfl rfl) (by decide) ?_
  refine ops_val (ex_pick_f rfl rfl) ?_
  refine ops_nil ?_
  refine nR115 ?_
  refine run_cond_false rfl ?_
  refine run_skip ?_
  refine run_seq ?_
  refine run_seq ?_
  refine run_region ?_
  refine ops_val (ex_fieldAddr fl97_0 rfl) ?_
  refine ops_val (ex_loadN ty75 rfl (vs := [.int .i64 s.p.r, .int .i64 s.p.n]) rfl (H1.cellsR (i := 0) rfl rfl)) ?_
  refine ops_val (ex_build ty75 pl75 rfl rfl) ?_
  refine ops_test (ex_neq_bal rfl rfl) (fun hp34 => ?_) (fun hp34 => ?_)
  · skip
    refine ops_val (ex_move rfl) ?_
    refine nO115 ?_
    refine ops_yes rfl ?_
    refine ops_val (ex_fieldAddr fl97_0 rfl) ?_
    refine ops_yes rfl ?_
    refine ops_val (ex_loadN ty75 rfl (vs := [.int .i64 s.p.r, .int .i64 s.p.n]) rfl (H1.cellsR (i := 0) rfl rfl)) ?_
    refine nO115 ?_
    refine ops_yes rfl ?_
    refine ops_val (ex_move rfl) ?_
    refine ops_yes rfl ?_
    refine ops_call_test (ex_call gf170 rfl) (may_b _ _ _) (fun hp39 w2 Hd => ?_) (fun hp39 w2 Hd => ?_)
    · have H2 := H1.callN Hd
      refine ops_yes rfl ?_
      refine ops_val (ex_not rfl) ?_
      refine ops_val (ex_pick_t rfl rfl) ?_
      refine ops_val (ex_move rfl) ?_
      refine nO115 ?_
      refine ops_yes rfl ?_
      refine ops_val (ex_fieldAddr fl97_2 rfl) ?_
      refine ops_yes rfl ?_
      refine ops_val (ex_load ty3 rfl (H2.cell (i := 0) rfl rfl)) ?_
      refine nO115 ?_
      refine ops_yes rfl ?_
      refine ops_test (ex_lss rfl rfl) (fun hp45 => ?_) (fun hp45 => ?_)
      · skip
        refine ops_val (ex_pick_f rfl rfl) ?_
        refine ops_val (ex_move rfl) ?_
        refine nO115 ?_
        refine ops_no rfl ?_
        refine ops_no rfl ?_
        refine nO115 ?_
        refine ops_no rfl ?_
        refine ops_val (ex_pick_t rfl rfl) ?_
        refine ops_val (ex_move rfl) ?_
        refine nO115 ?_
        refine ops_no rfl ?_
        refine ops_no rfl ?_
        refine nO115 ?_
        refine ops_no rfl ?_
        refine ops_no rfl ?_
        refine nO115 ?_
        refine ops_no rfl ?_
        refine ops_no rfl ?_
        refine nO115 ?_
        refine ops_no rfl ?_
        refine ops_no rfl ?_
        refine nO115 ?_
        refine ops_no rfl ?_
        refine ops_val (ex_pick_t rfl rfl) ?_
        refine ops_val (ex_move rfl) ?_
        refine nO115 ?_
        refine ops_no rfl ?_
        refine ops_no rfl ?_
        refine nO115 ?_
        refine ops_no rfl ?_
        refine ops_no rfl ?_
        refine ops_val (ex_pick_t rfl rfl) ?_
        refine ops_nil ?_
        refine nR115 ?_
        refine run_cond_true rfl ?_
        refine run_seq ?_
        refine run_region ?_
        refine ops_val (ex_assign rfl) ?_
        refine ops_val (ex_assign rfl) ?_
        refine ops_nil ?_
        refine nR115 ?_
        refine run_ret ?_
        refine fin_ret2 rfl rfl rfl ?_
        exact ⟨_, _, rfl, Ans.no (chk_f2 (by omega)), H2.noRows⟩
      · skip
        refine ops_val (ex_pick_f rfl rfl) ?_
        refine ops_val (ex_move rfl) ?_
        refine nO115 ?_
        refine ops_yes rfl ?_
        refine ops_val (ex_fieldAddr fl97_2 rfl) ?_
        refine ops_yes rfl ?_
        refine ops_val (ex_load ty3 rfl (H2.cell (i := 0) rfl rfl)) ?_
        refine nO115 ?_
        refine ops_yes rfl ?_
        refine ops_test (ex_gtr rfl rfl) (fun hp50 => ?_) (fun hp50 => ?_)
        · skip
          refine ops_val (ex_pick_f rfl rfl) ?_
          refine ops_val (ex_move rfl) ?_
          refine nO115 ?_
          refine ops_no rfl ?_
          refine ops_no rfl ?_
          refine nO115 ?_
          refine ops_no rfl ?_
          refine ops_no rfl ?_
          refine nO115 ?_
          refine ops_no rfl ?_
          refine ops_no rfl ?_
          refine nO115 ?_
          refine ops_no rfl ?_
          refine ops_no rfl ?_
          refine nO115 ?_
          refine ops_no rfl ?_
          refine ops_val (ex_pick_t rfl rfl) ?_
          refine ops_val (ex_move rfl) ?_
          refine nO115 ?_
          refine ops_no rfl ?_
          refine ops_no rfl ?_
          refine nO115 ?_
          refine ops_no rfl ?_
          refine ops_no rfl ?_
          refine ops_val (ex_pick_t rfl rfl) ?_
          refine ops_nil ?_
          refine nR115 ?_
          refine run_cond_true rfl ?_
          refine run_seq ?_
          refine run_region ?_
          refine ops_val (ex_assign rfl) ?_
          refine ops_val (ex_assign rfl) ?_
          refine ops_nil ?_
          refine nR115 ?_
          refine run_ret ?_
          refine fin_ret2 rfl rfl rfl ?_
          exact ⟨_, _, rfl, Ans.no (chk_f2 (by omega)), H2.noRows⟩
        · skip
          refine ops_val (ex_pick_f rfl rfl) ?_
          refine ops_val (ex_move rfl) ?_
          refine nO115 ?_
          refine ops_yes rfl ?_
          refine ops_val (ex_fieldAddr fl97_2 rfl) ?_
          refine ops_yes rfl ?_
          refine ops_val (ex_load ty3 rfl (H2.cell (i := 0) rfl rfl)) ?_
          refine nO115 ?_
          refine ops_yes rfl ?_
          refine ops_test (ex_eql rfl rfl) (fun hp55 => ?_) (fun hp55 => ?_)
          · skip
            refine ops_yes rfl ?_
            refine ops_val (ex_move rfl) ?_
            refine ops_yes rfl ?_
            refine ops_val (ex_fieldAddr fl97_3 rfl) ?_
            refine nO115 ?_
            refine ops_yes rfl ?_
            refine ops_val (ex_load ty73 rfl (H2.cell (i := 0) rfl rfl)) ?_
            refine ops_yes rfl ?_
            refine ops_val (ex_len_slice Tryz.underlying73 rfl) ?_
            refine nO115 ?_
            refine ops_yes rfl ?_
            refine ops_test (ex_gtr rfl rfl) (fun hp60 => ?_) (fun hp60 => ?_)
            · skip
              refine ops_yes rfl ?_
              refine ops_val (ex_pick_t rfl rfl) ?_
              refine ops_val (ex_pick_f rfl rfl) ?_
              refine ops_val (ex_move rfl) ?_
              refine nO115 ?_
              refine ops_no rfl ?_
              refine ops_no rfl ?_
              refine nO115 ?_
              refine ops_no rfl ?_
              refine ops_no rfl ?_
              refine ops_val (ex_pick_t rfl rfl) ?_
              refine ops_nil ?_
              refine nR115 ?_
              refine run_cond_true rfl ?_
              refine run_seq ?_
              refine run_region ?_
              refine ops_val (ex_assign rfl) ?_
              refine ops_val (ex_assign rfl) ?_
              refine ops_nil ?_
              refine nR115 ?_
              refine run_ret ?_
              refine fin_ret2 rfl rfl rfl ?_
              exact ⟨_, _, rfl, Ans.no (chk_f2 (by omega)), H2.noRows⟩
            · skip
              refine ops_yes rfl ?_
              refine ops_val (ex_pick_t rfl rfl) ?_
              refine ops_val (ex_pick_f rfl rfl) ?_
              refine ops_val (ex_move rfl) ?_
              refine nO115 ?_
              refine ops_yes rfl ?_
              refine ops_val (ex_fieldAddr fl97_3 rfl) ?_
              refine ops_yes rfl ?_
              refine ops_val (ex_load ty73 rfl (H2.cell (i := 0) rfl rfl)) ?_
              refine nO115 ?_
              refine ops_yes rfl ?_
              refine ops_val (ex_len_slice Tryz.underlying73 rfl) ?_
              refine ops_yes rfl ?_
              refine ops_test (ex_gtr rfl rfl) (fun hp67 => ?_) (fun hp67 => ?_)
              · skip
                refine ops_val (ex_pick_f rfl rfl) ?_
                refine ops_nil ?_
                refine nR115 ?_
                refine run_cond_true rfl ?_
                refine run_seq ?_
                refine run_region ?_
                refine ops_val (ex_assign rfl) ?_
                refine ops_val (ex_assign rfl) ?_
                refine ops_nil ?_
                refine nR115 ?_
                refine run_ret ?_
                refine fin_ret2 rfl rfl rfl ?_
                exact ⟨_, _, rfl, Ans.no (chk_f2 (by omega)), H2.noRows⟩
              · skip
                refine ops_val (ex_pick_f rfl rfl) ?_
                refine ops_nil ?_
                refine nR115 ?_
                refine run_cond_false rfl ?_
                refine run_skip ?_
                refine run_seq ?_
                refine run_seq ?_
                refine run_region ?_
                refine ops_val (ex_fieldAddr fl97_4 rfl) ?_
                refine ops_val (ex_load ty95 rfl (H2.cell (i := 0) rfl rfl)) ?_
                refine ops_val (ex_len_slice Tryz.underlying95 rfl) ?_
                refine ops_val (ex_move rfl) ?_
                refine ops_nil ?_
                refine nR115 ?_
                refine run_block ?_
                refine run_loop (fun nQ lQ w => ∃ (i : Nat) (y : Int), s.entries.length - i = nQ ∧ Fits [none, some (.int .i64 5), none, none, none, some (.pointer (some ⟨gs, 0, none⟩)), none, none, none, none, none, none, none, none, none, none, none, none, none, none, none, none, none, none, none, none, none, none, none, none, none, none, none, none, none, none, none, none, none, none, none, none, none, none, none, none, none, none, none, none, none, none, none, none, none, none, none, none, none, none, none, none, none, none, none, none, none, none, none, none, some (.slice A3 s.entries.length k3), some (.int .i64 (s.entries.length : Int)), some (.int .i64 y), none, none, none, none, none, none, none, none, none, none, none, none, none, none, none, none, none, none, none, none, none, none, none, none, none, none, none, none, none, none, none, none, none, none, none, none, none, none, none, none, none, none] lQ ∧ y = (i : Int) ∧ i ≤ s.entries.length ∧ entOk s.index s.entries = entOk (s.index + i) (s.entries.drop i) ∧ Hp w0 w [] [((some gs, 97, [.int .i64 s.p.r, .int .i64 s.p.n, .slice A1 s.votes.length k1, .int .i64 s.index, .slice A2 s.image.length k2, .slice A3 s.entries.length k3]) : Ent)]) (s.entries.length) ?_ ?_
                · exact ⟨0, _, rfl, (fn (fs (fn (fn (fn (fs (fn (fn (fn (fn (fn (fn (fn (fn (fn (fn (fn (fn (fn (fn (fn (fn (fn (fn (fn (fn (fn (fn (fn (fn (fn (fn (fn (fn (fn (fn (fn (fn (fn (fn (fn (fn (fn (fn (fn (fn (fn (fn (fn (fn (fn (fn (fn (fn (fn (fn (fn (fn (fn (fn (fn (fn (fn (fn (fn (fn (fn (fn (fn (fn (fs (fs (fs (fn (fn (fn (fn (fn (fn (fn (fn (fn (fn (fn (fn (fn (fn (fn (fn (fn (fn (fn (fn (fn (fn (fn (fn (fn (fn (fn (fn (fn (fn (fn (fn (fn (fn (fn (fn (fn (fn (fn (fn (fn (fn f0))))))))))))))))))))))))))))))))))))))))))))))))))))))))))))))))))))))))))))))))))))))))))))))))))))))))))))))))))), rfl, Nat.zero_le _, by simp, H2⟩
                · rintro nQ lQ w3 ⟨i, y, rfl, hfit, rfl, hi, hinv, H3⟩
                  obtain ⟨j, rfl⟩ := hfit.open
                  refine nR115 ?_
                  clear hfit
                  refine run_seq ?_
                  refine run_region ?_
                  refine ops_test (ex_lss rfl rfl) (fun hp73 => ?_) (fun hp73 => ?_)
                  · have hil : i < s.entries.length := by omega
                    obtain ⟨x, hx⟩ := get_of hil
                    obtain ⟨p1, hp1, hR⟩ := he2.get hx
                    obtain ⟨Ax, kx, rfl, hbx⟩ := hR
                    obtain ⟨a1, ha1⟩ := hre.some_ (by omega)
                    subst ha1
                    refine ops_nil ?_
                    refine nR115 ?_
                    refine run_seq ?_
                    refine run_cond_true rfl ?_
                    refine run_skip ?_
                    refine run_seq ?_
                    refine run_block ?_
                    refine run_seq ?_
                    refine run_region ?_
                    refine ops_val (ex_move rfl) ?_
                    refine ops_val (ex_idx Tryz.underlying95 ty79 rfl rfl rfl hil rfl) ?_
                    refine ops_val (ex_loadN ty79 rfl (vs := [.int .i64 x.slot, .slice Ax x.val.length kx]) rfl ((hre.to0 H3).elem hpe hp1)) ?_
                    refine ops_alloc ty79 H3 ?_
                    intro w4 g4 H4 hg4
                    refine nO115 ?_
                    refine ops_val (ex_assign rfl) ?_
                    refine ops_store ty79 H4 1 rfl rfl rfl rfl rfl (by first | decide | (simp; done) | simp [putAt]) rfl ?_
                    intro w5 H5
                    refine ops_nil ?_
                    refine nR115 ?_
                    refine run_seq ?_
                    refine run_region ?_
                    refine ops_val (ex_fieldAddr fl79_0 rfl) ?_
                    refine ops_val (ex_load ty3 rfl (H5.cell (i := 1) rfl rfl)) ?_
                    refine ops_val (ex_fieldAddr fl97_2 rfl) ?_
                    refine ops_val (ex_load ty3 rfl (H5.cell (i := 0) rfl rfl)) ?_
                    refine nO115 ?_
                    refine ops_val (ex_add rfl rfl (IntWalk.i64_in _ (by omega))) ?_
                    refine ops_val (ex_move rfl) ?_
                    refine ops_val (ex_add rfl rfl (IntWalk.i64_in _ (by omega))) ?_
                    refine ops_test (ex_neq rfl rfl) (fun hp84 => ?_) (fun hp84 => ?_)
                    · skip
                      refine ops_val (ex_move rfl) ?_
                      refine nO115 ?_
                      refine ops_no rfl ?_
                      refine ops_no rfl ?_
                      refine nO115 ?_
                      refine ops_no rfl ?_
                      refine ops_val (ex_pick_t rfl rfl) ?_
                      refine ops_val (ex_move rfl) ?_
                      refine nO115 ?_
                      refine ops_no rfl ?_
                      refine ops_no rfl ?_
                      refine nO115 ?_
                      refine ops_no rfl ?_
                      refine ops_no rfl ?_
                      refine ops_val (ex_pick_t rfl rfl) ?_
                      refine ops_nil ?_
                      refine nR115 ?_
                      refine run_cond_true rfl ?_
                      refine run_seq ?_
                      refine run_region ?_
                      refine ops_val (ex_assign rfl) ?_
                      refine ops_val (ex_assign rfl) ?_
                      refine ops_nil ?_
                      refine nR115 ?_
                      refine run_ret ?_
                      refine blk_ret ?_
                      refine rnd_ret ?_
                      refine blk_ret ?_
                      refine fin_ret2 rfl rfl rfl ?_
                      exact ⟨_, _, rfl, Ans.no (chk_f3 (by rw [hinv]; exact ent_no hx fun hh => by omega)), H5.noRows⟩
                    · skip
                      refine ops_val (ex_move rfl) ?_
                      refine nO115 ?_
                      refine ops_yes rfl ?_
                      refine ops_val (ex_fieldAddr fl79_0 rfl) ?_
                      refine ops_yes rfl ?_
                      refine ops_val (ex_load ty3 rfl (H5.cell (i := 1) rfl rfl)) ?_
                      refine nO115 ?_
                      refine ops_yes rfl ?_
                      refine ops_test (ex_gtr rfl rfl) (fun hp88 => ?_) (fun hp88 => ?_)
                      · skip
                        refine ops_val (ex_pick_f rfl rfl) ?_
                        refine ops_val (ex_move rfl) ?_
                        refine nO115 ?_
                        refine ops_no rfl ?_
                        refine ops_no rfl ?_
                        refine nO115 ?_
                        refine ops_no rfl ?_
                        refine ops_no rfl ?_
                        refine ops_val (ex_pick_t rfl rfl) ?_
                        refine ops_nil ?_
                        refine nR115 ?_
                        refine run_cond_true rfl ?_
                        refine run_seq ?_
                        refine run_region ?_
                        refine ops_val (ex_assign rfl) ?_
                        refine ops_val (ex_assign rfl) ?_
                        refine ops_nil ?_
                        refine nR115 ?_
                        refine run_ret ?_
                        refine blk_ret ?_
                        refine rnd_ret ?_
                        refine blk_ret ?_
                        refine fin_ret2 rfl rfl rfl ?_
                        exact ⟨_, _, rfl, Ans.no (chk_f3 (by rw [hinv]; exact ent_no hx fun hh => by omega)), H5.noRows⟩
                      · skip
                        refine ops_val (ex_pick_f rfl rfl) ?_
                        refine ops_val (ex_move rfl) ?_
                        refine nO115 ?_
                        refine ops_yes rfl ?_
                        refine ops_val (ex_fieldAddr fl79_1 rfl) ?_
                        refine ops_yes rfl ?_
                        refine ops_val (ex_load ty73 rfl (H5.cell (i := 1) rfl rfl)) ?_
                        refine nO115 ?_
                        refine ops_yes rfl ?_
                        refine ops_val (ex_len_slice Tryz.underlying73 rfl) ?_
                        refine ops_yes rfl ?_
                        refine ops_test (ex_gtr rfl rfl) (fun hp94 => ?_) (fun hp94 => ?_)
                        · skip
                          refine ops_val (ex_pick_f rfl rfl) ?_
                          refine ops_nil ?_
                          refine nR115 ?_
                          refine run_cond_true rfl ?_
                          refine run_seq ?_
                          refine run_region ?_
                          refine ops_val (ex_assign rfl) ?_
                          refine ops_val (ex_assign rfl) ?_
                          refine ops_nil ?_
                          refine nR115 ?_
                          refine run_ret ?_
                          refine blk_ret ?_
                          refine rnd_ret ?_
                          refine blk_ret ?_
                          refine fin_ret2 rfl rfl rfl ?_
                          exact ⟨_, _, rfl, Ans.no (chk_f3 (by rw [hinv]; exact ent_no hx fun hh => by omega)), H5.noRows⟩
                        · skip
                          refine ops_val (ex_pick_f rfl rfl) ?_
                          refine ops_nil ?_
                          refine nR115 ?_
                          refine run_cond_false rfl ?_
                          refine run_skip ?_
                          refine run_nil (blk_normal ?_)
                          refine run_region ?_
                          refine ops_val (ex_add rfl rfl (IntWalk.i64_in _ (by omega))) ?_
                          refine ops_val (ex_move rfl) ?_
                          refine ops_nil ?_
                          refine nR115 ?_
                          refine run_nil (rnd_normal ?_)
                          have hgo := ent_go (m := s.index + i) hx ⟨by omega, by omega, by omega⟩
                          exact ⟨s.entries.length - (i + 1), by omega, i + 1, _, rfl, (fn (fs (fn (fn (fn (fs (fn (fn (fn (fn (fn (fn (fn (fn (fn (fn (fn (fn (fn (fn (fn (fn (fn (fn (fn (fn (fn (fn (fn (fn (fn (fn (fn (fn (fn (fn (fn (fn (fn (fn (fn (fn (fn (fn (fn (fn (fn (fn (fn (fn (fn (fn (fn (fn (fn (fn (fn (fn (fn (fn (fn (fn (fn (fn (fn (fn (fn (fn (fn (fn (fs (fs (fs (fn (fn (fn (fn (fn (fn (fn (fn (fn (fn (fn (fn (fn (fn (fn (fn (fn (fn (fn (fn (fn (fn (fn (fn (fn (fn (fn (fn (fn (fn (fn (fn (fn (fn (fn (fn (fn (fn (fn (fn (fn (fn f0))))))))))))))))))))))))))))))))))))))))))))))))))))))))))))))))))))))))))))))))))))))))))))))))))))))))))))))))))), by omega, by omega, by rw [hinv, hgo]; congr 1; omega, H5.pick [0] (by decide)⟩
                  · obtain rfl : i = s.entries.length := by omega
                    have hent := hinv.trans ent_end
                    refine ops_nil ?_
                    refine nR115 ?_
                    refine run_seq ?_
                    refine run_cond_false rfl ?_
                    refine run_exit ?_
                    refine rnd_exit ?_
                    refine blk_exit ?_
                    refine run_seq ?_
                    refine run_region ?_
                    refine ops_val (ex_fieldAddr fl97_0 rfl) ?_
                    refine ops_val (ex_loadN ty75 rfl (vs := [.int .i64 s.p.r, .int .i64 s.p.n]) rfl (H3.cellsR (i := 0) rfl rfl)) ?_
                    refine ops_val (ex_fieldAddr fl97_2 rfl) ?_
                    refine ops_val (ex_load ty3 rfl (H3.cell (i := 0) rfl rfl)) ?_
                    refine nO115 ?_
                    refine ops_val (ex_fieldAddr fl97_4 rfl) ?_
                    refine ops_val (ex_load ty95 rfl (H3.cell (i := 0) rfl rfl)) ?_
                    refine ops_val (ex_len_slice Tryz.underlying95 rfl) ?_
                    refine ops_val (ex_add rfl rfl (IntWalk.i64_in _ (by omega))) ?_
                    refine nO115 ?_
                    refine ops_val (ex_add rfl rfl (IntWalk.i64_in _ (by omega))) ?_
                    refine ops_val (ex_fieldAddr fl97_1 rfl) ?_
                    refine ops_val (ex_load ty94 rfl (H3.cell (i := 0) rfl rfl)) ?_
                    refine ops_call (ex_call gf171 rfl) (load_a s.p (s.index + s.entries.length + 1) A1 k1 s.votes ok _ (hv1.toV H3 k0) (by omega)) ?_
                    rintro _ w4 ⟨v, e, rfl, hans, Hd⟩
                    have H4 := H3.callN Hd
                    rw [← chk_ld (by omega) (by omega) hent] at hans
                    refine nO115 ?_
                    refine ops_val (ex_move rfl) ?_
                    refine ops_val (ex_extract rfl rfl) ?_
                    refine ops_val (ex_extract rfl rfl) ?_
                    refine ops_val (ex_assign rfl) ?_
                    refine nO115 ?_
                    refine ops_val (ex_assign rfl) ?_
                    refine ops_nil ?_
                    refine nR115 ?_
                    refine run_seq ?_
                    refine run_seq ?_
                    refine run_region ?_
                    refine ops_val (ex_move rfl) ?_
                    refine ops_test (ex_neq rfl rfl) (fun hp113 => ?_) (fun hp113 => ?_)
                    · skip
                      refine ops_nil ?_
                      refine nR115 ?_
                      refine run_cond_true rfl ?_
                      refine run_seq ?_
                      refine run_region ?_
                      refine ops_val (ex_assign rfl) ?_
                      refine ops_val (ex_assign rfl) ?_
                      refine ops_nil ?_
                      refine nR115 ?_
                      refine run_ret ?_
                      refine fin_ret2 rfl rfl rfl ?_
                      exact ⟨_, _, rfl, Ans.no (by cases hc : chk s with | false => rfl | true => exact absurd (hans.1 hc) hp113), H4.noRows⟩
                    · skip
                      refine ops_nil ?_
                      refine nR115 ?_
                      refine run_cond_false rfl ?_
                      refine run_skip ?_
                      refine run_seq ?_
                      refine run_region ?_
                      refine ops_val (ex_move rfl) ?_
                      refine ops_val (ex_assign rfl) ?_
                      refine ops_val (ex_assign rfl) ?_
                      refine ops_nil ?_
                      refine nR115 ?_
                      refine run_ret ?_
                      refine fin_ret2 rfl rfl rfl ?_
                      exact ⟨_, _, rfl, Ans.ok (by cases hc : chk s with | true => rfl | false => have := hans.2 hc; omega), H4.noRows⟩
          · skip
            refine ops_yes rfl ?_
            refine ops_val (ex_move rfl) ?_
            refine ops_no rfl ?_
            refine nO115 ?_
            refine ops_no rfl ?_
            refine ops_no rfl ?_
            refine nO115 ?_
            refine ops_no rfl ?_
            refine ops_yes rfl ?_
            refine ops_val (ex_pick_f rfl rfl) ?_
            refine ops_val (ex_pick_f rfl rfl) ?_
            refine ops_val (ex_move rfl) ?_
            refine nO115 ?_
            refine ops_yes rfl ?_
            refine ops_val (ex_fieldAddr fl97_3 rfl) ?_
            refine ops_yes rfl ?_
            refine ops_val (ex_load ty73 rfl (H2.cell (i := 0) rfl rfl)) ?_
            refine nO115 ?_
            refine ops_yes rfl ?_
            refine ops_val (ex_len_slice Tryz.underlying73 rfl) ?_
            refine ops_yes rfl ?_
            refine ops_test (ex_gtr rfl rfl) (fun hp67 => ?_) (fun hp67 => ?_)
            · skip
              refine ops_val (ex_pick_f rfl rfl) ?_
              refine ops_nil ?_
              refine nR115 ?_
              refine run_cond_true rfl ?_
              refine run_seq ?_
              refine run_region ?_
              refine ops_val (ex_assign rfl) ?_
              refine ops_val (ex_assign rfl) ?_
              refine ops_nil ?_
              refine nR115 ?_
              refine run_ret ?_
              refine fin_ret2 rfl rfl rfl ?_
              exact ⟨_, _, rfl, Ans.no (chk_f2 (by omega)), H2.noRows⟩
            · skip
              refine ops_val (ex_pick_f rfl rfl) ?_
              refine ops_nil ?_
              refine nR115 ?_
              refine run_cond_false rfl ?_
              refine run_skip ?_
              refine run_seq ?_
              refine run_seq ?_
              refine run_region ?_
              refine ops_val (ex_fieldAddr fl97_4 rfl) ?_
              refine ops_val (ex_load ty95 rfl (H2.cell (i := 0) rfl rfl)) ?_
              refine ops_val (ex_len_slice Tryz.underlying95 rfl) ?_
              refine ops_val (ex_move rfl) ?_
              refine ops_nil ?_
              refine nR115 ?_
              refine run_block ?_
              refine run_loop (fun nQ lQ w => ∃ (i : Nat) (y : Int), s.entries.length - i = nQ ∧ Fits [none, some (.int .i64 5), none, none, none, some (.pointer (some ⟨gs, 0, none⟩)), none, none, none, none, none, none, none, none, none, none, none, none, none, none, none, none, none, none, none, none, none, none, none, none, none, none, none, none, none, none, none, none, none, none, none, none, none, none, none, none, none, none, none, none, none, none, none, none, none, none, none, none, none, none, none, none, none, none, none, none, none, none, none, none, some (.slice A3 s.entries.length k3), some (.int .i64 (s.entries.length : Int)), some (.int .i64 y), none, none, none, none, none, none, none, none, none, none, none, none, none, none, none, none, none, none, none, none, none, none, none, none, none, none, none, none, none, none, none, none, none, none, none, none, none, none, none, none, none, none] lQ ∧ y = (i : Int) ∧ i ≤ s.entries.length ∧ entOk s.index s.entries = entOk (s.index + i) (s.entries.drop i) ∧ Hp w0 w [] [((some gs, 97, [.int .i64 s.p.r, .int .i64 s.p.n, .slice A1 s.votes.length k1, .int .i64 s.index, .slice A2 s.image.length k2, .slice A3 s.entries.length k3]) : Ent)]) (s.entries.length) ?_ ?_
              · exact ⟨0, _, rfl, (fn (fs (fn (fn (fn (fs (fn (fn (fn (fn (fn (fn (fn (fn (fn (fn (fn (fn (fn (fn (fn (fn (fn (fn (fn (fn (fn (fn (fn (fn (fn (fn (fn (fn (fn (fn (fn (fn (fn (fn (fn (fn (fn (fn (fn (fn (fn (fn (fn (fn (fn (fn (fn (fn (fn (fn (fn (fn (fn (fn (fn (fn (fn (fn (fn (fn (fn (fn (fn (fn (fs (fs (fs (fn (fn (fn (fn (fn (fn (fn (fn (fn (fn (fn (fn (fn (fn (fn (fn (fn (fn (fn (fn (fn (fn (fn (fn (fn (fn (fn (fn (fn (fn (fn (fn (fn (fn (fn (fn (fn (fn (fn (fn (fn (fn f0))))))))))))))))))))))))))))))))))))))))))))))))))))))))))))))))))))))))))))))))))))))))))))))))))))))))))))))))))), rfl, Nat.zero_le _, by simp, H2⟩
              · rintro nQ lQ w3 ⟨i, y, rfl, hfit, rfl, hi, hinv, H3⟩
                obtain ⟨j, rfl⟩ := hfit.open
                refine nR115 ?_
                clear hfit
                refine run_seq ?_
                refine run_region ?_
                refine ops_test (ex_lss rfl rfl) (fun hp73 => ?_) (fun hp73 => ?_)
                · have hil : i < s.entries.length := by omega
                  obtain ⟨x, hx⟩ := get_of hil
                  obtain ⟨p1, hp1, hR⟩ := he2.get hx
                  obtain ⟨Ax, kx, rfl, hbx⟩ := hR
                  obtain ⟨a1, ha1⟩ := hre.some_ (by omega)
                  subst ha1
                  refine ops_nil ?_
                  refine nR115 ?_
                  refine run_seq ?_
                  refine run_cond_true rfl ?_
                  refine run_skip ?_
                  refine run_seq ?_
                  refine run_block ?_
                  refine run_seq ?_
                  refine run_region ?_
                  refine ops_val (ex_move rfl) ?_
                  refine ops_val (ex_idx Tryz.underlying95 ty79 rfl rfl rfl hil rfl) ?_
                  refine ops_val (ex_loadN ty79 rfl (vs := [.int .i64 x.slot, .slice Ax x.val.length kx]) rfl ((hre.to0 H3).elem hpe hp1)) ?_
                  refine ops_alloc ty79 H3 ?_
                  intro w4 g4 H4 hg4
                  refine nO115 ?_
                  refine ops_val (ex_assign rfl) ?_
                  refine ops_store ty79 H4 1 rfl rfl rfl rfl rfl (by first | decide | (simp; done) | simp [putAt]) rfl ?_
                  intro w5 H5
                  refine ops_nil ?_
                  refine nR115 ?_
                  refine run_seq ?_
                  refine run_region ?_
                  refine ops_val (ex_fieldAddr fl79_0 rfl) ?_
                  refine ops_val (ex_load ty3 rfl (H5.cell (i := 1) rfl rfl)) ?_
                  refine ops_val (ex_fieldAddr fl97_2 rfl) ?_
                  refine ops_val (ex_load ty3 rfl (H5.cell (i := 0) rfl rfl)) ?_
                  refine nO115 ?_
                  refine ops_val (ex_add rfl rfl (IntWalk.i64_in _ (by omega))) ?_
                  refine ops_val (ex_move rfl) ?_
                  refine ops_val (ex_add rfl rfl (IntWalk.i64_in _ (by omega))) ?_
                  refine ops_test (ex_neq rfl rfl) (fun hp84 => ?_) (fun hp84 => ?_)
                  · skip
                    refine ops_val (ex_move rfl) ?_
                    refine nO115 ?_
                    refine ops_no rfl ?_
                    refine ops_no rfl ?_
                    refine nO115 ?_
                    refine ops_no rfl ?_
                    refine ops_val (ex_pick_t rfl rfl) ?_
                    refine ops_val (ex_move rfl) ?_
                    refine nO115 ?_
                    refine ops_no rfl ?_
                    refine ops_no rfl ?_
                    refine nO115 ?_
                    refine ops_no rfl ?_
                    refine ops_no rfl ?_
                    refine ops_val (ex_pick_t rfl rfl) ?_
                    refine ops_nil ?_
                    refine nR115 ?_
                    refine run_cond_true rfl ?_
                    refine run_seq ?_
                    refine run_region ?_
                    refine ops_val (ex_assign rfl) ?_
                    refine ops_val (ex_assign rfl) ?_
                    refine ops_nil ?_
                    refine nR115 ?_
                    refine run_ret ?_
                    refine blk_ret ?_
                    refine rnd_ret ?_
                    refine blk_ret ?_
                    refine fin_ret2 rfl rfl rfl ?_
                    exact ⟨_, _, rfl, Ans.no (chk_f3 (by rw [hinv]; exact ent_no hx fun hh => by omega)), H5.noRows⟩
                  · skip
                    refine ops_val (ex_move rfl) ?_
                    refine nO115 ?_
                    refine ops_yes rfl ?_
                    refine ops_val (ex_fieldAddr fl79_0 rfl) ?_
                    refine ops_yes rfl ?_
                    refine ops_val (ex_load ty3 rfl (H5.cell (i := 1) rfl rfl)) ?_
                    refine nO115 ?_
                    refine ops_yes rfl ?_
                    refine ops_test (ex_gtr rfl rfl) (fun hp88 => ?_) (fun hp88 => ?_)
                    · skip
                      refine ops_val (ex_pick_f rfl rfl) ?_
                      refine ops_val (ex_move rfl) ?_
                      refine nO115 ?_
                      refine ops_no rfl ?_
                      refine ops_no rfl ?_
                      refine nO115 ?_
                      refine ops_no rfl ?_
                      refine ops_no rfl ?_
                      refine ops_val (ex_pick_t rfl rfl) ?_
                      refine ops_nil ?_
                      refine nR115 ?_
                      refine run_cond_true rfl ?_
                      refine run_seq ?_
                      refine run_region ?_
                      refine ops_val (ex_assign rfl) ?_
                      refine ops_val (ex_assign rfl) ?_
                      refine ops_nil ?_
                      refine nR115 ?_
                      refine run_ret ?_
                      refine blk_ret ?_
                      refine rnd_ret ?_
                      refine blk_ret ?_
                      refine fin_ret2 rfl rfl rfl ?_
                      exact ⟨_, _, rfl, Ans.no (chk_f3 (by rw [hinv]; exact ent_no hx fun hh => by omega)), H5.noRows⟩
                    · skip
                      refine ops_val (ex_pick_f rfl rfl) ?_
                      refine ops_val (ex_move rfl) ?_
                      refine nO115 ?_
                      refine ops_yes rfl ?_
                      refine ops_val (ex_fieldAddr fl79_1 rfl) ?_
                      refine ops_yes rfl ?_
                      refine ops_val (ex_load ty73 rfl (H5.cell (i := 1) rfl rfl)) ?_
                      refine nO115 ?_
                      refine ops_yes rfl ?_
                      refine ops_val (ex_len_slice Tryz.underlying73 rfl) ?_
                      refine ops_yes rfl ?_
                      refine ops_test (ex_gtr rfl rfl) (fun hp94 => ?_) (fun hp94 => ?_)
                      · skip
                        refine ops_val (ex_pick_f rfl rfl) ?_
                        refine ops_nil ?_
                        refine nR115 ?_
                        refine run_cond_true rfl ?_
                        refine run_seq ?_
                        refine run_region ?_
                        refine ops_val (ex_assign rfl) ?_
                        refine ops_val (ex_assign rfl) ?_
                        refine ops_nil ?_
                        refine nR115 ?_
                        refine run_ret ?_
                        refine blk_ret ?_
                        refine rnd_ret ?_
                        refine blk_ret ?_
                        refine fin_ret2 rfl rfl rfl ?_
                        exact ⟨_, _, rfl, Ans.no (chk_f3 (by rw [hinv]; exact ent_no hx fun hh => by omega)), H5.noRows⟩
                      · skip
                        refine ops_val (ex_pick_f rfl rfl) ?_
                        refine ops_nil ?_
                        refine nR115 ?_
                        refine run_cond_false rfl ?_
                        refine run_skip ?_
                        refine run_nil (blk_normal ?_)
                        refine run_region ?_
                        refine ops_val (ex_add rfl rfl (IntWalk.i64_in _ (by omega))) ?_
                        refine ops_val (ex_move rfl) ?_
                        refine ops_nil ?_
                        refine nR115 ?_
                        refine run_nil (rnd_normal ?_)
                        have hgo := ent_go (m := s.index + i) hx ⟨by omega, by omega, by omega⟩
                        exact ⟨s.entries.length - (i + 1), by omega, i + 1, _, rfl, (fn (fs (fn (fn (fn (fs (fn (fn (fn (fn (fn (fn (fn (fn (fn (fn (fn (fn (fn (fn (fn (fn (fn (fn (fn (fn (fn (fn (fn (fn (fn (fn (fn (fn (fn (fn (fn (fn (fn (fn (fn (fn (fn (fn (fn (fn (fn (fn (fn (fn (fn (fn (fn (fn (fn (fn (fn (fn (fn (fn (fn (fn (fn (fn (fn (fn (fn (fn (fn (fn (fs (fs (fs (fn (fn (fn (fn (fn (fn (fn (fn (fn (fn (fn (fn (fn (fn (fn (fn (fn (fn (fn (fn (fn (fn (fn (fn (fn (fn (fn (fn (fn (fn (fn (fn (fn (fn (fn (fn (fn (fn (fn (fn (fn (fn f0))))))))))))))))))))))))))))))))))))))))))))))))))))))))))))))))))))))))))))))))))))))))))))))))))))))))))))))))))), by omega, by omega, by rw [hinv, hgo]; congr 1; omega, H5.pick [0] (by decide)⟩
                · obtain rfl : i = s.entries.length := by omega
                  have hent := hinv.trans ent_end
                  refine ops_nil ?_
                  refine nR115 ?_
                  refine run_seq ?_
                  refine run_cond_false rfl ?_
                  refine run_exit ?_
                  refine rnd_exit ?_
                  refine blk_exit ?_
                  refine run_seq ?_
                  refine run_region ?_
                  refine ops_val (ex_fieldAddr fl97_0 rfl) ?_
                  refine ops_val (ex_loadN ty75 rfl (vs := [.int .i64 s.p.r, .int .i64 s.p.n]) rfl (H3.cellsR (i := 0) rfl rfl)) ?_
                  refine ops_val (ex_fieldAddr fl97_2 rfl) ?_
                  refine ops_val (ex_load ty3 rfl (H3.cell (i := 0) rfl rfl)) ?_
                  refine nO115 ?_
                  refine ops_val (ex_fieldAddr fl97_4 rfl) ?_
                  refine ops_val (ex_load ty95 rfl (H3.cell (i := 0) rfl rfl)) ?_
                  refine ops_val (ex_len_slice Tryz.underlying95 rfl) ?_
                  refine ops_val (ex_add rfl rfl (IntWalk.i64_in _ (by omega))) ?_
                  refine nO115 ?_
                  refine ops_val (ex_add rfl rfl (IntWalk.i64_in _ (by omega))) ?_
                  refine ops_val (ex_fieldAddr fl97_1 rfl) ?_
                  refine ops_val (ex_load ty94 rfl (H3.cell (i := 0) rfl rfl)) ?_
                  refine ops_call (ex_call gf171 rfl) (load_a s.p (s.index + s.entries.length + 1) A1 k1 s.votes ok _ (hv1.toV H3 k0) (by omega)) ?_
                  rintro _ w4 ⟨v, e, rfl, hans, Hd⟩
                  have H4 := H3.callN Hd
                  rw [← chk_ld (by omega) (by omega) hent] at hans
                  refine nO115 ?_
                  refine ops_val (ex_move rfl) ?_
                  refine ops_val (ex_extract rfl rfl) ?_
                  refine ops_val (ex_extract rfl rfl) ?_
                  refine ops_val (ex_assign rfl) ?_
                  refine nO115 ?_
                  refine ops_val (ex_assign rfl) ?_
                  refine ops_nil ?_
                  refine nR115 ?_
                  refine run_seq ?_
                  refine run_seq ?_
                  refine run_region ?_
                  refine ops_val (ex_move rfl) ?_
                  refine ops_test (ex_neq rfl rfl) (fun hp113 => ?_) (fun hp113 => ?_)
                  · skip
                    refine ops_nil ?_
                    refine nR115 ?_
                    refine run_cond_true rfl ?_
                    refine run_seq ?_
                    refine run_region ?_
                    refine ops_val (ex_assign rfl) ?_
                    refine ops_val (ex_assign rfl) ?_
                    refine ops_nil ?_
                    refine nR115 ?_
                    refine run_ret ?_
                    refine fin_ret2 rfl rfl rfl ?_
                    exact ⟨_, _, rfl, Ans.no (by cases hc : chk s with | false => rfl | true => exact absurd (hans.1 hc) hp113), H4.noRows⟩
                  · skip
                    refine ops_nil ?_
                    refine nR115 ?_
                    refine run_cond_false rfl ?_
                    refine run_skip ?_
                    refine run_seq ?_
                    refine run_region ?_
                    refine ops_val (ex_move rfl) ?_
                    refine ops_val (ex_assign rfl) ?_
                    refine ops_val (ex_assign rfl) ?_
                    refine ops_nil ?_
                    refine nR115 ?_
                    refine run_ret ?_
                    refine fin_ret2 rfl rfl rfl ?_
                    exact ⟨_, _, rfl, Ans.ok (by cases hc : chk s with | true => rfl | false => have := hans.2 hc; omega), H4.noRows⟩
    · have H2 := H1.callN Hd
      refine ops_yes rfl ?_
      refine ops_val (ex_not rfl) ?_
      refine ops_val (ex_pick_t rfl rfl) ?_
      refine ops_val (ex_move rfl) ?_
      refine nO115 ?_
      refine ops_no rfl ?_
      refine ops_no rfl ?_
      refine nO115 ?_
      refine ops_no rfl ?_
      refine ops_val (ex_pick_t rfl rfl) ?_
      refine ops_val (ex_move rfl) ?_
      refine nO115 ?_
      refine ops_no rfl ?_
      refine ops_no rfl ?_
      refine nO115 ?_
      refine ops_no rfl ?_
      refine ops_val (ex_pick_t rfl rfl) ?_
      refine ops_val (ex_move rfl) ?_
      refine nO115 ?_
      refine ops_no rfl ?_
      refine ops_no rfl ?_
      refine nO115 ?_
      refine ops_no rfl ?_
      refine ops_no rfl ?_
      refine nO115 ?_
      refine ops_no rfl ?_
      refine ops_no rfl ?_
      refine nO115 ?_
      refine ops_no rfl ?_
      refine ops_no rfl ?_
      refine nO115 ?_
      refine ops_no rfl ?_
      refine ops_val (ex_pick_t rfl rfl) ?_
      refine ops_val (ex_move rfl) ?_
      refine nO115 ?_
      refine ops_no rfl ?_
      refine ops_no rfl ?_
      refine nO115 ?_
      refine ops_no rfl ?_
      refine ops_no rfl ?_
      refine ops_val (ex_pick_t rfl rfl) ?_
      refine ops_nil ?_
      refine nR115 ?_
      refine run_cond_true rfl ?_
      refine run_seq ?_
      refine run_region ?_
      refine ops_val (ex_assign rfl) ?_
      refine ops_val (ex_assign rfl) ?_
      refine ops_nil ?_
      refine nR115 ?_
      refine run_ret ?_
      refine fin_ret2 rfl rfl rfl ?_
      exact ⟨_, _, rfl, Ans.no (chk_f1 (by omega)), H2.noRows⟩
  · skip
    refine ops_val (ex_move rfl) ?_
    refine nO115 ?_
    refine ops_no rfl ?_
    refine ops_no rfl ?_
    refine nO115 ?_
    refine ops_no rfl ?_
    refine ops_no rfl ?_
    refine nO115 ?_
    refine ops_no rfl ?_
    refine ops_val (ex_pick_f rfl rfl) ?_
    refine ops_val (ex_move rfl) ?_
    refine nO115 ?_
    refine ops_yes rfl ?_
    refine ops_val (ex_fieldAddr fl97_2 rfl) ?_
    refine ops_yes rfl ?_
    refine ops_val (ex_load ty3 rfl (H1.cell (i := 0) rfl rfl)) ?_
    refine nO115 ?_
    refine ops_yes rfl ?_
    refine ops_test (ex_lss rfl rfl) (fun hp45 => ?_) (fun hp45 => ?_)
    · skip
      refine ops_val (ex_pick_f rfl rfl) ?_
      refine ops_val (ex_move rfl) ?_
      refine nO115 ?_
      refine ops_no rfl ?_
      refine ops_no rfl ?_
      refine nO115 ?_
      refine ops_no rfl ?_
      refine ops_val (ex_pick_t rfl rfl) ?_
      refine ops_val (ex_move rfl) ?_
      refine nO115 ?_
      refine ops_no rfl ?_
      refine ops_no rfl ?_
      refine nO115 ?_
      refine ops_no rfl ?_
      refine ops_no rfl ?_
      refine nO115 ?_
      refine ops_no rfl ?_
      refine ops_no rfl ?_
      refine nO115 ?_
      refine ops_no rfl ?_
      refine ops_no rfl ?_
      refine nO115 ?_
      refine ops_no rfl ?_
      refine ops_val (ex_pick_t rfl rfl) ?_
      refine ops_val (ex_move rfl) ?_
      refine nO115 ?_
      refine ops_no rfl ?_
      refine ops_no rfl ?_
      refine nO115 ?_
      refine ops_no rfl ?_
      refine ops_no rfl ?_
      refine ops_val (ex_pick_t rfl rfl) ?_
      refine ops_nil ?_
      refine nR115 ?_
      refine run_cond_true rfl ?_
      refine run_seq ?_
      refine run_region ?_
      refine ops_val (ex_assign rfl) ?_
      refine ops_val (ex_assign rfl) ?_
      refine ops_nil ?_
      refine nR115 ?_
      refine run_ret ?_
      refine fin_ret2 rfl rfl rfl ?_
      exact ⟨_, _, rfl, Ans.no (chk_f2 (by omega)), H1.noRows⟩
    · skip
      refine ops_val (ex_pick_f rfl rfl) ?_
      refine ops_val (ex_move rfl) ?_
      refine nO115 ?_
      refine ops_yes rfl ?_
      refine ops_val (ex_fieldAddr fl97_2 rfl) ?_
      refine ops_yes rfl ?_
      refine ops_val (ex_load ty3 rfl (H1.cell (i := 0) rfl rfl)) ?_
      refine nO115 ?_
      refine ops_yes rfl ?_
      refine ops_test (ex_gtr rfl rfl) (fun hp50 => ?_) (fun hp50 => ?_)
      · skip
        refine ops_val (ex_pick_f rfl rfl) ?_
        refine ops_val (ex_move rfl) ?_
        refine nO115 ?_
        refine ops_no rfl ?_
        refine ops_no rfl ?_
        refine nO115 ?_
        refine ops_no rfl ?_
        refine ops_no rfl ?_
        refine nO115 ?_
        refine ops_no rfl ?_
        refine ops_no rfl ?_
        refine nO115 ?_
        refine ops_no rfl ?_
        refine ops_no rfl ?_
        refine nO115 ?_
        refine ops_no rfl ?_
        refine ops_val (ex_pick_t rfl rfl) ?_
        refine ops_val (ex_move rfl) ?_
        refine nO115 ?_
        refine ops_no rfl ?_
        refine ops_no rfl ?_
        refine nO115 ?_
        refine ops_no rfl ?_
        refine ops_no rfl ?_
        refine ops_val (ex_pick_t rfl rfl) ?_
        refine ops_nil ?_
        refine nR115 ?_
        refine run_cond_true rfl ?_
        refine run_seq ?_
        refine run_region ?_
        refine ops_val (ex_assign rfl) ?_
        refine ops_val (ex_assign rfl) ?_
        refine ops_nil ?_
        refine nR115 ?_
        refine run_ret ?_
        refine fin_ret2 rfl rfl rfl ?_
        exact ⟨_, _, rfl, Ans.no (chk_f2 (by omega)), H1.noRows⟩
      · skip
        refine ops_val (ex_pick_f rfl rfl) ?_
        refine ops_val (ex_move rfl) ?_
        refine nO115 ?_
        refine ops_yes rfl ?_
        refine ops_val (ex_fieldAddr fl97_2 rfl) ?_
        refine ops_yes rfl ?_
        refine ops_val (ex_load ty3 rfl (H1.cell (i := 0) rfl rfl)) ?_
        refine nO115 ?_
        refine ops_yes rfl ?_
        refine ops_test (ex_eql rfl rfl) (fun hp55 => ?_) (fun hp55 => ?_)
        · skip
          refine ops_yes rfl ?_
          refine ops_val (ex_move rfl) ?_
          refine ops_yes rfl ?_
          refine ops_val (ex_fieldAddr fl97_3 rfl) ?_
          refine nO115 ?_
          refine ops_yes rfl ?_
          refine ops_val (ex_load ty73 rfl (H1.cell (i := 0) rfl rfl)) ?_
          refine ops_yes rfl ?_
          refine ops_val (ex_len_slice Tryz.underlying73 rfl) ?_
          refine nO115 ?_
          refine ops_yes rfl ?_
          refine ops_test (ex_gtr rfl rfl) (fun hp60 => ?_) (fun hp60 => ?_)
          · skip
            refine ops_yes rfl ?_
            refine ops_val (ex_pick_t rfl rfl) ?_
            refine ops_val (ex_pick_f rfl rfl) ?_
            refine ops_val (ex_move rfl) ?_
            refine nO115 ?_
            refine ops_no rfl ?_
            refine ops_no rfl ?_
            refine nO115 ?_
            refine ops_no rfl ?_
            refine ops_no rfl ?_
            refine ops_val (ex_pick_t rfl rfl) ?_
            refine ops_nil ?_
            refine nR115 ?_
            refine run_cond_true rfl ?_
            refine run_seq ?_
            refine run_region ?_
            refine ops_val (ex_assign rfl) ?_
            refine ops_val (ex_assign rfl) ?_
            refine ops_nil ?_
            refine nR115 ?_
            refine run_ret ?_
            refine fin_ret2 rfl rfl rfl ?_
            exact ⟨_, _, rfl, Ans.no (chk_f2 (by omega)), H1.noRows⟩
          · skip
            refine ops_yes rfl ?_
            refine ops_val (ex_pick_t rfl rfl) ?_
            refine ops_val (ex_pick_f rfl rfl) ?_
            refine ops_val (ex_move rfl) ?_
            refine nO115 ?_
            refine ops_yes rfl ?_
            refine ops_val (ex_fieldAddr fl97_3 rfl) ?_
            refine ops_yes rfl ?_
            refine ops_val (ex_load ty73 rfl (H1.cell (i := 0) rfl rfl)) ?_
            refine nO115 ?_
            refine ops_yes rfl ?_
            refine ops_val (ex_len_slice Tryz.underlying73 rfl) ?_
            refine ops_yes rfl ?_
            refine ops_test (ex_gtr rfl rfl) (fun hp67 => ?_) (fun hp67 => ?_)
            · skip
              refine ops_val (ex_pick_f rfl rfl) ?_
              refine ops_nil ?_
              refine nR115 ?_
              refine run_cond_true rfl ?_
              refine run_seq ?_
              refine run_region ?_
              refine ops_val (ex_assign rfl) ?_
              refine ops_val (ex_assign rfl) ?_
              refine ops_nil ?_
              refine nR115 ?_
              refine run_ret ?_
              refine fin_ret2 rfl rfl rfl ?_
              exact ⟨_, _, rfl, Ans.no (chk_f2 (by omega)), H1.noRows⟩
            · skip
              refine ops_val (ex_pick_f rfl rfl) ?_
              refine ops_nil ?_
              refine nR115 ?_
              refine run_cond_false rfl ?_
              refine run_skip ?_
              refine run_seq ?_
              refine run_seq ?_
              refine run_region ?_
              refine ops_val (ex_fieldAddr fl97_4 rfl) ?_
              refine ops_val (ex_load ty95 rfl (H1.cell (i := 0) rfl rfl)) ?_
              refine ops_val (ex_len_slice Tryz.underlying95 rfl) ?_
              refine ops_val (ex_move rfl) ?_
              refine ops_nil ?_
              refine nR115 ?_
              refine run_block ?_
              refine run_loop (fun nQ lQ w => ∃ (i : Nat) (y : Int), s.entries.length - i = nQ ∧ Fits [none, some (.int .i64 5), none, none, none, some (.pointer (some ⟨gs, 0, none⟩)), none, none, none, none, none, none, none, none, none, none, none, none, none, none, none, none, none, none, none, none, none, none, none, none, none, none, none, none, none, none, none, none, none, none, none, none, none, none, none, none, none, none, none, none, none, none, none, none, none, none, none, none, none, none, none, none, none, none, none, none, none, none, none, none, some (.slice A3 s.entries.length k3), some (.int .i64 (s.entries.length : Int)), some (.int .i64 y), none, none, none, none, none, none, none, none, none, none, none, none, none, none, none, none, none, none, none, none, none, none, none, none, none, none, none, none, none, none, none, none, none, none, none, none, none, none, none, none, none, none] lQ ∧ y = (i : Int) ∧ i ≤ s.entries.length ∧ entOk s.index s.entries = entOk (s.index + i) (s.entries.drop i) ∧ Hp w0 w [] [((some gs, 97, [.int .i64 s.p.r, .int .i64 s.p.n, .slice A1 s.votes.length k1, .int .i64 s.index, .slice A2 s.image.length k2, .slice A3 s.entries.length k3]) : Ent)]) (s.entries.length) ?_ ?_
              · exact ⟨0, _, rfl, (fn (fs (fn (fn (fn (fs (fn (fn (fn (fn (fn (fn (fn (fn (fn (fn (fn (fn (fn (fn (fn (fn (fn (fn (fn (fn (fn (fn (fn (fn (fn (fn (fn (fn (fn (fn (fn (fn (fn (fn (fn (fn (fn (fn (fn (fn (fn (fn (fn (fn (fn (fn (fn (fn (fn (fn (fn (fn (fn (fn (fn (fn (fn (fn (fn (fn (fn (fn (fn (fn (fs (fs (fs (fn (fn (fn (fn (fn (fn (fn (fn (fn (fn (fn (fn (fn (fn (fn (fn (fn (fn (fn (fn (fn (fn (fn (fn (fn (fn (fn (fn (fn (fn (fn (fn (fn (fn (fn (fn (fn (fn (fn (fn (fn (fn f0))))))))))))))))))))))))))))))))))))))))))))))))))))))))))))))))))))))))))))))))))))))))))))))))))))))))))))))))))), rfl, Nat.zero_le _, by simp, H1⟩
              · rintro nQ lQ w2 ⟨i, y, rfl, hfit, rfl, hi, hinv, H2⟩
                obtain ⟨j, rfl⟩ := hfit.open
                refine nR115 ?_
                clear hfit
                refine run_seq ?_
                refine run_region ?_
                refine ops_test (ex_lss rfl rfl) (fun hp73 => ?_) (fun hp73 => ?_)
                · have hil : i < s.entries.length := by omega
                  obtain ⟨x, hx⟩ := get_of hil
                  obtain ⟨p1, hp1, hR⟩ := he2.get hx
                  obtain ⟨Ax, kx, rfl, hbx⟩ := hR
                  obtain ⟨a1, ha1⟩ := hre.some_ (by omega)
                  subst ha1
                  refine ops_nil ?_
                  refine nR115 ?_
                  refine run_seq ?_
                  refine run_cond_true rfl ?_
                  refine run_skip ?_
                  refine run_seq ?_
                  refine run_block ?_
                  refine run_seq ?_
                  refine run_region ?_
                  refine ops_val (ex_move rfl) ?_
                  refine ops_val (ex_idx Tryz.underlying95 ty79 rfl rfl rfl hil rfl) ?_
                  refine ops_val (ex_loadN ty79 rfl (vs := [.int .i64 x.slot, .slice Ax x.val.length kx]) rfl ((hre.to0 H2).elem hpe hp1)) ?_
                  refine ops_alloc ty79 H2 ?_
                  intro w3 g3 H3 hg3
                  refine nO115 ?_
                  refine ops_val (ex_assign rfl) ?_
                  refine ops_store ty79 H3 1 rfl rfl rfl rfl rfl (by first | decide | (simp; done) | simp [putAt]) rfl ?_
                  intro w4 H4
                  refine ops_nil ?_
                  refine nR115 ?_
                  refine run_seq ?_
                  refine run_region ?_
                  refine ops_val (ex_fieldAddr fl79_0 rfl) ?_
                  refine ops_val (ex_load ty3 rfl (H4.cell (i := 1) rfl rfl)) ?_
                  refine ops_val (ex_fieldAddr fl97_2 rfl) ?_
                  refine ops_val (ex_load ty3 rfl (H4.cell (i := 0) rfl rfl)) ?_
                  refine nO115 ?_
                  refine ops_val (ex_add rfl rfl (IntWalk.i64_in _ (by omega))) ?_
                  refine ops_val (ex_move rfl) ?_
                  refine ops_val (ex_add rfl rfl (IntWalk.i64_in _ (by omega))) ?_
                  refine ops_test (ex_neq rfl rfl) (fun hp84 => ?_) (fun hp84 => ?_)
                  · skip
                    refine ops_val (ex_move rfl) ?_
                    refine nO115 ?_
                    refine ops_no rfl ?_
                    refine ops_no rfl ?_
                    refine nO115 ?_
                    refine ops_no rfl ?_
                    refine ops_val (ex_pick_t rfl rfl) ?_
                    refine ops_val (ex_move rfl) ?_
                    refine nO115 ?_
                    refine ops_no rfl ?_
                    refine ops_no rfl ?_
                    refine nO115 ?_
                    refine ops_no rfl ?_
                    refine ops_no rfl ?_
                    refine ops_val (ex_pick_t rfl rfl) ?_
                    refine ops_nil ?_
                    refine nR115 ?_
                    refine run_cond_true rfl ?_
                    refine run_seq ?_
                    refine run_region ?_
                    refine ops_val (ex_assign rfl) ?_
                    refine ops_val (ex_assign rfl) ?_
                    refine ops_nil ?_
                    refine nR115 ?_
                    refine run_ret ?_
                    refine blk_ret ?_
                    refine rnd_ret ?_
                    refine blk_ret ?_
                    refine fin_ret2 rfl rfl rfl ?_
                    exact ⟨_, _, rfl, Ans.no (chk_f3 (by rw [hinv]; exact ent_no hx fun hh => by omega)), H4.noRows⟩
                  · skip
                    refine ops_val (ex_move rfl) ?_
                    refine nO115 ?_
                    refine ops_yes rfl ?_
                    refine ops_val (ex_fieldAddr fl79_0 rfl) ?_
                    refine ops_yes rfl ?_
                    refine ops_val (ex_load ty3 rfl (H4.cell (i := 1) rfl rfl)) ?_
                    refine nO115 ?_
                    refine ops_yes rfl ?_
                    refine ops_test (ex_gtr rfl rfl) (fun hp88 => ?_) (fun hp88 => ?_)
                    · skip
                      refine ops_val (ex_pick_f rfl rfl) ?_
                      refine ops_val (ex_move rfl) ?_
                      refine nO115 ?_
                      refine ops_no rfl ?_
                      refine ops_no rfl ?_
                      refine nO115 ?_
                      refine ops_no rfl ?_
                      refine ops_no rfl ?_
                      refine ops_val (ex_pick_t rfl rfl) ?_
                      refine ops_nil ?_
                      refine nR115 ?_
                      refine run_cond_true rfl ?_
                      refine run_seq ?_
                      refine run_region ?_
                      refine ops_val (ex_assign rfl) ?_
                      refine ops_val (ex_assign rfl) ?_
                      refine ops_nil ?_
                      refine nR115 ?_
                      refine run_ret ?_
                      refine blk_ret ?_
                      refine rnd_ret ?_
                      refine blk_ret ?_
                      refine fin_ret2 rfl rfl rfl ?_
                      exact ⟨_, _, rfl, Ans.no (chk_f3 (by rw [hinv]; exact ent_no hx fun hh => by omega)), H4.noRows⟩
                    · skip
                      refine ops_val (ex_pick_f rfl rfl) ?_
                      refine ops_val (ex_move rfl) ?_
                      refine nO115 ?_
                      refine ops_yes rfl ?_
                      refine ops_val (ex_fieldAddr fl79_1 rfl) ?_
                      refine ops_yes rfl ?_
                      refine ops_val (ex_load ty73 rfl (H4.cell (i := 1) rfl rfl)) ?_
                      refine nO115 ?_
                      refine ops_yes rfl ?_
                      refine ops_val (ex_len_slice Tryz.underlying73 rfl) ?_
                      refine ops_yes rfl ?_
                      refine ops_test (ex_gtr rfl rfl) (fun hp94 => ?_) (fun hp94 => ?_)
                      · skip
                        refine ops_val (ex_pick_f rfl rfl) ?_
                        refine ops_nil ?_
                        refine nR115 ?_
                        refine run_cond_true rfl ?_
                        refine run_seq ?_
                        refine run_region ?_
                        refine ops_val (ex_assign rfl) ?_
                        refine ops_val (ex_assign rfl) ?_
                        refine ops_nil ?_
                        refine nR115 ?_
                        refine run_ret ?_
                        refine blk_ret ?_
                        refine rnd_ret ?_
                        refine blk_ret ?_
                        refine fin_ret2 rfl rfl rfl ?_
                        exact ⟨_, _, rfl, Ans.no (chk_f3 (by rw [hinv]; exact ent_no hx fun hh => by omega)), H4.noRows⟩
                      · skip
                        refine ops_val (ex_pick_f rfl rfl) ?_
                        refine ops_nil ?_
                        refine nR115 ?_
                        refine run_cond_false rfl ?_
                        refine run_skip ?_
                        refine run_nil (blk_normal ?_)
                        refine run_region ?_
                        refine ops_val (ex_add rfl rfl (IntWalk.i64_in _ (by omega))) ?_
                        refine ops_val (ex_move rfl) ?_
                        refine ops_nil ?_
                        refine nR115 ?_
                        refine run_nil (rnd_normal ?_)
                        have hgo := ent_go (m := s.index + i) hx ⟨by omega, by omega, by omega⟩
                        exact ⟨s.entries.length - (i + 1), by omega, i + 1, _, rfl, (fn (fs (fn (fn (fn (fs (fn (fn (fn (fn (fn (fn (fn (fn (fn (fn (fn (fn (fn (fn (fn (fn (fn (fn (fn (fn (fn (fn (fn (fn (fn (fn (fn (fn (fn (fn (fn (fn (fn (fn (fn (fn (fn (fn (fn (fn (fn (fn (fn (fn (fn (fn (fn (fn (fn (fn (fn (fn (fn (fn (fn (fn (fn (fn (fn (fn (fn (fn (fn (fn (fs (fs (fs (fn (fn (fn (fn (fn (fn (fn (fn (fn (fn (fn (fn (fn (fn (fn (fn (fn (fn (fn (fn (fn (fn (fn (fn (fn (fn (fn (fn (fn (fn (fn (fn (fn (fn (fn (fn (fn (fn (fn (fn (fn (fn f0))))))))))))))))))))))))))))))))))))))))))))))))))))))))))))))))))))))))))))))))))))))))))))))))))))))))))))))))))), by omega, by omega, by rw [hinv, hgo]; congr 1; omega, H4.pick [0] (by decide)⟩
                · obtain rfl : i = s.entries.length := by omega
                  have hent := hinv.trans ent_end
                  refine ops_nil ?_
                  refine nR115 ?_
                  refine run_seq ?_
                  refine run_cond_false rfl ?_
                  refine run_exit ?_
                  refine rnd_exit ?_
                  refine blk_exit ?_
                  refine run_seq ?_
                  refine run_region ?_
                  refine ops_val (ex_fieldAddr fl97_0 rfl) ?_
                  refine ops_val (ex_loadN ty75 rfl (vs := [.int .i64 s.p.r, .int .i64 s.p.n]) rfl (H2.cellsR (i := 0) rfl rfl)) ?_
                  refine ops_val (ex_fieldAddr fl97_2 rfl) ?_
                  refine ops_val (ex_load ty3 rfl (H2.cell (i := 0) rfl rfl)) ?_
                  refine nO115 ?_
                  refine ops_val (ex_fieldAddr fl97_4 rfl) ?_
                  refine ops_val (ex_load ty95 rfl (H2.cell (i := 0) rfl rfl)) ?_
                  refine ops_val (ex_len_slice Tryz.underlying95 rfl) ?_
                  refine ops_val (ex_add rfl rfl (IntWalk.i64_in _ (by omega))) ?_
                  refine nO115 ?_
                  refine ops_val (ex_add rfl rfl (IntWalk.i64_in _ (by omega))) ?_
                  refine ops_val (ex_fieldAddr fl97_1 rfl) ?_
                  refine ops_val (ex_load ty94 rfl (H2.cell (i := 0) rfl rfl)) ?_
                  refine ops_call (ex_call gf171 rfl) (load_a s.p (s.index + s.entries.length + 1) A1 k1 s.votes ok _ (hv1.toV H2 k0) (by omega)) ?_
                  rintro _ w3 ⟨v, e, rfl, hans, Hd⟩
                  have H3 := H2.callN Hd
                  rw [← chk_ld (by omega) (by omega) hent] at hans
                  refine nO115 ?_
                  refine ops_val (ex_move rfl) ?_
                  refine ops_val (ex_extract rfl rfl) ?_
                  refine ops_val (ex_extract rfl rfl) ?_
                  refine ops_val (ex_assign rfl) ?_
                  refine nO115 ?_
                  refine ops_val (ex_assign rfl) ?_
                  refine ops_nil ?_
                  refine nR115 ?_
                  refine run_seq ?_
                  refine run_seq ?_
                  refine run_region ?_
                  refine ops_val (ex_move rfl) ?_
                  refine ops_test (ex_neq rfl rfl) (fun hp113 => ?_) (fun hp113 => ?_)
                  · skip
                    refine ops_nil ?_
                    refine nR115 ?_
                    refine run_cond_true rfl ?_
                    refine run_seq ?_
                    refine run_region ?_
                    refine ops_val (ex_assign rfl) ?_
                    refine ops_val (ex_assign rfl) ?_
                    refine ops_nil ?_
                    refine nR115 ?_
                    refine run_ret ?_
                    refine fin_ret2 rfl rfl rfl ?_
                    exact ⟨_, _, rfl, Ans.no (by cases hc : chk s with | false => rfl | true => exact absurd (hans.1 hc) hp113), H3.noRows⟩
                  · skip
                    refine ops_nil ?_
                    refine nR115 ?_
                    refine run_cond_false rfl ?_
                    refine run_skip ?_
                    refine run_seq ?_
                    refine run_region ?_
                    refine ops_val (ex_move rfl) ?_
                    refine ops_val (ex_assign rfl) ?_
                    refine ops_val (ex_assign rfl) ?_
                    refine ops_nil ?_
                    refine nR115 ?_
                    refine run_ret ?_
                    refine fin_ret2 rfl rfl rfl ?_
                    exact ⟨_, _, rfl, Ans.ok (by cases hc : chk s with | true => rfl | false => have := hans.2 hc; omega), H3.noRows⟩
        · skip
          refine ops_yes rfl ?_
          refine ops_val (ex_move rfl) ?_
          refine ops_no rfl ?_
          refine nO115 ?_
          refine ops_no rfl ?_
          refine ops_no rfl ?_
          refine nO115 ?_
          refine ops_no rfl ?_
          refine ops_yes rfl ?_
          refine ops_val (ex_pick_f rfl rfl) ?_
          refine ops_val (ex_pick_f rfl rfl) ?_
          refine ops_val (ex_move rfl) ?_
          refine nO115 ?_
          refine ops_yes rfl ?_
          refine ops_val (ex_fieldAddr fl97_3 rfl) ?_
          refine ops_yes rfl ?_
          refine ops_val (ex_load ty73 rfl (H1.cell (i := 0) rfl rfl)) ?_
          refine nO115 ?_
          refine ops_yes rfl ?_
          refine ops_val (ex_len_slice Tryz.underlying73 rfl) ?_
          refine ops_yes rfl ?_
          refine ops_test (ex_gtr rfl rfl) (fun hp67 => ?_) (fun hp67 => ?_)
          · skip
            refine ops_val (ex_pick_f rfl rfl) ?_
            refine ops_nil ?_
            refine nR115 ?_
            refine run_cond_true rfl ?_
            refine run_seq ?_
            refine run_region ?_
            refine ops_val (ex_assign rfl) ?_
            refine ops_val (ex_assign rfl) ?_
            refine ops_nil ?_
            refine nR115 ?_
            refine run_ret ?_
            refine fin_ret2 rfl rfl rfl ?_
            exact ⟨_, _, rfl, Ans.no (chk_f2 (by omega)), H1.noRows⟩
          · skip
            refine ops_val (ex_pick_f rfl rfl) ?_
            refine ops_nil ?_
            refine nR115 ?_
            refine run_cond_false rfl ?_
            refine run_skip ?_
            refine run_seq ?_
            refine run_seq ?_
            refine run_region ?_
            refine ops_val (ex_fieldAddr fl97_4 rfl) ?_
            refine ops_val (ex_load ty95 rfl (H1.cell (i := 0) rfl rfl)) ?_
            refine ops_val (ex_len_slice Tryz.underlying95 rfl) ?_
            refine ops_val (ex_move rfl) ?_
            refine ops_nil ?_
            refine nR115 ?_
            refine run_block ?_
            refine run_loop (fun nQ lQ w => ∃ (i : Nat) (y : Int), s.entries.length - i = nQ ∧ Fits [none, some (.int .i64 5), none, none, none, some (.pointer (some ⟨gs, 0, none⟩)), none, none, none, none, none, none, none, none, none, none, none, none, none, none, none, none, none, none, none, none, none, none, none, none, none, none, none, none, none, none, none, none, none, none, none, none, none, none, none, none, none, none, none, none, none, none, none, none, none, none, none, none, none, none, none, none, none, none, none, none, none, none, none, none, some (.slice A3 s.entries.length k3), some (.int .i64 (s.entries.length : Int)), some (.int .i64 y), none, none, none, none, none, none, none, none, none, none, none, none, none, none, none, none, none, none, none, none, none, none, none, none, none, none, none, none, none, none, none, none, none, none, none, none, none, none, none, none, none, none] lQ ∧ y = (i : Int) ∧ i ≤ s.entries.length ∧ entOk s.index s.entries = entOk (s.index + i) (s.entries.drop i) ∧ Hp w0 w [] [((some gs, 97, [.int .i64 s.p.r, .int .i64 s.p.n, .slice A1 s.votes.length k1, .int .i64 s.index, .slice A2 s.image.length k2, .slice A3 s.entries.length k3]) : Ent)]) (s.entries.length) ?_ ?_
            · exact ⟨0, _, rfl, (fn (fs (fn (fn (fn (fs (fn (fn (fn (fn (fn (fn (fn (fn (fn (fn (fn (fn (fn (fn (fn (fn (fn (fn (fn (fn (fn (fn (fn (fn (fn (fn (fn (fn (fn (fn (fn (fn (fn (fn (fn (fn (fn (fn (fn (fn (fn (fn (fn (fn (fn (fn (fn (fn (fn (fn (fn (fn (fn (fn (fn (fn (fn (fn (fn (fn (fn (fn (fn (fn (fs (fs (fs (fn (fn (fn (fn (fn (fn (fn (fn (fn (fn (fn (fn (fn (fn (fn (fn (fn (fn (fn (fn (fn (fn (fn (fn (fn (fn (fn (fn (fn (fn (fn (fn (fn (fn (fn (fn (fn (fn (fn (fn (fn (fn f0))))))))))))))))))))))))))))))))))))))))))))))))))))))))))))))))))))))))))))))))))))))))))))))))))))))))))))))))))), rfl, Nat.zero_le _, by simp, H1⟩
            · rintro nQ lQ w2 ⟨i, y, rfl, hfit, rfl, hi, hinv, H2⟩
              obtain ⟨j, rfl⟩ := hfit.open
              refine nR115 ?_
              clear hfit
              refine run_seq ?_
              refine run_region ?_
              refine ops_test (ex_lss rfl rfl) (fun hp73 => ?_) (fun hp73 => ?_)
              · have hil : i < s.entries.length := by omega
                obtain ⟨x, hx⟩ := get_of hil
                obtain ⟨p1, hp1, hR⟩ := he2.get hx
                obtain ⟨Ax, kx, rfl, hbx⟩ := hR
                obtain ⟨a1, ha1⟩ := hre.some_ (by omega)
                subst ha1
                refine ops_nil ?_
                refine nR115 ?_
                refine run_seq ?_
                refine run_cond_true rfl ?_
                refine run_skip ?_
                refine run_seq ?_
                refine run_block ?_
                refine run_seq ?_
                refine run_region ?_
                refine ops_val (ex_move rfl) ?_
                refine ops_val (ex_idx Tryz.underlying95 ty79 rfl rfl rfl hil rfl) ?_
                refine ops_val (ex_loadN ty79 rfl (vs := [.int .i64 x.slot, .slice Ax x.val.length kx]) rfl ((hre.to0 H2).elem hpe hp1)) ?_
                refine ops_alloc ty79 H2 ?_
                intro w3 g3 H3 hg3
                refine nO115 ?_
                refine ops_val (ex_assign rfl) ?_
                refine ops_store ty79 H3 1 rfl rfl rfl rfl rfl (by first | decide | (simp; done) | simp [putAt]) rfl ?_
                intro w4 H4
                refine ops_nil ?_
                refine nR115 ?_
                refine run_seq ?_
                refine run_region ?_
                refine ops_val (ex_fieldAddr fl79_0 rfl) ?_
                refine ops_val (ex_load ty3 rfl (H4.cell (i := 1) rfl rfl)) ?_
                refine ops_val (ex_fieldAddr fl97_2 rfl) ?_
                refine ops_val (ex_load ty3 rfl (H4.cell (i := 0) rfl rfl)) ?_
                refine nO115 ?_
                refine ops_val (ex_add rfl rfl (IntWalk.i64_in _ (by omega))) ?_
                refine ops_val (ex_move rfl) ?_
                refine ops_val (ex_add rfl rfl (IntWalk.i64_in _ (by omega))) ?_
                refine ops_test (ex_neq rfl rfl) (fun hp84 => ?_) (fun hp84 => ?_)
                · skip
                  refine ops_val (ex_move rfl) ?_
                  refine nO115 ?_
                  refine ops_no rfl ?_
                  refine ops_no rfl ?_
                  refine nO115 ?_
                  refine ops_no rfl ?_
                  refine ops_val (ex_pick_t rfl rfl) ?_
                  refine ops_val (ex_move rfl) ?_
                  refine nO115 ?_
                  refine ops_no rfl ?_
                  refine ops_no rfl ?_
                  refine nO115 ?_
                  refine ops_no rfl ?_
                  refine ops_no rfl ?_
                  refine ops_val (ex_pick_t rfl rfl) ?_
                  refine ops_nil ?_
                  refine nR115 ?_
                  refine run_cond_true rfl ?_
                  refine run_seq ?_
                  refine run_region ?_
                  refine ops_val (ex_assign rfl) ?_
                  refine ops_val (ex_assign rfl) ?_
                  refine ops_nil ?_
                  refine nR115 ?_
                  refine run_ret ?_
                  refine blk_ret ?_
                  refine rnd_ret ?_
                  refine blk_ret ?_
                  refine fin_ret2 rfl rfl rfl ?_
                  exact ⟨_, _, rfl, Ans.no (chk_f3 (by rw [hinv]; exact ent_no hx fun hh => by omega)), H4.noRows⟩
                · skip
                  refine ops_val (ex_move rfl) ?_
                  refine nO115 ?_
                  refine ops_yes rfl ?_
                  refine ops_val (ex_fieldAddr fl79_0 rfl) ?_
                  refine ops_yes rfl ?_
                  refine ops_val (ex_load ty3 rfl (H4.cell (i := 1) rfl rfl)) ?_
                  refine nO115 ?_
                  refine ops_yes rfl ?_
                  refine ops_test (ex_gtr rfl rfl) (fun hp88 => ?_) (fun hp88 => ?_)
                  · skip
                    refine ops_val (ex_pick_f rfl rfl) ?_
                    refine ops_val (ex_move rfl) ?_
                    refine nO115 ?_
                    refine ops_no rfl ?_
                    refine ops_no rfl ?_
                    refine nO115 ?_
                    refine ops_no rfl ?_
                    refine ops_no rfl ?_
                    refine ops_val (ex_pick_t rfl rfl) ?_
                    refine ops_nil ?_
                    refine nR115 ?_
                    refine run_cond_true rfl ?_
                    refine run_seq ?_
                    refine run_region ?_
                    refine ops_val (ex_assign rfl) ?_
                    refine ops_val (ex_assign rfl) ?_
                    refine ops_nil ?_
                    refine nR115 ?_
                    refine run_ret ?_
                    refine blk_ret ?_
                    refine rnd_ret ?_
                    refine blk_ret ?_
                    refine fin_ret2 rfl rfl rfl ?_
                    exact ⟨_, _, rfl, Ans.no (chk_f3 (by rw [hinv]; exact ent_no hx fun hh => by omega)), H4.noRows⟩
                  · skip
                    refine ops_val (ex_pick_f rfl rfl) ?_
                    refine ops_val (ex_move rfl) ?_
                    refine nO115 ?_
                    refine ops_yes rfl ?_
                    refine ops_val (ex_fieldAddr fl79_1 rfl) ?_
                    refine ops_yes rfl ?_
                    refine ops_val (ex_load ty73 rfl (H4.cell (i := 1) rfl rfl)) ?_
                    refine nO115 ?_
                    refine ops_yes rfl ?_
                    refine ops_val (ex_len_slice Tryz.underlying73 rfl) ?_
                    refine ops_yes rfl ?_
                    refine ops_test (ex_gtr rfl rfl) (fun hp94 => ?_) (fun hp94 => ?_)
                    · skip
                      refine ops_val (ex_pick_f rfl rfl) ?_
                      refine ops_nil ?_
                      refine nR115 ?_
                      refine run_cond_true rfl ?_
                      refine run_seq ?_
                      refine run_region ?_
                      refine ops_val (ex_assign rfl) ?_
                      refine ops_val (ex_assign rfl) ?_
                      refine ops_nil ?_
                      refine nR115 ?_
                      refine run_ret ?_
                      refine blk_ret ?_
                      refine rnd_ret ?_
                      refine blk_ret ?_
                      refine fin_ret2 rfl rfl rfl ?_
                      exact ⟨_, _, rfl, Ans.no (chk_f3 (by rw [hinv]; exact ent_no hx fun hh => by omega)), H4.noRows⟩
                    · skip
                      refine ops_val (ex_pick_f rfl rfl) ?_
                      refine ops_nil ?_
                      refine nR115 ?_
                      refine run_cond_false rfl ?_
                      refine run_skip ?_
                      refine run_nil (blk_normal ?_)
                      refine run_region ?_
                      refine ops_val (ex_add rfl rfl (IntWalk.i64_in _ (by omega))) ?_
                      refine ops_val (ex_move rfl) ?_
                      refine ops_nil ?_
                      refine nR115 ?_
                      refine run_nil (rnd_normal ?_)
                      have hgo := ent_go (m := s.index + i) hx ⟨by omega, by omega, by omega⟩
                      exact ⟨s.entries.length - (i + 1), by omega, i + 1, _, rfl, (fn (fs (fn (fn (fn (fs (fn (fn (fn (fn (fn (fn (fn (fn (fn (fn (fn (fn (fn (fn (fn (fn (fn (fn (fn (fn (fn (fn (fn (fn (fn (fn (fn (fn (fn (fn (fn (fn (fn (fn (fn (fn (fn (fn (fn (fn (fn (fn (fn (fn (fn (fn (fn (fn (fn (fn (fn (fn (fn (fn (fn (fn (fn (fn (fn (fn (fn (fn (fn (fn (fs (fs (fs (fn (fn (fn (fn (fn (fn (fn (fn (fn (fn (fn (fn (fn (fn (fn (fn (fn (fn (fn (fn (fn (fn (fn (fn (fn (fn (fn (fn (fn (fn (fn (fn (fn (fn (fn (fn (fn (fn (fn (fn (fn (fn f0))))))))))))))))))))))))))))))))))))))))))))))))))))))))))))))))))))))))))))))))))))))))))))))))))))))))))))))))))), by omega, by omega, by rw [hinv, hgo]; congr 1; omega, H4.pick [0] (by decide)⟩
              · obtain rfl : i = s.entries.length := by omega
                have hent := hinv.trans ent_end
                refine ops_nil ?_
                refine nR115 ?_
                refine run_seq ?_
                refine run_cond_false rfl ?_
                refine run_exit ?_
                refine rnd_exit ?_
                refine blk_exit ?_
                refine run_seq ?_
                refine run_region ?_
                refine ops_val (ex_fieldAddr fl97_0 rfl) ?_
                refine ops_val (ex_loadN ty75 rfl (vs := [.int .i64 s.p.r, .int .i64 s.p.n]) rfl (H2.cellsR (i := 0) rfl rfl)) ?_
                refine ops_val (ex_fieldAddr fl97_2 rfl) ?_
                refine ops_val (ex_load ty3 rfl (H2.cell (i := 0) rfl rfl)) ?_
                refine nO115 ?_
                refine ops_val (ex_fieldAddr fl97_4 rfl) ?_
                refine ops_val (ex_load ty95 rfl (H2.cell (i := 0) rfl rfl)) ?_
                refine ops_val (ex_len_slice Tryz.underlying95 rfl) ?_
                refine ops_val (ex_add rfl rfl (IntWalk.i64_in _ (by omega))) ?_
                refine nO115 ?_
                refine ops_val (ex_add rfl rfl (IntWalk.i64_in _ (by omega))) ?_
                refine ops_val (ex_fieldAddr fl97_1 rfl) ?_
                refine ops_val (ex_load ty94 rfl (H2.cell (i := 0) rfl rfl)) ?_
                refine ops_call (ex_call gf171 rfl) (load_a s.p (s.index + s.entries.length + 1) A1 k1 s.votes ok _ (hv1.toV H2 k0) (by omega)) ?_
                rintro _ w3 ⟨v, e, rfl, hans, Hd⟩
                have H3 := H2.callN Hd
                rw [← chk_ld (by omega) (by omega) hent] at hans
                refine nO115 ?_
                refine ops_val (ex_move rfl) ?_
                refine ops_val (ex_extract rfl rfl) ?_
                refine ops_val (ex_extract rfl rfl) ?_
                refine ops_val (ex_assign rfl) ?_
                refine nO115 ?_
                refine ops_val (ex_assign rfl) ?_
                refine ops_nil ?_
                refine nR115 ?_
                refine run_seq ?_
                refine run_seq ?_
                refine run_region ?_
                refine ops_val (ex_move rfl) ?_
                refine ops_test (ex_neq rfl rfl) (fun hp113 => ?_) (fun hp113 => ?_)
                · skip
                  refine ops_nil ?_
                  refine nR115 ?_
                  refine run_cond_true rfl ?_
                  refine run_seq ?_
                  refine run_region ?_
                  refine ops_val (ex_assign rfl) ?_
                  refine ops_val (ex_assign rfl) ?_
                  refine ops_nil ?_
                  refine nR115 ?_
                  refine run_ret ?_
                  refine fin_ret2 rfl rfl rfl ?_
                  exact ⟨_, _, rfl, Ans.no (by cases hc : chk s with | false => rfl | true => exact absurd (hans.1 hc) hp113), H3.noRows⟩
                · skip
                  refine ops_nil ?_
                  refine nR115 ?_
                  refine run_cond_false rfl ?_
                  refine run_skip ?_
                  refine run_seq ?_
                  refine run_region ?_
                  refine ops_val (ex_move rfl) ?_
                  refine ops_val (ex_assign rfl) ?_
                  refine ops_val (ex_assign rfl) ?_
                  refine ops_nil ?_
                  refine nR115 ?_
                  refine run_ret ?_
                  refine fin_ret2 rfl rfl rfl ?_
                  exact ⟨_, _, rfl, Ans.ok (by cases hc : chk s with | true => rfl | false => have := hans.2 hc; omega), H3.noRows⟩
set_option maxRecDepth 100000 in
set_option maxHeartbeats 4000000 in
theorem check_p (s : Sv) (A1 : Option Addr) (k1 : Nat) (A2 : Option Addr) (k2 : Nat) (A3 : Option Addr) (k3 : Nat) (ok : Nat → Prop) (w0 : World) (hv1 : Sl (VtR w0 ok) 4 w0 ok A1 s.votes) (hv2 : Bs w0 ok A2 s.image) (hv3 : Sl (EnR w0 ok) 2 w0 ok A3 s.entries) (hvl : s.votes.length ≤ 1000000000000000000) (hel2 : s.entries.length ≤ 1000000000000000000) :
    Does Tryz.prog 68 #[.int .i64 1, .int .i64 5, .agg [.int .i64 s.p.r, .int .i64 s.p.n, .slice A1 s.votes.length k1, .int .i64 s.index, .slice A2 s.image.length k2, .slice A3 s.entries.length k3].toArray] w0 (fun r w' => ∃ e : Int, r = .int .i64 e ∧ Ans (chk s) e ∧ Hp w0 w' [] []) := by
  refine does_of Tryz.func68 Tryz.ntmps68 rfl ?_
  refine nR17 ?_
  have H := Hp.refl w0
  refine run_seq ?_
  refine run_region ?_
  refine ops_box rfl rfl H ?_
  intro w1 g1 H1 hg1
  refine ops_val (ex_assign rfl) ?_
  refine ops_nil ?_
  refine nR17 ?_
  refine run_seq ?_
  refine run_region ?_
  refine ops_val (ex_move rfl) ?_
  refine ops_val (ex_move rfl) ?_
  refine ops_val (ex_loadN ty97 rfl (vs := [.int .i64 s.p.r, .int .i64 s.p.n, .slice A1 s.votes.length k1, .int .i64 s.index, .slice A2 s.image.length k2, .slice A3 s.entries.length k3]) rfl (H1.cellsR (i := 0) rfl rfl)) ?_
  refine ops_call (ex_call gf120 rfl) (load_p s A1 k1 A2 k2 A3 k3 ok _ (hv1.toV H1 k0) (hv2.to H1 k0) (hv3.toE H1 k0) hvl hel2) ?_
  rintro _ w2 ⟨v, e, rfl, hans, Hd⟩
  have H2 := H1.callN Hd
  refine nO17 ?_
  refine ops_val (ex_move rfl) ?_
  refine ops_val (ex_extract rfl rfl) ?_
  refine ops_val (ex_extract rfl rfl) ?_
  refine ops_val (ex_assign rfl) ?_
  refine nO17 ?_
  refine ops_val (ex_assign rfl) ?_
  refine ops_nil ?_
  refine nR17 ?_
  refine run_seq ?_
  refine run_region ?_
  refine ops_val (ex_move rfl) ?_
  refine ops_val (ex_assign rfl) ?_
  refine ops_nil ?_
  refine nR17 ?_
  refine run_ret ?_
  refine fin_ret1 rfl rfl ?_
  exact ⟨_, rfl, hans, H2.noRows⟩
end Go.Proofs.YtjoeklkmnfaabaaGreat
/- Walks of layer 2, printed by wip/gen/codec.py. -/
namespace Go.Proofs.YtjoeklkmnfaabaaGreat
open Go Go.RowKit
set_option linter.unusedVariables false
attribute [local irreducible] Still Ops Does Cd
set_option maxRecDepth 100000 in
set_option maxHeartbeats 4000000 in
theorem check_l (A : Option Addr) (k : Nat) (l : List Rt) (ok : Nat → Prop) (w0 : World) (hl : Sl RtR 4 w0 ok A l) (hn : l.length ≤ 1000000000000) (hso : rtsOk l) :
    Does Tryz.prog 152 #[.slice A l.length k] w0 (fun r w' => r = .int .i64 0 ∧ Hp w0 w' [] []) := by
  refine does_of Tryz.func152 Tryz.ntmps152 rfl ?_
  refine nR30 ?_
  have H := Hp.refl w0
  obtain ⟨ps, hp, hr, ha, h2⟩ := id hl
  have hlen := h2.len
  obtain ⟨hmays, hrise⟩ := rts_rise hso
  refine run_seq ?_
  refine run_region ?_
  refine ops_val (ex_assign rfl) ?_
  refine ops_nil ?_
  refine nR30 ?_
  refine run_seq ?_
  refine run_seq ?_
  refine run_region ?_
  refine ops_val (ex_move rfl) ?_
  refine ops_val (ex_len_slice Tryz.underlying38 rfl) ?_
  refine ops_val (ex_move rfl) ?_
  refine ops_nil ?_
  refine nR30 ?_
  refine run_block ?_
  refine run_loop (fun nQ lQ w => ∃ (i : Nat) (y : Int), l.length - i = nQ ∧ Fits [some (.slice A l.length k), none, none, none, none, some (.slice A l.length k), some (.int .i64 (l.length : Int)), some (.int .i64 y), none, none, none, none, none, none, none, none, none, none, none, none, none, none, none, none, none, none, none, none, none, none] lQ ∧ y = (i : Int) ∧ i ≤ l.length ∧ Hp w0 w [] []) (l.length) ?_ ?_
  · exact ⟨0, _, rfl, (fs (fn (fn (fn (fn (fs (fs (fs (fn (fn (fn (fn (fn (fn (fn (fn (fn (fn (fn (fn (fn (fn (fn (fn (fn (fn (fn (fn (fn (fn f0)))))))))))))))))))))))))))))), rfl, Nat.zero_le _, H⟩
  · rintro nQ lQ w1 ⟨i, y, rfl, hfit, rfl, hi, H1⟩
    obtain ⟨j, rfl⟩ := hfit.open
    refine nR30 ?_
    clear hfit
    refine run_seq ?_
    refine run_region ?_
    refine ops_test (ex_lss rfl rfl) (fun hp8 => ?_) (fun hp8 => ?_)
    · have hil : i < l.length := by omega
      obtain ⟨x, hx⟩ := get_of hil
      obtain ⟨p1, hp1, hR⟩ := h2.get hx
      unfold RtR at hR
      subst hR
      obtain ⟨a1, ha1⟩ := hr.some_ (by omega)
      subst ha1
      have hmay := hmays x (mem_of hx)
      refine ops_nil ?_
      refine nR30 ?_
      refine run_seq ?_
      refine run_cond_true rfl ?_
      refine run_skip ?_
      refine run_seq ?_
      refine run_block ?_
      refine run_seq ?_
      refine run_region ?_
      refine ops_val (ex_move rfl) ?_
      refine ops_val (ex_idx Tryz.underlying38 ty35 rfl rfl rfl hil rfl) ?_
      refine ops_val (ex_loadN ty35 rfl (vs := [.int .i64 x.g, strV x.key, .int .i64 x.lease, .int .i64 x.net]) rfl ((hr.to0 H1).elem hp hp1)) ?_
      refine ops_alloc ty35 H1 ?_
      intro w2 g2 H2 hg2
      refine nO30 ?_
      refine ops_val (ex_assign rfl) ?_
      refine ops_store ty35 H2 0 rfl rfl rfl rfl rfl (by first | decide | (simp; done) | simp [putAt]) rfl ?_
      intro w3 H3
      refine ops_nil ?_
      refine nR30 ?_
      refine run_seq ?_
      refine run_mixZ 16 [(true, 0), (false, 1), (true, 2), (true, 3), (true, 4), (true, 5), (true, 6), (true, 7), (true, 8), (true, 9), (true, 10), (true, 11), (true, 12), (false, 13), (true, 14), (true, 15), (false, 16)] H3 [0] mixed (by decide) (by kernel_rfl) ?_
      rintro w4 hw4
      have H4 := Hp.drew H3; rw [← hw4] at H4
      refine mixz_p rfl ?_
      refine mix1_val (fun wz hz => ex_loadN ty35 rfl (vs := [.int .i64 x.g, strV x.key, .int .i64 x.lease, .int .i64 x.net]) rfl (hz.cellsR (i := 0) rfl rfl)) ?_
      refine mixz_o rfl ?_
      refine ops_call_true (ex_call gf153 rfl) (may_l _ _) (hmay) ?_
      intro w5 Hd
      have H5 := H4.callN Hd
      refine ops_nil ?_
      refine ⟨fun hne => H5.pick [0] (by decide), ?_⟩
      refine nZ30 ?_
      refine mixz_p rfl ?_
      refine mix1_val (fun wz hz => ex_not rfl) ?_
      refine mixz_p rfl ?_
      refine mix1_val (fun wz hz => ex_move rfl) ?_
      refine mixz_p rfl ?_
      refine mix1_yes rfl ?_
      refine mix1_val (fun wz hz => ex_move rfl) ?_
      refine mixz_p rfl ?_
      refine mix1_yes rfl ?_
      refine mix1_test (fun wz hz => ex_gtr rfl rfl) (fun hp17 => ?_) (fun hp17 => ?_)
      · obtain ⟨y, hy⟩ := get_of (l := l) (j := i - 1) (by omega)
        obtain ⟨p2, hp2, hR2⟩ := h2.get hy
        unfold RtR at hR2
        subst hR2
        have hneg : ordR y x < 0 := ordR_lt.2 (hrise (i - 1) i y x (by omega) hy hx)
        refine mixz_p rfl ?_
        refine mix1_yes rfl ?_
        refine mix1_val (fun wz hz => ex_move rfl) ?_
        refine nZ30 ?_
        refine mixz_p rfl ?_
        refine mix1_yes rfl ?_
        refine mix1_val (fun wz hz => ex_move rfl) ?_
        refine mixz_p rfl ?_
        refine mix1_yes rfl ?_
        refine mix1_val (fun wz hz => ex_move rfl) ?_
        refine mixz_p rfl ?_
        refine mix1_yes rfl ?_
        refine mix1_val (fun wz hz => ex_sub rfl rfl (IntWalk.i64_in _ (by omega))) ?_
        refine mixz_p rfl ?_
        refine mix1_yes rfl ?_
        refine mix1_val (fun wz hz => ex_idx Tryz.underlying38 ty35 rfl rfl (len := l.length) (i := i - 1) (by omega) (by omega) rfl) ?_
        refine nZ30 ?_
        refine mixz_p rfl ?_
        refine mix1_yes rfl ?_
        refine mix1_val (fun wz hz => ex_loadN ty35 rfl (vs := [.int .i64 y.g, strV y.key, .int .i64 y.lease, .int .i64 y.net]) rfl ((hr.to0 hz).elem hp hp2)) ?_
        refine mixz_p rfl ?_
        refine mix1_yes rfl ?_
        refine mix1_val (fun wz hz => ex_loadN ty35 rfl (vs := [.int .i64 x.g, strV x.key, .int .i64 x.lease, .int .i64 x.net]) rfl (hz.cellsR (i := 0) rfl rfl)) ?_
        refine mixz_o rfl ?_
        refine ops_yes rfl ?_
        refine ops_call_val (ex_call gf155 rfl) (orderC y x _) ?_
        intro w6 Hd
        have H6 := H5.callN Hd
        refine ops_nil ?_
        refine ⟨fun hne => H6.pick [0] (by decide), ?_⟩
        refine nZ30 ?_
        refine mixz_p rfl ?_
        refine mix1_yes rfl ?_
        refine mix1_false (fun wz hz => ex_geq rfl rfl) (by omega) ?_
        refine mixz_p rfl ?_
        refine mix1_yes rfl ?_
        refine mix1_val (fun wz hz => ex_pick_t rfl rfl) ?_
        refine mixz_o rfl ?_
        refine ops_val (ex_pick_f rfl rfl) ?_
        refine ops_nil ?_
        refine ⟨fun hne => absurd rfl hne, ?_⟩
        refine nZ30 ?_
        refine mixz_nil ?_
        refine nR30 ?_
        refine run_cond_false rfl ?_
        refine run_skip ?_
        refine run_nil (blk_normal ?_)
        refine run_region ?_
        refine ops_val (ex_add rfl rfl (IntWalk.i64_in _ (by omega))) ?_
        refine ops_val (ex_move rfl) ?_
        refine ops_nil ?_
        refine nR30 ?_
        refine run_nil (rnd_normal ?_)
        exact ⟨l.length - (i + 1), by omega, i + 1, _, rfl, (fs (fn (fn (fn (fn (fs (fs (fs (fn (fn (fn (fn (fn (fn (fn (fn (fn (fn (fn (fn (fn (fn (fn (fn (fn (fn (fn (fn (fn (fn f0)))))))))))))))))))))))))))))), by omega, by omega, H6.noRows⟩
      · skip
        refine mixz_p rfl ?_
        refine mix1_yes rfl ?_
        refine mix1_val (fun wz hz => ex_move rfl) ?_
        refine nZ30 ?_
        refine mixz_p rfl ?_
        refine mix1_no rfl ?_
        refine mixz_p rfl ?_
        refine mix1_no rfl ?_
        refine nZ30 ?_
        refine mixz_p rfl ?_
        refine mix1_no rfl ?_
        refine mixz_p rfl ?_
        refine mix1_no rfl ?_
        refine nZ30 ?_
        refine mixz_p rfl ?_
        refine mix1_no rfl ?_
        refine mixz_p rfl ?_
        refine mix1_no rfl ?_
        refine nZ30 ?_
        refine mixz_o rfl ?_
        refine ops_no rfl ?_
        refine ops_nil ?_
        refine ⟨fun hne => H5.pick [0] (by decide), ?_⟩
        refine mixz_p rfl ?_
        refine mix1_no rfl ?_
        refine nZ30 ?_
        refine mixz_p rfl ?_
        refine mix1_yes rfl ?_
        refine mix1_val (fun wz hz => ex_pick_f rfl rfl) ?_
        refine mixz_o rfl ?_
        refine ops_val (ex_pick_f rfl rfl) ?_
        refine ops_nil ?_
        refine ⟨fun hne => absurd rfl hne, ?_⟩
        refine nZ30 ?_
        refine mixz_nil ?_
        refine nR30 ?_
        refine run_cond_false rfl ?_
        refine run_skip ?_
        refine run_nil (blk_normal ?_)
        refine run_region ?_
        refine ops_val (ex_add rfl rfl (IntWalk.i64_in _ (by omega))) ?_
        refine ops_val (ex_move rfl) ?_
        refine ops_nil ?_
        refine nR30 ?_
        refine run_nil (rnd_normal ?_)
        exact ⟨l.length - (i + 1), by omega, i + 1, _, rfl, (fs (fn (fn (fn (fn (fs (fs (fs (fn (fn (fn (fn (fn (fn (fn (fn (fn (fn (fn (fn (fn (fn (fn (fn (fn (fn (fn (fn (fn (fn f0)))))))))))))))))))))))))))))), by omega, by omega, H5.noRows⟩
    · skip
      refine ops_nil ?_
      refine nR30 ?_
      refine run_seq ?_
      refine run_cond_false rfl ?_
      refine run_exit ?_
      refine rnd_exit ?_
      refine blk_exit ?_
      refine run_seq ?_
      refine run_region ?_
      refine ops_val (ex_assign rfl) ?_
      refine ops_nil ?_
      refine nR30 ?_
      refine run_ret ?_
      refine fin_ret1 rfl rfl ?_
      exact ⟨rfl, H1.noRows⟩
set_option maxRecDepth 100000 in
set_option maxHeartbeats 16000000 in
theorem put_l (x : Rt) (A : Option Addr) (k : Nat) (l : List Rt) (ok : Nat → Prop) (w0 : World) (hl : Sl RtR 4 w0 ok A l) (hn : l.length ≤ 1000000000000) (hso : rtsOk l) :
    Does Tryz.prog 111 #[.slice A l.length k, .agg [.int .i64 x.g, strV x.key, .int .i64 x.lease, .int .i64 x.net].toArray] w0 (fun r w' => (mayR x → ∃ A' k', r = .tuple #[.slice A' (putRt l x).length k', .int .i64 0] ∧ Sl RtR 4 w' (fun b => w0.heap.size ≤ b) A' (putRt l x)) ∧ (¬ mayR x → r = .tuple #[.slice none 0 0, .int .i64 1]) ∧ Hp w0 w' [] []) := by
  refine does_of Tryz.func111 Tryz.ntmps111 rfl ?_
  refine nR34 ?_
  have H := Hp.refl w0
  obtain ⟨ps, hp, hr, ha, h2⟩ := id hl
  have hlen := h2.len
  obtain ⟨hmays, hrise⟩ := rts_rise hso
  have hon := h2.ones fun _ _ h => h.ones
  refine run_seq ?_
  refine run_region ?_
  refine ops_box rfl rfl H ?_
  intro w1 gx H1 _
  refine ops_val (ex_assign rfl) ?_
  refine ops_val (ex_assign rfl) ?_
  refine ops_nil ?_
  refine nR34 ?_
  refine run_seq ?_
  refine run_seq ?_
  refine run_region ?_
  refine ops_val (ex_move rfl) ?_
  refine ops_call_val (ex_call gf152 rfl) (check_l A k l ok _ (hl.toR H1 k0) hn hso) ?_
  intro w2 Hd
  have H2 := H1.callN Hd
  refine ops_false (ex_neq rfl rfl) (by decide) ?_
  refine ops_nil ?_
  refine nR34 ?_
  refine run_cond_false rfl ?_
  refine run_skip ?_
  refine run_seq ?_
  refine run_seq ?_
  refine run_region ?_
  refine ops_val (ex_loadN ty35 rfl (vs := [.int .i64 x.g, strV x.key, .int .i64 x.lease, .int .i64 x.net]) rfl (H2.cellsR (i := 0) rfl rfl)) ?_
  refine ops_call_test (ex_call gf153 rfl) (may_l _ _) (fun hp13 w3 Hd => ?_) (fun hp13 w3 Hd => ?_)
  · have H3 := H2.callN Hd
    refine ops_val (ex_not rfl) ?_
    refine ops_nil ?_
    refine nR34 ?_
    refine run_cond_false rfl ?_
    refine run_skip ?_
    refine run_seq ?_
    refine run_region ?_
    refine ops_val (ex_move rfl) ?_
    refine ops_call (ex_call gf38 rfl) (cloneR A l.length k ps.flatten _ (hr.to0 H3) (ones_flatten hon) (by omega)) ?_
    rintro _ w4 ⟨gv, cv, sv, rfl, hmv, hcv, hgv0, Hc⟩
    have hgf := row_new (ok := fun _ => False) Hc (i := 0) rfl (fun _ h => by cases h)
    have hsz1 := H3.size
    have H4 := H3.call0 Hc
    refine ops_val (ex_assign rfl) ?_
    refine ops_nil ?_
    refine nR34 ?_
    refine run_seq ?_
    refine run_region ?_
    refine ops_val (ex_move rfl) ?_
    refine ops_val (ex_loadN ty35 rfl (vs := [.int .i64 x.g, strV x.key, .int .i64 x.lease, .int .i64 x.net]) rfl (H4.cellsR (i := 0) rfl rfl)) ?_
    have hrs := H4.rd (i := 1) (xs := ps.flatten) (sp := sv) rfl hp.len (by decide)
    refine ops_call (ex_call gf154 rfl) (bsearchR (hd gv) cv ps l.length hlen 155 (rtC x) rfl (rtCf x) _ hp hrs (by omega) (cmp_right h2 (rise_rt hrise x))) ?_
    rintro _ w5 ⟨i, f, rfl, hfd, Hd⟩
    have H5 := H4.callN Hd
    refine ops_val (ex_move rfl) ?_
    refine nO34 ?_
    refine ops_val (ex_extract rfl rfl) ?_
    refine ops_val (ex_extract rfl rfl) ?_
    refine ops_val (ex_assign rfl) ?_
    refine ops_val (ex_assign rfl) ?_
    refine ops_nil ?_
    refine nR34 ?_
    refine run_seq ?_
    refine run_seq ?_
    refine run_region ?_
    refine ops_val (ex_move rfl) ?_
    refine ops_nil ?_
    refine nR34 ?_
    refine run_cond rfl (fun hb23 => ?_) (fun hb23 => ?_)
    · obtain ⟨pi, hpi, _⟩ := hfd.yes hb23
      have hil := lt_of_get hpi
      obtain ⟨gw, rfl⟩ := own_some H5 (i := 1) rfl (by rw [List.length_append, hp.len]; omega)
      subst hb23
      refine run_seq ?_
      refine run_region ?_
      refine ops_val (ex_move rfl) ?_
      refine ops_val (ex_move rfl) ?_
      refine ops_val (ex_loadN ty35 rfl (vs := [.int .i64 x.g, strV x.key, .int .i64 x.lease, .int .i64 x.net]) rfl (H5.cellsR (i := 0) rfl rfl)) ?_
      refine ops_val (ex_idxN Tryz.underlying38 ty35 rfl rfl rfl (by omega)) ?_
      refine nO34 ?_
      refine ops_store ty35 H5 1 rfl rfl rfl rfl rfl (by rw [List.length_append, hp.len]; show 0 + i * 4 + 4 ≤ _; omega) rfl ?_
      intro w6 H6
      rw [store_elem (sz := 4) (vs := rtC x) hp hil rfl] at H6
      replace H6 := H6.pick [0, 1] (by decide)
      refine ops_nil ?_
      refine nR34 ?_
      refine run_seq ?_
      refine run_region ?_
      refine ops_val (ex_move rfl) ?_
      refine ops_val (ex_assign rfl) ?_
      refine ops_val (ex_assign rfl) ?_
      refine ops_nil ?_
      refine nR34 ?_
      refine run_ret ?_
      refine fin_ret2 rfl rfl rfl ?_
      have hput := hfd.put (v := x) h2 (fun p x h => rtCf_eq h) (rise_rt hrise x)
      rw [← putRt_eq] at hput
      have HZ := H6
      rw [if_pos rfl] at hput
      refine ⟨fun _ => ⟨hd (some gw), cv, by rw [hput, List.length_set], ?_⟩, fun h => absurd hp13 h, H6.noRows⟩
      rw [hput]
      exact Sl.row HZ (i := 1) rfl (hp.set_len rfl) (by decide) (h2.set i rfl) (fun b hb => by
        rcases HZ.place (i := 1) (g := b) (by cases hb; rfl) with h | h
        · cases h
        · exact h)
    · subst hb23
      refine run_skip ?_
      refine run_seq ?_
      refine run_region ?_
      refine ops_val (ex_move rfl) ?_
      refine ops_val (ex_move rfl) ?_
      refine ops_val (ex_loadN ty35 rfl (vs := [.int .i64 x.g, strV x.key, .int .i64 x.lease, .int .i64 x.net]) rfl (H5.cellsR (i := 0) rfl rfl)) ?_
      refine ops_buildSlice Tryz.underlying38 ty35 H5 rfl (by decide) rfl ?_
      intro w6 g6 H6 hg6
      refine nO34 ?_
      refine ops_call (ex_call gf156 rfl) (insertR gv cv i _ l.length ps hlen (rtC x) sv _ (H6.pick [1] (by decide)).here hp hon (by omega) hcv hgv0 hfd.le (H6.at (i := 2) rfl) rfl rfl (row_not H6 (i := 2) (is := [1]) rfl (by decide)) (by omega)) ?_
      rintro _ w7 ⟨gw, cw, sw, rfl, hnw, hcw, hgw, Hd⟩
      rw [hlen]
      have H7 := (H6.callr [1] rfl Hd).pick [0, 3] (by decide)
      refine ops_val (ex_assign rfl) ?_
      refine ops_val (ex_assign rfl) ?_
      refine ops_nil ?_
      refine nR34 ?_
      refine run_ret ?_
      refine fin_ret2 rfl rfl rfl ?_
      have hput := hfd.put (v := x) h2 (fun p x h => rtCf_eq h) (rise_rt hrise x)
      rw [← putRt_eq] at hput
      have HZ := H7
      rw [if_neg (by decide)] at hput
      have hle := hfd.le
      have hil3 : (l.take i ++ x :: l.drop i).length = l.length + 1 := by rw [List.length_append, List.length_cons, List.length_take, List.length_drop]; omega
      refine ⟨fun _ => ⟨hd gw, cw, by rw [hput, hil3], ?_⟩, fun h => absurd hp13 h, H7.noRows⟩
      rw [hput]
      exact Sl.row HZ (i := 1) rfl ((hp.sub fun x hx => List.mem_of_mem_take hx).app fun x hx => by
        rcases List.mem_cons.1 hx with rfl | hx
        · rfl
        · exact hp x (List.mem_of_mem_drop hx)) (by decide) ((h2.take i).app ⟨rfl, h2.drop i⟩) (fun b hb => by
        rcases HZ.place (i := 1) (g := b) (by cases hb; rfl) with h | h
        · cases h
        · exact h)
  · have H3 := H2.callN Hd
    refine ops_val (ex_not rfl) ?_
    refine ops_nil ?_
    refine nR34 ?_
    refine run_cond_true rfl ?_
    refine run_seq ?_
    refine run_region ?_
    refine ops_val (ex_assign rfl) ?_
    refine ops_val (ex_assign rfl) ?_
    refine ops_nil ?_
    refine nR34 ?_
    refine run_ret ?_
    refine fin_ret2 rfl rfl rfl ?_
    exact ⟨fun h => absurd h hp13, fun _ => rfl, H3.noRows⟩
set_option maxRecDepth 100000 in
set_option maxHeartbeats 4000000 in
theorem check_s (A : Option Addr) (k : Nat) (l : List Mk) (ok : Nat → Prop) (w0 : World) (hl : Sl MkR 7 w0 ok A l) (hn : l.length ≤ 1000000000000) (hso : mksOk 0 l) :
    Does Tryz.prog 157 #[.slice A l.length k] w0 (fun r w' => r = .int .i64 0 ∧ Hp w0 w' [] []) := by
  refine does_of Tryz.func157 Tryz.ntmps157 rfl ?_
  refine nR49 ?_
  have H := Hp.refl w0
  obtain ⟨ps, hp, hr, ha, h2⟩ := id hl
  have hlen := h2.len
  obtain ⟨hfit2, hrise⟩ := mks_rise hso
  refine run_seq ?_
  refine run_region ?_
  refine ops_val (ex_assign rfl) ?_
  refine ops_nil ?_
  refine nR49 ?_
  refine run_seq ?_
  refine run_region ?_
  refine ops_val (ex_assign rfl) ?_
  refine ops_nil ?_
  refine nR49 ?_
  refine run_seq ?_
  refine run_seq ?_
  refine run_region ?_
  refine ops_val (ex_move rfl) ?_
  refine ops_val (ex_len_slice Tryz.underlying39 rfl) ?_
  refine ops_val (ex_move rfl) ?_
  refine ops_nil ?_
  refine nR49 ?_
  refine run_block ?_
  refine run_loop (fun nQ lQ w => ∃ (i : Nat) (y m : Int), l.length - i = nQ ∧ Fits [none, none, none, some (.int .i64 m), none, none, some (.slice A l.length k), some (.int .i64 (l.length : Int)), some (.int .i64 y), none, none, none, none, none, none, none, none, none, none, none, none, none, none, none, none, none, none, none, none, none, none, none, none, none, none, none, none, none, none, none, none, none, none, none, none, none, none, none, none] lQ ∧ y = (i : Int) ∧ i ≤ l.length ∧ mksOk m (l.drop i) ∧ Hp w0 w [] []) (l.length) ?_ ?_
  · exact ⟨0, _, 0, rfl, (fn (fn (fn (fs (fn (fn (fs (fs (fs (fn (fn (fn (fn (fn (fn (fn (fn (fn (fn (fn (fn (fn (fn (fn (fn (fn (fn (fn (fn (fn (fn (fn (fn (fn (fn (fn (fn (fn (fn (fn (fn (fn (fn (fn (fn (fn (fn (fn (fn f0))))))))))))))))))))))))))))))))))))))))))))))))), rfl, Nat.zero_le _, hso, H⟩
  · rintro nQ lQ w1 ⟨i, y, m, rfl, hfit, rfl, hi, hinv, H1⟩
    obtain ⟨j, rfl⟩ := hfit.open
    refine nR49 ?_
    clear hfit
    refine run_seq ?_
    refine run_region ?_
    refine ops_test (ex_lss rfl rfl) (fun hp9 => ?_) (fun hp9 => ?_)
    · have hil : i < l.length := by omega
      obtain ⟨x, hx⟩ := get_of hil
      obtain ⟨p1, hp1, hR⟩ := h2.get hx
      unfold MkR at hR
      subst hR
      obtain ⟨a1, ha1⟩ := hr.some_ (by omega)
      subst ha1
      rw [drop_cons hx] at hinv
      obtain ⟨hm1, hm2, hm3, hm4, hm5⟩ := hinv
      refine ops_nil ?_
      refine nR49 ?_
      refine run_seq ?_
      refine run_cond_true rfl ?_
      refine run_skip ?_
      refine run_seq ?_
      refine run_block ?_
      refine run_seq ?_
      refine run_region ?_
      refine ops_val (ex_idx Tryz.underlying39 ty110 rfl rfl rfl hil rfl) ?_
      refine ops_val (ex_loadN ty110 rfl (vs := [.int .i64 x.client, .int .i64 x.seq, .bool false, .int .i64 0, .int .i64 0, .int .i64 0, .int .i64 0]) rfl ((hr.to0 H1).elem hp hp1)) ?_
      refine ops_alloc ty110 H1 ?_
      intro w2 g2 H2 hg2
      refine ops_store ty110 H2 0 rfl rfl rfl rfl rfl (by first | decide | (simp; done) | simp [putAt]) rfl ?_
      intro w3 H3
      refine ops_nil ?_
      refine nR49 ?_
      refine run_seq ?_
      refine run_seq ?_
      refine run_region ?_
      refine ops_val (ex_fieldAddr fl110_0 rfl) ?_
      refine ops_val (ex_load ty3 rfl (H3.cell (i := 0) rfl rfl)) ?_
      refine ops_val (ex_move rfl) ?_
      refine ops_false (ex_leq rfl rfl) (by omega) ?_
      refine nO49 ?_
      refine ops_val (ex_move rfl) ?_
      refine ops_yes rfl ?_
      refine ops_val (ex_fieldAddr fl110_0 rfl) ?_
      refine nO49 ?_
      refine ops_yes rfl ?_
      refine ops_val (ex_load ty3 rfl (H3.cell (i := 0) rfl rfl)) ?_
      refine ops_yes rfl ?_
      refine ops_false (ex_gtr rfl rfl) (by omega) ?_
      refine ops_val (ex_pick_f rfl rfl) ?_
      refine ops_val (ex_move rfl) ?_
      refine nO49 ?_
      refine ops_yes rfl ?_
      refine ops_val (ex_fieldAddr fl110_1 rfl) ?_
      refine ops_yes rfl ?_
      refine ops_val (ex_load ty3 rfl (H3.cell (i := 0) rfl rfl)) ?_
      refine nO49 ?_
      refine ops_yes rfl ?_
      refine ops_false (ex_lss rfl rfl) (by omega) ?_
      refine ops_val (ex_pick_f rfl rfl) ?_
      refine ops_val (ex_move rfl) ?_
      refine nO49 ?_
      refine ops_yes rfl ?_
      refine ops_val (ex_fieldAddr fl110_1 rfl) ?_
      refine ops_yes rfl ?_
      refine ops_val (ex_load ty3 rfl (H3.cell (i := 0) rfl rfl)) ?_
      refine nO49 ?_
      refine ops_yes rfl ?_
      refine ops_false (ex_gtr rfl rfl) (by omega) ?_
      refine ops_val (ex_pick_f rfl rfl) ?_
      refine ops_val (ex_move rfl) ?_
      refine nO49 ?_
      refine ops_yes rfl ?_
      refine ops_val (ex_fieldAddr fl110_2 rfl) ?_
      refine ops_yes rfl ?_
      refine ops_val (ex_load ty4 rfl (H3.cell (i := 0) rfl rfl)) ?_
      refine nO49 ?_
      refine ops_yes rfl ?_
      refine ops_val (ex_move rfl) ?_
      refine ops_no rfl ?_
      refine nO49 ?_
      refine ops_no rfl ?_
      refine ops_no rfl ?_
      refine nO49 ?_
      refine ops_no rfl ?_
      refine ops_no rfl ?_
      refine nO49 ?_
      refine ops_no rfl ?_
      refine ops_no rfl ?_
      refine nO49 ?_
      refine ops_no rfl ?_
      refine ops_no rfl ?_
      refine nO49 ?_
      refine ops_yes rfl ?_
      refine ops_val (ex_pick_f rfl rfl) ?_
      refine ops_val (ex_pick_f rfl rfl) ?_
      refine ops_nil ?_
      refine nR49 ?_
      refine run_cond_false rfl ?_
      refine run_skip ?_
      refine run_region ?_
      refine ops_val (ex_fieldAddr fl110_0 rfl) ?_
      refine ops_val (ex_load ty3 rfl (H3.cell (i := 0) rfl rfl)) ?_
      refine ops_val (ex_assign rfl) ?_
      refine ops_nil ?_
      refine nR49 ?_
      refine run_nil (blk_normal ?_)
      refine run_region ?_
      refine ops_val (ex_add rfl rfl (IntWalk.i64_in _ (by omega))) ?_
      refine ops_val (ex_move rfl) ?_
      refine ops_nil ?_
      refine nR49 ?_
      refine run_nil (rnd_normal ?_)
      exact ⟨l.length - (i + 1), by omega, i + 1, _, x.client, rfl, (fn (fn (fn (fs (fn (fn (fs (fs (fs (fn (fn (fn (fn (fn (fn (fn (fn (fn (fn (fn (fn (fn (fn (fn (fn (fn (fn (fn (fn (fn (fn (fn (fn (fn (fn (fn (fn (fn (fn (fn (fn (fn (fn (fn (fn (fn (fn (fn (fn f0))))))))))))))))))))))))))))))))))))))))))))))))), by omega, by omega, hm5, H3.noRows⟩
    · skip
      refine ops_nil ?_
      refine nR49 ?_
      refine run_seq ?_
      refine run_cond_false rfl ?_
      refine run_exit ?_
      refine rnd_exit ?_
      refine blk_exit ?_
      refine run_seq ?_
      refine run_region ?_
      refine ops_val (ex_assign rfl) ?_
      refine ops_nil ?_
      refine nR49 ?_
      refine run_ret ?_
      refine fin_ret1 rfl rfl ?_
      exact ⟨rfl, H1.noRows⟩
end Go.Proofs.YtjoeklkmnfaabaaGreat
/- Walks of layer 2, printed by wip/gen/codec.py. -/
namespace Go.Proofs.YtjoeklkmnfaabaaGreat
open Go Go.RowKit
set_option linter.unusedVariables false
attribute [local irreducible] Still Ops Does Cd
set_option maxRecDepth 100000 in
set_option maxHeartbeats 4000000 in
theorem place_s (A : Option Addr) (k : Nat) (l : List Mk) (c : Int) (ps : List (List Value)) (w0 : World) (hp : Pl 7 ps) (hr : Rd w0 A l.length 7 ps.flatten) (h2 : All2 MkR ps l) (hn : l.length ≤ 1000000) (hso : mksOk 0 l) :
    Does Tryz.prog 158 #[.slice A l.length k, .int .i64 c] w0 (fun r w' => ∃ (i : Nat) (f : Bool), r = .tuple #[.int .i64 (i : Int), .bool f] ∧ Found ps (mkCf c) i f ∧ Hp w0 w' [] []) := by
  refine does_of Tryz.func158 Tryz.ntmps158 rfl ?_
  change Run _ _ _ _ [.slice A l.length k, .int .i64 c, undef, undef, undef, undef, undef, undef, undef, undef, undef] _
  have H := Hp.refl w0
  have hlen := h2.len
  refine run_seq ?_
  refine run_region ?_
  refine ops_val (ex_assign rfl) ?_
  refine ops_val (ex_assign rfl) ?_
  refine ops_nil ?_
  change Run _ _ _ _ [_, _, _, _, _, _, _, _, _, _, _] _
  refine run_seq ?_
  refine run_region ?_
  refine ops_val (ex_move rfl) ?_
  refine ops_val (ex_move rfl) ?_
  refine ops_call (ex_call gf189 rfl) (bsearchM A k ps l.length hlen 190 c (mkCf c) _ hp (by rw [hlen]; exact hr.to0 H) (by omega) (cmp_mark h2 (rise_mk (mks_rise hso).2 c))) ?_
  rintro _ w1 ⟨i, f, rfl, hfd, Hd⟩
  have H1 := H.callN Hd
  refine ops_val (ex_extract rfl rfl) ?_
  change Ops _ _ _ _ _ _ [_, _, _, _, _, _, _, _, _, _, _] _
  refine ops_val (ex_extract rfl rfl) ?_
  refine ops_val (ex_assign rfl) ?_
  refine ops_val (ex_assign rfl) ?_
  refine ops_nil ?_
  change Run _ _ _ _ [_, _, _, _, _, _, _, _, _, _, _] _
  refine run_ret ?_
  refine fin_ret2 rfl rfl rfl ?_
  exact ⟨i, f, rfl, hfd, H1.noRows⟩
set_option maxRecDepth 100000 in
set_option maxHeartbeats 4000000 in
theorem find_s (A : Option Addr) (k : Nat) (l : List Mk) (c : Int) (ok : Nat → Prop) (w0 : World) (hl : Sl MkR 7 w0 ok A l) (hn : l.length ≤ 1000000) (hso : mksOk 0 l) :
    Does Tryz.prog 112 #[.slice A l.length k, .int .i64 c] w0 (fun r w' => ∃ (m : Mk) (f : Bool), r = .tuple #[.agg (mkC m).toArray, .bool f] ∧ (f = true → findMk l c = some m) ∧ (f = false → findMk l c = none) ∧ Hp w0 w' [] []) := by
  refine does_of Tryz.func112 Tryz.ntmps112 rfl ?_
  refine nR25 ?_
  have H := Hp.refl w0
  obtain ⟨ps, hp, hr, ha, h2⟩ := id hl
  have hlen := h2.len
  refine run_seq ?_
  refine run_region ?_
  refine ops_alloc ty110 H ?_
  intro w1 g1 H1 hg1
  refine ops_val (ex_assign rfl) ?_
  refine ops_nil ?_
  refine nR25 ?_
  refine run_seq ?_
  refine run_seq ?_
  refine run_region ?_
  refine ops_val (ex_move rfl) ?_
  refine ops_call_val (ex_call gf157 rfl) (check_s A k l ok _ (hl.toM H1 k0) (by omega) hso) ?_
  intro w2 Hd
  have H2 := H1.callN Hd
  refine ops_false (ex_neq rfl rfl) (by decide) ?_
  refine ops_nil ?_
  refine nR25 ?_
  refine run_cond_false rfl ?_
  refine run_skip ?_
  refine run_seq ?_
  refine run_region ?_
  refine ops_val (ex_move rfl) ?_
  refine ops_val (ex_move rfl) ?_
  refine ops_call (ex_call gf158 rfl) (place_s A k l c ps _ hp (hr.to0 H2) h2 hn hso) ?_
  rintro _ w3 ⟨i, f, rfl, hfd, Hd⟩
  have H3 := H2.callN Hd
  obtain ⟨hyes, hno⟩ := find_found hfd h2 (mks_rise hso).2
  cases f
  · skip
    refine ops_val (ex_move rfl) ?_
    refine ops_val (ex_extract rfl rfl) ?_
    refine nO25 ?_
    refine ops_val (ex_extract rfl rfl) ?_
    refine ops_val (ex_assign rfl) ?_
    refine ops_val (ex_assign rfl) ?_
    refine ops_nil ?_
    refine nR25 ?_
    refine run_seq ?_
    refine run_seq ?_
    refine run_region ?_
    refine ops_val (ex_move rfl) ?_
    refine ops_val (ex_not rfl) ?_
    refine ops_nil ?_
    refine nR25 ?_
    refine run_cond_true rfl ?_
    refine run_seq ?_
    refine run_region ?_
    refine ops_val (ex_build ty110 pl110 rfl rfl) ?_
    refine ops_store ty110 H3 0 rfl rfl rfl rfl rfl (by first | decide | (simp; done) | simp [putAt]) rfl ?_
    intro w4 H4
    refine ops_val (ex_assign rfl) ?_
    refine ops_nil ?_
    refine nR25 ?_
    refine run_ret ?_
    refine fin_cell_tmp rfl ty110 (cs := mkC ⟨0, 0⟩) rfl rfl rfl (H4.cellsR (i := 0) rfl rfl) ?_
    exact ⟨⟨0, 0⟩, false, rfl, (fun h => by cases h), fun _ => hno rfl, H4.noRows⟩
  · obtain ⟨x, hx, hfx⟩ := hyes rfl
    obtain ⟨p1, hp1, hR⟩ := h2.get hx
    unfold MkR at hR
    subst hR
    obtain ⟨a1, ha1⟩ := hr.some_ (by have := lt_of_get hx; omega)
    subst ha1
    refine ops_val (ex_move rfl) ?_
    refine ops_val (ex_extract rfl rfl) ?_
    refine nO25 ?_
    refine ops_val (ex_extract rfl rfl) ?_
    refine ops_val (ex_assign rfl) ?_
    refine ops_val (ex_assign rfl) ?_
    refine ops_nil ?_
    refine nR25 ?_
    refine run_seq ?_
    refine run_seq ?_
    refine run_region ?_
    refine ops_val (ex_move rfl) ?_
    refine ops_val (ex_not rfl) ?_
    refine ops_nil ?_
    refine nR25 ?_
    refine run_cond_false rfl ?_
    refine run_skip ?_
    refine run_seq ?_
    refine run_region ?_
    refine ops_val (ex_move rfl) ?_
    refine ops_val (ex_move rfl) ?_
    refine ops_val (ex_idx Tryz.underlying39 ty110 rfl rfl rfl (lt_of_get hx) rfl) ?_
    refine ops_val (ex_loadN ty110 rfl (vs := mkC x) rfl ((hr.to0 H3).elem hp hp1)) ?_
    refine nO25 ?_
    refine ops_store ty110 H3 0 rfl rfl rfl rfl rfl (by first | decide | (simp; done) | simp [putAt]) rfl ?_
    intro w4 H4
    refine ops_val (ex_assign rfl) ?_
    refine ops_nil ?_
    refine nR25 ?_
    refine run_ret ?_
    refine fin_cell_tmp rfl ty110 (cs := mkC x) rfl rfl rfl (H4.cellsR (i := 0) rfl rfl) ?_
    exact ⟨x, true, rfl, fun _ => hfx, (fun h => by cases h), H4.noRows⟩
set_option maxRecDepth 100000 in
set_option maxHeartbeats 4000000 in
theorem table_v (n : Int) (w0 : World) :
    Does Tryz.prog 67 #[.int .i64 n] w0 (fun r w' => ((n < 1 ∨ 4 < n) → r = .nilFunc) ∧ (n = 1 → r = .func (.func 116) #[] #[]) ∧ (n = 2 → r = .func (.func 117) #[] #[]) ∧ (n = 3 → r = .func (.func 118) #[] #[]) ∧ (n = 4 → r = .func (.func 119) #[] #[]) ∧ Hp w0 w' [] []) := by
  refine does_of Tryz.func67 Tryz.ntmps67 rfl ?_
  refine nR12 ?_
  have H := Hp.refl w0
  refine run_seq ?_
  refine run_region ?_
  refine ops_val (ex_assign rfl) ?_
  refine ops_nil ?_
  refine nR12 ?_
  refine run_seq ?_
  refine run_seq ?_
  refine run_region ?_
  refine ops_val (ex_move rfl) ?_
  refine ops_test (ex_lss rfl rfl) (fun hp4 => ?_) (fun hp4 => ?_)
  · skip
    refine ops_val (ex_move rfl) ?_
    refine nO12 ?_
    refine ops_no rfl ?_
    refine ops_no rfl ?_
    refine ops_val (ex_pick_t rfl rfl) ?_
    refine ops_nil ?_
    refine nR12 ?_
    refine run_cond_true rfl ?_
    refine run_seq ?_
    refine run_region ?_
    refine ops_val (ex_assign rfl) ?_
    refine ops_nil ?_
    refine nR12 ?_
    refine run_ret ?_
    refine fin_ret1 rfl rfl ?_
    refine ⟨fun _ => rfl, fun h => by omega, fun h => by omega, fun h => by omega, fun h => by omega, H.noRows⟩
  · skip
    refine ops_val (ex_move rfl) ?_
    refine nO12 ?_
    refine ops_yes rfl ?_
    refine ops_val (ex_move rfl) ?_
    refine ops_yes rfl ?_
    refine ops_test (ex_gtr rfl rfl) (fun hp7 => ?_) (fun hp7 => ?_)
    · skip
      refine ops_val (ex_pick_f rfl rfl) ?_
      refine ops_nil ?_
      refine nR12 ?_
      refine run_cond_true rfl ?_
      refine run_seq ?_
      refine run_region ?_
      refine ops_val (ex_assign rfl) ?_
      refine ops_nil ?_
      refine nR12 ?_
      refine run_ret ?_
      refine fin_ret1 rfl rfl ?_
      refine ⟨fun _ => rfl, fun h => by omega, fun h => by omega, fun h => by omega, fun h => by omega, H.noRows⟩
    · skip
      refine ops_val (ex_pick_f rfl rfl) ?_
      refine ops_nil ?_
      refine nR12 ?_
      refine run_cond_false rfl ?_
      refine run_skip ?_
      refine run_seq ?_
      refine run_region ?_
      refine ops_val (ex_buildA ty192 Tryz.underlying192 ty136 rfl rfl) ?_
      refine ops_val (ex_move rfl) ?_
      obtain hk | hk | hk | hk : n = 1 ∨ n = 2 ∨ n = 3 ∨ n = 4 := by omega
      · subst hk
        refine ops_val (ex_indexA1 Tryz.underlying192 ty136 rfl rfl (i := 1) rfl (by decide) rfl) ?_
        refine ops_val (ex_assign rfl) ?_
        refine ops_nil ?_
        refine nR12 ?_
        refine run_ret ?_
        refine fin_ret1 rfl rfl ?_
        refine ⟨fun h => by omega, fun _ => rfl, fun h => by omega, fun h => by omega, fun h => by omega, H.noRows⟩
      · subst hk
        refine ops_val (ex_indexA1 Tryz.underlying192 ty136 rfl rfl (i := 2) rfl (by decide) rfl) ?_
        refine ops_val (ex_assign rfl) ?_
        refine ops_nil ?_
        refine nR12 ?_
        refine run_ret ?_
        refine fin_ret1 rfl rfl ?_
        refine ⟨fun h => by omega, fun h => by omega, fun _ => rfl, fun h => by omega, fun h => by omega, H.noRows⟩
      · subst hk
        refine ops_val (ex_indexA1 Tryz.underlying192 ty136 rfl rfl (i := 3) rfl (by decide) rfl) ?_
        refine ops_val (ex_assign rfl) ?_
        refine ops_nil ?_
        refine nR12 ?_
        refine run_ret ?_
        refine fin_ret1 rfl rfl ?_
        refine ⟨fun h => by omega, fun h => by omega, fun h => by omega, fun _ => rfl, fun h => by omega, H.noRows⟩
      · subst hk
        refine ops_val (ex_indexA1 Tryz.underlying192 ty136 rfl rfl (i := 4) rfl (by decide) rfl) ?_
        refine ops_val (ex_assign rfl) ?_
        refine ops_nil ?_
        refine nR12 ?_
        refine run_ret ?_
        refine fin_ret1 rfl rfl ?_
        refine ⟨fun h => by omega, fun h => by omega, fun h => by omega, fun h => by omega, fun _ => rfl, H.noRows⟩
end Go.Proofs.YtjoeklkmnfaabaaGreat
