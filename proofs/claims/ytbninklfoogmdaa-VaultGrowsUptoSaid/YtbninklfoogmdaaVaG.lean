/- Walks of layer 2, printed by wip/gen/codec.py. -/
import Derived.Test.YtbninklfoogmdaaNrm
import Derived.Test.YtbninklfoogmdaaVaF
import Derived.Test.YtbninklfoogmdaaVaA
namespace Go.Proofs.Ytbninklfoogmdaa
open Go Go.RowKit
set_option linter.unusedVariables false
attribute [local irreducible] Still Ops Does Cd
set_option maxRecDepth 100000 in
set_option maxHeartbeats 4000000 in
theorem last_v (gs : Nat) (c0 c1 c2 c4 : Value) (x : Int) (A3 : Option Addr) (m k3 : Nat) (w0 : World) (hrow : w0.heap[gs]? = some (.cells [c0, c1, c2, .int .i64 x, c4, .slice A3 m k3].toArray 39 (0, 0))) (hx : -1000000000000000000 ≤ x ∧ x ≤ 1000000000000000000) (hm : m ≤ 1000000000000000000) :
    Does Try.prog 36 #[.pointer (some ⟨gs, 0, none⟩)] w0 (fun r w' => r = .int .i64 (x + m) ∧ Hp w0 w' [] []) := by
  refine does_of Try.func36 Try.ntmps36 rfl ?_
  refine nR13 ?_
  have H := Hp.refl w0
  refine run_seq ?_
  refine run_region ?_
  refine ops_val (ex_assign rfl) ?_
  refine ops_nil ?_
  refine nR13 ?_
  refine run_seq ?_
  refine run_mixZ 10 [(true, 0), (true, 1), (true, 2), (true, 3), (true, 4), (true, 5), (true, 6), (true, 7), (true, 8), (true, 9), (false, 10)] H [] mixed (by decide) (by kernel_rfl) ?_
  rintro w1 hw1
  have H1 := Hp.drew H; rw [← hw1] at H1
  refine mixz_p rfl ?_
  refine mix1_val (fun wz hz => ex_move rfl) ?_
  refine mixz_p rfl ?_
  refine mix1_val (fun wz hz => ex_nilCheck rfl) ?_
  refine mixz_p rfl ?_
  refine mix1_val (fun wz hz => ex_fieldAddr fl39_2 rfl) ?_
  refine mixz_p rfl ?_
  refine mix1_val (fun wz hz => ex_load ty3 rfl (cell_at (hz.keep hrow (by simp)) rfl)) ?_
  refine nZ13 ?_
  refine mixz_p rfl ?_
  refine mix1_val (fun wz hz => ex_move rfl) ?_
  refine mixz_p rfl ?_
  refine mix1_val (fun wz hz => ex_nilCheck rfl) ?_
  refine mixz_p rfl ?_
  refine mix1_val (fun wz hz => ex_fieldAddr fl39_4 rfl) ?_
  refine mixz_p rfl ?_
  refine mix1_val (fun wz hz => ex_load ty37 rfl (cell_at (hz.keep hrow (by simp)) rfl)) ?_
  refine nZ13 ?_
  refine mixz_p rfl ?_
  refine mix1_val (fun wz hz => ex_len_slice Try.underlying37 rfl) ?_
  refine mixz_p rfl ?_
  refine mix1_val (fun wz hz => ex_add rfl rfl (IntWalk.i64_in _ (by omega))) ?_
  refine mixz_o rfl ?_
  refine ops_val (ex_assign rfl) ?_
  refine ops_nil ?_
  refine ⟨fun hne => absurd rfl hne, ?_⟩
  refine nZ13 ?_
  refine mixz_nil ?_
  refine nR13 ?_
  refine run_ret ?_
  refine fin_ret1 rfl rfl ?_
  exact ⟨rfl, H1.noRows⟩
set_option maxRecDepth 100000 in
set_option maxHeartbeats 4000000 in
theorem promise_v (gs : Nat) (p : Bal) (c2 c3 c4 c5 : Value) (n : Nt) (B1 : Option Addr) (j1 : Nat) (B2 : Option Addr) (j2 : Nat) (w0 : World) (hrow : w0.heap[gs]? = some (.cells [.int .i64 p.r, .int .i64 p.n, c2, c3, c4, c5].toArray 39 (0, 0))) :
    Does Try.prog 19 #[.pointer (some ⟨gs, 0, none⟩), .agg [.int .i64 n.kind, .int .i64 n.group, .int .i64 n.b.r, .int .i64 n.b.n, .int .i64 n.vote.slot, .int .i64 n.vote.b.r, .int .i64 n.vote.b.n, .slice B1 n.vote.val.length j1, .int .i64 n.entry.slot, .slice B2 n.entry.val.length j2, .int .i64 n.right.g, strV n.right.key, .int .i64 n.right.lease, .int .i64 n.right.net, .int .i64 n.client, .int .i64 n.seq].toArray] w0 (fun _ w' => Hp w0 w' [gs] [((some gs, 39, [.int .i64 (rz p n.b).r, .int .i64 (rz p n.b).n, c2, c3, c4, c5]) : Ent)]) := by
  refine does_of Try.func19 Try.ntmps19 rfl ?_
  refine nR16 ?_
  have H := Hp.old hrow
  refine run_seq ?_
  refine run_region ?_
  refine ops_box rfl rfl H ?_
  intro w1 g1 H1 hg1
  refine ops_nil ?_
  refine nR16 ?_
  refine run_seq ?_
  refine run_mixZ 6 [(true, 0), (true, 1), (true, 2), (true, 3), (true, 4), (true, 5), (false, 6)] H1 [0, 1] mixed (by decide) (by kernel_rfl) ?_
  rintro w2 hw2
  have H2 := Hp.drew H1; rw [← hw2] at H2
  refine mixz_p rfl ?_
  refine mix1_val (fun wz hz => ex_move rfl) ?_
  refine mixz_p rfl ?_
  refine mix1_val (fun wz hz => ex_nilCheck rfl) ?_
  refine mixz_p rfl ?_
  refine mix1_val (fun wz hz => ex_fieldAddr fl39_0 rfl) ?_
  refine mixz_p rfl ?_
  refine mix1_val (fun wz hz => ex_loadN ty34 rfl (vs := [.int .i64 p.r, .int .i64 p.n]) rfl (hz.cellsR (i := 0) rfl rfl)) ?_
  refine nZ16 ?_
  refine mixz_p rfl ?_
  refine mix1_val (fun wz hz => ex_fieldAddr fl48_2 rfl) ?_
  refine mixz_p rfl ?_
  refine mix1_val (fun wz hz => ex_loadN ty34 rfl (vs := [.int .i64 n.b.r, .int .i64 n.b.n]) rfl (hz.cellsR (i := 1) rfl rfl)) ?_
  refine mixz_o rfl ?_
  refine ops_call_test (ex_call gf35 rfl) (less_b _ _ _) (fun hp10 w3 Hd => ?_) (fun hp10 w3 Hd => ?_)
  · have H3 := H2.callN Hd
    refine ops_nil ?_
    refine ⟨fun hne => absurd rfl hne, ?_⟩
    refine mixz_nil ?_
    refine nR16 ?_
    refine run_cond_true rfl ?_
    refine run_region ?_
    refine ops_val (ex_move rfl) ?_
    refine ops_val (ex_fieldAddr fl48_2 rfl) ?_
    refine ops_val (ex_loadN ty34 rfl (vs := [.int .i64 n.b.r, .int .i64 n.b.n]) rfl (H3.cellsR (i := 1) rfl rfl)) ?_
    refine ops_val (ex_nilCheck rfl) ?_
    refine nO16 ?_
    refine ops_val (ex_fieldAddr fl39_0 rfl) ?_
    refine ops_store ty34 H3 0 rfl rfl rfl rfl rfl (by first | decide | (simp; done) | simp [putAt]) rfl ?_
    intro w4 H4
    refine ops_nil ?_
    refine nR16 ?_
    refine run_nil ?_
    refine fin_end0 rfl ?_
    unfold rz
    rw [if_pos hp10]
    exact H4.pick [0] (by decide)
  · have H3 := H2.callN Hd
    refine ops_nil ?_
    refine ⟨fun hne => absurd rfl hne, ?_⟩
    refine mixz_nil ?_
    refine nR16 ?_
    refine run_cond_false rfl ?_
    refine run_skip ?_
    refine run_nil ?_
    refine fin_end0 rfl ?_
    unfold rz
    rw [if_neg hp10]
    exact H3.pick [0] (by decide)
set_option maxRecDepth 100000 in
set_option maxHeartbeats 4000000 in
theorem behind_v (A : Option Addr) (k : Nat) (l : List Vt) (n : Int) (ok : Nat → Prop) (w0 : World) (hl : Sl (VtR w0 ok) 4 w0 ok A l) (hn : l.length ≤ 1099511627776) :
    Does Try.prog 43 #[.slice A l.length k, .int .i64 n] w0 (fun r w' => ∃ A' k', r = .slice A' (behind l n).length k' ∧ Sl (VtR w' (up ok w0.heap.size)) 4 w' (up ok w0.heap.size) A' (behind l n) ∧ Hp w0 w' [] []) := by
  refine does_of Try.func43 Try.ntmps43 rfl ?_
  change Run _ _ _ _ [.slice A l.length k, .int .i64 n, undef, undef, undef, undef, undef, undef, undef] _
  have H := Hp.refl w0
  obtain ⟨ps, hp, hr, ha, h2⟩ := hl
  have hlen := h2.len
  have hon := h2.ones fun _ _ h => h.ones
  refine run_seq ?_
  refine run_region ?_
  refine ops_box rfl rfl H ?_
  intro w1 gc H1 hgc
  refine ops_val (ex_assign rfl) ?_
  refine ops_nil ?_
  change Run _ _ _ _ [_, _, _, _, _, _, _, _, _] _
  refine run_seq ?_
  refine run_region ?_
  refine ops_val (ex_move rfl) ?_
  refine ops_call (ex_call gf40 rfl) (cloneV A l.length k ps.flatten _ (hr.to0 H1) (ones_flatten hon) (by omega)) ?_
  rintro _ w2 ⟨g, cap, sp, rfl, hgn, hcz, hg0, Hc⟩
  have hgf := row_new (ok := ok) Hc (i := 0) rfl (fun _ h => by cases h)
  have hsz1 := H1.size
  have H2 := H1.call0 Hc
  refine ops_val (ex_makeFunc rfl rfl) ?_
  have hgcx := H2.at (i := 0) rfl
  refine ops_call (ex_call gf57 rfl) (deleteV g cap l.length ps hlen sp 58 gc (vtLe n) _ (H2.pick [1] (by decide)).here hp hon (by omega) (by omega) hcz (prd_behind h2 hgcx rfl) (row_not H2 (i := 0) (is := [1]) rfl (by decide))) ?_
  rintro _ w3 ⟨sp2, rfl, hl2, Hd⟩
  have H3 := H2.callr [1] rfl Hd
  change Ops _ _ _ _ _ _ [_, _, _, _, _, _, _, _, _] _
  refine ops_val (ex_assign rfl) ?_
  refine ops_nil ?_
  change Run _ _ _ _ [_, _, _, _, _, _, _, _, _] _
  refine run_ret ?_
  refine fin_ret1 rfl rfl ?_
  have hf := h2.filter (f := fun p => !vtLe n p) (g := fun x => !decide (x.slot ≤ n)) fun p x h => by rw [vtLe_eq h]
  rw [behind_eq] at hf
  rw [hf.len]
  refine ⟨_, cap, rfl, Sl.row H3 (i := 2) rfl (hp.sub fun x hx => (List.mem_filter.1 hx).1) (by decide) (hf.imp fun p x h => h.to H3 up_k0) (fun b hb => ?_), H3.noRows⟩
  rcases hgf b hb with h | h
  · exact .inl h
  · exact .inr (by omega)
set_option maxRecDepth 100000 in
set_option maxHeartbeats 16000000 in
theorem vote_v (gs : Nat) (s : Sv) (A1 : Option Addr) (k1 : Nat) (A2 : Option Addr) (k2 : Nat) (A3 : Option Addr) (k3 : Nat) (n : Nt) (B1 : Option Addr) (j1 : Nat) (B2 : Option Addr) (j2 : Nat) (okn : Nat → Prop) (w0 : World) (hrow : w0.heap[gs]? = some (.cells [.int .i64 s.p.r, .int .i64 s.p.n, .slice A1 s.votes.length k1, .int .i64 s.index, .slice A2 s.image.length k2, .slice A3 s.entries.length k3].toArray 39 (0, 0))) (ok : Nat → Prop) (hok : ¬ ok gs) (hv1 : Sl (VtR w0 ok) 4 w0 ok A1 s.votes) (hv2 : Bs w0 ok A2 s.image) (hv3 : Sl (EnR w0 ok) 2 w0 ok A3 s.entries) (hokn : ¬ okn gs) (hb : Bs w0 okn B1 n.vote.val) (hrise : Rise (fun x : Vt => cmpI x.slot n.vote.slot) s.votes) (hvl : s.votes.length ≤ 1000) (hi : 0 ≤ s.index ∧ s.index ≤ 1099511627776) (he : s.entries.length ≤ 1099511627776) :
    Does Try.prog 20 #[.pointer (some ⟨gs, 0, none⟩), .agg [.int .i64 n.kind, .int .i64 n.group, .int .i64 n.b.r, .int .i64 n.b.n, .int .i64 n.vote.slot, .int .i64 n.vote.b.r, .int .i64 n.vote.b.n, .slice B1 n.vote.val.length j1, .int .i64 n.entry.slot, .slice B2 n.entry.val.length j2, .int .i64 n.right.g, strV n.right.key, .int .i64 n.right.lease, .int .i64 n.right.net, .int .i64 n.client, .int .i64 n.seq].toArray] w0 (fun _ w' => ∃ cs', Hp w0 w' [gs] [((some gs, 39, cs') : Ent)] ∧ SvR w' (up ok w0.heap.size) cs' (if n.vote.slot ≤ s.last then s else ({ s with votes := putVt s.votes n.vote } : Sv).raise n.vote.b)) := by
  refine does_of Try.func20 Try.ntmps20 rfl ?_
  refine nR53 ?_
  have H := Hp.old hrow
  have hks := up_k (n := w0.heap.size) (ok := ok) (S := [gs]) fun x hx hg => hok (by rw [← List.mem_singleton.1 hg]; exact hx)
  have hkn : ∀ x, okn x → x < w0.heap.size → x ∉ [gs] ∧ okn x := fun x hx _ => ⟨fun hg => hokn (by rw [← List.mem_singleton.1 hg]; exact hx), hx⟩
  obtain ⟨ps, hp, hr, ha, h2⟩ := id hv1
  have hlen := h2.len
  have hon := h2.ones fun _ _ h => h.ones
  refine run_seq ?_
  refine run_region ?_
  refine ops_box rfl rfl H ?_
  intro w1 g1 H1 hg1
  refine ops_nil ?_
  refine nR53 ?_
  refine run_seq ?_
  refine run_region ?_
  refine ops_val (ex_fieldAddr fl48_3 rfl) ?_
  refine ops_val (ex_loadN ty41 rfl (vs := [.int .i64 n.vote.slot, .int .i64 n.vote.b.r, .int .i64 n.vote.b.n, .slice B1 n.vote.val.length j1]) rfl (H1.cellsR (i := 1) rfl rfl)) ?_
  refine ops_alloc ty41 H1 ?_
  intro w2 g2 H2 hg2
  refine ops_store ty41 H2 2 rfl rfl rfl rfl rfl (by first | decide | (simp; done) | simp [putAt]) rfl ?_
  intro w3 H3
  refine ops_nil ?_
  refine nR53 ?_
  refine run_seq ?_
  refine run_seq ?_
  refine run_mixZ 4 [(true, 0), (true, 1), (true, 2), (false, 3), (false, 4)] H3 [0, 1, 2] mixed (by decide) (by kernel_rfl) ?_
  rintro w4 hw4
  have H4 := Hp.drew H3; rw [← hw4] at H4
  refine mixz_p rfl ?_
  refine mix1_val (fun wz hz => ex_fieldAddr fl41_0 rfl) ?_
  refine mixz_p rfl ?_
  refine mix1_val (fun wz hz => ex_load ty3 rfl (hz.cell (i := 2) rfl rfl)) ?_
  refine mixz_p rfl ?_
  refine mix1_val (fun wz hz => ex_move rfl) ?_
  refine mixz_o rfl ?_
  refine ops_call_val (ex_call gf36 rfl) (last_v gs _ _ _ _ s.index A3 s.entries.length k3 _ (H4.at (i := 0) rfl) ⟨by omega, by omega⟩ (by omega)) ?_
  intro w5 Hd
  have H5 := H4.callN Hd
  refine ops_nil ?_
  refine ⟨fun hne => H5.pick [0, 1, 2] (by decide), ?_⟩
  refine nZ53 ?_
  refine mixz_o rfl ?_
  refine ops_test (ex_leq rfl rfl) (fun hp14 => ?_) (fun hp14 => ?_)
  · skip
    refine ops_nil ?_
    refine ⟨fun hne => absurd rfl hne, ?_⟩
    refine mixz_nil ?_
    refine nR53 ?_
    refine run_cond_true rfl ?_
    refine run_ret ?_
    refine fin_ret0 rfl ?_
    rw [if_pos (by unfold Sv.last; exact hp14)]
    exact ⟨_, H5.pick [0] (by decide), A1, k1, A2, k2, A3, k3, rfl, hv1.toV H5 hks, hv2.to H5 hks, hv3.toE H5 hks⟩
  · skip
    refine ops_nil ?_
    refine ⟨fun hne => absurd rfl hne, ?_⟩
    refine mixz_nil ?_
    refine nR53 ?_
    refine run_cond_false rfl ?_
    refine run_skip ?_
    refine run_seq ?_
    refine run_region ?_
    refine ops_val (ex_fieldAddr fl41_2 rfl) ?_
    refine ops_val (ex_load ty36 rfl (H5.cell (i := 2) rfl rfl)) ?_
    refine ops_call_own (ex_call gf37 rfl) (clone_any B1 n.vote.val j1 _ (hb.to H5 hkn).1 (by have := hb.2.2; omega)) ?_
    intro w6 gb cb sb hmb hcb hgb Hc
    have H6 := H5.call0 Hc
    refine ops_val (ex_fieldAddr fl41_2 rfl) ?_
    refine nO53 ?_
    refine ops_store1 ty36 H6 2 rfl rfl rfl rfl (by first | decide | (simp; done) | simp [putAt]) rfl ?_
    intro w7 H7
    refine ops_nil ?_
    refine nR53 ?_
    refine run_seq ?_
    refine run_mixZ 11 [(true, 0), (true, 1), (true, 2), (true, 3), (true, 4), (true, 5), (false, 6), (true, 7), (true, 8), (true, 9), (true, 10), (false, 11)] H7 [0, 1, 2, 3] mixed (by decide) (by kernel_rfl) ?_
    rintro w8 hw8
    have H8 := Hp.drew H7; rw [← hw8] at H8
    refine mixz_p rfl ?_
    refine mix1_val (fun wz hz => ex_move rfl) ?_
    refine mixz_p rfl ?_
    refine mix1_val (fun wz hz => ex_nilCheck rfl) ?_
    refine mixz_p rfl ?_
    refine mix1_val (fun wz hz => ex_fieldAddr fl39_1 rfl) ?_
    refine mixz_p rfl ?_
    refine mix1_val (fun wz hz => ex_load ty35 rfl (hz.cell (i := 0) rfl rfl)) ?_
    refine nZ53 ?_
    refine mixz_p rfl ?_
    refine mix1_val (fun wz hz => ex_fieldAddr fl41_0 rfl) ?_
    refine mixz_p rfl ?_
    refine mix1_val (fun wz hz => ex_load ty3 rfl (hz.cell (i := 2) rfl rfl)) ?_
    refine mixz_o rfl ?_
    refine ops_call (ex_call gf38 rfl) (bsearchV A1 k1 ps s.votes.length hlen 39 n.vote.slot (vtCf n.vote.slot) _ hp (by rw [hlen]; exact (hr.move (by decide) ha H8 hks).1) (by omega) (cmp_vote h2 hrise)) ?_
    rintro _ w9 ⟨i, f, rfl, hfd, Hd⟩
    have H9 := H8.callN Hd
    refine ops_nil ?_
    refine ⟨fun hne => H9.pick [0, 1, 2, 3] (by decide), ?_⟩
    refine nZ53 ?_
    refine mixz_p rfl ?_
    refine mix1_val (fun wz hz => ex_move rfl) ?_
    refine mixz_p rfl ?_
    refine mix1_val (fun wz hz => ex_extract rfl rfl) ?_
    refine mixz_p rfl ?_
    refine mix1_val (fun wz hz => ex_extract rfl rfl) ?_
    refine mixz_p rfl ?_
    refine mix1_val (fun wz hz => ex_assign rfl) ?_
    refine nZ53 ?_
    refine mixz_o rfl ?_
    refine ops_val (ex_assign rfl) ?_
    refine ops_nil ?_
    refine ⟨fun hne => absurd rfl hne, ?_⟩
    refine nZ53 ?_
    refine mixz_nil ?_
    refine nR53 ?_
    refine run_seq ?_
    refine run_region ?_
    refine ops_val (ex_move rfl) ?_
    refine ops_val (ex_nilCheck rfl) ?_
    refine ops_val (ex_fieldAddr fl39_1 rfl) ?_
    refine ops_val (ex_load ty35 rfl (H9.cell (i := 0) rfl rfl)) ?_
    refine nO53 ?_
    refine ops_call (ex_call gf40 rfl) (cloneV A1 s.votes.length k1 ps.flatten _ (hr.move (by decide) ha H9 hks).1 (ones_flatten hon) (by omega)) ?_
    rintro _ w10 ⟨gv, cv, sv, rfl, hmv, hcv, hgv0, Hc⟩
    have H10 := H9.call0 Hc
    refine ops_val (ex_assign rfl) ?_
    refine ops_nil ?_
    refine nR53 ?_
    refine run_seq ?_
    refine run_seq ?_
    refine run_region ?_
    refine ops_val (ex_move rfl) ?_
    refine ops_nil ?_
    refine nR53 ?_
    refine run_cond rfl (fun hb34 => ?_) (fun hb34 => ?_)
    · obtain ⟨pi, hpi, _⟩ := hfd.yes hb34
      have hil := lt_of_get hpi
      obtain ⟨gw, rfl⟩ := own_some H10 (i := 4) rfl (by rw [List.length_append, hp.len]; omega)
      subst hb34
      refine run_region ?_
      refine ops_val (ex_move rfl) ?_
      refine ops_val (ex_move rfl) ?_
      refine ops_val (ex_loadN ty41 rfl (vs := [.int .i64 n.vote.slot, .int .i64 n.vote.b.r, .int .i64 n.vote.b.n, .slice (hd gb) n.vote.val.length cb]) rfl (H10.cellsR (i := 2) rfl rfl)) ?_
      refine ops_val (ex_idxN Try.underlying35 ty41 rfl rfl rfl (by omega)) ?_
      refine nO53 ?_
      refine ops_store ty41 H10 4 rfl rfl rfl rfl rfl (by rw [List.length_append, hp.len]; show 0 + i * 4 + 4 ≤ _; omega) rfl ?_
      intro w11 H11
      rw [store_elem (sz := 4) (vs := [.int .i64 n.vote.slot, .int .i64 n.vote.b.r, .int .i64 n.vote.b.n, .slice (hd gb) n.vote.val.length cb]) hp hil rfl] at H11
      replace H11 := H11.pick [0, 1, 2, 3, 4] (by decide)
      refine ops_nil ?_
      refine nR53 ?_
      refine run_seq ?_
      refine run_region ?_
      refine ops_val (ex_move rfl) ?_
      refine ops_val (ex_move rfl) ?_
      refine ops_val (ex_nilCheck rfl) ?_
      refine ops_val (ex_fieldAddr fl39_1 rfl) ?_
      refine nO53 ?_
      refine ops_store1 ty35 H11 0 rfl rfl rfl rfl (by simp) rfl ?_
      intro w12 H12
      refine ops_nil ?_
      refine nR53 ?_
      refine run_region ?_
      refine ops_val (ex_move rfl) ?_
      refine ops_val (ex_fieldAddr fl41_1 rfl) ?_
      refine ops_val (ex_loadN ty34 rfl (vs := [.int .i64 n.vote.b.r, .int .i64 n.vote.b.n]) rfl (H12.cellsR (i := 2) rfl rfl)) ?_
      refine ops_val (ex_build ty48 pl48 rfl rfl) ?_
      refine nO53 ?_
      refine ops_call (ex_call gf19 rfl) (promise_v gs s.p _ _ _ _ ⟨0, 0, n.vote.b, ⟨0, ⟨0, 0⟩, []⟩, ⟨0, []⟩, ⟨0, [], 0, 0⟩, 0, 0⟩ none 0 none 0 _ (H12.at (i := 0) rfl)) ?_
      rintro r w13 Hd
      have H13 := (H12.callr [0] rfl Hd).pick [5, 1, 2, 3, 4] (by decide)
      refine ops_nil ?_
      refine nR53 ?_
      refine run_nil ?_
      refine fin_end0 rfl ?_
      rw [if_neg (by unfold Sv.last; exact hp14)]
      have HZ := H13
      have hgb2 := row_new (ok := ok) HZ (i := 3) rfl (fun b hb => by rw [List.mem_singleton.1 hb]; exact fun e => HZ.ne (i := 3) (j := 0) (g := gs) (by rw [e]; rfl) rfl (by decide) rfl)
      have hgv2 := row_new (ok := ok) HZ (i := 4) rfl (fun b hb => by rw [List.mem_singleton.1 hb]; exact fun e => HZ.ne (i := 4) (j := 0) (g := gs) (by rw [e]; rfl) rfl (by decide) rfl)
      have hnew : VtR w13 (up ok w0.heap.size) [.int .i64 n.vote.slot, .int .i64 n.vote.b.r, .int .i64 n.vote.b.n, .slice (hd gb) n.vote.val.length cb] n.vote := ⟨hd gb, cb, rfl, Bs.row HZ (i := 3) rfl hb.2.2 hgb2⟩
      have hold := h2.imp (R' := VtR w13 (up ok w0.heap.size)) fun p x h => h.to HZ hks
      have hput := hfd.put (v := n.vote) h2 (fun p x h => vtCf_eq h) hrise
      rw [← putVt_eq] at hput
      rw [raise_eq, hput]
      rw [if_pos rfl]
      have hset := hold.set i hnew
      refine ⟨_, HZ.pick [0] (by decide), hd (some gw), cv, A2, k2, A3, k3, by rw [List.length_set], ?_, hv2.to HZ hks, hv3.toE HZ hks⟩
      exact Sl.row HZ (i := 4) rfl (hp.set_len rfl) (by decide) hset hgv2
    · subst hb34
      refine run_region ?_
      refine ops_val (ex_move rfl) ?_
      refine ops_val (ex_move rfl) ?_
      refine ops_val (ex_loadN ty41 rfl (vs := [.int .i64 n.vote.slot, .int .i64 n.vote.b.r, .int .i64 n.vote.b.n, .slice (hd gb) n.vote.val.length cb]) rfl (H10.cellsR (i := 2) rfl rfl)) ?_
      refine ops_buildSlice Try.underlying35 ty41 H10 rfl (by decide) rfl ?_
      intro w11 g11 H11 hg11
      refine nO53 ?_
      refine ops_call (ex_call gf41 rfl) (insertV gv cv i _ s.votes.length ps hlen [.int .i64 n.vote.slot, .int .i64 n.vote.b.r, .int .i64 n.vote.b.n, .slice (hd gb) n.vote.val.length cb] sv _ (H11.pick [4] (by decide)).here hp hon (by omega) hcv hgv0 hfd.le (H11.at (i := 5) rfl) rfl rfl (row_not H11 (i := 5) (is := [4]) rfl (by decide)) (by omega)) ?_
      rintro _ w12 ⟨gw, cw, sw, rfl, hnw, hcw, hgw, Hd⟩
      rw [hlen]
      have H12 := (H11.callr [4] rfl Hd).pick [0, 1, 2, 3, 6] (by decide)
      refine ops_val (ex_assign rfl) ?_
      refine ops_nil ?_
      refine nR53 ?_
      refine run_seq ?_
      refine run_region ?_
      refine ops_val (ex_move rfl) ?_
      refine ops_val (ex_move rfl) ?_
      refine ops_val (ex_nilCheck rfl) ?_
      refine ops_val (ex_fieldAddr fl39_1 rfl) ?_
      refine nO53 ?_
      refine ops_store1 ty35 H12 0 rfl rfl rfl rfl (by simp) rfl ?_
      intro w13 H13
      refine ops_nil ?_
      refine nR53 ?_
      refine run_region ?_
      refine ops_val (ex_move rfl) ?_
      refine ops_val (ex_fieldAddr fl41_1 rfl) ?_
      refine ops_val (ex_loadN ty34 rfl (vs := [.int .i64 n.vote.b.r, .int .i64 n.vote.b.n]) rfl (H13.cellsR (i := 2) rfl rfl)) ?_
      refine ops_val (ex_build ty48 pl48 rfl rfl) ?_
      refine nO53 ?_
      refine ops_call (ex_call gf19 rfl) (promise_v gs s.p _ _ _ _ ⟨0, 0, n.vote.b, ⟨0, ⟨0, 0⟩, []⟩, ⟨0, []⟩, ⟨0, [], 0, 0⟩, 0, 0⟩ none 0 none 0 _ (H13.at (i := 0) rfl)) ?_
      rintro r w14 Hd
      have H14 := (H13.callr [0] rfl Hd).pick [5, 1, 2, 3, 4] (by decide)
      refine ops_nil ?_
      refine nR53 ?_
      refine run_nil ?_
      refine fin_end0 rfl ?_
      rw [if_neg (by unfold Sv.last; exact hp14)]
      have HZ := H14
      have hgb2 := row_new (ok := ok) HZ (i := 3) rfl (fun b hb => by rw [List.mem_singleton.1 hb]; exact fun e => HZ.ne (i := 3) (j := 0) (g := gs) (by rw [e]; rfl) rfl (by decide) rfl)
      have hgv2 := row_new (ok := ok) HZ (i := 4) rfl (fun b hb => by rw [List.mem_singleton.1 hb]; exact fun e => HZ.ne (i := 4) (j := 0) (g := gs) (by rw [e]; rfl) rfl (by decide) rfl)
      have hnew : VtR w14 (up ok w0.heap.size) [.int .i64 n.vote.slot, .int .i64 n.vote.b.r, .int .i64 n.vote.b.n, .slice (hd gb) n.vote.val.length cb] n.vote := ⟨hd gb, cb, rfl, Bs.row HZ (i := 3) rfl hb.2.2 hgb2⟩
      have hold := h2.imp (R' := VtR w14 (up ok w0.heap.size)) fun p x h => h.to HZ hks
      have hput := hfd.put (v := n.vote) h2 (fun p x h => vtCf_eq h) hrise
      rw [← putVt_eq] at hput
      rw [raise_eq, hput]
      rw [if_neg (by decide)]
      have hle := hfd.le
      have hil3 : (s.votes.take i ++ n.vote :: s.votes.drop i).length = s.votes.length + 1 := by rw [List.length_append, List.length_cons, List.length_take, List.length_drop]; omega
      refine ⟨_, HZ.pick [0] (by decide), hd gw, cw, A2, k2, A3, k3, by rw [hil3], ?_, hv2.to HZ hks, hv3.toE HZ hks⟩
      exact Sl.row HZ (i := 4) rfl ((hp.sub fun x hx => List.mem_of_mem_take hx).app fun x hx => by
        rcases List.mem_cons.1 hx with rfl | hx
        · rfl
        · exact hp x (List.mem_of_mem_drop hx)) (by decide) ((hold.take i).app ⟨hnew, hold.drop i⟩) hgv2
end Go.Proofs.Ytbninklfoogmdaa
