/- Walks of layer 2, printed by wip/gen/codec.py. -/
import Derived.Test.YtbninklfoogmdaaGreatNrm
import Derived.Test.YtbninklfoogmdaaGreatVaV
import Derived.Test.YtbninklfoogmdaaGreatVaU
import Derived.Test.YtbninklfoogmdaaGreatVaO
namespace Go.Proofs.YtbninklfoogmdaaGreat
open Go Go.RowKit
set_option linter.unusedVariables false
attribute [local irreducible] Still Ops Does Cd
set_option maxRecDepth 100000 in
set_option maxHeartbeats 32000000 in
theorem first_v (A : Option Addr) (k : Nat) (l : List Nt) (okl : Nat → Prop) (w0 : World) (hl : Sl (NtR w0 okl) 16 w0 okl A l) (hn : l.length ≤ 840000000000) (hk : l.length ≤ k) :
    Does Tryz.prog 3 #[.slice A l.length k] w0 (fun r w' => r = .bool true ∧ Hp w0 w' [] []) := by
  refine does_of Tryz.func3 Tryz.ntmps3 rfl ?_
  refine nR65 ?_
  have H := Hp.refl w0
  obtain ⟨ps, hp, hr, ha, h2⟩ := id hl
  have hlen := h2.len
  refine run_seq ?_
  refine run_region ?_
  refine ops_val (ex_assign rfl) ?_
  refine ops_nil ?_
  refine nR65 ?_
  refine run_seq ?_
  refine run_region ?_
  refine ops_val (ex_move rfl) ?_
  refine ops_call (ex_call gf6 rfl) (replay_v A k l okl _ hl hn) ?_
  rintro _ w1 ⟨cs0, e0, b0, rfl, hb0, hrep0, Hd⟩
  have H1 := H.callN Hd
  obtain ⟨V1, n1, v1, V2, n2, v2, V3, n3, v3, rfl⟩ := hb0.shape
  cases hrp : repl Bo.empty l
  · obtain ⟨_, rfl⟩ := hrep0.none hrp
    refine ops_val (ex_move rfl) ?_
    refine ops_val (ex_extract rfl rfl) ?_
    refine ops_val (ex_extract rfl rfl) ?_
    refine nO65 ?_
    refine ops_alloc ty27 H1 ?_
    intro w2 g3 H2 hg3
    refine ops_store ty27 H2 0 (vs := [.slice V1 n1 v1, .slice V2 n2 v2, .slice V3 n3 v3]) rfl rfl rfl rfl rfl (Nat.le_refl 3) rfl ?_
    intro w3 H3
    refine ops_val (ex_assign rfl) ?_
    refine ops_nil ?_
    refine nR65 ?_
    refine run_seq ?_
    refine run_seq ?_
    refine run_region ?_
    refine ops_call_val (ex_call gf7 rfl) (awake_v _) ?_
    intro w4 Hd
    have H4 := H3.callN Hd
    refine ops_val (ex_not rfl) ?_
    refine ops_val (ex_move rfl) ?_
    refine nO65 ?_
    refine ops_yes rfl ?_
    refine ops_val (ex_move rfl) ?_
    refine ops_yes rfl ?_
    refine ops_true (ex_neq rfl rfl) (by decide) ?_
    refine ops_val (ex_pick_f rfl rfl) ?_
    refine ops_val (ex_move rfl) ?_
    refine nO65 ?_
    refine ops_no rfl ?_
    refine ops_no rfl ?_
    refine nO65 ?_
    refine ops_no rfl ?_
    refine ops_val (ex_pick_t rfl rfl) ?_
    refine ops_nil ?_
    refine nR65 ?_
    refine run_cond_true rfl ?_
    refine run_seq ?_
    refine run_region ?_
    refine ops_call_val (ex_call gf7 rfl) (awake_v _) ?_
    intro w5 Hd
    have H5 := H4.callN Hd
    refine ops_val (ex_assign rfl) ?_
    refine ops_nil ?_
    refine nR65 ?_
    refine run_ret ?_
    refine fin_ret1 rfl rfl ?_
    exact ⟨rfl, H5.noRows⟩
  · obtain ⟨_, rfl, _⟩ := hrep0.some hrp
    refine ops_val (ex_move rfl) ?_
    refine ops_val (ex_extract rfl rfl) ?_
    refine ops_val (ex_extract rfl rfl) ?_
    refine nO65 ?_
    refine ops_alloc ty27 H1 ?_
    intro w2 g3 H2 hg3
    refine ops_store ty27 H2 0 (vs := [.slice V1 n1 v1, .slice V2 n2 v2, .slice V3 n3 v3]) rfl rfl rfl rfl rfl (Nat.le_refl 3) rfl ?_
    intro w3 H3
    refine ops_val (ex_assign rfl) ?_
    refine ops_nil ?_
    refine nR65 ?_
    refine run_seq ?_
    refine run_seq ?_
    refine run_region ?_
    refine ops_call_val (ex_call gf7 rfl) (awake_v _) ?_
    intro w4 Hd
    have H4 := H3.callN Hd
    refine ops_val (ex_not rfl) ?_
    refine ops_val (ex_move rfl) ?_
    refine nO65 ?_
    refine ops_yes rfl ?_
    refine ops_val (ex_move rfl) ?_
    refine ops_yes rfl ?_
    refine ops_false (ex_neq rfl rfl) (by decide) ?_
    refine ops_val (ex_pick_f rfl rfl) ?_
    refine ops_val (ex_move rfl) ?_
    refine nO65 ?_
    refine ops_yes rfl ?_
    refine ops_val (ex_move rfl) ?_
    refine ops_yes rfl ?_
    refine ops_val (ex_len_slice Tryz.underlying22 rfl) ?_
    refine nO65 ?_
    refine ops_yes rfl ?_
    refine ops_test (ex_gtr rfl rfl) (fun hp25 => ?_) (fun hp25 => ?_)
    · skip
      refine ops_val (ex_pick_f rfl rfl) ?_
      refine ops_nil ?_
      refine nR65 ?_
      refine run_cond_true rfl ?_
      refine run_seq ?_
      refine run_region ?_
      refine ops_call_val (ex_call gf7 rfl) (awake_v _) ?_
      intro w5 Hd
      have H5 := H4.callN Hd
      refine ops_val (ex_assign rfl) ?_
      refine ops_nil ?_
      refine nR65 ?_
      refine run_ret ?_
      refine fin_ret1 rfl rfl ?_
      exact ⟨rfl, H5.noRows⟩
    · skip
      refine ops_val (ex_pick_f rfl rfl) ?_
      refine ops_nil ?_
      refine nR65 ?_
      refine run_cond_false rfl ?_
      refine run_skip ?_
      refine run_seq ?_
      refine run_region ?_
      have hnbr := Hp.fresh H4
      have hszr := H4.size
      refine ops_call (ex_call gf8 rfl) (empty_v _) ?_
      rintro _ w5 ⟨cse, rfl, hbe, Hd⟩
      have H5 := H4.callN Hd
      have hcl : ∃ a b c d e f, cse = [.slice a 8 b, .slice c 0 d, .slice e 0 f] := by
        obtain ⟨_, _, _, _, _, _, rfl, _⟩ := hbe
        exact ⟨_, _, _, _, _, _, rfl⟩
      obtain ⟨e1, t1, e2, t2, e3, t3, rfl⟩ := hcl
      have HB0 := H5
      have HL0 := HB0.here
      refine ops_alloc ty27 HL0 ?_
      intro w6 g5 H6 hg5
      refine ops_store ty27 H6 1 (vs := [.slice e1 8 t1, .slice e2 0 t2, .slice e3 0 t3]) rfl rfl rfl rfl rfl (Nat.le_refl 3) rfl ?_
      intro w7 H7
      refine ops_nil ?_
      refine nR65 ?_
      refine run_seq ?_
      refine run_seq ?_
      refine run_region ?_
      refine ops_val (ex_assign rfl) ?_
      refine ops_nil ?_
      refine nR65 ?_
      refine run_block ?_
      refine run_loop (fun nQ lQ w => ∃ (i : Nat) (y : Int) (b : Bo) (cs : List Value), l.length - i = nQ ∧ Fits [some (.slice A l.length k), none, none, some (.pointer (some ⟨g3, 0, none⟩)), none, some (.pointer (some ⟨g5, 0, none⟩)), some (.int .i64 y), none, none, none, none, none, none, none, none, none, none, none, none, none, none, none, none, none, none, none, none, none, none, none, none, none, none, none, none, none, none, none, none, none, none, none, none, none, none, none, none, none, none, none, none, none, none, none, none, none, none, none, none, none, none, none, none, none, none] lQ ∧ y = (i : Int) ∧ i ≤ l.length ∧ repl Bo.empty (l.take i) = some b ∧ Good b i ∧ BoR w (fun x => (okl x ∧ x < w0.heap.size ∨ w0.heap.size ≤ x) ∧ x ≠ g3 ∧ x ≠ g5) cs b ∧ Hp w0 w [] [((some g3, 27, [.slice V1 n1 v1, .slice V2 n2 v2, .slice V3 n3 v3]) : Ent), (some g5, 27, cs)]) (l.length) ?_ ?_
      · exact ⟨0, _, Bo.empty, _, rfl, (fs (fn (fn (fs (fn (fs (fs (fn (fn (fn (fn (fn (fn (fn (fn (fn (fn (fn (fn (fn (fn (fn (fn (fn (fn (fn (fn (fn (fn (fn (fn (fn (fn (fn (fn (fn (fn (fn (fn (fn (fn (fn (fn (fn (fn (fn (fn (fn (fn (fn (fn (fn (fn (fn (fn (fn (fn (fn (fn (fn (fn (fn (fn (fn (fn f0))))))))))))))))))))))))))))))))))))))))))))))))))))))))))))))))), rfl, Nat.zero_le _, rfl, Good.empty, hbe.to H7 (fun x hx hl => ⟨hnbr x hx, .inr (by omega), fun e => by subst e; have h1 := H7.lt (i := 0) rfl; have h2 := hnbr _ hx; exact h2 (by simp [bl]), by omega⟩), (HB0.all H7).pick [0, 1] (by decide)⟩
      · rintro nQ lQ w8 ⟨i, y, b, cs, rfl, hfit, rfl, hi, hrep, hgood, hbor, H8⟩
        obtain ⟨j, rfl⟩ := hfit.open
        refine nR65 ?_
        clear hfit
        have HB := H8
        replace H8 := HB.here
        obtain ⟨X1, x1, X2, x2, X3, x3, rfl, hx1, hx2, hx3⟩ := hbor
        have hgr0 : w0.heap.size ≤ g3 := by
          rcases HB.place (i := 0) (g := g3) rfl with h | h
          · cases h
          · exact h
        have hgb0 : w0.heap.size ≤ g5 := by
          rcases HB.place (i := 1) (g := g5) rfl with h | h
          · cases h
          · exact h
        have hszB := HB.size
        have hgr1 := HB.lt (i := 0) rfl
        have hgb1 := HB.lt (i := 1) rfl
        obtain ⟨wl, hwl⟩ : ∃ n, n = w8.heap.size := ⟨_, rfl⟩
        refine run_seq ?_
        refine run_seq ?_
        refine run_region ?_
        refine ops_val (ex_move rfl) ?_
        refine ops_val (ex_move rfl) ?_
        refine ops_val (ex_len_slice Tryz.underlying22 rfl) ?_
        refine ops_test (ex_lss rfl rfl) (fun hp32 => ?_) (fun hp32 => ?_)
        · have hil : i < l.length := by omega
          obtain ⟨nt, hx⟩ := get_of hil
          obtain ⟨p1, hp1, hR⟩ := h2.get hx
          obtain ⟨B1, j1, B2, j2, rfl, hbv, hbe2⟩ := hR
          obtain ⟨a1, ha1⟩ := hr.some_ (by omega)
          subst ha1
          have htk := repl_take hrep hx
          obtain ⟨c, hc⟩ := repl_prefix (i + 1) hrp
          refine ops_nil ?_
          refine nR65 ?_
          refine run_cond_true rfl ?_
          refine run_skip ?_
          refine run_seq ?_
          refine run_block ?_
          refine run_seq ?_
          refine run_region ?_
          refine ops_val (ex_move rfl) ?_
          refine ops_val (ex_move rfl) ?_
          refine ops_val (ex_add rfl rfl (IntWalk.i64_in _ (by omega))) ?_
          refine ops_val (ex_cutHi Tryz.underlying22 ty45 rfl rfl (by omega)) ?_
          rw [show ((i : Int) + 1).toNat = (l.take (i + 1)).length by rw [List.length_take]; omega]
          refine nO65 ?_
          have hnp8 := Hp.fresh H8
          have hsz8 := H8.size
          refine ops_call (ex_call gf6 rfl) (replay_v (some a1) k (l.take (i + 1)) okl _ ((hl.take (by omega)).toN (HB.all H8) k0) (by rw [List.length_take]; omega)) ?_
          rintro _ w9 ⟨cs2, e2, b2, rfl, hb2, hrep2, Hd⟩
          obtain ⟨rfl, rfl, hg2⟩ := hrep2.some hc
          obtain ⟨Y1, y1, Y2, y2, Y3, y3, rfl, hy1, hy2, hy3⟩ := hb2
          have HR := H8.callN Hd
          have H9 := HR.here
          have hszR := HR.size
          have hin : b.into nt = some b2 := htk.symm.trans hc
          rw [List.length_take, Nat.min_eq_left (by omega)] at hg2
          refine ops_val (ex_move rfl) ?_
          refine ops_val (ex_extract rfl rfl) ?_
          refine ops_val (ex_extract rfl rfl) ?_
          refine nO65 ?_
          refine ops_alloc ty27 H9 ?_
          intro w10 g7 H10 hg7
          refine ops_store ty27 H10 2 (vs := [.slice Y1 b2.groups.length y1, .slice Y2 b2.rights.length y2, .slice Y3 b2.last.length y3]) rfl rfl rfl rfl rfl (Nat.le_refl 3) rfl ?_
          intro w11 H11
          refine ops_val (ex_assign rfl) ?_
          refine ops_nil ?_
          refine nR65 ?_
          refine run_seq ?_
          refine run_mixT 11 (.p 0 (.p 1 (.p 2 (.p 3 (.p 4 (.two 5 (.p 6 (.p 7 (.p 8 (.o 9 (.o 10 (.o 11 .nil)))))) 9 (.o 5 (.p 6 (.p 7 (.p 8 (.o 10 (.o 11 .nil)))))))))))) H11 [0, 1, 2] mixed (by decide) (by kernel_rfl) ?_
          rintro w12 hw12
          have H12 := Hp.drew H11; rw [← hw12] at H12
          refine mixt_p rfl ?_
          refine mix1_val (fun wz hz => ex_loadN ty27 rfl (vs := [.slice X1 b.groups.length x1, .slice X2 b.rights.length x2, .slice X3 b.last.length x3]) rfl (hz.cellsR (i := 1) rfl rfl)) ?_
          refine mixt_p rfl ?_
          refine mix1_val (fun wz hz => ex_move rfl) ?_
          refine mixt_p rfl ?_
          refine mix1_val (fun wz hz => ex_move rfl) ?_
          refine mixt_p rfl ?_
          refine mix1_val (fun wz hz => ex_idx Tryz.underlying22 ty45 rfl rfl (len := l.length) (i := i) (by omega) (by omega) rfl) ?_
          change MixT _ _ _ _ _ _ [_, _, _, _, _, _, _, _, _, _, _, _, _, _, _, _, _, _, _, _, _, _, _, _, _, _, _, _, _, _, _, _, _, _, _, _, _, _, _, _, _, _, _, _, _, _, _, _, _, _, _, _, _, _, _, _, _, _, _, _, _, _, _, _, _] _
          refine mixt_p rfl ?_
          refine mix1_val (fun wz hz => ex_loadN ty45 rfl (vs := [.int .i64 nt.kind, .int .i64 nt.group, .int .i64 nt.b.r, .int .i64 nt.b.n, .int .i64 nt.vote.slot, .int .i64 nt.vote.b.r, .int .i64 nt.vote.b.n, .slice B1 nt.vote.val.length j1, .int .i64 nt.entry.slot, .slice B2 nt.entry.val.length j2, .int .i64 nt.right.g, strV nt.right.key, .int .i64 nt.right.lease, .int .i64 nt.right.net, .int .i64 nt.client, .int .i64 nt.seq]) rfl ((hr.to0 (HB.all (HR.all hz))).elem hp hp1)) ?_
          refine mixt_two ?_ ?_
          · skip
            refine mixt_o rfl ?_
            have hszi := H12.size
            have hnp := Hp.fresh H12
            have hkb : ∀ x, (fun x => (okl x ∧ x < w0.heap.size ∨ w0.heap.size ≤ x) ∧ x ≠ g3 ∧ x ≠ g5) x → x < wl → x ∉ bl [((some g3, 0, []) : Ent), (some g5, 0, [])] ∧ (fun x => (fun x => (okl x ∧ x < w0.heap.size ∨ w0.heap.size ≤ x) ∧ x ≠ g3 ∧ x ≠ g5) x ∧ x ≠ g7 ∧ x ≠ g3) x := fun x hx hl => ⟨fun hb => by
              have : x = g3 ∨ x = g5 := by simpa [bl] using hb
              rcases this with h | h
              · exact hx.2.1 h
              · exact hx.2.2 h, hx, by omega, hx.2.1⟩
            have hkl : ∀ x, okl x → x < w0.heap.size → x ∉ ([] : List Nat) ∧ (fun x => (fun x => (okl x ∧ x < w0.heap.size ∨ w0.heap.size ≤ x) ∧ x ≠ g3 ∧ x ≠ g5) x ∧ x ≠ g7 ∧ x ≠ g3) x := fun x hx hl => ⟨by simp, ⟨.inl ⟨hx, hl⟩, by omega, by omega⟩, by omega, by omega⟩
            refine ops_call (ex_call gf9 rfl) (into_r b X1 x1 X2 x2 X3 x3 nt B1 j1 B2 j2 (fun x => (fun x => (okl x ∧ x < w0.heap.size ∨ w0.heap.size ≤ x) ∧ x ≠ g3 ∧ x ≠ g5) x ∧ x ≠ g7 ∧ x ≠ g3) i _ (hx1.toS (HR.all H12) fun x hx hl => hkb x hx (by omega)) (hx2.toR (HR.all H12) fun x hx hl => hkb x hx (by omega)) (hx3.toM (HR.all H12) fun x hx hl => hkb x hx (by omega)) (hbv.to (HB.all (HR.all H12)) hkl) (hbe2.to (HB.all (HR.all H12)) hkl) hgood (by omega)) ?_
            rintro _ w13 ⟨Z1, m1, z1, Z2, m2, z2, Z3, m3, z3, fl, rfl, hyes, _, Hd⟩
            have HG := H12.callN Hd
            have HL := HG.here
            have H13 := HG
            obtain ⟨rfl, hB'⟩ := hyes b2 hin
            obtain ⟨⟨rfl, rfl, rfl⟩, hw1, hw2, hw3⟩ := hB'.of3
            have hreg : ∀ x, up (fun x => (fun x => (okl x ∧ x < w0.heap.size ∨ w0.heap.size ≤ x) ∧ x ≠ g3 ∧ x ≠ g5) x ∧ x ≠ g7 ∧ x ≠ g3) w12.heap.size x → x ∉ bl [((some g3, 0, []) : Ent), ((some g5, 0, []) : Ent), ((some g7, 0, []) : Ent)] := fun x hx hb => (show False from by
              rcases hx with hx | hx
              · have h1 := hx.1.2.1; have h2 := hx.1.2.2; have h3 := hx.2.1; have h4 := hx.2.2; have : x = g3 ∨ x = g5 ∨ x = g7 := by simpa [bl] using hb
                omega
              · exact hnp x hx hb)
            refine ops_nil ?_
            refine ⟨fun hne => H13.pick [0, 1, 2] (by decide), ?_⟩
            change MixT _ _ _ _ _ _ [_, _, _, _, _, _, _, _, _, _, _, _, _, _, _, _, _, _, _, _, _, _, _, _, _, _, _, _, _, _, _, _, _, _, _, _, _, _, _, _, _, _, _, _, _, _, _, _, _, _, _, _, _, _, _, _, _, _, _, _, _, _, _, _, _] _
            refine mixt_p rfl ?_
            refine mix1_val (fun wz hz => ex_move rfl) ?_
            refine mixt_p rfl ?_
            refine mix1_val (fun wz hz => ex_extract rfl rfl) ?_
            refine mixt_p rfl ?_
            refine mix1_val (fun wz hz => ex_extract rfl rfl) ?_
            refine mixt_o rfl ?_
            refine ops_alloc ty27 HL ?_
            intro w14 g9 HL2 _
            have H14 := HG.all HL2
            refine ops_nil ?_
            refine ⟨fun hne => H14.pick [0, 1, 2] (by decide), ?_⟩
            change MixT _ _ _ _ _ _ [_, _, _, _, _, _, _, _, _, _, _, _, _, _, _, _, _, _, _, _, _, _, _, _, _, _, _, _, _, _, _, _, _, _, _, _, _, _, _, _, _, _, _, _, _, _, _, _, _, _, _, _, _, _, _, _, _, _, _, _, _, _, _, _, _] _
            refine mixt_o rfl ?_
            refine ops_store ty27 HL2 3 (vs := [.slice Z1 b2.groups.length z1, .slice Z2 b2.rights.length z2, .slice Z3 b2.last.length z3]) rfl rfl rfl rfl rfl (Nat.le_refl 3) rfl ?_
            intro w15 HL3
            have H15 := HG.all HL3
            refine ops_nil ?_
            refine ⟨fun hne => H15.pick [0, 1, 2] (by decide), ?_⟩
            change MixT _ _ _ _ _ _ [_, _, _, _, _, _, _, _, _, _, _, _, _, _, _, _, _, _, _, _, _, _, _, _, _, _, _, _, _, _, _, _, _, _, _, _, _, _, _, _, _, _, _, _, _, _, _, _, _, _, _, _, _, _, _, _, _, _, _, _, _, _, _, _, _] _
            refine mixt_o rfl ?_
            refine ops_val (ex_assign rfl) ?_
            replace H15 := HL3
            refine ops_nil ?_
            refine ⟨fun hne => absurd rfl hne, ?_⟩
            change MixT _ _ _ _ _ _ [_, _, _, _, _, _, _, _, _, _, _, _, _, _, _, _, _, _, _, _, _, _, _, _, _, _, _, _, _, _, _, _, _, _, _, _, _, _, _, _, _, _, _, _, _, _, _, _, _, _, _, _, _, _, _, _, _, _, _, _, _, _, _, _, _] _
            refine mixt_nil ?_
            refine nR65 ?_
            refine run_seq ?_
            refine run_seq ?_
            refine run_region ?_
            refine ops_val (ex_move rfl) ?_
            refine ops_false (ex_neq rfl rfl) (by decide) ?_
            refine ops_val (ex_move rfl) ?_
            refine nO65 ?_
            refine ops_yes rfl ?_
            refine ops_val (ex_move rfl) ?_
            refine ops_yes rfl ?_
            refine ops_val (ex_not rfl) ?_
            refine ops_val (ex_pick_f rfl rfl) ?_
            refine ops_val (ex_move rfl) ?_
            refine nO65 ?_
            refine ops_yes rfl ?_
            refine ops_val (ex_loadN ty27 rfl (vs := [.slice Y1 b2.groups.length y1, .slice Y2 b2.rights.length y2, .slice Y3 b2.last.length y3]) rfl (H15.cellsR (i := 2) rfl rfl)) ?_
            refine ops_yes rfl ?_
            refine ops_val (ex_loadN ty27 rfl (vs := [.slice Z1 b2.groups.length z1, .slice Z2 b2.rights.length z2, .slice Z3 b2.last.length z3]) rfl (H15.cellsR (i := 3) rfl rfl)) ?_
            refine nO65 ?_
            refine ops_yes rfl ?_
            refine ops_call_val (ex_call gf10 rfl) (alike_r b2.groups b2.rights Y1 y1 Y2 y2 Y3 b2.last.length y3 Z1 z1 Z2 z2 Z3 b2.last.length z3 (fun _ => True) (fun _ => True) _ (hy1.toS (HG.all H15) fun x hx _ => ⟨hnp8 x hx, trivial⟩) (hy2.toR (HG.all H15) fun x hx _ => ⟨hnp8 x hx, trivial⟩) (hw1.toS H15 fun x hx _ => ⟨hreg x hx, trivial⟩) (hw2.toR H15 fun x hx _ => ⟨hreg x hx, trivial⟩) (by have := hg2.eight; omega) (by have := hg2.few; omega) hg2.fews) ?_
            intro w16 Hd
            have H16 := H15.callN Hd
            refine ops_yes rfl ?_
            refine ops_val (ex_not rfl) ?_
            refine ops_val (ex_pick_f rfl rfl) ?_
            refine ops_nil ?_
            refine nR65 ?_
            refine run_cond_false rfl ?_
            refine run_skip ?_
            refine run_region ?_
            refine ops_val (ex_loadN ty27 rfl (vs := [.slice Y1 b2.groups.length y1, .slice Y2 b2.rights.length y2, .slice Y3 b2.last.length y3]) rfl (H16.cellsR (i := 2) rfl rfl)) ?_
            refine ops_store ty27 H16 1 (vs := [.slice Y1 b2.groups.length y1, .slice Y2 b2.rights.length y2, .slice Y3 b2.last.length y3]) rfl rfl rfl rfl rfl (Nat.le_refl 3) rfl ?_
            intro w17 H17
            refine ops_nil ?_
            refine nR65 ?_
            refine run_nil (blk_normal ?_)
            refine run_region ?_
            refine ops_val (ex_move rfl) ?_
            refine ops_val (ex_add rfl rfl (IntWalk.i64_in _ (by omega))) ?_
            refine ops_val (ex_assign rfl) ?_
            refine ops_nil ?_
            refine nR65 ?_
            refine run_nil (rnd_normal ?_)
            exact ⟨l.length - (i + 1), by omega, i + 1, _, b2, [.slice Y1 b2.groups.length y1, .slice Y2 b2.rights.length y2, .slice Y3 b2.last.length y3], rfl, (fs (fn (fn (fs (fn (fs (fs (fn (fn (fn (fn (fn (fn (fn (fn (fn (fn (fn (fn (fn (fn (fn (fn (fn (fn (fn (fn (fn (fn (fn (fn (fn (fn (fn (fn (fn (fn (fn (fn (fn (fn (fn (fn (fn (fn (fn (fn (fn (fn (fn (fn (fn (fn (fn (fn (fn (fn (fn (fn (fn (fn (fn (fn (fn (fn f0))))))))))))))))))))))))))))))))))))))))))))))))))))))))))))))))), by omega, by omega, hc, hg2, ⟨Y1, y1, Y2, y2, Y3, y3, rfl, hy1.toS (HG.all H17) (fun x hx _ => ⟨hnp8 x hx, .inr (by omega), fun e => by subst e; omega, fun e => by subst e; omega⟩), hy2.toR (HG.all H17) (fun x hx _ => ⟨hnp8 x hx, .inr (by omega), fun e => by subst e; omega, fun e => by subst e; omega⟩), hy3.toM (HG.all H17) (fun x hx _ => ⟨hnp8 x hx, .inr (by omega), fun e => by subst e; omega, fun e => by subst e; omega⟩)⟩, (HB.all (HR.all (HG.all H17))).pick [0, 1] (by decide)⟩
          · skip
            refine mixt_o rfl ?_
            have hszd := H12.size
            refine ops_alloc ty27 H12 ?_
            intro w13 g9 H13 hg9
            refine ops_nil ?_
            refine ⟨fun hne => H13.pick [0, 1, 2] (by decide), ?_⟩
            change MixT _ _ _ _ _ _ [_, _, _, _, _, _, _, _, _, _, _, _, _, _, _, _, _, _, _, _, _, _, _, _, _, _, _, _, _, _, _, _, _, _, _, _, _, _, _, _, _, _, _, _, _, _, _, _, _, _, _, _, _, _, _, _, _, _, _, _, _, _, _, _, _] _
            refine mixt_o rfl ?_
            have hszi := H13.size
            have hnp := Hp.fresh H13
            have hkb : ∀ x, (fun x => (okl x ∧ x < w0.heap.size ∨ w0.heap.size ≤ x) ∧ x ≠ g3 ∧ x ≠ g5) x → x < wl → x ∉ bl [((some g3, 0, []) : Ent), (some g5, 0, [])] ∧ (fun x => (fun x => (okl x ∧ x < w0.heap.size ∨ w0.heap.size ≤ x) ∧ x ≠ g3 ∧ x ≠ g5) x ∧ x ≠ g7 ∧ x ≠ g9) x := fun x hx hl => ⟨fun hb => by
              have : x = g3 ∨ x = g5 := by simpa [bl] using hb
              rcases this with h | h
              · exact hx.2.1 h
              · exact hx.2.2 h, hx, by omega, by omega⟩
            have hkl : ∀ x, okl x → x < w0.heap.size → x ∉ ([] : List Nat) ∧ (fun x => (fun x => (okl x ∧ x < w0.heap.size ∨ w0.heap.size ≤ x) ∧ x ≠ g3 ∧ x ≠ g5) x ∧ x ≠ g7 ∧ x ≠ g9) x := fun x hx hl => ⟨by simp, ⟨.inl ⟨hx, hl⟩, by omega, by omega⟩, by omega, by omega⟩
            refine ops_call (ex_call gf9 rfl) (into_r b X1 x1 X2 x2 X3 x3 nt B1 j1 B2 j2 (fun x => (fun x => (okl x ∧ x < w0.heap.size ∨ w0.heap.size ≤ x) ∧ x ≠ g3 ∧ x ≠ g5) x ∧ x ≠ g7 ∧ x ≠ g9) i _ (hx1.toS (HR.all H13) fun x hx hl => hkb x hx (by omega)) (hx2.toR (HR.all H13) fun x hx hl => hkb x hx (by omega)) (hx3.toM (HR.all H13) fun x hx hl => hkb x hx (by omega)) (hbv.to (HB.all (HR.all H13)) hkl) (hbe2.to (HB.all (HR.all H13)) hkl) hgood (by omega)) ?_
            rintro _ w14 ⟨Z1, m1, z1, Z2, m2, z2, Z3, m3, z3, fl, rfl, hyes, _, Hd⟩
            have HG := H13.callN Hd
            have HL := HG.here
            have H14 := HG
            obtain ⟨rfl, hB'⟩ := hyes b2 hin
            obtain ⟨⟨rfl, rfl, rfl⟩, hw1, hw2, hw3⟩ := hB'.of3
            have hreg : ∀ x, up (fun x => (fun x => (okl x ∧ x < w0.heap.size ∨ w0.heap.size ≤ x) ∧ x ≠ g3 ∧ x ≠ g5) x ∧ x ≠ g7 ∧ x ≠ g9) w13.heap.size x → x ∉ bl [((some g3, 0, []) : Ent), ((some g5, 0, []) : Ent), ((some g7, 0, []) : Ent), ((some g9, 0, []) : Ent)] := fun x hx hb => (show False from by
              rcases hx with hx | hx
              · have h1 := hx.1.2.1; have h2 := hx.1.2.2; have h3 := hx.2.1; have h4 := hx.2.2; have : x = g3 ∨ x = g5 ∨ x = g7 ∨ x = g9 := by simpa [bl] using hb
                omega
              · exact hnp x hx hb)
            refine ops_nil ?_
            refine ⟨fun hne => H14.pick [0, 1, 2] (by decide), ?_⟩
            change MixT _ _ _ _ _ _ [_, _, _, _, _, _, _, _, _, _, _, _, _, _, _, _, _, _, _, _, _, _, _, _, _, _, _, _, _, _, _, _, _, _, _, _, _, _, _, _, _, _, _, _, _, _, _, _, _, _, _, _, _, _, _, _, _, _, _, _, _, _, _, _, _] _
            refine mixt_p rfl ?_
            refine mix1_val (fun wz hz => ex_move rfl) ?_
            refine mixt_p rfl ?_
            refine mix1_val (fun wz hz => ex_extract rfl rfl) ?_
            refine mixt_p rfl ?_
            refine mix1_val (fun wz hz => ex_extract rfl rfl) ?_
            refine mixt_o rfl ?_
            refine ops_store ty27 HL 3 (vs := [.slice Z1 b2.groups.length z1, .slice Z2 b2.rights.length z2, .slice Z3 b2.last.length z3]) rfl rfl rfl rfl rfl (Nat.le_refl 3) rfl ?_
            intro w15 HL3
            have H15 := HG.all HL3
            refine ops_nil ?_
            refine ⟨fun hne => H15.pick [0, 1, 2] (by decide), ?_⟩
            change MixT _ _ _ _ _ _ [_, _, _, _, _, _, _, _, _, _, _, _, _, _, _, _, _, _, _, _, _, _, _, _, _, _, _, _, _, _, _, _, _, _, _, _, _, _, _, _, _, _, _, _, _, _, _, _, _, _, _, _, _, _, _, _, _, _, _, _, _, _, _, _, _] _
            refine mixt_o rfl ?_
            refine ops_val (ex_assign rfl) ?_
            replace H15 := HL3
            refine ops_nil ?_
            refine ⟨fun hne => absurd rfl hne, ?_⟩
            change MixT _ _ _ _ _ _ [_, _, _, _, _, _, _, _, _, _, _, _, _, _, _, _, _, _, _, _, _, _, _, _, _, _, _, _, _, _, _, _, _, _, _, _, _, _, _, _, _, _, _, _, _, _, _, _, _, _, _, _, _, _, _, _, _, _, _, _, _, _, _, _, _] _
            refine mixt_nil ?_
            refine nR65 ?_
            refine run_seq ?_
            refine run_seq ?_
            refine run_region ?_
            refine ops_val (ex_move rfl) ?_
            refine ops_false (ex_neq rfl rfl) (by decide) ?_
            refine ops_val (ex_move rfl) ?_
            refine nO65 ?_
            refine ops_yes rfl ?_
            refine ops_val (ex_move rfl) ?_
            refine ops_yes rfl ?_
            refine ops_val (ex_not rfl) ?_
            refine ops_val (ex_pick_f rfl rfl) ?_
            refine ops_val (ex_move rfl) ?_
            refine nO65 ?_
            refine ops_yes rfl ?_
            refine ops_val (ex_loadN ty27 rfl (vs := [.slice Y1 b2.groups.length y1, .slice Y2 b2.rights.length y2, .slice Y3 b2.last.length y3]) rfl (H15.cellsR (i := 2) rfl rfl)) ?_
            refine ops_yes rfl ?_
            refine ops_val (ex_loadN ty27 rfl (vs := [.slice Z1 b2.groups.length z1, .slice Z2 b2.rights.length z2, .slice Z3 b2.last.length z3]) rfl (H15.cellsR (i := 3) rfl rfl)) ?_
            refine nO65 ?_
            refine ops_yes rfl ?_
            refine ops_call_val (ex_call gf10 rfl) (alike_r b2.groups b2.rights Y1 y1 Y2 y2 Y3 b2.last.length y3 Z1 z1 Z2 z2 Z3 b2.last.length z3 (fun _ => True) (fun _ => True) _ (hy1.toS (HG.all H15) fun x hx _ => ⟨hnp8 x hx, trivial⟩) (hy2.toR (HG.all H15) fun x hx _ => ⟨hnp8 x hx, trivial⟩) (hw1.toS H15 fun x hx _ => ⟨hreg x hx, trivial⟩) (hw2.toR H15 fun x hx _ => ⟨hreg x hx, trivial⟩) (by have := hg2.eight; omega) (by have := hg2.few; omega) hg2.fews) ?_
            intro w16 Hd
            have H16 := H15.callN Hd
            refine ops_yes rfl ?_
            refine ops_val (ex_not rfl) ?_
            refine ops_val (ex_pick_f rfl rfl) ?_
            refine ops_nil ?_
            refine nR65 ?_
            refine run_cond_false rfl ?_
            refine run_skip ?_
            refine run_region ?_
            refine ops_val (ex_loadN ty27 rfl (vs := [.slice Y1 b2.groups.length y1, .slice Y2 b2.rights.length y2, .slice Y3 b2.last.length y3]) rfl (H16.cellsR (i := 2) rfl rfl)) ?_
            refine ops_store ty27 H16 1 (vs := [.slice Y1 b2.groups.length y1, .slice Y2 b2.rights.length y2, .slice Y3 b2.last.length y3]) rfl rfl rfl rfl rfl (Nat.le_refl 3) rfl ?_
            intro w17 H17
            refine ops_nil ?_
            refine nR65 ?_
            refine run_nil (blk_normal ?_)
            refine run_region ?_
            refine ops_val (ex_move rfl) ?_
            refine ops_val (ex_add rfl rfl (IntWalk.i64_in _ (by omega))) ?_
            refine ops_val (ex_assign rfl) ?_
            refine ops_nil ?_
            refine nR65 ?_
            refine run_nil (rnd_normal ?_)
            exact ⟨l.length - (i + 1), by omega, i + 1, _, b2, [.slice Y1 b2.groups.length y1, .slice Y2 b2.rights.length y2, .slice Y3 b2.last.length y3], rfl, (fs (fn (fn (fs (fn (fs (fs (fn (fn (fn (fn (fn (fn (fn (fn (fn (fn (fn (fn (fn (fn (fn (fn (fn (fn (fn (fn (fn (fn (fn (fn (fn (fn (fn (fn (fn (fn (fn (fn (fn (fn (fn (fn (fn (fn (fn (fn (fn (fn (fn (fn (fn (fn (fn (fn (fn (fn (fn (fn (fn (fn (fn (fn (fn (fn f0))))))))))))))))))))))))))))))))))))))))))))))))))))))))))))))))), by omega, by omega, hc, hg2, ⟨Y1, y1, Y2, y2, Y3, y3, rfl, hy1.toS (HG.all H17) (fun x hx _ => ⟨hnp8 x hx, .inr (by omega), fun e => by subst e; omega, fun e => by subst e; omega⟩), hy2.toR (HG.all H17) (fun x hx _ => ⟨hnp8 x hx, .inr (by omega), fun e => by subst e; omega, fun e => by subst e; omega⟩), hy3.toM (HG.all H17) (fun x hx _ => ⟨hnp8 x hx, .inr (by omega), fun e => by subst e; omega, fun e => by subst e; omega⟩)⟩, (HB.all (HR.all (HG.all H17))).pick [0, 1] (by decide)⟩
        · skip
          refine ops_nil ?_
          refine nR65 ?_
          refine run_cond_false rfl ?_
          refine run_exit ?_
          refine rnd_exit ?_
          refine blk_exit ?_
          refine run_seq ?_
          refine run_region ?_
          refine ops_val (ex_assign rfl) ?_
          refine ops_nil ?_
          refine nR65 ?_
          refine run_ret ?_
          refine fin_ret1 rfl rfl ?_
          exact ⟨rfl, (HB.all H8).noRows⟩
end Go.Proofs.YtbninklfoogmdaaGreat
