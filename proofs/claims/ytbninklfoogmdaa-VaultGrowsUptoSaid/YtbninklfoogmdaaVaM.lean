/- Walks of layer 2, printed by wip/gen/codec.py. -/
import Derived.Test.YtbninklfoogmdaaNrm
import Derived.Test.YtbninklfoogmdaaVt
import Derived.Test.YtbninklfoogmdaaVaH
import Derived.Test.YtbninklfoogmdaaVaI
import Derived.Test.YtbninklfoogmdaaVaL
namespace Go.Proofs.Ytbninklfoogmdaa
open Go Go.RowKit
set_option linter.unusedVariables false
attribute [local irreducible] Still Ops Does Cd
theorem promise_s (gs : Nat) (s : Sv) (A1 : Option Addr) (k1 : Nat) (A2 : Option Addr) (k2 : Nat) (A3 : Option Addr) (k3 : Nat) (n : Nt) (B1 : Option Addr) (j1 : Nat) (B2 : Option Addr) (j2 : Nat) (w0 : World) (hrow : w0.heap[gs]? = some (.cells [.int .i64 s.p.r, .int .i64 s.p.n, .slice A1 s.votes.length k1, .int .i64 s.index, .slice A2 s.image.length k2, .slice A3 s.entries.length k3].toArray 39 (0, 0))) (ok : Nat → Prop) (hok : ¬ ok gs) (hv1 : Sl (VtR w0 ok) 4 w0 ok A1 s.votes) (hv2 : Bs w0 ok A2 s.image) (hv3 : Sl (EnR w0 ok) 2 w0 ok A3 s.entries) :
    Does Try.prog 19 #[.pointer (some ⟨gs, 0, none⟩), .agg [.int .i64 n.kind, .int .i64 n.group, .int .i64 n.b.r, .int .i64 n.b.n, .int .i64 n.vote.slot, .int .i64 n.vote.b.r, .int .i64 n.vote.b.n, .slice B1 n.vote.val.length j1, .int .i64 n.entry.slot, .slice B2 n.entry.val.length j2, .int .i64 n.right.g, strV n.right.key, .int .i64 n.right.lease, .int .i64 n.right.net, .int .i64 n.client, .int .i64 n.seq].toArray] w0 (fun _ w' => ∃ cs', Hp w0 w' [gs] [((some gs, 39, cs') : Ent)] ∧ SvR w' (up ok w0.heap.size) cs' (s.raise n.b)) := by
  refine (promise_v gs s.p _ _ _ _ n B1 j1 B2 j2 w0 hrow).mono fun r w' H => ?_
  have hks := up_k (n := w0.heap.size) (ok := ok) (S := [gs]) fun x hx hg => hok (by rw [← List.mem_singleton.1 hg]; exact hx)
  rw [raise_eq]
  exact ⟨_, H, A1, k1, A2, k2, A3, k3, rfl, hv1.toV H hks, hv2.to H hks, hv3.toE H hks⟩
set_option maxRecDepth 100000 in
set_option maxHeartbeats 32000000 in
theorem goes_v (gb : Nat) (b : Bo) (A1 : Option Addr) (k1 : Nat) (A2 : Option Addr) (k2 : Nat) (A3 : Option Addr) (k3 : Nat) (n : Nt) (B1 : Option Addr) (j1 : Nat) (B2 : Option Addr) (j2 : Nat) (okn : Nat → Prop) (N : Nat) (w0 : World) (hrow : w0.heap[gb]? = some (.cells [.slice A1 b.groups.length k1, .slice A2 b.rights.length k2, .slice A3 b.last.length k3].toArray 28 (0, 0))) (ok : Nat → Prop) (hok : ¬ ok gb) (hb1 : Sl (SvR w0 ok) 6 w0 ok A1 b.groups) (hb2 : Sl RtR 4 w0 ok A2 b.rights) (hb3 : Sl MkR 7 w0 ok A3 b.last) (hokn : ¬ okn gb) (hbv : Bs w0 okn B1 n.vote.val) (hbe : Bs w0 okn B2 n.entry.val) (hg : Good b N) (hN : N ≤ 900000000000) :
    Does Try.prog 8 #[.pointer (some ⟨gb, 0, none⟩), .agg [.int .i64 n.kind, .int .i64 n.group, .int .i64 n.b.r, .int .i64 n.b.n, .int .i64 n.vote.slot, .int .i64 n.vote.b.r, .int .i64 n.vote.b.n, .slice B1 n.vote.val.length j1, .int .i64 n.entry.slot, .slice B2 n.entry.val.length j2, .int .i64 n.right.g, strV n.right.key, .int .i64 n.right.lease, .int .i64 n.right.net, .int .i64 n.client, .int .i64 n.seq].toArray] w0 (fun r w' => (∀ b', b.into n = some b' → r = .bool true ∧ ∃ cs', Hp w0 w' [gb] [((some gb, 28, cs') : Ent)] ∧ BoR w' (up ok w0.heap.size) cs' b') ∧ (b.into n = none → r = .bool false ∧ Hp w0 w' [gb] [])) := by
  refine does_of Try.func8 Try.ntmps8 rfl ?_
  refine nR58 ?_
  have H := Hp.old hrow
  have hks := up_k (n := w0.heap.size) (ok := ok) (S := [gb]) fun x hx hg => hok (by rw [← List.mem_singleton.1 hg]; exact hx)
  have hkB : ∀ x, ok x → x < w0.heap.size → x ∉ [gb] ∧ (ok x ∧ x < w0.heap.size) := fun x hx hl => ⟨(hks x hx hl).1, hx, hl⟩
  have hkn : ∀ x, okn x → x < w0.heap.size → x ∉ [gb] ∧ (okn x ∧ x < w0.heap.size) := fun x hx hl => ⟨fun hg => hokn (by rw [← List.mem_singleton.1 hg]; exact hx), hx, hl⟩
  obtain ⟨pg, hpg, hrg, hag, h2g⟩ := id hb1
  have hgl := h2g.len
  have h8 := hg.eight
  have hong := h2g.ones fun _ _ h => h.ones
  refine run_seq ?_
  refine run_region ?_
  refine ops_box rfl rfl H ?_
  intro w1 g1 H1 hg1
  refine ops_val (ex_assign rfl) ?_
  refine ops_nil ?_
  refine nR58 ?_
  refine run_seq ?_
  refine run_seq ?_
  refine run_region ?_
  refine ops_val (ex_fieldAddr fl48_0 rfl) ?_
  refine ops_val (ex_load ty3 rfl (H1.cell (i := 1) rfl rfl)) ?_
  refine ops_test (ex_eql rfl rfl) (fun hp9 => ?_) (fun hp9 => ?_)
  · skip
    refine ops_nil ?_
    refine nR58 ?_
    refine run_cond_true rfl ?_
    refine run_seq ?_
    refine run_region ?_
    refine ops_val (ex_move rfl) ?_
    refine ops_val (ex_loadN ty48 rfl (vs := [.int .i64 n.kind, .int .i64 n.group, .int .i64 n.b.r, .int .i64 n.b.n, .int .i64 n.vote.slot, .int .i64 n.vote.b.r, .int .i64 n.vote.b.n, .slice B1 n.vote.val.length j1, .int .i64 n.entry.slot, .slice B2 n.entry.val.length j2, .int .i64 n.right.g, strV n.right.key, .int .i64 n.right.lease, .int .i64 n.right.net, .int .i64 n.client, .int .i64 n.seq]) rfl (H1.cellsR (i := 1) rfl rfl)) ?_
    have HZ0 := H1
    refine ops_call (ex_call gf9 rfl) (spent_v gb b A1 k1 A2 k2 A3 k3 n B1 j1 B2 j2 N _ (H1.at (i := 0) rfl) (up ok w0.heap.size) (fun hh => by rcases hh with h | h; exact hok h; have := (Array.getElem?_eq_some_iff.1 hrow).1; omega) (hb1.toS H1 hks) (hb2.toR H1 hks) (hb3.toM H1 hks) hg hN) ?_
    rintro r w2 ⟨hyes, hno⟩
    by_cases hmay : mayR n.right
    · obtain ⟨rfl, cs', Hd, hB⟩ := hyes hmay
      have hszp := HZ0.size
      have HN9 := (HZ0.callr [0] rfl Hd).pick [2] (by decide)
      refine ops_val (ex_assign rfl) ?_
      refine ops_nil ?_
      refine nR58 ?_
      refine run_ret ?_
      refine fin_ret1 rfl rfl ?_
      exact ⟨fun b' hb' => by
        rw [into_right hp9 hmay] at hb'
        simp only [Option.some.injEq] at hb'
        subst hb'
        exact ⟨rfl, cs', HN9, hB.to (Hp.refl _) (fun x hx _ => ⟨by simp, by
          rcases hx with hx | hx
          · exact hx
          · exact .inr (by omega)⟩)⟩, fun h => by rw [into_right hp9 hmay] at h; cases h⟩
    · obtain ⟨rfl, Hd⟩ := hno hmay
      have HN9 := (HZ0.callr [0] rfl Hd).noRows
      refine ops_val (ex_assign rfl) ?_
      refine ops_nil ?_
      refine nR58 ?_
      refine run_ret ?_
      refine fin_ret1 rfl rfl ?_
      exact ⟨(fun b' hb' => by rw [into_wrong hp9 hmay] at hb'; cases hb'), fun _ => ⟨rfl, HN9⟩⟩
  · skip
    refine ops_nil ?_
    refine nR58 ?_
    refine run_cond_false rfl ?_
    refine run_skip ?_
    refine run_seq ?_
    refine run_region ?_
    refine ops_val (ex_fieldAddr fl48_0 rfl) ?_
    refine ops_val (ex_load ty3 rfl (H1.cell (i := 1) rfl rfl)) ?_
    refine ops_call (ex_call gf10 rfl) (table_v n.kind _) ?_
    rintro r w2 ⟨h0, h1, h2, h3, h4, Hd⟩
    have H2 := H1.callN Hd
    obtain hk | hk | hk | hk | hk : (n.kind < 1 ∨ 4 < n.kind) ∨ n.kind = 1 ∨ n.kind = 2 ∨ n.kind = 3 ∨ n.kind = 4 := by omega
    · obtain rfl := h0 hk
      refine ops_val (ex_assign rfl) ?_
      refine ops_nil ?_
      refine nR58 ?_
      refine run_seq ?_
      refine run_seq ?_
      refine run_region ?_
      refine ops_val (ex_move rfl) ?_
      refine ops_val (ex_eql_func0 Try.underlying52 rfl) ?_
      refine ops_val (ex_move rfl) ?_
      refine nO58 ?_
      refine ops_no rfl ?_
      refine ops_no rfl ?_
      refine nO58 ?_
      refine ops_no rfl ?_
      refine ops_val (ex_pick_t rfl rfl) ?_
      refine ops_val (ex_move rfl) ?_
      refine nO58 ?_
      refine ops_no rfl ?_
      refine ops_no rfl ?_
      refine nO58 ?_
      refine ops_no rfl ?_
      refine ops_val (ex_pick_t rfl rfl) ?_
      refine ops_nil ?_
      refine nR58 ?_
      refine run_cond_true rfl ?_
      refine run_seq ?_
      refine run_region ?_
      refine ops_val (ex_assign rfl) ?_
      refine ops_nil ?_
      refine nR58 ?_
      refine run_ret ?_
      refine fin_ret1 rfl rfl ?_
      exact ⟨(fun b' hb' => by rw [into_bad hp9 (by omega)] at hb'; cases hb'), fun _ => ⟨rfl, H2.noRows⟩⟩
    · obtain rfl := h1 hk
      refine ops_val (ex_assign rfl) ?_
      refine ops_nil ?_
      refine nR58 ?_
      refine run_seq ?_
      refine run_seq ?_
      refine run_region ?_
      refine ops_val (ex_move rfl) ?_
      refine ops_val (ex_eql_func Try.underlying52 rfl) ?_
      refine ops_val (ex_move rfl) ?_
      refine nO58 ?_
      refine ops_yes rfl ?_
      refine ops_val (ex_fieldAddr fl48_1 rfl) ?_
      refine ops_yes rfl ?_
      refine ops_val (ex_load ty3 rfl (H2.cell (i := 1) rfl rfl)) ?_
      refine nO58 ?_
      refine ops_yes rfl ?_
      refine ops_test (ex_lss rfl rfl) (fun hp21 => ?_) (fun hp21 => ?_)
      · skip
        refine ops_val (ex_pick_f rfl rfl) ?_
        refine ops_val (ex_move rfl) ?_
        refine nO58 ?_
        refine ops_no rfl ?_
        refine ops_no rfl ?_
        refine nO58 ?_
        refine ops_no rfl ?_
        refine ops_val (ex_pick_t rfl rfl) ?_
        refine ops_nil ?_
        refine nR58 ?_
        refine run_cond_true rfl ?_
        refine run_seq ?_
        refine run_region ?_
        refine ops_val (ex_assign rfl) ?_
        refine ops_nil ?_
        refine nR58 ?_
        refine run_ret ?_
        refine fin_ret1 rfl rfl ?_
        exact ⟨(fun b' hb' => by rw [into_bad hp9 (by omega)] at hb'; cases hb'), fun _ => ⟨rfl, H2.noRows⟩⟩
      · skip
        refine ops_val (ex_pick_f rfl rfl) ?_
        refine ops_val (ex_move rfl) ?_
        refine nO58 ?_
        refine ops_yes rfl ?_
        refine ops_val (ex_fieldAddr fl48_1 rfl) ?_
        refine ops_yes rfl ?_
        refine ops_val (ex_load ty3 rfl (H2.cell (i := 1) rfl rfl)) ?_
        refine nO58 ?_
        refine ops_yes rfl ?_
        refine ops_test (ex_geq rfl rfl) (fun hp26 => ?_) (fun hp26 => ?_)
        · skip
          refine ops_val (ex_pick_f rfl rfl) ?_
          refine ops_nil ?_
          refine nR58 ?_
          refine run_cond_true rfl ?_
          refine run_seq ?_
          refine run_region ?_
          refine ops_val (ex_assign rfl) ?_
          refine ops_nil ?_
          refine nR58 ?_
          refine run_ret ?_
          refine fin_ret1 rfl rfl ?_
          exact ⟨(fun b' hb' => by rw [into_bad hp9 (by omega)] at hb'; cases hb'), fun _ => ⟨rfl, H2.noRows⟩⟩
        · obtain ⟨s, hs⟩ := get_of (l := b.groups) (j := n.group.toNat) (by omega)
          have hsl := lt_of_get hs
          obtain ⟨p1, hp1, hR⟩ := h2g.get hs
          obtain ⟨C1, q1, C2, q2, C3, q3, rfl, hv1, hv2, hv3⟩ := hR
          obtain ⟨a1, ha1⟩ := hrg.some_ (by omega)
          subst ha1
          have hce := (chk_iff s).1 (hg.chk s (mem_of hs))
          have hvfew := vts_few hce
          have hefew := ents_few hce
          have hglen := goes_len s n
          refine ops_val (ex_pick_f rfl rfl) ?_
          refine ops_nil ?_
          refine nR58 ?_
          refine run_cond_false rfl ?_
          refine run_skip ?_
          refine run_seq ?_
          refine run_mixZ 9 [(true, 0), (true, 1), (true, 2), (true, 3), (true, 4), (true, 5), (true, 6), (true, 7), (false, 8), (false, 9)] H2 [0, 1] mixed (by decide) (by kernel_rfl) ?_
          rintro w3 hw3
          have H3 := Hp.drew H2; rw [← hw3] at H3
          refine mixz_p rfl ?_
          refine mix1_val (fun wz hz => ex_move rfl) ?_
          refine mixz_p rfl ?_
          refine mix1_val (fun wz hz => ex_nilCheck rfl) ?_
          refine mixz_p rfl ?_
          refine mix1_val (fun wz hz => ex_fieldAddr fl28_0 rfl) ?_
          refine mixz_p rfl ?_
          refine mix1_val (fun wz hz => ex_load ty24 rfl (hz.cell (i := 0) rfl rfl)) ?_
          refine nZ58 ?_
          refine mixz_p rfl ?_
          refine mix1_val (fun wz hz => ex_fieldAddr fl48_1 rfl) ?_
          refine mixz_p rfl ?_
          refine mix1_val (fun wz hz => ex_load ty3 rfl (hz.cell (i := 1) rfl rfl)) ?_
          refine mixz_p rfl ?_
          refine mix1_val (fun wz hz => ex_idx Try.underlying24 ty39 rfl rfl (len := b.groups.length) (i := n.group.toNat) (by omega) (by omega) rfl) ?_
          refine mixz_p rfl ?_
          refine mix1_val (fun wz hz => ex_loadN ty39 rfl (vs := [.int .i64 s.p.r, .int .i64 s.p.n, .slice C1 s.votes.length q1, .int .i64 s.index, .slice C2 s.image.length q2, .slice C3 s.entries.length q3]) rfl ((hrg.move (by decide) hag hz hks).1.elem hpg hp1)) ?_
          refine nZ58 ?_
          refine mixz_o rfl ?_
          refine ops_alloc ty39 H3 ?_
          intro w4 gs H4 hgs
          have hgs0 : w0.heap.size ≤ gs := by have := H3.size; omega
          refine ops_nil ?_
          refine ⟨fun hne => H4.pick [0, 1] (by decide), ?_⟩
          refine nZ58 ?_
          refine mixz_o rfl ?_
          refine ops_store ty39 H4 2 rfl rfl rfl rfl rfl (by first | decide | (simp; done) | simp [putAt]) rfl ?_
          intro w5 H5
          refine ops_nil ?_
          refine ⟨fun hne => absurd rfl hne, ?_⟩
          refine nZ58 ?_
          refine mixz_nil ?_
          refine nR58 ?_
          refine run_seq ?_
          refine run_region ?_
          refine ops_val (ex_move rfl) ?_
          refine ops_val (ex_loadN ty48 rfl (vs := [.int .i64 n.kind, .int .i64 n.group, .int .i64 n.b.r, .int .i64 n.b.n, .int .i64 n.vote.slot, .int .i64 n.vote.b.r, .int .i64 n.vote.b.n, .slice B1 n.vote.val.length j1, .int .i64 n.entry.slot, .slice B2 n.entry.val.length j2, .int .i64 n.right.g, strV n.right.key, .int .i64 n.right.lease, .int .i64 n.right.net, .int .i64 n.client, .int .i64 n.seq]) rfl (H5.cellsR (i := 1) rfl rfl)) ?_
          refine ops_call (ex_call_val gf19 rfl rfl) (promise_s gs s C1 q1 C2 q2 C3 q3 n B1 j1 B2 j2 _ (H5.at (i := 2) rfl) (fun x => ok x ∧ x < w0.heap.size) (fun hh => by have := hh.2; omega) (hv1.toV H5 hkB) (hv2.to H5 hkB) (hv3.toE H5 hkB)) ?_
          rintro _ w6 ⟨cs2, Hd, hsv⟩
          have hnp := Hp.fresh H5
          have hszp := H5.size
          have hpl := bl_place H5
          have HB := (H5.callr [2] rfl Hd).pick [0, 1, 3] (by decide)
          rw [← goes1 hk] at hsv
          obtain ⟨D1, e1, D2, e2, D3, e3, rfl, hw1, hw2, hw3⟩ := hsv
          have H6 := HB.here
          have hnk : ∀ x, up (fun x => ok x ∧ x < w0.heap.size) w5.heap.size x → x ∉ bl _ := fun x hx hb => (show False from by
            rcases hx with hx | hx
            · rcases hpl x hb with h | h
              · exact (hks x hx.1 hx.2).1 h
              · have := hx.2; omega
            · exact hnp x hx hb)
          have hkk : ∀ x, up (fun x => ok x ∧ x < w0.heap.size) w5.heap.size x → x < w6.heap.size → x ∉ bl _ ∧ up ok w0.heap.size x := fun x hx _ => ⟨hnk x hx, by
            rcases hx with hx | hx
            · exact .inl hx.1
            · exact .inr (by omega)⟩
          refine ops_nil ?_
          refine nR58 ?_
          refine run_seq ?_
          refine run_seq ?_
          refine run_region ?_
          refine ops_val (ex_loadN ty39 rfl (vs := [.int .i64 (s.goes n).p.r, .int .i64 (s.goes n).p.n, .slice D1 (s.goes n).votes.length e1, .int .i64 (s.goes n).index, .slice D2 (s.goes n).image.length e2, .slice D3 (s.goes n).entries.length e3]) rfl (H6.cellsR (i := 2) rfl rfl)) ?_
          refine ops_call (ex_call gf11 rfl) (check_p (s.goes n) D1 e1 D2 e2 D3 e3 _ _ hw1 hw2 hw3 (by omega) (by omega)) ?_
          rintro _ w7 ⟨e, rfl, hans, Hd⟩
          have H7 := H6.callN Hd
          refine ops_test (ex_neq rfl rfl) (fun hp41 => ?_) (fun hp41 => ?_)
          · skip
            refine ops_nil ?_
            refine nR58 ?_
            refine run_cond_true rfl ?_
            refine run_seq ?_
            refine run_region ?_
            refine ops_val (ex_assign rfl) ?_
            refine ops_nil ?_
            refine nR58 ?_
            refine run_ret ?_
            refine fin_ret1 rfl rfl ?_
            exact ⟨(fun b' hb' => by rw [into_no hp9 hs (by cases hc : chk (s.goes n) with | false => rfl | true => exact absurd (hans.1 hc) hp41)] at hb'; cases hb'), fun _ => ⟨rfl, (HB.all H7).noRows⟩⟩
          · have hchk : chk (s.goes n) = true := by cases hc : chk (s.goes n) with | true => rfl | false => have := hans.2 hc; omega
            refine ops_nil ?_
            refine nR58 ?_
            refine run_cond_false rfl ?_
            refine run_skip ?_
            refine run_seq ?_
            refine run_region ?_
            refine ops_val (ex_move rfl) ?_
            refine ops_val (ex_move rfl) ?_
            refine ops_val (ex_nilCheck rfl) ?_
            refine ops_val (ex_fieldAddr fl28_0 rfl) ?_
            refine nO58 ?_
            refine ops_val (ex_load ty24 rfl (H7.cell (i := 0) rfl rfl)) ?_
            refine ops_call (ex_call gf12 rfl) (cloneS (some a1) b.groups.length k1 pg.flatten _ (hrg.move (by decide) hag (HB.all H7) hks).1 (ones_flatten hong) (by rw [h8]; decide)) ?_
            rintro _ w8 ⟨gv, cv, sv, rfl, hmv, hcv, hgv0, Hc⟩
            have H8 := H7.call0 Hc
            obtain ⟨gw, rfl⟩ := own_some H8 (i := 3) rfl (by rw [List.length_append, hpg.len]; omega)
            refine ops_val (ex_nilCheck rfl) ?_
            refine ops_val (ex_fieldAddr fl28_0 rfl) ?_
            refine nO58 ?_
            refine ops_store1 ty24 H8 0 rfl rfl rfl rfl (by first | (simp; done) | simp [putAt]) rfl ?_
            intro w9 H9
            refine ops_nil ?_
            refine nR58 ?_
            refine run_seq ?_
            refine run_mixZ 8 [(true, 0), (true, 1), (true, 2), (true, 3), (true, 4), (true, 5), (true, 6), (true, 7), (false, 8)] H9 [0, 1, 2, 3] mixed (by decide) (by kernel_rfl) ?_
            rintro w10 hw10
            have H10 := Hp.drew H9; rw [← hw10] at H10
            refine mixz_p rfl ?_
            refine mix1_val (fun wz hz => ex_move rfl) ?_
            refine mixz_p rfl ?_
            refine mix1_val (fun wz hz => ex_nilCheck rfl) ?_
            refine mixz_p rfl ?_
            refine mix1_val (fun wz hz => ex_fieldAddr fl28_0 rfl) ?_
            refine mixz_p rfl ?_
            refine mix1_val (fun wz hz => ex_load ty24 rfl (hz.cell (i := 0) rfl rfl)) ?_
            refine nZ58 ?_
            refine mixz_p rfl ?_
            refine mix1_val (fun wz hz => ex_fieldAddr fl48_1 rfl) ?_
            refine mixz_p rfl ?_
            refine mix1_val (fun wz hz => ex_load ty3 rfl (hz.cell (i := 1) rfl rfl)) ?_
            refine mixz_p rfl ?_
            refine mix1_val (fun wz hz => ex_loadN ty39 rfl (vs := [.int .i64 (s.goes n).p.r, .int .i64 (s.goes n).p.n, .slice D1 (s.goes n).votes.length e1, .int .i64 (s.goes n).index, .slice D2 (s.goes n).image.length e2, .slice D3 (s.goes n).entries.length e3]) rfl (hz.cellsR (i := 2) rfl rfl)) ?_
            refine mixz_p rfl ?_
            refine mix1_val (fun wz hz => ex_idxN Try.underlying24 ty39 rfl rfl (len := b.groups.length) (i := n.group.toNat) (by omega) (by omega)) ?_
            refine nZ58 ?_
            refine mixz_o rfl ?_
            refine ops_store ty39 H10 3 rfl rfl rfl rfl rfl (by rw [List.length_append, hpg.len]; show 0 + n.group.toNat * 6 + 6 ≤ _; omega) rfl ?_
            intro w11 H11
            rw [store_elem (sz := 6) (vs := [.int .i64 (s.goes n).p.r, .int .i64 (s.goes n).p.n, .slice D1 (s.goes n).votes.length e1, .int .i64 (s.goes n).index, .slice D2 (s.goes n).image.length e2, .slice D3 (s.goes n).entries.length e3]) hpg (by omega) rfl] at H11
            refine ops_nil ?_
            refine ⟨fun hne => absurd rfl hne, ?_⟩
            refine nZ58 ?_
            refine mixz_nil ?_
            refine nR58 ?_
            refine run_seq ?_
            refine run_region ?_
            refine ops_val (ex_assign rfl) ?_
            refine ops_nil ?_
            refine nR58 ?_
            refine run_ret ?_
            refine fin_ret1 rfl rfl ?_
            have HW := HB.all H11
            refine ⟨fun b' hb' => ?_, fun h => by rw [into_yes hp9 (by omega) hs hchk] at h; cases h⟩
            rw [into_yes hp9 (by omega) hs hchk] at hb'
            simp only [Option.some.injEq] at hb'
            subst hb'
            refine ⟨rfl, _, HW.pick [0] (by decide), hd (some gw), cv, A2, k2, A3, k3, by rw [List.length_set]; rfl, ?_, hb2.toR HW hks, hb3.toM HW hks⟩
            exact Sl.row HW (i := 3) rfl (hpg.set_len rfl) (by decide) ((h2g.imp (R' := SvR w11 (up ok w0.heap.size)) fun p x h => h.to HW hks).set _ ⟨D1, e1, D2, e2, D3, e3, rfl, hw1.toV H11 hkk, hw2.to H11 hkk, hw3.toE H11 hkk⟩) (fun c hc => row_new (ok := ok) HW (i := 3) rfl (fun c hc => by rw [List.mem_singleton.1 hc]; exact fun e => HW.ne (i := 3) (j := 0) (g := gb) (by rw [e]; rfl) rfl (by decide) rfl) c hc)
    · obtain rfl := h2 hk
      refine ops_val (ex_assign rfl) ?_
      refine ops_nil ?_
      refine nR58 ?_
      refine run_seq ?_
      refine run_seq ?_
      refine run_region ?_
      refine ops_val (ex_move rfl) ?_
      refine ops_val (ex_eql_func Try.underlying52 rfl) ?_
      refine ops_val (ex_move rfl) ?_
      refine nO58 ?_
      refine ops_yes rfl ?_
      refine ops_val (ex_fieldAddr fl48_1 rfl) ?_
      refine ops_yes rfl ?_
      refine ops_val (ex_load ty3 rfl (H2.cell (i := 1) rfl rfl)) ?_
      refine nO58 ?_
      refine ops_yes rfl ?_
      refine ops_test (ex_lss rfl rfl) (fun hp21 => ?_) (fun hp21 => ?_)
      · skip
        refine ops_val (ex_pick_f rfl rfl) ?_
        refine ops_val (ex_move rfl) ?_
        refine nO58 ?_
        refine ops_no rfl ?_
        refine ops_no rfl ?_
        refine nO58 ?_
        refine ops_no rfl ?_
        refine ops_val (ex_pick_t rfl rfl) ?_
        refine ops_nil ?_
        refine nR58 ?_
        refine run_cond_true rfl ?_
        refine run_seq ?_
        refine run_region ?_
        refine ops_val (ex_assign rfl) ?_
        refine ops_nil ?_
        refine nR58 ?_
        refine run_ret ?_
        refine fin_ret1 rfl rfl ?_
        exact ⟨(fun b' hb' => by rw [into_bad hp9 (by omega)] at hb'; cases hb'), fun _ => ⟨rfl, H2.noRows⟩⟩
      · skip
        refine ops_val (ex_pick_f rfl rfl) ?_
        refine ops_val (ex_move rfl) ?_
        refine nO58 ?_
        refine ops_yes rfl ?_
        refine ops_val (ex_fieldAddr fl48_1 rfl) ?_
        refine ops_yes rfl ?_
        refine ops_val (ex_load ty3 rfl (H2.cell (i := 1) rfl rfl)) ?_
        refine nO58 ?_
        refine ops_yes rfl ?_
        refine ops_test (ex_geq rfl rfl) (fun hp26 => ?_) (fun hp26 => ?_)
        · skip
          refine ops_val (ex_pick_f rfl rfl) ?_
          refine ops_nil ?_
          refine nR58 ?_
          refine run_cond_true rfl ?_
          refine run_seq ?_
          refine run_region ?_
          refine ops_val (ex_assign rfl) ?_
          refine ops_nil ?_
          refine nR58 ?_
          refine run_ret ?_
          refine fin_ret1 rfl rfl ?_
          exact ⟨(fun b' hb' => by rw [into_bad hp9 (by omega)] at hb'; cases hb'), fun _ => ⟨rfl, H2.noRows⟩⟩
        · obtain ⟨s, hs⟩ := get_of (l := b.groups) (j := n.group.toNat) (by omega)
          have hsl := lt_of_get hs
          obtain ⟨p1, hp1, hR⟩ := h2g.get hs
          obtain ⟨C1, q1, C2, q2, C3, q3, rfl, hv1, hv2, hv3⟩ := hR
          obtain ⟨a1, ha1⟩ := hrg.some_ (by omega)
          subst ha1
          have hce := (chk_iff s).1 (hg.chk s (mem_of hs))
          have hvfew := vts_few hce
          have hefew := ents_few hce
          have hglen := goes_len s n
          refine ops_val (ex_pick_f rfl rfl) ?_
          refine ops_nil ?_
          refine nR58 ?_
          refine run_cond_false rfl ?_
          refine run_skip ?_
          refine run_seq ?_
          refine run_mixZ 9 [(true, 0), (true, 1), (true, 2), (true, 3), (true, 4), (true, 5), (true, 6), (true, 7), (false, 8), (false, 9)] H2 [0, 1] mixed (by decide) (by kernel_rfl) ?_
          rintro w3 hw3
          have H3 := Hp.drew H2; rw [← hw3] at H3
          refine mixz_p rfl ?_
          refine mix1_val (fun wz hz => ex_move rfl) ?_
          refine mixz_p rfl ?_
          refine mix1_val (fun wz hz => ex_nilCheck rfl) ?_
          refine mixz_p rfl ?_
          refine mix1_val (fun wz hz => ex_fieldAddr fl28_0 rfl) ?_
          refine mixz_p rfl ?_
          refine mix1_val (fun wz hz => ex_load ty24 rfl (hz.cell (i := 0) rfl rfl)) ?_
          refine nZ58 ?_
          refine mixz_p rfl ?_
          refine mix1_val (fun wz hz => ex_fieldAddr fl48_1 rfl) ?_
          refine mixz_p rfl ?_
          refine mix1_val (fun wz hz => ex_load ty3 rfl (hz.cell (i := 1) rfl rfl)) ?_
          refine mixz_p rfl ?_
          refine mix1_val (fun wz hz => ex_idx Try.underlying24 ty39 rfl rfl (len := b.groups.length) (i := n.group.toNat) (by omega) (by omega) rfl) ?_
          refine mixz_p rfl ?_
          refine mix1_val (fun wz hz => ex_loadN ty39 rfl (vs := [.int .i64 s.p.r, .int .i64 s.p.n, .slice C1 s.votes.length q1, .int .i64 s.index, .slice C2 s.image.length q2, .slice C3 s.entries.length q3]) rfl ((hrg.move (by decide) hag hz hks).1.elem hpg hp1)) ?_
          refine nZ58 ?_
          refine mixz_o rfl ?_
          refine ops_alloc ty39 H3 ?_
          intro w4 gs H4 hgs
          have hgs0 : w0.heap.size ≤ gs := by have := H3.size; omega
          refine ops_nil ?_
          refine ⟨fun hne => H4.pick [0, 1] (by decide), ?_⟩
          refine nZ58 ?_
          refine mixz_o rfl ?_
          refine ops_store ty39 H4 2 rfl rfl rfl rfl rfl (by first | decide | (simp; done) | simp [putAt]) rfl ?_
          intro w5 H5
          refine ops_nil ?_
          refine ⟨fun hne => absurd rfl hne, ?_⟩
          refine nZ58 ?_
          refine mixz_nil ?_
          refine nR58 ?_
          refine run_seq ?_
          refine run_region ?_
          refine ops_val (ex_move rfl) ?_
          refine ops_val (ex_loadN ty48 rfl (vs := [.int .i64 n.kind, .int .i64 n.group, .int .i64 n.b.r, .int .i64 n.b.n, .int .i64 n.vote.slot, .int .i64 n.vote.b.r, .int .i64 n.vote.b.n, .slice B1 n.vote.val.length j1, .int .i64 n.entry.slot, .slice B2 n.entry.val.length j2, .int .i64 n.right.g, strV n.right.key, .int .i64 n.right.lease, .int .i64 n.right.net, .int .i64 n.client, .int .i64 n.seq]) rfl (H5.cellsR (i := 1) rfl rfl)) ?_
          refine ops_call (ex_call_val gf20 rfl rfl) (vote_v gs s C1 q1 C2 q2 C3 q3 n B1 j1 B2 j2 (fun x => okn x ∧ x < w0.heap.size) _ (H5.at (i := 2) rfl) (fun x => ok x ∧ x < w0.heap.size) (fun hh => by have := hh.2; omega) (hv1.toV H5 hkB) (hv2.to H5 hkB) (hv3.toE H5 hkB) (fun hh => by have := hh.2; omega) (hbv.to H5 hkn) (rise_vt (vts_rise hce.v).2 _) (by omega) ⟨hce.i.1, hce.i.2.1⟩ hefew) ?_
          rintro _ w6 ⟨cs2, Hd, hsv⟩
          have hnp := Hp.fresh H5
          have hszp := H5.size
          have hpl := bl_place H5
          have HB := (H5.callr [2] rfl Hd).pick [0, 1, 3] (by decide)
          rw [← goes2 hk] at hsv
          obtain ⟨D1, e1, D2, e2, D3, e3, rfl, hw1, hw2, hw3⟩ := hsv
          have H6 := HB.here
          have hnk : ∀ x, up (fun x => ok x ∧ x < w0.heap.size) w5.heap.size x → x ∉ bl _ := fun x hx hb => (show False from by
            rcases hx with hx | hx
            · rcases hpl x hb with h | h
              · exact (hks x hx.1 hx.2).1 h
              · have := hx.2; omega
            · exact hnp x hx hb)
          have hkk : ∀ x, up (fun x => ok x ∧ x < w0.heap.size) w5.heap.size x → x < w6.heap.size → x ∉ bl _ ∧ up ok w0.heap.size x := fun x hx _ => ⟨hnk x hx, by
            rcases hx with hx | hx
            · exact .inl hx.1
            · exact .inr (by omega)⟩
          refine ops_nil ?_
          refine nR58 ?_
          refine run_seq ?_
          refine run_seq ?_
          refine run_region ?_
          refine ops_val (ex_loadN ty39 rfl (vs := [.int .i64 (s.goes n).p.r, .int .i64 (s.goes n).p.n, .slice D1 (s.goes n).votes.length e1, .int .i64 (s.goes n).index, .slice D2 (s.goes n).image.length e2, .slice D3 (s.goes n).entries.length e3]) rfl (H6.cellsR (i := 2) rfl rfl)) ?_
          refine ops_call (ex_call gf11 rfl) (check_p (s.goes n) D1 e1 D2 e2 D3 e3 _ _ hw1 hw2 hw3 (by omega) (by omega)) ?_
          rintro _ w7 ⟨e, rfl, hans, Hd⟩
          have H7 := H6.callN Hd
          refine ops_test (ex_neq rfl rfl) (fun hp41 => ?_) (fun hp41 => ?_)
          · skip
            refine ops_nil ?_
            refine nR58 ?_
            refine run_cond_true rfl ?_
            refine run_seq ?_
            refine run_region ?_
            refine ops_val (ex_assign rfl) ?_
            refine ops_nil ?_
            refine nR58 ?_
            refine run_ret ?_
            refine fin_ret1 rfl rfl ?_
            exact ⟨(fun b' hb' => by rw [into_no hp9 hs (by cases hc : chk (s.goes n) with | false => rfl | true => exact absurd (hans.1 hc) hp41)] at hb'; cases hb'), fun _ => ⟨rfl, (HB.all H7).noRows⟩⟩
          · have hchk : chk (s.goes n) = true := by cases hc : chk (s.goes n) with | true => rfl | false => have := hans.2 hc; omega
            refine ops_nil ?_
            refine nR58 ?_
            refine run_cond_false rfl ?_
            refine run_skip ?_
            refine run_seq ?_
            refine run_region ?_
            refine ops_val (ex_move rfl) ?_
            refine ops_val (ex_move rfl) ?_
            refine ops_val (ex_nilCheck rfl) ?_
            refine ops_val (ex_fieldAddr fl28_0 rfl) ?_
            refine nO58 ?_
            refine ops_val (ex_load ty24 rfl (H7.cell (i := 0) rfl rfl)) ?_
            refine ops_call (ex_call gf12 rfl) (cloneS (some a1) b.groups.length k1 pg.flatten _ (hrg.move (by decide) hag (HB.all H7) hks).1 (ones_flatten hong) (by rw [h8]; decide)) ?_
            rintro _ w8 ⟨gv, cv, sv, rfl, hmv, hcv, hgv0, Hc⟩
            have H8 := H7.call0 Hc
            obtain ⟨gw, rfl⟩ := own_some H8 (i := 3) rfl (by rw [List.length_append, hpg.len]; omega)
            refine ops_val (ex_nilCheck rfl) ?_
            refine ops_val (ex_fieldAddr fl28_0 rfl) ?_
            refine nO58 ?_
            refine ops_store1 ty24 H8 0 rfl rfl rfl rfl (by first | (simp; done) | simp [putAt]) rfl ?_
            intro w9 H9
            refine ops_nil ?_
            refine nR58 ?_
            refine run_seq ?_
            refine run_mixZ 8 [(true, 0), (true, 1), (true, 2), (true, 3), (true, 4), (true, 5), (true, 6), (true, 7), (false, 8)] H9 [0, 1, 2, 3] mixed (by decide) (by kernel_rfl) ?_
            rintro w10 hw10
            have H10 := Hp.drew H9; rw [← hw10] at H10
            refine mixz_p rfl ?_
            refine mix1_val (fun wz hz => ex_move rfl) ?_
            refine mixz_p rfl ?_
            refine mix1_val (fun wz hz => ex_nilCheck rfl) ?_
            refine mixz_p rfl ?_
            refine mix1_val (fun wz hz => ex_fieldAddr fl28_0 rfl) ?_
            refine mixz_p rfl ?_
            refine mix1_val (fun wz hz => ex_load ty24 rfl (hz.cell (i := 0) rfl rfl)) ?_
            refine nZ58 ?_
            refine mixz_p rfl ?_
            refine mix1_val (fun wz hz => ex_fieldAddr fl48_1 rfl) ?_
            refine mixz_p rfl ?_
            refine mix1_val (fun wz hz => ex_load ty3 rfl (hz.cell (i := 1) rfl rfl)) ?_
            refine mixz_p rfl ?_
            refine mix1_val (fun wz hz => ex_loadN ty39 rfl (vs := [.int .i64 (s.goes n).p.r, .int .i64 (s.goes n).p.n, .slice D1 (s.goes n).votes.length e1, .int .i64 (s.goes n).index, .slice D2 (s.goes n).image.length e2, .slice D3 (s.goes n).entries.length e3]) rfl (hz.cellsR (i := 2) rfl rfl)) ?_
            refine mixz_p rfl ?_
            refine mix1_val (fun wz hz => ex_idxN Try.underlying24 ty39 rfl rfl (len := b.groups.length) (i := n.group.toNat) (by omega) (by omega)) ?_
            refine nZ58 ?_
            refine mixz_o rfl ?_
            refine ops_store ty39 H10 3 rfl rfl rfl rfl rfl (by rw [List.length_append, hpg.len]; show 0 + n.group.toNat * 6 + 6 ≤ _; omega) rfl ?_
            intro w11 H11
            rw [store_elem (sz := 6) (vs := [.int .i64 (s.goes n).p.r, .int .i64 (s.goes n).p.n, .slice D1 (s.goes n).votes.length e1, .int .i64 (s.goes n).index, .slice D2 (s.goes n).image.length e2, .slice D3 (s.goes n).entries.length e3]) hpg (by omega) rfl] at H11
            refine ops_nil ?_
            refine ⟨fun hne => absurd rfl hne, ?_⟩
            refine nZ58 ?_
            refine mixz_nil ?_
            refine nR58 ?_
            refine run_seq ?_
            refine run_region ?_
            refine ops_val (ex_assign rfl) ?_
            refine ops_nil ?_
            refine nR58 ?_
            refine run_ret ?_
            refine fin_ret1 rfl rfl ?_
            have HW := HB.all H11
            refine ⟨fun b' hb' => ?_, fun h => by rw [into_yes hp9 (by omega) hs hchk] at h; cases h⟩
            rw [into_yes hp9 (by omega) hs hchk] at hb'
            simp only [Option.some.injEq] at hb'
            subst hb'
            refine ⟨rfl, _, HW.pick [0] (by decide), hd (some gw), cv, A2, k2, A3, k3, by rw [List.length_set]; rfl, ?_, hb2.toR HW hks, hb3.toM HW hks⟩
            exact Sl.row HW (i := 3) rfl (hpg.set_len rfl) (by decide) ((h2g.imp (R' := SvR w11 (up ok w0.heap.size)) fun p x h => h.to HW hks).set _ ⟨D1, e1, D2, e2, D3, e3, rfl, hw1.toV H11 hkk, hw2.to H11 hkk, hw3.toE H11 hkk⟩) (fun c hc => row_new (ok := ok) HW (i := 3) rfl (fun c hc => by rw [List.mem_singleton.1 hc]; exact fun e => HW.ne (i := 3) (j := 0) (g := gb) (by rw [e]; rfl) rfl (by decide) rfl) c hc)
    · obtain rfl := h3 hk
      refine ops_val (ex_assign rfl) ?_
      refine ops_nil ?_
      refine nR58 ?_
      refine run_seq ?_
      refine run_seq ?_
      refine run_region ?_
      refine ops_val (ex_move rfl) ?_
      refine ops_val (ex_eql_func Try.underlying52 rfl) ?_
      refine ops_val (ex_move rfl) ?_
      refine nO58 ?_
      refine ops_yes rfl ?_
      refine ops_val (ex_fieldAddr fl48_1 rfl) ?_
      refine ops_yes rfl ?_
      refine ops_val (ex_load ty3 rfl (H2.cell (i := 1) rfl rfl)) ?_
      refine nO58 ?_
      refine ops_yes rfl ?_
      refine ops_test (ex_lss rfl rfl) (fun hp21 => ?_) (fun hp21 => ?_)
      · skip
        refine ops_val (ex_pick_f rfl rfl) ?_
        refine ops_val (ex_move rfl) ?_
        refine nO58 ?_
        refine ops_no rfl ?_
        refine ops_no rfl ?_
        refine nO58 ?_
        refine ops_no rfl ?_
        refine ops_val (ex_pick_t rfl rfl) ?_
        refine ops_nil ?_
        refine nR58 ?_
        refine run_cond_true rfl ?_
        refine run_seq ?_
        refine run_region ?_
        refine ops_val (ex_assign rfl) ?_
        refine ops_nil ?_
        refine nR58 ?_
        refine run_ret ?_
        refine fin_ret1 rfl rfl ?_
        exact ⟨(fun b' hb' => by rw [into_bad hp9 (by omega)] at hb'; cases hb'), fun _ => ⟨rfl, H2.noRows⟩⟩
      · skip
        refine ops_val (ex_pick_f rfl rfl) ?_
        refine ops_val (ex_move rfl) ?_
        refine nO58 ?_
        refine ops_yes rfl ?_
        refine ops_val (ex_fieldAddr fl48_1 rfl) ?_
        refine ops_yes rfl ?_
        refine ops_val (ex_load ty3 rfl (H2.cell (i := 1) rfl rfl)) ?_
        refine nO58 ?_
        refine ops_yes rfl ?_
        refine ops_test (ex_geq rfl rfl) (fun hp26 => ?_) (fun hp26 => ?_)
        · skip
          refine ops_val (ex_pick_f rfl rfl) ?_
          refine ops_nil ?_
          refine nR58 ?_
          refine run_cond_true rfl ?_
          refine run_seq ?_
          refine run_region ?_
          refine ops_val (ex_assign rfl) ?_
          refine ops_nil ?_
          refine nR58 ?_
          refine run_ret ?_
          refine fin_ret1 rfl rfl ?_
          exact ⟨(fun b' hb' => by rw [into_bad hp9 (by omega)] at hb'; cases hb'), fun _ => ⟨rfl, H2.noRows⟩⟩
        · obtain ⟨s, hs⟩ := get_of (l := b.groups) (j := n.group.toNat) (by omega)
          have hsl := lt_of_get hs
          obtain ⟨p1, hp1, hR⟩ := h2g.get hs
          obtain ⟨C1, q1, C2, q2, C3, q3, rfl, hv1, hv2, hv3⟩ := hR
          obtain ⟨a1, ha1⟩ := hrg.some_ (by omega)
          subst ha1
          have hce := (chk_iff s).1 (hg.chk s (mem_of hs))
          have hvfew := vts_few hce
          have hefew := ents_few hce
          have hglen := goes_len s n
          refine ops_val (ex_pick_f rfl rfl) ?_
          refine ops_nil ?_
          refine nR58 ?_
          refine run_cond_false rfl ?_
          refine run_skip ?_
          refine run_seq ?_
          refine run_mixZ 9 [(true, 0), (true, 1), (true, 2), (true, 3), (true, 4), (true, 5), (true, 6), (true, 7), (false, 8), (false, 9)] H2 [0, 1] mixed (by decide) (by kernel_rfl) ?_
          rintro w3 hw3
          have H3 := Hp.drew H2; rw [← hw3] at H3
          refine mixz_p rfl ?_
          refine mix1_val (fun wz hz => ex_move rfl) ?_
          refine mixz_p rfl ?_
          refine mix1_val (fun wz hz => ex_nilCheck rfl) ?_
          refine mixz_p rfl ?_
          refine mix1_val (fun wz hz => ex_fieldAddr fl28_0 rfl) ?_
          refine mixz_p rfl ?_
          refine mix1_val (fun wz hz => ex_load ty24 rfl (hz.cell (i := 0) rfl rfl)) ?_
          refine nZ58 ?_
          refine mixz_p rfl ?_
          refine mix1_val (fun wz hz => ex_fieldAddr fl48_1 rfl) ?_
          refine mixz_p rfl ?_
          refine mix1_val (fun wz hz => ex_load ty3 rfl (hz.cell (i := 1) rfl rfl)) ?_
          refine mixz_p rfl ?_
          refine mix1_val (fun wz hz => ex_idx Try.underlying24 ty39 rfl rfl (len := b.groups.length) (i := n.group.toNat) (by omega) (by omega) rfl) ?_
          refine mixz_p rfl ?_
          refine mix1_val (fun wz hz => ex_loadN ty39 rfl (vs := [.int .i64 s.p.r, .int .i64 s.p.n, .slice C1 s.votes.length q1, .int .i64 s.index, .slice C2 s.image.length q2, .slice C3 s.entries.length q3]) rfl ((hrg.move (by decide) hag hz hks).1.elem hpg hp1)) ?_
          refine nZ58 ?_
          refine mixz_o rfl ?_
          refine ops_alloc ty39 H3 ?_
          intro w4 gs H4 hgs
          have hgs0 : w0.heap.size ≤ gs := by have := H3.size; omega
          refine ops_nil ?_
          refine ⟨fun hne => H4.pick [0, 1] (by decide), ?_⟩
          refine nZ58 ?_
          refine mixz_o rfl ?_
          refine ops_store ty39 H4 2 rfl rfl rfl rfl rfl (by first | decide | (simp; done) | simp [putAt]) rfl ?_
          intro w5 H5
          refine ops_nil ?_
          refine ⟨fun hne => absurd rfl hne, ?_⟩
          refine nZ58 ?_
          refine mixz_nil ?_
          refine nR58 ?_
          refine run_seq ?_
          refine run_region ?_
          refine ops_val (ex_move rfl) ?_
          refine ops_val (ex_loadN ty48 rfl (vs := [.int .i64 n.kind, .int .i64 n.group, .int .i64 n.b.r, .int .i64 n.b.n, .int .i64 n.vote.slot, .int .i64 n.vote.b.r, .int .i64 n.vote.b.n, .slice B1 n.vote.val.length j1, .int .i64 n.entry.slot, .slice B2 n.entry.val.length j2, .int .i64 n.right.g, strV n.right.key, .int .i64 n.right.lease, .int .i64 n.right.net, .int .i64 n.client, .int .i64 n.seq]) rfl (H5.cellsR (i := 1) rfl rfl)) ?_
          refine ops_call (ex_call_val gf21 rfl rfl) (entry_v gs s C1 q1 C2 q2 C3 q3 n B1 j1 B2 j2 (fun x => okn x ∧ x < w0.heap.size) _ (H5.at (i := 2) rfl) (fun x => ok x ∧ x < w0.heap.size) (fun hh => by have := hh.2; omega) (hv1.toV H5 hkB) (hv2.to H5 hkB) (hv3.toE H5 hkB) (fun hh => by have := hh.2; omega) (hbe.to H5 hkn) (by omega) ⟨hce.i.1, hce.i.2.1⟩ hefew) ?_
          rintro _ w6 ⟨cs2, Hd, hsv⟩
          have hnp := Hp.fresh H5
          have hszp := H5.size
          have hpl := bl_place H5
          have HB := (H5.callr [2] rfl Hd).pick [0, 1, 3] (by decide)
          rw [← goes3 hk] at hsv
          obtain ⟨D1, e1, D2, e2, D3, e3, rfl, hw1, hw2, hw3⟩ := hsv
          have H6 := HB.here
          have hnk : ∀ x, up (fun x => ok x ∧ x < w0.heap.size) w5.heap.size x → x ∉ bl _ := fun x hx hb => (show False from by
            rcases hx with hx | hx
            · rcases hpl x hb with h | h
              · exact (hks x hx.1 hx.2).1 h
              · have := hx.2; omega
            · exact hnp x hx hb)
          have hkk : ∀ x, up (fun x => ok x ∧ x < w0.heap.size) w5.heap.size x → x < w6.heap.size → x ∉ bl _ ∧ up ok w0.heap.size x := fun x hx _ => ⟨hnk x hx, by
            rcases hx with hx | hx
            · exact .inl hx.1
            · exact .inr (by omega)⟩
          refine ops_nil ?_
          refine nR58 ?_
          refine run_seq ?_
          refine run_seq ?_
          refine run_region ?_
          refine ops_val (ex_loadN ty39 rfl (vs := [.int .i64 (s.goes n).p.r, .int .i64 (s.goes n).p.n, .slice D1 (s.goes n).votes.length e1, .int .i64 (s.goes n).index, .slice D2 (s.goes n).image.length e2, .slice D3 (s.goes n).entries.length e3]) rfl (H6.cellsR (i := 2) rfl rfl)) ?_
          refine ops_call (ex_call gf11 rfl) (check_p (s.goes n) D1 e1 D2 e2 D3 e3 _ _ hw1 hw2 hw3 (by omega) (by omega)) ?_
          rintro _ w7 ⟨e, rfl, hans, Hd⟩
          have H7 := H6.callN Hd
          refine ops_test (ex_neq rfl rfl) (fun hp41 => ?_) (fun hp41 => ?_)
          · skip
            refine ops_nil ?_
            refine nR58 ?_
            refine run_cond_true rfl ?_
            refine run_seq ?_
            refine run_region ?_
            refine ops_val (ex_assign rfl) ?_
            refine ops_nil ?_
            refine nR58 ?_
            refine run_ret ?_
            refine fin_ret1 rfl rfl ?_
            exact ⟨(fun b' hb' => by rw [into_no hp9 hs (by cases hc : chk (s.goes n) with | false => rfl | true => exact absurd (hans.1 hc) hp41)] at hb'; cases hb'), fun _ => ⟨rfl, (HB.all H7).noRows⟩⟩
          · have hchk : chk (s.goes n) = true := by cases hc : chk (s.goes n) with | true => rfl | false => have := hans.2 hc; omega
            refine ops_nil ?_
            refine nR58 ?_
            refine run_cond_false rfl ?_
            refine run_skip ?_
            refine run_seq ?_
            refine run_region ?_
            refine ops_val (ex_move rfl) ?_
            refine ops_val (ex_move rfl) ?_
            refine ops_val (ex_nilCheck rfl) ?_
            refine ops_val (ex_fieldAddr fl28_0 rfl) ?_
            refine nO58 ?_
            refine ops_val (ex_load ty24 rfl (H7.cell (i := 0) rfl rfl)) ?_
            refine ops_call (ex_call gf12 rfl) (cloneS (some a1) b.groups.length k1 pg.flatten _ (hrg.move (by decide) hag (HB.all H7) hks).1 (ones_flatten hong) (by rw [h8]; decide)) ?_
            rintro _ w8 ⟨gv, cv, sv, rfl, hmv, hcv, hgv0, Hc⟩
            have H8 := H7.call0 Hc
            obtain ⟨gw, rfl⟩ := own_some H8 (i := 3) rfl (by rw [List.length_append, hpg.len]; omega)
            refine ops_val (ex_nilCheck rfl) ?_
            refine ops_val (ex_fieldAddr fl28_0 rfl) ?_
            refine nO58 ?_
            refine ops_store1 ty24 H8 0 rfl rfl rfl rfl (by first | (simp; done) | simp [putAt]) rfl ?_
            intro w9 H9
            refine ops_nil ?_
            refine nR58 ?_
            refine run_seq ?_
            refine run_mixZ 8 [(true, 0), (true, 1), (true, 2), (true, 3), (true, 4), (true, 5), (true, 6), (true, 7), (false, 8)] H9 [0, 1, 2, 3] mixed (by decide) (by kernel_rfl) ?_
            rintro w10 hw10
            have H10 := Hp.drew H9; rw [← hw10] at H10
            refine mixz_p rfl ?_
            refine mix1_val (fun wz hz => ex_move rfl) ?_
            refine mixz_p rfl ?_
            refine mix1_val (fun wz hz => ex_nilCheck rfl) ?_
            refine mixz_p rfl ?_
            refine mix1_val (fun wz hz => ex_fieldAddr fl28_0 rfl) ?_
            refine mixz_p rfl ?_
            refine mix1_val (fun wz hz => ex_load ty24 rfl (hz.cell (i := 0) rfl rfl)) ?_
            refine nZ58 ?_
            refine mixz_p rfl ?_
            refine mix1_val (fun wz hz => ex_fieldAddr fl48_1 rfl) ?_
            refine mixz_p rfl ?_
            refine mix1_val (fun wz hz => ex_load ty3 rfl (hz.cell (i := 1) rfl rfl)) ?_
            refine mixz_p rfl ?_
            refine mix1_val (fun wz hz => ex_loadN ty39 rfl (vs := [.int .i64 (s.goes n).p.r, .int .i64 (s.goes n).p.n, .slice D1 (s.goes n).votes.length e1, .int .i64 (s.goes n).index, .slice D2 (s.goes n).image.length e2, .slice D3 (s.goes n).entries.length e3]) rfl (hz.cellsR (i := 2) rfl rfl)) ?_
            refine mixz_p rfl ?_
            refine mix1_val (fun wz hz => ex_idxN Try.underlying24 ty39 rfl rfl (len := b.groups.length) (i := n.group.toNat) (by omega) (by omega)) ?_
            refine nZ58 ?_
            refine mixz_o rfl ?_
            refine ops_store ty39 H10 3 rfl rfl rfl rfl rfl (by rw [List.length_append, hpg.len]; show 0 + n.group.toNat * 6 + 6 ≤ _; omega) rfl ?_
            intro w11 H11
            rw [store_elem (sz := 6) (vs := [.int .i64 (s.goes n).p.r, .int .i64 (s.goes n).p.n, .slice D1 (s.goes n).votes.length e1, .int .i64 (s.goes n).index, .slice D2 (s.goes n).image.length e2, .slice D3 (s.goes n).entries.length e3]) hpg (by omega) rfl] at H11
            refine ops_nil ?_
            refine ⟨fun hne => absurd rfl hne, ?_⟩
            refine nZ58 ?_
            refine mixz_nil ?_
            refine nR58 ?_
            refine run_seq ?_
            refine run_region ?_
            refine ops_val (ex_assign rfl) ?_
            refine ops_nil ?_
            refine nR58 ?_
            refine run_ret ?_
            refine fin_ret1 rfl rfl ?_
            have HW := HB.all H11
            refine ⟨fun b' hb' => ?_, fun h => by rw [into_yes hp9 (by omega) hs hchk] at h; cases h⟩
            rw [into_yes hp9 (by omega) hs hchk] at hb'
            simp only [Option.some.injEq] at hb'
            subst hb'
            refine ⟨rfl, _, HW.pick [0] (by decide), hd (some gw), cv, A2, k2, A3, k3, by rw [List.length_set]; rfl, ?_, hb2.toR HW hks, hb3.toM HW hks⟩
            exact Sl.row HW (i := 3) rfl (hpg.set_len rfl) (by decide) ((h2g.imp (R' := SvR w11 (up ok w0.heap.size)) fun p x h => h.to HW hks).set _ ⟨D1, e1, D2, e2, D3, e3, rfl, hw1.toV H11 hkk, hw2.to H11 hkk, hw3.toE H11 hkk⟩) (fun c hc => row_new (ok := ok) HW (i := 3) rfl (fun c hc => by rw [List.mem_singleton.1 hc]; exact fun e => HW.ne (i := 3) (j := 0) (g := gb) (by rw [e]; rfl) rfl (by decide) rfl) c hc)
    · obtain rfl := h4 hk
      refine ops_val (ex_assign rfl) ?_
      refine ops_nil ?_
      refine nR58 ?_
      refine run_seq ?_
      refine run_seq ?_
      refine run_region ?_
      refine ops_val (ex_move rfl) ?_
      refine ops_val (ex_eql_func Try.underlying52 rfl) ?_
      refine ops_val (ex_move rfl) ?_
      refine nO58 ?_
      refine ops_yes rfl ?_
      refine ops_val (ex_fieldAddr fl48_1 rfl) ?_
      refine ops_yes rfl ?_
      refine ops_val (ex_load ty3 rfl (H2.cell (i := 1) rfl rfl)) ?_
      refine nO58 ?_
      refine ops_yes rfl ?_
      refine ops_test (ex_lss rfl rfl) (fun hp21 => ?_) (fun hp21 => ?_)
      · skip
        refine ops_val (ex_pick_f rfl rfl) ?_
        refine ops_val (ex_move rfl) ?_
        refine nO58 ?_
        refine ops_no rfl ?_
        refine ops_no rfl ?_
        refine nO58 ?_
        refine ops_no rfl ?_
        refine ops_val (ex_pick_t rfl rfl) ?_
        refine ops_nil ?_
        refine nR58 ?_
        refine run_cond_true rfl ?_
        refine run_seq ?_
        refine run_region ?_
        refine ops_val (ex_assign rfl) ?_
        refine ops_nil ?_
        refine nR58 ?_
        refine run_ret ?_
        refine fin_ret1 rfl rfl ?_
        exact ⟨(fun b' hb' => by rw [into_bad hp9 (by omega)] at hb'; cases hb'), fun _ => ⟨rfl, H2.noRows⟩⟩
      · skip
        refine ops_val (ex_pick_f rfl rfl) ?_
        refine ops_val (ex_move rfl) ?_
        refine nO58 ?_
        refine ops_yes rfl ?_
        refine ops_val (ex_fieldAddr fl48_1 rfl) ?_
        refine ops_yes rfl ?_
        refine ops_val (ex_load ty3 rfl (H2.cell (i := 1) rfl rfl)) ?_
        refine nO58 ?_
        refine ops_yes rfl ?_
        refine ops_test (ex_geq rfl rfl) (fun hp26 => ?_) (fun hp26 => ?_)
        · skip
          refine ops_val (ex_pick_f rfl rfl) ?_
          refine ops_nil ?_
          refine nR58 ?_
          refine run_cond_true rfl ?_
          refine run_seq ?_
          refine run_region ?_
          refine ops_val (ex_assign rfl) ?_
          refine ops_nil ?_
          refine nR58 ?_
          refine run_ret ?_
          refine fin_ret1 rfl rfl ?_
          exact ⟨(fun b' hb' => by rw [into_bad hp9 (by omega)] at hb'; cases hb'), fun _ => ⟨rfl, H2.noRows⟩⟩
        · obtain ⟨s, hs⟩ := get_of (l := b.groups) (j := n.group.toNat) (by omega)
          have hsl := lt_of_get hs
          obtain ⟨p1, hp1, hR⟩ := h2g.get hs
          obtain ⟨C1, q1, C2, q2, C3, q3, rfl, hv1, hv2, hv3⟩ := hR
          obtain ⟨a1, ha1⟩ := hrg.some_ (by omega)
          subst ha1
          have hce := (chk_iff s).1 (hg.chk s (mem_of hs))
          have hvfew := vts_few hce
          have hefew := ents_few hce
          have hglen := goes_len s n
          refine ops_val (ex_pick_f rfl rfl) ?_
          refine ops_nil ?_
          refine nR58 ?_
          refine run_cond_false rfl ?_
          refine run_skip ?_
          refine run_seq ?_
          refine run_mixZ 9 [(true, 0), (true, 1), (true, 2), (true, 3), (true, 4), (true, 5), (true, 6), (true, 7), (false, 8), (false, 9)] H2 [0, 1] mixed (by decide) (by kernel_rfl) ?_
          rintro w3 hw3
          have H3 := Hp.drew H2; rw [← hw3] at H3
          refine mixz_p rfl ?_
          refine mix1_val (fun wz hz => ex_move rfl) ?_
          refine mixz_p rfl ?_
          refine mix1_val (fun wz hz => ex_nilCheck rfl) ?_
          refine mixz_p rfl ?_
          refine mix1_val (fun wz hz => ex_fieldAddr fl28_0 rfl) ?_
          refine mixz_p rfl ?_
          refine mix1_val (fun wz hz => ex_load ty24 rfl (hz.cell (i := 0) rfl rfl)) ?_
          refine nZ58 ?_
          refine mixz_p rfl ?_
          refine mix1_val (fun wz hz => ex_fieldAddr fl48_1 rfl) ?_
          refine mixz_p rfl ?_
          refine mix1_val (fun wz hz => ex_load ty3 rfl (hz.cell (i := 1) rfl rfl)) ?_
          refine mixz_p rfl ?_
          refine mix1_val (fun wz hz => ex_idx Try.underlying24 ty39 rfl rfl (len := b.groups.length) (i := n.group.toNat) (by omega) (by omega) rfl) ?_
          refine mixz_p rfl ?_
          refine mix1_val (fun wz hz => ex_loadN ty39 rfl (vs := [.int .i64 s.p.r, .int .i64 s.p.n, .slice C1 s.votes.length q1, .int .i64 s.index, .slice C2 s.image.length q2, .slice C3 s.entries.length q3]) rfl ((hrg.move (by decide) hag hz hks).1.elem hpg hp1)) ?_
          refine nZ58 ?_
          refine mixz_o rfl ?_
          refine ops_alloc ty39 H3 ?_
          intro w4 gs H4 hgs
          have hgs0 : w0.heap.size ≤ gs := by have := H3.size; omega
          refine ops_nil ?_
          refine ⟨fun hne => H4.pick [0, 1] (by decide), ?_⟩
          refine nZ58 ?_
          refine mixz_o rfl ?_
          refine ops_store ty39 H4 2 rfl rfl rfl rfl rfl (by first | decide | (simp; done) | simp [putAt]) rfl ?_
          intro w5 H5
          refine ops_nil ?_
          refine ⟨fun hne => absurd rfl hne, ?_⟩
          refine nZ58 ?_
          refine mixz_nil ?_
          refine nR58 ?_
          refine run_seq ?_
          refine run_region ?_
          refine ops_val (ex_move rfl) ?_
          refine ops_val (ex_loadN ty48 rfl (vs := [.int .i64 n.kind, .int .i64 n.group, .int .i64 n.b.r, .int .i64 n.b.n, .int .i64 n.vote.slot, .int .i64 n.vote.b.r, .int .i64 n.vote.b.n, .slice B1 n.vote.val.length j1, .int .i64 n.entry.slot, .slice B2 n.entry.val.length j2, .int .i64 n.right.g, strV n.right.key, .int .i64 n.right.lease, .int .i64 n.right.net, .int .i64 n.client, .int .i64 n.seq]) rfl (H5.cellsR (i := 1) rfl rfl)) ?_
          refine ops_call (ex_call_val gf22 rfl rfl) (image_v gs s C1 q1 C2 q2 C3 q3 n B1 j1 B2 j2 (fun x => okn x ∧ x < w0.heap.size) _ (H5.at (i := 2) rfl) (fun x => ok x ∧ x < w0.heap.size) (fun hh => by have := hh.2; omega) (hv1.toV H5 hkB) (hv2.to H5 hkB) (hv3.toE H5 hkB) (fun hh => by have := hh.2; omega) (hbe.to H5 hkn) (by omega) (fun x hx => by obtain ⟨i, hi⟩ := List.getElem?_of_mem hx; exact (ents_slot hce.e i x hi).2.1) ⟨hce.i.1, hce.i.2.1⟩ hefew) ?_
          rintro _ w6 ⟨cs2, Hd, hsv⟩
          have hnp := Hp.fresh H5
          have hszp := H5.size
          have hpl := bl_place H5
          have HB := (H5.callr [2] rfl Hd).pick [0, 1, 3] (by decide)
          rw [← goes4 hk] at hsv
          obtain ⟨D1, e1, D2, e2, D3, e3, rfl, hw1, hw2, hw3⟩ := hsv
          have H6 := HB.here
          have hnk : ∀ x, up (fun x => ok x ∧ x < w0.heap.size) w5.heap.size x → x ∉ bl _ := fun x hx hb => (show False from by
            rcases hx with hx | hx
            · rcases hpl x hb with h | h
              · exact (hks x hx.1 hx.2).1 h
              · have := hx.2; omega
            · exact hnp x hx hb)
          have hkk : ∀ x, up (fun x => ok x ∧ x < w0.heap.size) w5.heap.size x → x < w6.heap.size → x ∉ bl _ ∧ up ok w0.heap.size x := fun x hx _ => ⟨hnk x hx, by
            rcases hx with hx | hx
            · exact .inl hx.1
            · exact .inr (by omega)⟩
          refine ops_nil ?_
          refine nR58 ?_
          refine run_seq ?_
          refine run_seq ?_
          refine run_region ?_
          refine ops_val (ex_loadN ty39 rfl (vs := [.int .i64 (s.goes n).p.r, .int .i64 (s.goes n).p.n, .slice D1 (s.goes n).votes.length e1, .int .i64 (s.goes n).index, .slice D2 (s.goes n).image.length e2, .slice D3 (s.goes n).entries.length e3]) rfl (H6.cellsR (i := 2) rfl rfl)) ?_
          refine ops_call (ex_call gf11 rfl) (check_p (s.goes n) D1 e1 D2 e2 D3 e3 _ _ hw1 hw2 hw3 (by omega) (by omega)) ?_
          rintro _ w7 ⟨e, rfl, hans, Hd⟩
          have H7 := H6.callN Hd
          refine ops_test (ex_neq rfl rfl) (fun hp41 => ?_) (fun hp41 => ?_)
          · skip
            refine ops_nil ?_
            refine nR58 ?_
            refine run_cond_true rfl ?_
            refine run_seq ?_
            refine run_region ?_
            refine ops_val (ex_assign rfl) ?_
            refine ops_nil ?_
            refine nR58 ?_
            refine run_ret ?_
            refine fin_ret1 rfl rfl ?_
            exact ⟨(fun b' hb' => by rw [into_no hp9 hs (by cases hc : chk (s.goes n) with | false => rfl | true => exact absurd (hans.1 hc) hp41)] at hb'; cases hb'), fun _ => ⟨rfl, (HB.all H7).noRows⟩⟩
          · have hchk : chk (s.goes n) = true := by cases hc : chk (s.goes n) with | true => rfl | false => have := hans.2 hc; omega
            refine ops_nil ?_
            refine nR58 ?_
            refine run_cond_false rfl ?_
            refine run_skip ?_
            refine run_seq ?_
            refine run_region ?_
            refine ops_val (ex_move rfl) ?_
            refine ops_val (ex_move rfl) ?_
            refine ops_val (ex_nilCheck rfl) ?_
            refine ops_val (ex_fieldAddr fl28_0 rfl) ?_
            refine nO58 ?_
            refine ops_val (ex_load ty24 rfl (H7.cell (i := 0) rfl rfl)) ?_
            refine ops_call (ex_call gf12 rfl) (cloneS (some a1) b.groups.length k1 pg.flatten _ (hrg.move (by decide) hag (HB.all H7) hks).1 (ones_flatten hong) (by rw [h8]; decide)) ?_
            rintro _ w8 ⟨gv, cv, sv, rfl, hmv, hcv, hgv0, Hc⟩
            have H8 := H7.call0 Hc
            obtain ⟨gw, rfl⟩ := own_some H8 (i := 3) rfl (by rw [List.length_append, hpg.len]; omega)
            refine ops_val (ex_nilCheck rfl) ?_
            refine ops_val (ex_fieldAddr fl28_0 rfl) ?_
            refine nO58 ?_
            refine ops_store1 ty24 H8 0 rfl rfl rfl rfl (by first | (simp; done) | simp [putAt]) rfl ?_
            intro w9 H9
            refine ops_nil ?_
            refine nR58 ?_
            refine run_seq ?_
            refine run_mixZ 8 [(true, 0), (true, 1), (true, 2), (true, 3), (true, 4), (true, 5), (true, 6), (true, 7), (false, 8)] H9 [0, 1, 2, 3] mixed (by decide) (by kernel_rfl) ?_
            rintro w10 hw10
            have H10 := Hp.drew H9; rw [← hw10] at H10
            refine mixz_p rfl ?_
            refine mix1_val (fun wz hz => ex_move rfl) ?_
            refine mixz_p rfl ?_
            refine mix1_val (fun wz hz => ex_nilCheck rfl) ?_
            refine mixz_p rfl ?_
            refine mix1_val (fun wz hz => ex_fieldAddr fl28_0 rfl) ?_
            refine mixz_p rfl ?_
            refine mix1_val (fun wz hz => ex_load ty24 rfl (hz.cell (i := 0) rfl rfl)) ?_
            refine nZ58 ?_
            refine mixz_p rfl ?_
            refine mix1_val (fun wz hz => ex_fieldAddr fl48_1 rfl) ?_
            refine mixz_p rfl ?_
            refine mix1_val (fun wz hz => ex_load ty3 rfl (hz.cell (i := 1) rfl rfl)) ?_
            refine mixz_p rfl ?_
            refine mix1_val (fun wz hz => ex_loadN ty39 rfl (vs := [.int .i64 (s.goes n).p.r, .int .i64 (s.goes n).p.n, .slice D1 (s.goes n).votes.length e1, .int .i64 (s.goes n).index, .slice D2 (s.goes n).image.length e2, .slice D3 (s.goes n).entries.length e3]) rfl (hz.cellsR (i := 2) rfl rfl)) ?_
            refine mixz_p rfl ?_
            refine mix1_val (fun wz hz => ex_idxN Try.underlying24 ty39 rfl rfl (len := b.groups.length) (i := n.group.toNat) (by omega) (by omega)) ?_
            refine nZ58 ?_
            refine mixz_o rfl ?_
            refine ops_store ty39 H10 3 rfl rfl rfl rfl rfl (by rw [List.length_append, hpg.len]; show 0 + n.group.toNat * 6 + 6 ≤ _; omega) rfl ?_
            intro w11 H11
            rw [store_elem (sz := 6) (vs := [.int .i64 (s.goes n).p.r, .int .i64 (s.goes n).p.n, .slice D1 (s.goes n).votes.length e1, .int .i64 (s.goes n).index, .slice D2 (s.goes n).image.length e2, .slice D3 (s.goes n).entries.length e3]) hpg (by omega) rfl] at H11
            refine ops_nil ?_
            refine ⟨fun hne => absurd rfl hne, ?_⟩
            refine nZ58 ?_
            refine mixz_nil ?_
            refine nR58 ?_
            refine run_seq ?_
            refine run_region ?_
            refine ops_val (ex_assign rfl) ?_
            refine ops_nil ?_
            refine nR58 ?_
            refine run_ret ?_
            refine fin_ret1 rfl rfl ?_
            have HW := HB.all H11
            refine ⟨fun b' hb' => ?_, fun h => by rw [into_yes hp9 (by omega) hs hchk] at h; cases h⟩
            rw [into_yes hp9 (by omega) hs hchk] at hb'
            simp only [Option.some.injEq] at hb'
            subst hb'
            refine ⟨rfl, _, HW.pick [0] (by decide), hd (some gw), cv, A2, k2, A3, k3, by rw [List.length_set]; rfl, ?_, hb2.toR HW hks, hb3.toM HW hks⟩
            exact Sl.row HW (i := 3) rfl (hpg.set_len rfl) (by decide) ((h2g.imp (R' := SvR w11 (up ok w0.heap.size)) fun p x h => h.to HW hks).set _ ⟨D1, e1, D2, e2, D3, e3, rfl, hw1.toV H11 hkk, hw2.to H11 hkk, hw3.toE H11 hkk⟩) (fun c hc => row_new (ok := ok) HW (i := 3) rfl (fun c hc => by rw [List.mem_singleton.1 hc]; exact fun e => HW.ne (i := 3) (j := 0) (g := gb) (by rw [e]; rfl) rfl (by decide) rfl) c hc)
end Go.Proofs.Ytbninklfoogmdaa
