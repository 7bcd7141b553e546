/- Walks of layer 2, printed by wip/gen/codec.py. -/
import Derived.Test.YtbninklfoogmdaaNrm
import Derived.Test.YtbninklfoogmdaaOwn
import Derived.Test.YtbninklfoogmdaaVw
import Derived.Test.YtbninklfoogmdaaVaA
namespace Go.Proofs.Ytbninklfoogmdaa
open Go Go.RowKit
set_option linter.unusedVariables false
attribute [local irreducible] Still Ops Does Cd
set_option maxRecDepth 100000 in
set_option maxHeartbeats 32000000 in
theorem copy_r (A : Option Addr) (k : Nat) (l : List Nt) (okl : Nat → Prop) (w0 : World) (hl : Sl (NtR w0 okl) 16 w0 okl A l) (hn : l.length ≤ 840000000000) :
    Does Try.prog 6 #[.slice A l.length k] w0 (fun r w' => ∃ g cap qs sp, r = .slice (hd g) l.length cap ∧ Gw 16 g cap qs sp ∧ All2 (NtW w' w0.heap.size g) qs l ∧ Hp w0 w' [] [((g, 48, qs.flatten ++ sp) : Ent)]) := by
  refine does_of Try.func6 Try.ntmps6 rfl ?_
  refine nR56 ?_
  have H := Hp.refl w0
  obtain ⟨ps, hp, hr, ha, h2⟩ := id hl
  have hlen := h2.len
  refine run_seq ?_
  refine run_region ?_
  refine ops_val (ex_assign rfl) ?_
  refine ops_nil ?_
  refine nR56 ?_
  refine run_seq ?_
  refine run_region ?_
  refine ops_val (ex_assign rfl) ?_
  refine ops_nil ?_
  refine nR56 ?_
  refine run_seq ?_
  refine run_seq ?_
  refine run_region ?_
  refine ops_val (ex_assign rfl) ?_
  refine ops_nil ?_
  refine nR56 ?_
  refine run_block ?_
  refine run_loop (fun nQ lQ w => ∃ (i : Nat) (y : Int) (g : Option Nat) (cap : Nat) (qs : List (List Value)) (sp : List Value), l.length - i = nQ ∧ Fits [some (.slice A l.length k), none, none, some (.slice (hd g) qs.length cap), some (.int .i64 y), none, none, none, none, none, none, none, none, none, none, none, none, none, none, none, none, none, none, none, none, none, none, none, none, none, none, none, none, none, none, none, none, none, none, none, none, none, none, none, none, none, none, none, none, none, none, none, none, none, none, none] lQ ∧ y = (i : Int) ∧ i ≤ l.length ∧ Gw 16 g cap qs sp ∧ All2 (NtW w w0.heap.size g) qs (l.take i) ∧ Hp w0 w [] [((g, 48, qs.flatten ++ sp) : Ent)]) (l.length) ?_ ?_
  · exact ⟨0, _, none, 0, [], [], rfl, (fs (fn (fn (fs (fs (fn (fn (fn (fn (fn (fn (fn (fn (fn (fn (fn (fn (fn (fn (fn (fn (fn (fn (fn (fn (fn (fn (fn (fn (fn (fn (fn (fn (fn (fn (fn (fn (fn (fn (fn (fn (fn (fn (fn (fn (fn (fn (fn (fn (fn (fn (fn (fn (fn (fn (fn f0)))))))))))))))))))))))))))))))))))))))))))))))))))))))), rfl, Nat.zero_le _, Gw.nil 16, trivial, H.nil 48⟩
  · rintro nQ lQ w1 ⟨i, y, g, cap, qs, sp, rfl, hfit, rfl, hi, hG, hA, H1⟩
    obtain ⟨j, rfl⟩ := hfit.open
    refine nR56 ?_
    clear hfit
    have HB := H1
    replace H1 := HB.here
    refine run_seq ?_
    refine run_seq ?_
    refine run_region ?_
    refine ops_val (ex_move rfl) ?_
    refine ops_val (ex_move rfl) ?_
    refine ops_val (ex_len_slice Try.underlying22 rfl) ?_
    refine ops_test (ex_lss rfl rfl) (fun hp11 => ?_) (fun hp11 => ?_)
    · have hil : i < l.length := by omega
      obtain ⟨nt, hx⟩ := get_of hil
      obtain ⟨p1, hp1, hR⟩ := h2.get hx
      obtain ⟨B1, j1, B2, j2, rfl, hbv, hbe⟩ := hR
      obtain ⟨a1, ha1⟩ := hr.some_ (by omega)
      subst ha1
      have hql : qs.length = i := by rw [hA.len, List.length_take]; omega
      refine ops_nil ?_
      refine nR56 ?_
      refine run_cond_true rfl ?_
      refine run_skip ?_
      refine run_seq ?_
      refine run_block ?_
      refine run_seq ?_
      refine run_region ?_
      refine ops_val (ex_move rfl) ?_
      refine ops_val (ex_move rfl) ?_
      refine ops_val (ex_idx Try.underlying22 ty48 rfl rfl rfl hil rfl) ?_
      refine ops_val (ex_loadN ty48 rfl (vs := [.int .i64 nt.kind, .int .i64 nt.group, .int .i64 nt.b.r, .int .i64 nt.b.n, .int .i64 nt.vote.slot, .int .i64 nt.vote.b.r, .int .i64 nt.vote.b.n, .slice B1 nt.vote.val.length j1, .int .i64 nt.entry.slot, .slice B2 nt.entry.val.length j2, .int .i64 nt.right.g, strV nt.right.key, .int .i64 nt.right.lease, .int .i64 nt.right.net, .int .i64 nt.client, .int .i64 nt.seq]) rfl ((hr.to0 (HB.all H1)).elem hp hp1)) ?_
      refine nO56 ?_
      refine ops_alloc ty48 H1 ?_
      intro w2 gn H2 _
      refine ops_store ty48 H2 1 (vs := [.int .i64 nt.kind, .int .i64 nt.group, .int .i64 nt.b.r, .int .i64 nt.b.n, .int .i64 nt.vote.slot, .int .i64 nt.vote.b.r, .int .i64 nt.vote.b.n, .slice B1 nt.vote.val.length j1, .int .i64 nt.entry.slot, .slice B2 nt.entry.val.length j2, .int .i64 nt.right.g, strV nt.right.key, .int .i64 nt.right.lease, .int .i64 nt.right.net, .int .i64 nt.client, .int .i64 nt.seq]) rfl rfl rfl rfl rfl (Nat.le_refl 16) rfl ?_
      intro w3 H3
      refine ops_nil ?_
      refine nR56 ?_
      refine run_seq ?_
      refine run_mixT 12 (.p 0 (.p 1 (.p 2 (.p 3 (.p 4 (.p 5 (.p 6 (.p 7 (.p 8 (.two 9 (.p 10 (.o 11 (.o 12 .nil))) 11 (.o 9 (.p 10 (.o 12 .nil))))))))))))) H3 [0, 1] mixed (by decide) (by kernel_rfl) ?_
      rintro w4 hw4
      have H4 := Hp.drew H3; rw [← hw4] at H4
      refine mixt_p rfl ?_
      refine mix1_val (fun wz hz => ex_fieldAddr fl48_3 rfl) ?_
      refine mixt_p rfl ?_
      refine mix1_val (fun wz hz => ex_fieldAddr fl41_0 rfl) ?_
      refine mixt_p rfl ?_
      refine mix1_val (fun wz hz => ex_load ty3 rfl (hz.cell (i := 1) rfl rfl)) ?_
      refine mixt_p rfl ?_
      refine mix1_val (fun wz hz => ex_fieldAddr fl48_3 rfl) ?_
      change MixT _ _ _ _ _ _ [_, _, _, _, _, _, _, _, _, _, _, _, _, _, _, _, _, _, _, _, _, _, _, _, _, _, _, _, _, _, _, _, _, _, _, _, _, _, _, _, _, _, _, _, _, _, _, _, _, _, _, _, _, _, _, _] _
      refine mixt_p rfl ?_
      refine mix1_val (fun wz hz => ex_fieldAddr fl41_1 rfl) ?_
      refine mixt_p rfl ?_
      refine mix1_val (fun wz hz => ex_loadN ty34 rfl (vs := [.int .i64 nt.vote.b.r, .int .i64 nt.vote.b.n]) rfl (hz.cellsR (i := 1) rfl rfl)) ?_
      refine mixt_p rfl ?_
      refine mix1_val (fun wz hz => ex_fieldAddr fl48_3 rfl) ?_
      refine mixt_p rfl ?_
      refine mix1_val (fun wz hz => ex_fieldAddr fl41_2 rfl) ?_
      change MixT _ _ _ _ _ _ [_, _, _, _, _, _, _, _, _, _, _, _, _, _, _, _, _, _, _, _, _, _, _, _, _, _, _, _, _, _, _, _, _, _, _, _, _, _, _, _, _, _, _, _, _, _, _, _, _, _, _, _, _, _, _, _] _
      refine mixt_p rfl ?_
      refine mix1_val (fun wz hz => ex_load ty36 rfl (hz.cell (i := 1) rfl rfl)) ?_
      refine mixt_two ?_ ?_
      · skip
        refine mixt_o rfl ?_
        refine ops_append Try.underlying36 ty5 (by decide) (H4.nil 5) 2 (g := none) (n := 0) (cap := 0) (xs := []) (sp := []) rfl rfl rfl (by decide) (by decide) (fun _ => rfl) rfl (hbv.1.to0 (HB.all H4)) (u8s_one' _) (by have := hbv.2.2; omega) (by have := hbv.2.2; omega) (by decide) ?_
        intro w5 gv cv sv H5 _ _ _
        rw [Nat.zero_add nt.vote.val.length]
        refine ops_nil ?_
        refine ⟨fun hne => H5.pick [0, 1] (by decide), ?_⟩
        change MixT _ _ _ _ _ _ [_, _, _, _, _, _, _, _, _, _, _, _, _, _, _, _, _, _, _, _, _, _, _, _, _, _, _, _, _, _, _, _, _, _, _, _, _, _, _, _, _, _, _, _, _, _, _, _, _, _, _, _, _, _, _, _] _
        refine mixt_p rfl ?_
        refine mix1_val (fun wz hz => ex_build ty41 pl41 rfl rfl) ?_
        refine mixt_o rfl ?_
        refine ops_alloc ty41 H5 ?_
        intro w6 g6 H6 _
        replace H6 := H6.pick [0, 1, 3, 2] (by decide)
        refine ops_nil ?_
        refine ⟨fun hne => H6.pick [0, 1] (by decide), ?_⟩
        change MixT _ _ _ _ _ _ [_, _, _, _, _, _, _, _, _, _, _, _, _, _, _, _, _, _, _, _, _, _, _, _, _, _, _, _, _, _, _, _, _, _, _, _, _, _, _, _, _, _, _, _, _, _, _, _, _, _, _, _, _, _, _, _] _
        refine mixt_o rfl ?_
        refine ops_store ty41 H6 2 (vs := [.int .i64 nt.vote.slot, .int .i64 nt.vote.b.r, .int .i64 nt.vote.b.n, .slice (hd gv) nt.vote.val.length cv]) rfl rfl rfl rfl rfl (Nat.le_refl 4) rfl ?_
        intro w7 H7
        refine ops_nil ?_
        refine ⟨fun hne => absurd rfl hne, ?_⟩
        change MixT _ _ _ _ _ _ [_, _, _, _, _, _, _, _, _, _, _, _, _, _, _, _, _, _, _, _, _, _, _, _, _, _, _, _, _, _, _, _, _, _, _, _, _, _, _, _, _, _, _, _, _, _, _, _, _, _, _, _, _, _, _, _] _
        refine mixt_nil ?_
        refine nR56 ?_
        refine run_seq ?_
        refine run_mixT 9 (.p 0 (.p 1 (.p 2 (.p 3 (.p 4 (.p 5 (.two 6 (.p 7 (.o 8 (.o 9 .nil))) 8 (.o 6 (.p 7 (.o 9 .nil)))))))))) H7 [0, 1, 2, 3] mixed (by decide) (by kernel_rfl) ?_
        rintro w8 hw8
        have H8 := Hp.drew H7; rw [← hw8] at H8
        refine mixt_p rfl ?_
        refine mix1_val (fun wz hz => ex_fieldAddr fl48_4 rfl) ?_
        refine mixt_p rfl ?_
        refine mix1_val (fun wz hz => ex_fieldAddr fl44_0 rfl) ?_
        refine mixt_p rfl ?_
        refine mix1_val (fun wz hz => ex_load ty3 rfl (hz.cell (i := 1) rfl rfl)) ?_
        refine mixt_p rfl ?_
        refine mix1_val (fun wz hz => ex_fieldAddr fl48_4 rfl) ?_
        change MixT _ _ _ _ _ _ [_, _, _, _, _, _, _, _, _, _, _, _, _, _, _, _, _, _, _, _, _, _, _, _, _, _, _, _, _, _, _, _, _, _, _, _, _, _, _, _, _, _, _, _, _, _, _, _, _, _, _, _, _, _, _, _] _
        refine mixt_p rfl ?_
        refine mix1_val (fun wz hz => ex_fieldAddr fl44_1 rfl) ?_
        refine mixt_p rfl ?_
        refine mix1_val (fun wz hz => ex_load ty36 rfl (hz.cell (i := 1) rfl rfl)) ?_
        refine mixt_two ?_ ?_
        · skip
          refine mixt_o rfl ?_
          refine ops_append Try.underlying36 ty5 (by decide) (H8.nil 5) 4 (g := none) (n := 0) (cap := 0) (xs := []) (sp := []) rfl rfl rfl (by decide) (by decide) (fun _ => rfl) rfl (hbe.1.to0 (HB.all H8)) (u8s_one' _) (by have := hbe.2.2; omega) (by have := hbe.2.2; omega) (by decide) ?_
          intro w9 gq cq sq H9 _ _ _
          rw [Nat.zero_add nt.entry.val.length]
          refine ops_nil ?_
          refine ⟨fun hne => H9.pick [0, 1, 2, 3] (by decide), ?_⟩
          change MixT _ _ _ _ _ _ [_, _, _, _, _, _, _, _, _, _, _, _, _, _, _, _, _, _, _, _, _, _, _, _, _, _, _, _, _, _, _, _, _, _, _, _, _, _, _, _, _, _, _, _, _, _, _, _, _, _, _, _, _, _, _, _] _
          refine mixt_p rfl ?_
          refine mix1_val (fun wz hz => ex_build ty44 pl44 rfl rfl) ?_
          refine mixt_o rfl ?_
          refine ops_alloc ty44 H9 ?_
          intro w10 g7 H10 _
          replace H10 := H10.pick [0, 1, 2, 3, 5, 4] (by decide)
          refine ops_nil ?_
          refine ⟨fun hne => H10.pick [0, 1, 2, 3] (by decide), ?_⟩
          change MixT _ _ _ _ _ _ [_, _, _, _, _, _, _, _, _, _, _, _, _, _, _, _, _, _, _, _, _, _, _, _, _, _, _, _, _, _, _, _, _, _, _, _, _, _, _, _, _, _, _, _, _, _, _, _, _, _, _, _, _, _, _, _] _
          refine mixt_o rfl ?_
          refine ops_store ty44 H10 4 (vs := [.int .i64 nt.entry.slot, .slice (hd gq) nt.entry.val.length cq]) rfl rfl rfl rfl rfl (Nat.le_refl 2) rfl ?_
          intro w11 H11
          refine ops_nil ?_
          refine ⟨fun hne => absurd rfl hne, ?_⟩
          change MixT _ _ _ _ _ _ [_, _, _, _, _, _, _, _, _, _, _, _, _, _, _, _, _, _, _, _, _, _, _, _, _, _, _, _, _, _, _, _, _, _, _, _, _, _, _, _, _, _, _, _, _, _, _, _, _, _, _, _, _, _, _, _] _
          refine mixt_nil ?_
          refine nR56 ?_
          refine run_region ?_
          refine ops_val (ex_move rfl) ?_
          refine ops_val (ex_fieldAddr fl48_0 rfl) ?_
          refine ops_val (ex_load ty3 rfl (H11.cell (i := 1) rfl rfl)) ?_
          refine ops_val (ex_fieldAddr fl48_1 rfl) ?_
          refine nO56 ?_
          refine ops_val (ex_load ty3 rfl (H11.cell (i := 1) rfl rfl)) ?_
          refine ops_val (ex_fieldAddr fl48_2 rfl) ?_
          refine ops_val (ex_loadN ty34 rfl (vs := [.int .i64 nt.b.r, .int .i64 nt.b.n]) rfl (H11.cellsR (i := 1) rfl rfl)) ?_
          refine ops_val (ex_loadN ty41 rfl (vs := [.int .i64 nt.vote.slot, .int .i64 nt.vote.b.r, .int .i64 nt.vote.b.n, .slice (hd gv) nt.vote.val.length cv]) rfl (H11.cellsR (i := 2) rfl rfl)) ?_
          refine nO56 ?_
          refine ops_val (ex_loadN ty44 rfl (vs := [.int .i64 nt.entry.slot, .slice (hd gq) nt.entry.val.length cq]) rfl (H11.cellsR (i := 4) rfl rfl)) ?_
          refine ops_val (ex_fieldAddr fl48_5 rfl) ?_
          refine ops_val (ex_loadN ty46 rfl (vs := [.int .i64 nt.right.g, strV nt.right.key, .int .i64 nt.right.lease, .int .i64 nt.right.net]) rfl (H11.cellsR (i := 1) rfl rfl)) ?_
          refine ops_val (ex_fieldAddr fl48_6 rfl) ?_
          refine nO56 ?_
          refine ops_val (ex_load ty3 rfl (H11.cell (i := 1) rfl rfl)) ?_
          refine ops_val (ex_fieldAddr fl48_7 rfl) ?_
          refine ops_val (ex_load ty3 rfl (H11.cell (i := 1) rfl rfl)) ?_
          refine ops_val (ex_build ty48 pl48 rfl (cs := [.int .i64 nt.kind, .int .i64 nt.group, .int .i64 nt.b.r, .int .i64 nt.b.n, .int .i64 nt.vote.slot, .int .i64 nt.vote.b.r, .int .i64 nt.vote.b.n, .slice (hd gv) nt.vote.val.length cv, .int .i64 nt.entry.slot, .slice (hd gq) nt.entry.val.length cq, .int .i64 nt.right.g, strV nt.right.key, .int .i64 nt.right.lease, .int .i64 nt.right.net, .int .i64 nt.client, .int .i64 nt.seq]) (by kernel_rfl)) ?_
          refine nO56 ?_
          refine ops_buildSlice Try.underlying22 ty48 H11 (cs := [.int .i64 nt.kind, .int .i64 nt.group, .int .i64 nt.b.r, .int .i64 nt.b.n, .int .i64 nt.vote.slot, .int .i64 nt.vote.b.r, .int .i64 nt.vote.b.n, .slice (hd gv) nt.vote.val.length cv, .int .i64 nt.entry.slot, .slice (hd gq) nt.entry.val.length cq, .int .i64 nt.right.g, strV nt.right.key, .int .i64 nt.right.lease, .int .i64 nt.right.net, .int .i64 nt.client, .int .i64 nt.seq]) rfl (by decide) (by kernel_rfl) ?_
          intro w12 gk H12 _
          refine ops_grow Try.underlying22 ty48 (by decide) H12 0 hG rfl rfl (rs := [[.int .i64 nt.kind, .int .i64 nt.group, .int .i64 nt.b.r, .int .i64 nt.b.n, .int .i64 nt.vote.slot, .int .i64 nt.vote.b.r, .int .i64 nt.vote.b.n, .slice (hd gv) nt.vote.val.length cv, .int .i64 nt.entry.slot, .slice (hd gq) nt.entry.val.length cq, .int .i64 nt.right.g, strV nt.right.key, .int .i64 nt.right.lease, .int .i64 nt.right.net, .int .i64 nt.client, .int .i64 nt.seq]]) (m := 1) rfl rfl (H12.rd (i := 6) (o := some _) (xs := [.int .i64 nt.kind, .int .i64 nt.group, .int .i64 nt.b.r, .int .i64 nt.b.n, .int .i64 nt.vote.slot, .int .i64 nt.vote.b.r, .int .i64 nt.vote.b.n, .slice (hd gv) nt.vote.val.length cv, .int .i64 nt.entry.slot, .slice (hd gq) nt.entry.val.length cq, .int .i64 nt.right.g, strV nt.right.key, .int .i64 nt.right.lease, .int .i64 nt.right.net, .int .i64 nt.client, .int .i64 nt.seq]) (sp := []) rfl rfl (by decide)) (Pl.one rfl) (fun p hp => by rw [List.mem_singleton.1 hp]; rfl) (by omega) (by omega) (by decide) ?_
          intro w13 g2 cap2 sp2 H13 hG2
          refine ops_val (ex_assign rfl) ?_
          refine ops_nil ?_
          refine nR56 ?_
          refine run_nil (blk_normal ?_)
          refine run_region ?_
          refine ops_val (ex_move rfl) ?_
          refine ops_val (ex_add rfl rfl (IntWalk.i64_in _ (by omega))) ?_
          refine ops_val (ex_assign rfl) ?_
          refine ops_nil ?_
          refine nR56 ?_
          refine run_nil (rnd_normal ?_)
          have HW := HB.all H13
          have hplB := fun x (hb : g2 = some x) => H13.place (i := 0) (g := x) (by rw [← hb]; rfl)
          exact ⟨l.length - (i + 1), by omega, i + 1, _, g2, cap2, _, sp2, rfl, (fs (fn (fn (fs (fs (fn (fn (fn (fn (fn (fn (fn (fn (fn (fn (fn (fn (fn (fn (fn (fn (fn (fn (fn (fn (fn (fn (fn (fn (fn (fn (fn (fn (fn (fn (fn (fn (fn (fn (fn (fn (fn (fn (fn (fn (fn (fn (fn (fn (fn (fn (fn (fn (fn (fn (fn f0)))))))))))))))))))))))))))))))))))))))))))))))))))))))), by omega, by omega, hG2, by
            rw [take_snoc hx]
            refine (hA.imp fun p x h => h.to H13 (gi' := g2) fun k hk hne hlt => ⟨fun hb => ?_, fun e => ?_⟩).app (All2.one ⟨gv, cv, gq, cq, rfl, Ownd.row HW (i := 3) (j := 0) rfl rfl (by decide) (fun k hk => by cases hk) (Nat.le_refl _) hbv.2.2, Ownd.row HW (i := 5) (j := 0) rfl rfl (by decide) (fun k hk => by cases hk) (Nat.le_refl _) hbe.2.2⟩)
            · cases g with
              | none => simp [bl] at hb
              | some q => exact hne (by rw [show k = q by simpa [bl] using hb])
            · rcases hplB k e with h | h
              · cases g with
                | none => simp [bl] at h
                | some q => exact hne (by rw [show k = q by simpa [bl] using h])
              · omega, HW.pick [0] (by decide)⟩
        · skip
          refine mixt_o rfl ?_
          refine ops_alloc ty44 H8 ?_
          intro w9 g7 H9 _
          refine ops_nil ?_
          refine ⟨fun hne => H9.pick [0, 1, 2, 3] (by decide), ?_⟩
          change MixT _ _ _ _ _ _ [_, _, _, _, _, _, _, _, _, _, _, _, _, _, _, _, _, _, _, _, _, _, _, _, _, _, _, _, _, _, _, _, _, _, _, _, _, _, _, _, _, _, _, _, _, _, _, _, _, _, _, _, _, _, _, _] _
          refine mixt_o rfl ?_
          refine ops_append Try.underlying36 ty5 (by decide) (H9.nil 5) 5 (g := none) (n := 0) (cap := 0) (xs := []) (sp := []) rfl rfl rfl (by decide) (by decide) (fun _ => rfl) rfl (hbe.1.to0 (HB.all H9)) (u8s_one' _) (by have := hbe.2.2; omega) (by have := hbe.2.2; omega) (by decide) ?_
          intro w10 gq cq sq H10 _ _ _
          rw [Nat.zero_add nt.entry.val.length]
          refine ops_nil ?_
          refine ⟨fun hne => H10.pick [0, 1, 2, 3] (by decide), ?_⟩
          change MixT _ _ _ _ _ _ [_, _, _, _, _, _, _, _, _, _, _, _, _, _, _, _, _, _, _, _, _, _, _, _, _, _, _, _, _, _, _, _, _, _, _, _, _, _, _, _, _, _, _, _, _, _, _, _, _, _, _, _, _, _, _, _] _
          refine mixt_p rfl ?_
          refine mix1_val (fun wz hz => ex_build ty44 pl44 rfl rfl) ?_
          refine mixt_o rfl ?_
          refine ops_store ty44 H10 4 (vs := [.int .i64 nt.entry.slot, .slice (hd gq) nt.entry.val.length cq]) rfl rfl rfl rfl rfl (Nat.le_refl 2) rfl ?_
          intro w11 H11
          refine ops_nil ?_
          refine ⟨fun hne => absurd rfl hne, ?_⟩
          change MixT _ _ _ _ _ _ [_, _, _, _, _, _, _, _, _, _, _, _, _, _, _, _, _, _, _, _, _, _, _, _, _, _, _, _, _, _, _, _, _, _, _, _, _, _, _, _, _, _, _, _, _, _, _, _, _, _, _, _, _, _, _, _] _
          refine mixt_nil ?_
          refine nR56 ?_
          refine run_region ?_
          refine ops_val (ex_move rfl) ?_
          refine ops_val (ex_fieldAddr fl48_0 rfl) ?_
          refine ops_val (ex_load ty3 rfl (H11.cell (i := 1) rfl rfl)) ?_
          refine ops_val (ex_fieldAddr fl48_1 rfl) ?_
          refine nO56 ?_
          refine ops_val (ex_load ty3 rfl (H11.cell (i := 1) rfl rfl)) ?_
          refine ops_val (ex_fieldAddr fl48_2 rfl) ?_
          refine ops_val (ex_loadN ty34 rfl (vs := [.int .i64 nt.b.r, .int .i64 nt.b.n]) rfl (H11.cellsR (i := 1) rfl rfl)) ?_
          refine ops_val (ex_loadN ty41 rfl (vs := [.int .i64 nt.vote.slot, .int .i64 nt.vote.b.r, .int .i64 nt.vote.b.n, .slice (hd gv) nt.vote.val.length cv]) rfl (H11.cellsR (i := 2) rfl rfl)) ?_
          refine nO56 ?_
          refine ops_val (ex_loadN ty44 rfl (vs := [.int .i64 nt.entry.slot, .slice (hd gq) nt.entry.val.length cq]) rfl (H11.cellsR (i := 4) rfl rfl)) ?_
          refine ops_val (ex_fieldAddr fl48_5 rfl) ?_
          refine ops_val (ex_loadN ty46 rfl (vs := [.int .i64 nt.right.g, strV nt.right.key, .int .i64 nt.right.lease, .int .i64 nt.right.net]) rfl (H11.cellsR (i := 1) rfl rfl)) ?_
          refine ops_val (ex_fieldAddr fl48_6 rfl) ?_
          refine nO56 ?_
          refine ops_val (ex_load ty3 rfl (H11.cell (i := 1) rfl rfl)) ?_
          refine ops_val (ex_fieldAddr fl48_7 rfl) ?_
          refine ops_val (ex_load ty3 rfl (H11.cell (i := 1) rfl rfl)) ?_
          refine ops_val (ex_build ty48 pl48 rfl (cs := [.int .i64 nt.kind, .int .i64 nt.group, .int .i64 nt.b.r, .int .i64 nt.b.n, .int .i64 nt.vote.slot, .int .i64 nt.vote.b.r, .int .i64 nt.vote.b.n, .slice (hd gv) nt.vote.val.length cv, .int .i64 nt.entry.slot, .slice (hd gq) nt.entry.val.length cq, .int .i64 nt.right.g, strV nt.right.key, .int .i64 nt.right.lease, .int .i64 nt.right.net, .int .i64 nt.client, .int .i64 nt.seq]) (by kernel_rfl)) ?_
          refine nO56 ?_
          refine ops_buildSlice Try.underlying22 ty48 H11 (cs := [.int .i64 nt.kind, .int .i64 nt.group, .int .i64 nt.b.r, .int .i64 nt.b.n, .int .i64 nt.vote.slot, .int .i64 nt.vote.b.r, .int .i64 nt.vote.b.n, .slice (hd gv) nt.vote.val.length cv, .int .i64 nt.entry.slot, .slice (hd gq) nt.entry.val.length cq, .int .i64 nt.right.g, strV nt.right.key, .int .i64 nt.right.lease, .int .i64 nt.right.net, .int .i64 nt.client, .int .i64 nt.seq]) rfl (by decide) (by kernel_rfl) ?_
          intro w12 gk H12 _
          refine ops_grow Try.underlying22 ty48 (by decide) H12 0 hG rfl rfl (rs := [[.int .i64 nt.kind, .int .i64 nt.group, .int .i64 nt.b.r, .int .i64 nt.b.n, .int .i64 nt.vote.slot, .int .i64 nt.vote.b.r, .int .i64 nt.vote.b.n, .slice (hd gv) nt.vote.val.length cv, .int .i64 nt.entry.slot, .slice (hd gq) nt.entry.val.length cq, .int .i64 nt.right.g, strV nt.right.key, .int .i64 nt.right.lease, .int .i64 nt.right.net, .int .i64 nt.client, .int .i64 nt.seq]]) (m := 1) rfl rfl (H12.rd (i := 6) (o := some _) (xs := [.int .i64 nt.kind, .int .i64 nt.group, .int .i64 nt.b.r, .int .i64 nt.b.n, .int .i64 nt.vote.slot, .int .i64 nt.vote.b.r, .int .i64 nt.vote.b.n, .slice (hd gv) nt.vote.val.length cv, .int .i64 nt.entry.slot, .slice (hd gq) nt.entry.val.length cq, .int .i64 nt.right.g, strV nt.right.key, .int .i64 nt.right.lease, .int .i64 nt.right.net, .int .i64 nt.client, .int .i64 nt.seq]) (sp := []) rfl rfl (by decide)) (Pl.one rfl) (fun p hp => by rw [List.mem_singleton.1 hp]; rfl) (by omega) (by omega) (by decide) ?_
          intro w13 g2 cap2 sp2 H13 hG2
          refine ops_val (ex_assign rfl) ?_
          refine ops_nil ?_
          refine nR56 ?_
          refine run_nil (blk_normal ?_)
          refine run_region ?_
          refine ops_val (ex_move rfl) ?_
          refine ops_val (ex_add rfl rfl (IntWalk.i64_in _ (by omega))) ?_
          refine ops_val (ex_assign rfl) ?_
          refine ops_nil ?_
          refine nR56 ?_
          refine run_nil (rnd_normal ?_)
          have HW := HB.all H13
          have hplB := fun x (hb : g2 = some x) => H13.place (i := 0) (g := x) (by rw [← hb]; rfl)
          exact ⟨l.length - (i + 1), by omega, i + 1, _, g2, cap2, _, sp2, rfl, (fs (fn (fn (fs (fs (fn (fn (fn (fn (fn (fn (fn (fn (fn (fn (fn (fn (fn (fn (fn (fn (fn (fn (fn (fn (fn (fn (fn (fn (fn (fn (fn (fn (fn (fn (fn (fn (fn (fn (fn (fn (fn (fn (fn (fn (fn (fn (fn (fn (fn (fn (fn (fn (fn (fn (fn f0)))))))))))))))))))))))))))))))))))))))))))))))))))))))), by omega, by omega, hG2, by
            rw [take_snoc hx]
            refine (hA.imp fun p x h => h.to H13 (gi' := g2) fun k hk hne hlt => ⟨fun hb => ?_, fun e => ?_⟩).app (All2.one ⟨gv, cv, gq, cq, rfl, Ownd.row HW (i := 3) (j := 0) rfl rfl (by decide) (fun k hk => by cases hk) (Nat.le_refl _) hbv.2.2, Ownd.row HW (i := 5) (j := 0) rfl rfl (by decide) (fun k hk => by cases hk) (Nat.le_refl _) hbe.2.2⟩)
            · cases g with
              | none => simp [bl] at hb
              | some q => exact hne (by rw [show k = q by simpa [bl] using hb])
            · rcases hplB k e with h | h
              · cases g with
                | none => simp [bl] at h
                | some q => exact hne (by rw [show k = q by simpa [bl] using h])
              · omega, HW.pick [0] (by decide)⟩
      · skip
        refine mixt_o rfl ?_
        refine ops_alloc ty41 H4 ?_
        intro w5 g6 H5 _
        refine ops_nil ?_
        refine ⟨fun hne => H5.pick [0, 1] (by decide), ?_⟩
        change MixT _ _ _ _ _ _ [_, _, _, _, _, _, _, _, _, _, _, _, _, _, _, _, _, _, _, _, _, _, _, _, _, _, _, _, _, _, _, _, _, _, _, _, _, _, _, _, _, _, _, _, _, _, _, _, _, _, _, _, _, _, _, _] _
        refine mixt_o rfl ?_
        refine ops_append Try.underlying36 ty5 (by decide) (H5.nil 5) 3 (g := none) (n := 0) (cap := 0) (xs := []) (sp := []) rfl rfl rfl (by decide) (by decide) (fun _ => rfl) rfl (hbv.1.to0 (HB.all H5)) (u8s_one' _) (by have := hbv.2.2; omega) (by have := hbv.2.2; omega) (by decide) ?_
        intro w6 gv cv sv H6 _ _ _
        rw [Nat.zero_add nt.vote.val.length]
        refine ops_nil ?_
        refine ⟨fun hne => H6.pick [0, 1] (by decide), ?_⟩
        change MixT _ _ _ _ _ _ [_, _, _, _, _, _, _, _, _, _, _, _, _, _, _, _, _, _, _, _, _, _, _, _, _, _, _, _, _, _, _, _, _, _, _, _, _, _, _, _, _, _, _, _, _, _, _, _, _, _, _, _, _, _, _, _] _
        refine mixt_p rfl ?_
        refine mix1_val (fun wz hz => ex_build ty41 pl41 rfl rfl) ?_
        refine mixt_o rfl ?_
        refine ops_store ty41 H6 2 (vs := [.int .i64 nt.vote.slot, .int .i64 nt.vote.b.r, .int .i64 nt.vote.b.n, .slice (hd gv) nt.vote.val.length cv]) rfl rfl rfl rfl rfl (Nat.le_refl 4) rfl ?_
        intro w7 H7
        refine ops_nil ?_
        refine ⟨fun hne => absurd rfl hne, ?_⟩
        change MixT _ _ _ _ _ _ [_, _, _, _, _, _, _, _, _, _, _, _, _, _, _, _, _, _, _, _, _, _, _, _, _, _, _, _, _, _, _, _, _, _, _, _, _, _, _, _, _, _, _, _, _, _, _, _, _, _, _, _, _, _, _, _] _
        refine mixt_nil ?_
        refine nR56 ?_
        refine run_seq ?_
        refine run_mixT 9 (.p 0 (.p 1 (.p 2 (.p 3 (.p 4 (.p 5 (.two 6 (.p 7 (.o 8 (.o 9 .nil))) 8 (.o 6 (.p 7 (.o 9 .nil)))))))))) H7 [0, 1, 2, 3] mixed (by decide) (by kernel_rfl) ?_
        rintro w8 hw8
        have H8 := Hp.drew H7; rw [← hw8] at H8
        refine mixt_p rfl ?_
        refine mix1_val (fun wz hz => ex_fieldAddr fl48_4 rfl) ?_
        refine mixt_p rfl ?_
        refine mix1_val (fun wz hz => ex_fieldAddr fl44_0 rfl) ?_
        refine mixt_p rfl ?_
        refine mix1_val (fun wz hz => ex_load ty3 rfl (hz.cell (i := 1) rfl rfl)) ?_
        refine mixt_p rfl ?_
        refine mix1_val (fun wz hz => ex_fieldAddr fl48_4 rfl) ?_
        change MixT _ _ _ _ _ _ [_, _, _, _, _, _, _, _, _, _, _, _, _, _, _, _, _, _, _, _, _, _, _, _, _, _, _, _, _, _, _, _, _, _, _, _, _, _, _, _, _, _, _, _, _, _, _, _, _, _, _, _, _, _, _, _] _
        refine mixt_p rfl ?_
        refine mix1_val (fun wz hz => ex_fieldAddr fl44_1 rfl) ?_
        refine mixt_p rfl ?_
        refine mix1_val (fun wz hz => ex_load ty36 rfl (hz.cell (i := 1) rfl rfl)) ?_
        refine mixt_two ?_ ?_
        · skip
          refine mixt_o rfl ?_
          refine ops_append Try.underlying36 ty5 (by decide) (H8.nil 5) 4 (g := none) (n := 0) (cap := 0) (xs := []) (sp := []) rfl rfl rfl (by decide) (by decide) (fun _ => rfl) rfl (hbe.1.to0 (HB.all H8)) (u8s_one' _) (by have := hbe.2.2; omega) (by have := hbe.2.2; omega) (by decide) ?_
          intro w9 gq cq sq H9 _ _ _
          rw [Nat.zero_add nt.entry.val.length]
          refine ops_nil ?_
          refine ⟨fun hne => H9.pick [0, 1, 2, 3] (by decide), ?_⟩
          change MixT _ _ _ _ _ _ [_, _, _, _, _, _, _, _, _, _, _, _, _, _, _, _, _, _, _, _, _, _, _, _, _, _, _, _, _, _, _, _, _, _, _, _, _, _, _, _, _, _, _, _, _, _, _, _, _, _, _, _, _, _, _, _] _
          refine mixt_p rfl ?_
          refine mix1_val (fun wz hz => ex_build ty44 pl44 rfl rfl) ?_
          refine mixt_o rfl ?_
          refine ops_alloc ty44 H9 ?_
          intro w10 g7 H10 _
          replace H10 := H10.pick [0, 1, 2, 3, 5, 4] (by decide)
          refine ops_nil ?_
          refine ⟨fun hne => H10.pick [0, 1, 2, 3] (by decide), ?_⟩
          change MixT _ _ _ _ _ _ [_, _, _, _, _, _, _, _, _, _, _, _, _, _, _, _, _, _, _, _, _, _, _, _, _, _, _, _, _, _, _, _, _, _, _, _, _, _, _, _, _, _, _, _, _, _, _, _, _, _, _, _, _, _, _, _] _
          refine mixt_o rfl ?_
          refine ops_store ty44 H10 4 (vs := [.int .i64 nt.entry.slot, .slice (hd gq) nt.entry.val.length cq]) rfl rfl rfl rfl rfl (Nat.le_refl 2) rfl ?_
          intro w11 H11
          refine ops_nil ?_
          refine ⟨fun hne => absurd rfl hne, ?_⟩
          change MixT _ _ _ _ _ _ [_, _, _, _, _, _, _, _, _, _, _, _, _, _, _, _, _, _, _, _, _, _, _, _, _, _, _, _, _, _, _, _, _, _, _, _, _, _, _, _, _, _, _, _, _, _, _, _, _, _, _, _, _, _, _, _] _
          refine mixt_nil ?_
          refine nR56 ?_
          refine run_region ?_
          refine ops_val (ex_move rfl) ?_
          refine ops_val (ex_fieldAddr fl48_0 rfl) ?_
          refine ops_val (ex_load ty3 rfl (H11.cell (i := 1) rfl rfl)) ?_
          refine ops_val (ex_fieldAddr fl48_1 rfl) ?_
          refine nO56 ?_
          refine ops_val (ex_load ty3 rfl (H11.cell (i := 1) rfl rfl)) ?_
          refine ops_val (ex_fieldAddr fl48_2 rfl) ?_
          refine ops_val (ex_loadN ty34 rfl (vs := [.int .i64 nt.b.r, .int .i64 nt.b.n]) rfl (H11.cellsR (i := 1) rfl rfl)) ?_
          refine ops_val (ex_loadN ty41 rfl (vs := [.int .i64 nt.vote.slot, .int .i64 nt.vote.b.r, .int .i64 nt.vote.b.n, .slice (hd gv) nt.vote.val.length cv]) rfl (H11.cellsR (i := 2) rfl rfl)) ?_
          refine nO56 ?_
          refine ops_val (ex_loadN ty44 rfl (vs := [.int .i64 nt.entry.slot, .slice (hd gq) nt.entry.val.length cq]) rfl (H11.cellsR (i := 4) rfl rfl)) ?_
          refine ops_val (ex_fieldAddr fl48_5 rfl) ?_
          refine ops_val (ex_loadN ty46 rfl (vs := [.int .i64 nt.right.g, strV nt.right.key, .int .i64 nt.right.lease, .int .i64 nt.right.net]) rfl (H11.cellsR (i := 1) rfl rfl)) ?_
          refine ops_val (ex_fieldAddr fl48_6 rfl) ?_
          refine nO56 ?_
          refine ops_val (ex_load ty3 rfl (H11.cell (i := 1) rfl rfl)) ?_
          refine ops_val (ex_fieldAddr fl48_7 rfl) ?_
          refine ops_val (ex_load ty3 rfl (H11.cell (i := 1) rfl rfl)) ?_
          refine ops_val (ex_build ty48 pl48 rfl (cs := [.int .i64 nt.kind, .int .i64 nt.group, .int .i64 nt.b.r, .int .i64 nt.b.n, .int .i64 nt.vote.slot, .int .i64 nt.vote.b.r, .int .i64 nt.vote.b.n, .slice (hd gv) nt.vote.val.length cv, .int .i64 nt.entry.slot, .slice (hd gq) nt.entry.val.length cq, .int .i64 nt.right.g, strV nt.right.key, .int .i64 nt.right.lease, .int .i64 nt.right.net, .int .i64 nt.client, .int .i64 nt.seq]) (by kernel_rfl)) ?_
          refine nO56 ?_
          refine ops_buildSlice Try.underlying22 ty48 H11 (cs := [.int .i64 nt.kind, .int .i64 nt.group, .int .i64 nt.b.r, .int .i64 nt.b.n, .int .i64 nt.vote.slot, .int .i64 nt.vote.b.r, .int .i64 nt.vote.b.n, .slice (hd gv) nt.vote.val.length cv, .int .i64 nt.entry.slot, .slice (hd gq) nt.entry.val.length cq, .int .i64 nt.right.g, strV nt.right.key, .int .i64 nt.right.lease, .int .i64 nt.right.net, .int .i64 nt.client, .int .i64 nt.seq]) rfl (by decide) (by kernel_rfl) ?_
          intro w12 gk H12 _
          refine ops_grow Try.underlying22 ty48 (by decide) H12 0 hG rfl rfl (rs := [[.int .i64 nt.kind, .int .i64 nt.group, .int .i64 nt.b.r, .int .i64 nt.b.n, .int .i64 nt.vote.slot, .int .i64 nt.vote.b.r, .int .i64 nt.vote.b.n, .slice (hd gv) nt.vote.val.length cv, .int .i64 nt.entry.slot, .slice (hd gq) nt.entry.val.length cq, .int .i64 nt.right.g, strV nt.right.key, .int .i64 nt.right.lease, .int .i64 nt.right.net, .int .i64 nt.client, .int .i64 nt.seq]]) (m := 1) rfl rfl (H12.rd (i := 6) (o := some _) (xs := [.int .i64 nt.kind, .int .i64 nt.group, .int .i64 nt.b.r, .int .i64 nt.b.n, .int .i64 nt.vote.slot, .int .i64 nt.vote.b.r, .int .i64 nt.vote.b.n, .slice (hd gv) nt.vote.val.length cv, .int .i64 nt.entry.slot, .slice (hd gq) nt.entry.val.length cq, .int .i64 nt.right.g, strV nt.right.key, .int .i64 nt.right.lease, .int .i64 nt.right.net, .int .i64 nt.client, .int .i64 nt.seq]) (sp := []) rfl rfl (by decide)) (Pl.one rfl) (fun p hp => by rw [List.mem_singleton.1 hp]; rfl) (by omega) (by omega) (by decide) ?_
          intro w13 g2 cap2 sp2 H13 hG2
          refine ops_val (ex_assign rfl) ?_
          refine ops_nil ?_
          refine nR56 ?_
          refine run_nil (blk_normal ?_)
          refine run_region ?_
          refine ops_val (ex_move rfl) ?_
          refine ops_val (ex_add rfl rfl (IntWalk.i64_in _ (by omega))) ?_
          refine ops_val (ex_assign rfl) ?_
          refine ops_nil ?_
          refine nR56 ?_
          refine run_nil (rnd_normal ?_)
          have HW := HB.all H13
          have hplB := fun x (hb : g2 = some x) => H13.place (i := 0) (g := x) (by rw [← hb]; rfl)
          exact ⟨l.length - (i + 1), by omega, i + 1, _, g2, cap2, _, sp2, rfl, (fs (fn (fn (fs (fs (fn (fn (fn (fn (fn (fn (fn (fn (fn (fn (fn (fn (fn (fn (fn (fn (fn (fn (fn (fn (fn (fn (fn (fn (fn (fn (fn (fn (fn (fn (fn (fn (fn (fn (fn (fn (fn (fn (fn (fn (fn (fn (fn (fn (fn (fn (fn (fn (fn (fn (fn f0)))))))))))))))))))))))))))))))))))))))))))))))))))))))), by omega, by omega, hG2, by
            rw [take_snoc hx]
            refine (hA.imp fun p x h => h.to H13 (gi' := g2) fun k hk hne hlt => ⟨fun hb => ?_, fun e => ?_⟩).app (All2.one ⟨gv, cv, gq, cq, rfl, Ownd.row HW (i := 3) (j := 0) rfl rfl (by decide) (fun k hk => by cases hk) (Nat.le_refl _) hbv.2.2, Ownd.row HW (i := 5) (j := 0) rfl rfl (by decide) (fun k hk => by cases hk) (Nat.le_refl _) hbe.2.2⟩)
            · cases g with
              | none => simp [bl] at hb
              | some q => exact hne (by rw [show k = q by simpa [bl] using hb])
            · rcases hplB k e with h | h
              · cases g with
                | none => simp [bl] at h
                | some q => exact hne (by rw [show k = q by simpa [bl] using h])
              · omega, HW.pick [0] (by decide)⟩
        · skip
          refine mixt_o rfl ?_
          refine ops_alloc ty44 H8 ?_
          intro w9 g7 H9 _
          refine ops_nil ?_
          refine ⟨fun hne => H9.pick [0, 1, 2, 3] (by decide), ?_⟩
          change MixT _ _ _ _ _ _ [_, _, _, _, _, _, _, _, _, _, _, _, _, _, _, _, _, _, _, _, _, _, _, _, _, _, _, _, _, _, _, _, _, _, _, _, _, _, _, _, _, _, _, _, _, _, _, _, _, _, _, _, _, _, _, _] _
          refine mixt_o rfl ?_
          refine ops_append Try.underlying36 ty5 (by decide) (H9.nil 5) 5 (g := none) (n := 0) (cap := 0) (xs := []) (sp := []) rfl rfl rfl (by decide) (by decide) (fun _ => rfl) rfl (hbe.1.to0 (HB.all H9)) (u8s_one' _) (by have := hbe.2.2; omega) (by have := hbe.2.2; omega) (by decide) ?_
          intro w10 gq cq sq H10 _ _ _
          rw [Nat.zero_add nt.entry.val.length]
          refine ops_nil ?_
          refine ⟨fun hne => H10.pick [0, 1, 2, 3] (by decide), ?_⟩
          change MixT _ _ _ _ _ _ [_, _, _, _, _, _, _, _, _, _, _, _, _, _, _, _, _, _, _, _, _, _, _, _, _, _, _, _, _, _, _, _, _, _, _, _, _, _, _, _, _, _, _, _, _, _, _, _, _, _, _, _, _, _, _, _] _
          refine mixt_p rfl ?_
          refine mix1_val (fun wz hz => ex_build ty44 pl44 rfl rfl) ?_
          refine mixt_o rfl ?_
          refine ops_store ty44 H10 4 (vs := [.int .i64 nt.entry.slot, .slice (hd gq) nt.entry.val.length cq]) rfl rfl rfl rfl rfl (Nat.le_refl 2) rfl ?_
          intro w11 H11
          refine ops_nil ?_
          refine ⟨fun hne => absurd rfl hne, ?_⟩
          change MixT _ _ _ _ _ _ [_, _, _, _, _, _, _, _, _, _, _, _, _, _, _, _, _, _, _, _, _, _, _, _, _, _, _, _, _, _, _, _, _, _, _, _, _, _, _, _, _, _, _, _, _, _, _, _, _, _, _, _, _, _, _, _] _
          refine mixt_nil ?_
          refine nR56 ?_
          refine run_region ?_
          refine ops_val (ex_move rfl) ?_
          refine ops_val (ex_fieldAddr fl48_0 rfl) ?_
          refine ops_val (ex_load ty3 rfl (H11.cell (i := 1) rfl rfl)) ?_
          refine ops_val (ex_fieldAddr fl48_1 rfl) ?_
          refine nO56 ?_
          refine ops_val (ex_load ty3 rfl (H11.cell (i := 1) rfl rfl)) ?_
          refine ops_val (ex_fieldAddr fl48_2 rfl) ?_
          refine ops_val (ex_loadN ty34 rfl (vs := [.int .i64 nt.b.r, .int .i64 nt.b.n]) rfl (H11.cellsR (i := 1) rfl rfl)) ?_
          refine ops_val (ex_loadN ty41 rfl (vs := [.int .i64 nt.vote.slot, .int .i64 nt.vote.b.r, .int .i64 nt.vote.b.n, .slice (hd gv) nt.vote.val.length cv]) rfl (H11.cellsR (i := 2) rfl rfl)) ?_
          refine nO56 ?_
          refine ops_val (ex_loadN ty44 rfl (vs := [.int .i64 nt.entry.slot, .slice (hd gq) nt.entry.val.length cq]) rfl (H11.cellsR (i := 4) rfl rfl)) ?_
          refine ops_val (ex_fieldAddr fl48_5 rfl) ?_
          refine ops_val (ex_loadN ty46 rfl (vs := [.int .i64 nt.right.g, strV nt.right.key, .int .i64 nt.right.lease, .int .i64 nt.right.net]) rfl (H11.cellsR (i := 1) rfl rfl)) ?_
          refine ops_val (ex_fieldAddr fl48_6 rfl) ?_
          refine nO56 ?_
          refine ops_val (ex_load ty3 rfl (H11.cell (i := 1) rfl rfl)) ?_
          refine ops_val (ex_fieldAddr fl48_7 rfl) ?_
          refine ops_val (ex_load ty3 rfl (H11.cell (i := 1) rfl rfl)) ?_
          refine ops_val (ex_build ty48 pl48 rfl (cs := [.int .i64 nt.kind, .int .i64 nt.group, .int .i64 nt.b.r, .int .i64 nt.b.n, .int .i64 nt.vote.slot, .int .i64 nt.vote.b.r, .int .i64 nt.vote.b.n, .slice (hd gv) nt.vote.val.length cv, .int .i64 nt.entry.slot, .slice (hd gq) nt.entry.val.length cq, .int .i64 nt.right.g, strV nt.right.key, .int .i64 nt.right.lease, .int .i64 nt.right.net, .int .i64 nt.client, .int .i64 nt.seq]) (by kernel_rfl)) ?_
          refine nO56 ?_
          refine ops_buildSlice Try.underlying22 ty48 H11 (cs := [.int .i64 nt.kind, .int .i64 nt.group, .int .i64 nt.b.r, .int .i64 nt.b.n, .int .i64 nt.vote.slot, .int .i64 nt.vote.b.r, .int .i64 nt.vote.b.n, .slice (hd gv) nt.vote.val.length cv, .int .i64 nt.entry.slot, .slice (hd gq) nt.entry.val.length cq, .int .i64 nt.right.g, strV nt.right.key, .int .i64 nt.right.lease, .int .i64 nt.right.net, .int .i64 nt.client, .int .i64 nt.seq]) rfl (by decide) (by kernel_rfl) ?_
          intro w12 gk H12 _
          refine ops_grow Try.underlying22 ty48 (by decide) H12 0 hG rfl rfl (rs := [[.int .i64 nt.kind, .int .i64 nt.group, .int .i64 nt.b.r, .int .i64 nt.b.n, .int .i64 nt.vote.slot, .int .i64 nt.vote.b.r, .int .i64 nt.vote.b.n, .slice (hd gv) nt.vote.val.length cv, .int .i64 nt.entry.slot, .slice (hd gq) nt.entry.val.length cq, .int .i64 nt.right.g, strV nt.right.key, .int .i64 nt.right.lease, .int .i64 nt.right.net, .int .i64 nt.client, .int .i64 nt.seq]]) (m := 1) rfl rfl (H12.rd (i := 6) (o := some _) (xs := [.int .i64 nt.kind, .int .i64 nt.group, .int .i64 nt.b.r, .int .i64 nt.b.n, .int .i64 nt.vote.slot, .int .i64 nt.vote.b.r, .int .i64 nt.vote.b.n, .slice (hd gv) nt.vote.val.length cv, .int .i64 nt.entry.slot, .slice (hd gq) nt.entry.val.length cq, .int .i64 nt.right.g, strV nt.right.key, .int .i64 nt.right.lease, .int .i64 nt.right.net, .int .i64 nt.client, .int .i64 nt.seq]) (sp := []) rfl rfl (by decide)) (Pl.one rfl) (fun p hp => by rw [List.mem_singleton.1 hp]; rfl) (by omega) (by omega) (by decide) ?_
          intro w13 g2 cap2 sp2 H13 hG2
          refine ops_val (ex_assign rfl) ?_
          refine ops_nil ?_
          refine nR56 ?_
          refine run_nil (blk_normal ?_)
          refine run_region ?_
          refine ops_val (ex_move rfl) ?_
          refine ops_val (ex_add rfl rfl (IntWalk.i64_in _ (by omega))) ?_
          refine ops_val (ex_assign rfl) ?_
          refine ops_nil ?_
          refine nR56 ?_
          refine run_nil (rnd_normal ?_)
          have HW := HB.all H13
          have hplB := fun x (hb : g2 = some x) => H13.place (i := 0) (g := x) (by rw [← hb]; rfl)
          exact ⟨l.length - (i + 1), by omega, i + 1, _, g2, cap2, _, sp2, rfl, (fs (fn (fn (fs (fs (fn (fn (fn (fn (fn (fn (fn (fn (fn (fn (fn (fn (fn (fn (fn (fn (fn (fn (fn (fn (fn (fn (fn (fn (fn (fn (fn (fn (fn (fn (fn (fn (fn (fn (fn (fn (fn (fn (fn (fn (fn (fn (fn (fn (fn (fn (fn (fn (fn (fn (fn f0)))))))))))))))))))))))))))))))))))))))))))))))))))))))), by omega, by omega, hG2, by
            rw [take_snoc hx]
            refine (hA.imp fun p x h => h.to H13 (gi' := g2) fun k hk hne hlt => ⟨fun hb => ?_, fun e => ?_⟩).app (All2.one ⟨gv, cv, gq, cq, rfl, Ownd.row HW (i := 3) (j := 0) rfl rfl (by decide) (fun k hk => by cases hk) (Nat.le_refl _) hbv.2.2, Ownd.row HW (i := 5) (j := 0) rfl rfl (by decide) (fun k hk => by cases hk) (Nat.le_refl _) hbe.2.2⟩)
            · cases g with
              | none => simp [bl] at hb
              | some q => exact hne (by rw [show k = q by simpa [bl] using hb])
            · rcases hplB k e with h | h
              · cases g with
                | none => simp [bl] at h
                | some q => exact hne (by rw [show k = q by simpa [bl] using h])
              · omega, HW.pick [0] (by decide)⟩
    · obtain rfl : i = l.length := by omega
      refine ops_nil ?_
      refine nR56 ?_
      refine run_cond_false rfl ?_
      refine run_exit ?_
      refine rnd_exit ?_
      refine blk_exit ?_
      refine run_seq ?_
      refine run_region ?_
      refine ops_val (ex_move rfl) ?_
      refine ops_val (ex_assign rfl) ?_
      refine ops_nil ?_
      refine nR56 ?_
      refine run_ret ?_
      refine fin_ret1 rfl rfl ?_
      rw [List.take_length] at hA
      have hlq := hA.len
      rw [hlq]
      exact ⟨g, cap, qs, sp, rfl, hG, hA, (HB.all H1).pick [0] (by decide)⟩
end Go.Proofs.Ytbninklfoogmdaa
