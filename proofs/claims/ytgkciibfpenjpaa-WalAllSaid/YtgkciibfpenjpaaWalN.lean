/- Walks of layer 2, printed by wip/gen/codec.py. -/
import Derived.Test.YtgkciibfpenjpaaNrm
import Derived.Test.YtgkciibfpenjpaaWalM
namespace Go.Proofs.Ytgkciibfpenjpaa
open Go Go.RowKit
set_option linter.unusedVariables false
attribute [local irreducible] Still Ops Does Cd
def recA : Value → Option Nat
  | .slice (some p) _ _ => some p.block
  | _ => none
def recAll (ys : List Value) : List Nat := ys.filterMap recA
theorem recAll_snoc (ys : List Value) (g : Option Nat) (n c : Nat) : recAll (ys ++ [.slice (hd g) n c]) = recAll ys ++ g.toList := by
  unfold recAll
  rw [List.filterMap_append]
  cases g <;> rfl
/-- Records that were handed out: each in a block of its own. -/
structure Ownw (z : Nat) (w : World) (ys : List Value) (bs : List Blk) : Prop where
  len : ys.length = bs.length
  own : ∀ i (h : i < bs.length), ∃ (g : Option Nat) (cap : Nat) (sp : List Value), ys[i]? = some (.slice (hd g) bs[i].length cap) ∧ bs[i].length ≤ cap ∧ cap ≤ (u8s bs[i] ++ sp).length ∧ (g = none → cap = 0) ∧ ∀ gx, g = some gx → w.heap[gx]? = some (.cells (u8s bs[i] ++ sp).toArray 5 (0, 0)) ∧ z ≤ gx
  dist : (recAll ys).Nodup
theorem Ownw.nil (z : Nat) (w : World) : Ownw z w [] [] := ⟨rfl, fun i h => absurd h (by simp), List.nodup_nil⟩
theorem Ownw.cells {z : Nat} {w : World} {ys : List Value} {bs : List Blk} (h : Ownw z w ys bs) : ∀ b ∈ recAll ys, (∃ arr T z, w.heap[b]? = some (.cells arr T z)) ∧ z ≤ b := by
  intro b hb
  obtain ⟨v, hv, hr⟩ := List.mem_filterMap.1 hb
  obtain ⟨i, hi⟩ := List.getElem?_of_mem hv
  have hlt : i < bs.length := by rw [← h.len]; exact lt_of_get hi
  obtain ⟨g, cap, sp, h1, _, _, _, h2⟩ := h.own i hlt
  rw [hi] at h1
  simp only [Option.some.injEq] at h1
  subst h1
  cases g with
  | none => simp [recA] at hr
  | some gx =>
    simp only [hd, Option.map_some, recA, Option.some.injEq] at hr
    subst hr
    exact ⟨⟨_, _, _, (h2 gx rfl).1⟩, (h2 gx rfl).2⟩
theorem Ownw.keep {z : Nat} {w w' : World} {T : List Nat} {ys : List Value} {bs : List Blk} (h : Ownw z w ys bs) (H : Hp w w' T []) (hT : ∀ b ∈ recAll ys, b ∉ T) : Ownw z w' ys bs := by
  refine ⟨h.len, fun i hi => ?_, h.dist⟩
  obtain ⟨g, cap, sp, h1, h2, h3, h4, h5⟩ := h.own i hi
  refine ⟨g, cap, sp, h1, h2, h3, h4, fun gx hg => ?_⟩
  obtain ⟨h6, h7⟩ := h5 gx hg
  refine ⟨?_, h7⟩
  rw [H.frame gx (Array.getElem?_eq_some_iff.1 h6).1 (hT gx (List.mem_filterMap.2 ⟨_, List.mem_of_getElem? h1, by rw [hg]; rfl⟩))]
  exact h6
theorem Ownw.loop {z : Nat} {w w' : World} {L : Nat} {ys : List Value} {bs : List Blk} (h : Ownw z w ys bs) (H : Hp w w' [L] []) (hL : ∀ arr T z, w.heap[L]? ≠ some (.cells arr T z)) : Ownw z w' ys bs := by
  refine h.keep H (fun b hb hx => ?_)
  obtain ⟨⟨arr, T, z', hc⟩, _⟩ := h.cells b hb
  rw [List.mem_singleton.1 hx] at hc
  exact hL _ _ _ hc
theorem Ownw.snoc {z : Nat} {w : World} {ys : List Value} {bs : List Blk} (h : Ownw z w ys bs) {b : Blk} {g : Option Nat} {cap : Nat} {sp : List Value} (h2 : b.length ≤ cap) (h3 : cap ≤ (u8s b ++ sp).length) (h4 : g = none → cap = 0) (h5 : ∀ gx, g = some gx → w.heap[gx]? = some (.cells (u8s b ++ sp).toArray 5 (0, 0)) ∧ z ≤ gx) (hd1 : ∀ gx, g = some gx → gx ∉ recAll ys) : Ownw z w (ys ++ [.slice (hd g) b.length cap]) (bs ++ [b]) := by
  refine ⟨by simp [h.len], fun i hi => ?_, ?_⟩
  · by_cases hin : i < bs.length
    · rw [List.getElem_append_left hin]
      obtain ⟨g', cap', sp', a1, a2⟩ := h.own i hin
      exact ⟨g', cap', sp', by rw [List.getElem?_append_left (by rw [h.len]; exact hin)]; exact a1, a2⟩
    · have hi2 : i = bs.length := by simp at hi; omega
      subst hi2
      rw [List.getElem_append_right (Nat.le_refl _)]
      simp only [Nat.sub_self, List.getElem_cons_zero]
      exact ⟨g, cap, sp, by rw [List.getElem?_append_right (by rw [h.len]; exact Nat.le_refl _), h.len, Nat.sub_self]; rfl, h2, h3, h4, h5⟩
  · rw [recAll_snoc, List.nodup_append]
    refine ⟨h.dist, by cases g <;> simp, fun a ha b hb hab => ?_⟩
    cases g with
    | none => simp at hb
    | some gx => simp at hb; subst hb; subst hab; exact hd1 _ rfl ha
theorem results_tmp1 {P : Program} {fn : Func} {l : List Value} {w : World} {r : Tmp} {v : Value} (hr : fn.results = #[.tmp r]) (h1 : nth l r = some v) : (results fn l.toArray).run P w = .ok v w := by
  rw [nth_eq] at h1
  simp [results, hr, h1]
namespace Rn
attribute [local irreducible] Cd
set_option maxRecDepth 100000 in
set_option maxHeartbeats 4000000 in
theorem records_any (m : Mw) (D : Dk) (W : Wl) (w0 : World) (H0 : Hp w0 w0 (bl (wRows m D W)) (wRows m D W)) (h : WOk w0 m D W) :
    DoesP Try.prog 17 #[.pointer (some ⟨m.gv, 0, none⟩)] w0 (fun r w' => ∃ (g : Option Nat) (cap : Nat) (ys sp : List Value), r = .slice (hd g) W.recs.length cap ∧ W.recs.length ≤ cap ∧ cap ≤ (ys ++ sp).length ∧ (g = none → cap = 0) ∧ Ownw w0.heap.size w' ys W.recs ∧ (∀ b ∈ recAll ys, b ∉ bl [((g, 34, ys ++ sp) : Ent)]) ∧ Hp w0 w' [] [(g, 34, ys ++ sp)]) (fun _ _ => False) := by
  refine does_of Try.func17 Try.ntmps17 rfl ?_
  change Run _ _ _ _ [.pointer (some ⟨m.gv, 0, none⟩), undef, undef, undef, undef, undef, undef, undef, undef, undef, undef, undef, undef, undef, undef] _
  have H := Hp.refl w0
  have hN := h.most
  refine run_seq ?_
  refine run_region rfl (fun _ _ h => h) ?_
  refine ops_val (ex_assign rfl) ?_
  refine ops_nil ?_
  change Run _ _ _ _ [_, _, _, _, _, _, _, _, _, _, _, _, _, _, _] _
  refine run_seq ?_
  refine run_region rfl (fun _ _ h => h) ?_
  refine ops_alloc ty29 H ?_
  intro w1 g3 H1 hg3
  refine ops_nil ?_
  change Run _ _ _ _ [_, _, _, _, _, _, _, _, _, _, _, _, _, _, _] _
  refine run_seq ?_
  refine run_seq ?_
  refine run_region rfl (fun _ _ h => h) ?_
  refine ops_val (ex_move rfl) ?_
  refine ops_call (ex_call gf20 rfl) (all_any (.pointer (some ⟨m.gv, 0, none⟩)) _ rfl) ?_
  rintro r w2 ⟨gb, hr, Hc⟩
  rw [hr]
  have H2 := H1.call0 Hc
  refine ops_nil ?_
  change Run _ _ _ _ [_, _, _, _, _, _, _, _, _, _, _, _, _, _, _] _
  refine run_block ?_
  have hg3l := H2.lt (i := 0) rfl
  have hgbl := H2.lt (i := 1) rfl
  have hne : g3 ≠ gb := H2.ne (i := 0) (j := 1) rfl rfl (by decide)
  have hsz := H2.size
  have hg3f : w0.heap.size ≤ g3 := by
    rcases H2.place (i := 0) rfl with h1 | h1
    · cases h1
    · exact h1
  have hcb := H2.cell (i := 1) (o := 0) rfl rfl
  refine run_range (ps := [8, 9]) (gf := 53) (lb := [.pointer (some ⟨gb, 0, none⟩)]) (N := W.recs.length) (B := (gb :: m.gv :: recBs m.xs)) Try.func17 rfl gf53
    (It := AllIt w0.heap.size W)
    (fun w1 Hw1 => by
      have Hq := (H0.past H2.noRows (fun x hx => by cases hx) (fun _ _ hx => by cases hx)).past Hw1 (fun x hx => by cases hx) (fun _ _ hx => by cases hx)
      exact all_iter gb m D W w1 Hq.here { h with lst := h.lst.to Hq } (cell_toW hcb Hw1 (by simp)) w0.heap.size (by have := Hw1.size; omega))
    (fun x hx => by 
      simp only [List.mem_cons] at hx
      rcases hx with rfl | rfl | hx
      · exact hgbl
      · have h1 := H0.lt (i := 3) rfl
        omega
      · have h1 := recBs_lt h.lst x hx
        omega)
    (fun k W1 O => ∃ (g : Option Nat) (cap : Nat) (ys sp : List Value), O = bl [((some g3, 29, [.slice (hd g) k cap]) : Ent), (g, 34, ys ++ sp)] ++ recAll ys ∧ k ≤ cap ∧ cap ≤ (ys ++ sp).length ∧ (g = none → cap = 0) ∧ Ownw w0.heap.size W1 ys (W.recs.take k) ∧ (∀ b ∈ recAll ys, b ∉ bl [((some g3, 29, [.slice (hd g) k cap]) : Ent), (g, 34, ys ++ sp)]) ∧ Hp w0 W1 [] [((some g3, 29, [.slice (hd g) k cap]) : Ent), (g, 34, ys ++ sp)])
    (fun _ _ => False) (fun _ _ => False)
    (bl [((some g3, 29, [.slice none 0 0]) : Ent), (none, 34, [])] ++ recAll [])
    (fun x hx hx2 => by
      have hx3 : x = g3 := by simpa [bl, recAll] using hx
      subst hx3
      simp only [List.mem_cons] at hx2
      rcases hx2 with rfl | rfl | hx2
      · exact hne rfl
      · have h1 := H0.lt (i := 3) rfl
        omega
      · have h1 := recBs_lt h.lst x hx2
        omega)
    (fun l args => ((l.set 8 (args.getD 0 undef)).set 9 (args.getD 1 undef)).set 5 (args.getD 1 undef))
    (fun k W1 O hJ b hb => by
      obtain ⟨g, cap, ys, sp, rfl, _, _, _, hw, _, HJ⟩ := hJ
      rcases List.mem_append.1 hb with h1 | h1
      · exact bl_cells HJ b h1
      · exact (hw.cells b h1).1)
    (fun k W1 O W2 L hJ hL HL hnl => by
      obtain ⟨g, cap, ys, sp, h1, h2, h3, h4, hw, h5, HJ⟩ := hJ
      exact ⟨g, cap, ys, sp, h1, h2, h3, h4, hw.loop HL hnl, h5, HJ.loop HL hnl (by omega)⟩)
    (fun _ _ _ _ hx => hx.elim)
    (fun k W1 args G hI => by
      obtain ⟨b, g, cap, sp, i1, rfl, i2, i3, i4, rfl, i5, i6⟩ := hI
      refine ⟨rfl, bl_cells i5, fun W2 L HL hL hnl => ⟨b, g, cap, sp, i1, rfl, i2, i3, i4, rfl, ?_, i6⟩⟩
      exact (((i5.wide (S' := bl [((g, 5, u8s b ++ sp) : Ent)] ++ [L]) (fun x hx => List.mem_append.2 (.inl hx))).past HL (fun x hx => .inl (List.mem_append.2 (.inr hx))) (fun x hx hx2 => by
        obtain ⟨arr, T, z, hz⟩ := bl_cells i5 x hx
        rw [List.mem_singleton.1 hx2] at hz
        exact hnl _ _ _ hz))).here)
    ⟨none, 0, [], [], rfl, Nat.le_refl _, Nat.zero_le _, fun _ => rfl, Ownw.nil _ _, (fun _ hx => by cases hx), (H2.nil 34).pick [0, 2] (by decide)⟩ ?_ ?_ ?_ (fun _ _ _ hx => hx.elim) (fun _ _ _ hx => hx.elim)
  · rintro k W1 args G L ⟨b, gn, cn, sn, _, rfl, _⟩
    change Run _ _ _ _ [_, _, _, _, _, _, _, _, _, _, _, _, _, _, _] _
    refine run_region rfl (fun _ _ h => (by cases h.1)) ?_
    refine ops_val (ex_assign rfl) ?_
    refine ops_nil ?_
    change Run _ _ _ _ [_, _, _, _, _, _, _, _, _, _, _, _, _, _, _] _
    refine run_nil ?_
    exact ⟨rfl, rfl, rfl, rfl⟩
  · rintro k W1 O args G L hk ⟨g, cap, ys, sp, rfl, hkc, hcs, hcn, hw, hsep, HJ⟩ ⟨b, gn, cn, sn, hbk, rfl, i2, i3, i4, rfl, i5, i6⟩ hGO
    have HB := HJ.here
    have hmost := hN
    have hyl : ys.length = k := by rw [hw.len, List.length_take]; omega
    change Run _ _ _ _ [_, _, _, _, _, _, _, _, _, _, _, _, _, _, _] _
    refine run_block ?_
    refine run_region rfl (fun _ _ h => h) ?_
    refine ops_val (ex_load ty29 rfl (HB.cell (i := 0) rfl rfl)) ?_
    refine ops_val (ex_move rfl) ?_
    refine ops_buildSlice Try.underlying29 ty34 HB rfl (by decide) rfl ?_
    intro w3 g12 H3 hg12
    refine ops_append Try.underlying29 ty34 (by decide) H3 1 (g := g) (n := k) (cap := cap) (xs := ys) (sp := sp) rfl rfl (by rw [hyl, Nat.mul_one]) (by rw [Nat.mul_one]; exact hcs) hkc hcn rfl (H3.rd (i := 2) (o := some g12) (xs := [.slice (hd gn) b.length cn]) (sp := []) rfl rfl (by decide)) rfl (by omega) (by omega) (by decide) ?_
    intro w4 g13 c13 s13 H4 hc13 hm13 hn13
    rw [Nat.mul_one] at hc13
    refine nO15 ?_
    refine ops_store1 ty29 H4 0 rfl rfl rfl rfl (by first | decide | simp) rfl ?_
    intro w5 H5
    refine ops_nil ?_
    change Run _ _ _ _ [_, _, _, _, _, _, _, _, _, _, _, _, _, _, _] _
    refine run_nil (blk_normal ?_)
    refine run_nil ?_
    have hG0 : ∀ x ∈ bl [((gn, 5, u8s b ++ sn) : Ent)], x ∉ bl [((some g3, 29, [.slice (hd g) k cap]) : Ent), (g, 34, ys ++ sp)] ∧ x ∉ recAll ys := fun x hx => ⟨fun h1 => hGO x hx (List.mem_append.2 (.inl h1)), fun h1 => hGO x hx (List.mem_append.2 (.inr h1))⟩
    have hpz := bl_place H5
    have hrk : W.recs.take (k + 1) = W.recs.take k ++ [b] := by rw [List.take_add_one, hbk]; rfl
    have hgx : ∀ gx, gn = some gx → gx ∈ bl [((gn, 5, u8s b ++ sn) : Ent)] := fun gx hx => by rw [hx]; simp [bl]
    have hw2 : Ownw w0.heap.size w5 (ys ++ [.slice (hd gn) b.length cn]) (W.recs.take (k + 1)) := by
      rw [hrk]
      refine (hw.keep H5.noRows hsep).snoc i2 i3 i4 (fun gx hx => ?_) (fun gx hx => (hG0 gx (hgx gx hx)).2)
      have h1 := i5.at (i := 0) (g := gx) (T := 5) (cs := u8s b ++ sn) (by rw [hx]; rfl)
      exact ⟨(H5.frame gx (Array.getElem?_eq_some_iff.1 h1).1 (hG0 gx (hgx gx hx)).1).trans h1, i6 gx (hgx gx hx)⟩
    have hz : Hp w0 w5 [] [((some g3, 29, [Value.slice (hd g13) (k + 1) c13]) : Ent), (g13, 34, (ys ++ [Value.slice (hd gn) b.length cn]) ++ s13)] := (HJ.callr [0, 1] rfl H5).pick [2, 3] (by decide)
    have hbp : ∀ x ∈ bl [((some g3, 29, [.slice (hd g13) (k + 1) c13]) : Ent), (g13, 34, (ys ++ [.slice (hd gn) b.length cn]) ++ s13)], x ∈ bl [((some g3, 29, [.slice (hd g) k cap]) : Ent), (g, 34, ys ++ sp)] ∨ W1.heap.size ≤ x := bl_place ((H5).pick [0, 1] (by decide))
    have hrl : ∀ x ∈ recAll (ys ++ [.slice (hd gn) b.length cn]), x < W1.heap.size ∧ x ∉ bl [((some g3, 29, [.slice (hd g) k cap]) : Ent), (g, 34, ys ++ sp)] := by
      intro x hx
      rw [recAll_snoc] at hx
      rcases List.mem_append.1 hx with h1 | h1
      · obtain ⟨⟨arr, T, z, hc⟩, _⟩ := hw.cells x h1
        exact ⟨(Array.getElem?_eq_some_iff.1 hc).1, hsep x h1⟩
      · cases hgn : gn with
        | none => rw [hgn] at h1; simp at h1
        | some gx =>
          rw [hgn] at h1
          simp at h1
          subst h1
          have hm := hgx x hgn
          obtain ⟨arr, T, z, hc⟩ := bl_cells i5 x hm
          exact ⟨(Array.getElem?_eq_some_iff.1 hc).1, (hG0 x hm).1⟩
    refine ⟨rfl, H5.noRows.wide (fun x hx => List.mem_append.2 (.inl (List.mem_append.2 (.inl hx)))), _, ?_, g13, c13, ys ++ [Value.slice (hd gn) b.length cn], s13, rfl, hm13, hc13, hn13, hw2, ?_, hz⟩
    · intro x hx
      rcases List.mem_append.1 hx with h1 | h1
      · rcases hbp x h1 with h2 | h2
        · exact .inl (List.mem_append.2 (.inl (List.mem_append.2 (.inl h2))))
        · exact .inr h2
      · rw [recAll_snoc] at h1
        rcases List.mem_append.1 h1 with h2 | h2
        · exact .inl (List.mem_append.2 (.inl (List.mem_append.2 (.inr h2))))
        · refine .inl (List.mem_append.2 (.inr ?_))
          cases hgn : gn with
          | none => rw [hgn] at h2; simp at h2
          | some gx => rw [hgn] at h2; simp at h2; subst h2; simp [bl]
    · intro x hx h1
      obtain ⟨h2, h3⟩ := hrl x hx
      rcases hbp x h1 with h4 | h4
      · exact h3 h4
      · omega
  · rintro Dm W1 O ⟨g, cap, ys, sp, rfl, hkc, hcs, hcn, hw, hsep, HJ⟩ hDm hDl
    refine run_nil (blk_normal ?_)
    refine run_seq ?_
    refine run_region rfl (fun _ _ h => h) ?_
    refine ops_val (ex_load ty29 rfl (HJ.cell (i := 0) rfl rfl)) ?_
    refine ops_val (ex_assign rfl) ?_
    refine ops_nil ?_
    change Run _ _ _ _ [_, _, _, _, _, _, _, _, _, _, _, _, _, _, _] _
    refine run_ret ?_
    rw [List.take_of_length_le (Nat.le_refl _)] at hw
    have H9 := HJ.loop (Hp.putO (.deferred none) hDm) (notc hDm) (by omega)
    exact ⟨Dm, W1.putObj Dm (.deferred none), rfl, run_takeDeferred hDm, _, results_tmp1 rfl rfl, g, cap, ys, sp, rfl, hkc, hcs, hcn, hw.loop (Hp.putO (.deferred none) hDm) (notc hDm), fun x hx h1 => hsep x hx (by simp only [bl, List.filterMap_cons] at h1 ⊢; exact List.mem_cons_of_mem _ h1), H9.pick [1] (by decide)⟩
end Rn
end Go.Proofs.Ytgkciibfpenjpaa
