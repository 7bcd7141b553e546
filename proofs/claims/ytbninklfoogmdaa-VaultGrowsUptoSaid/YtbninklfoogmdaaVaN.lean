/- Walks of layer 2, printed by wip/gen/codec.py. -/
import Derived.Test.YtbninklfoogmdaaNrm
import Derived.Test.YtbninklfoogmdaaVaM
namespace Go.Proofs.Ytbninklfoogmdaa
open Go Go.RowKit
set_option linter.unusedVariables false
attribute [local irreducible] Still Ops Does Cd
theorem none_saved {w : World} {ok : Nat → Prop} : SvR w ok [.int .i64 0, .int .i64 0, .slice none 0 0, .int .i64 0, .slice none 0 0, .slice none 0 0] Sv.none := ⟨none, 0, none, 0, none, 0, rfl, Sl.none _ _ _ _, Bs.none _ _, Sl.none _ _ _ _⟩
set_option maxRecDepth 100000 in
set_option maxHeartbeats 4000000 in
theorem empty_v (w0 : World) :
    Does Try.prog 7 #[] w0 (fun r w' => ∃ cs, r = .agg cs.toArray ∧ BoR w' (fun x => w0.heap.size ≤ x) cs Bo.empty ∧ Hp w0 w' [] []) := by
  refine does_of Try.func7 Try.ntmps7 rfl ?_
  change Run _ _ _ _ [undef, undef, undef] _
  have H := Hp.refl w0
  refine run_seq ?_
  refine run_region ?_
  refine ops_alloc ty28 H ?_
  intro w1 g1 H1 hg1
  refine ops_nil ?_
  change Run _ _ _ _ [_, _, _] _
  refine run_seq ?_
  refine run_region ?_
  refine ops_makeN Try.underlying24 ty39 H1 (n := 8) (c := 8) rfl rfl (Nat.le_refl _) (by decide) (by decide) ?_
  intro w2 ge H2 _
  refine ops_val (ex_build ty28 pl28 rfl rfl) ?_
  refine ops_store ty28 H2 0 (vs := [.slice (hd (some ge)) 8 8, .slice none 0 0, .slice none 0 0]) rfl rfl rfl rfl rfl (Nat.le_refl 3) rfl ?_
  intro w3 H3
  refine ops_nil ?_
  change Run _ _ _ _ [_, _, _] _
  refine run_ret ?_
  refine fin_cell rfl ty28 (cs := [.slice (hd (some ge)) 8 8, .slice none 0 0, .slice none 0 0]) rfl rfl (H3.cellsR (i := 0) rfl rfl) ?_
  have HZ : Hp w0 w3 [] [((some g1, 28, [.slice (hd (some ge)) 8 8, .slice none 0 0, .slice none 0 0]) : Ent), ((some ge, 39, (List.replicate 8 [.int .i64 0, .int .i64 0, .slice none 0 0, .int .i64 0, .slice none 0 0, .slice none 0 0]).flatten ++ []) : Ent)] := by rw [List.append_nil]; exact H3
  refine ⟨_, rfl, ⟨hd (some ge), 8, none, 0, none, 0, rfl, Sl.row HZ (i := 1) rfl (fun p hp => by rw [(List.mem_replicate.1 hp).2]; rfl) (by decide) ?_ (fun b hb => ?_), Sl.none _ _ _ _, Sl.none _ _ _ _⟩, H3.noRows⟩
  · exact ⟨none_saved, none_saved, none_saved, none_saved, none_saved, none_saved, none_saved, none_saved, trivial⟩
  · rcases HZ.place (i := 1) (g := b) (by cases hb; rfl) with h | h
    · cases h
    · exact h
set_option maxRecDepth 100000 in
set_option maxHeartbeats 16000000 in
theorem replay_v (A : Option Addr) (k : Nat) (l : List Nt) (okl : Nat → Prop) (w0 : World) (hl : Sl (NtR w0 okl) 16 w0 okl A l) (hn : l.length ≤ 840000000000) :
    Does Try.prog 5 #[.slice A l.length k] w0 (fun r w' => ∃ cs e b, r = .tuple #[.agg cs.toArray, .int .i64 e] ∧ BoR w' (fun x => w0.heap.size ≤ x) cs b ∧ Rep l b e ∧ Hp w0 w' [] []) := by
  refine does_of Try.func5 Try.ntmps5 rfl ?_
  refine nR20 ?_
  have H := Hp.refl w0
  obtain ⟨ps, hp, hr, ha, h2⟩ := id hl
  have hlen := h2.len
  refine run_seq ?_
  refine run_region ?_
  refine ops_alloc ty28 H ?_
  intro w1 gr H1 hgr
  refine ops_val (ex_assign rfl) ?_
  refine ops_nil ?_
  refine nR20 ?_
  refine run_seq ?_
  refine run_region ?_
  have hnbr := Hp.fresh H1
  have hszr := H1.size
  refine ops_call (ex_call gf7 rfl) (empty_v _) ?_
  rintro _ w2 ⟨cse, rfl, hbe, Hd⟩
  have H2 := H1.callN Hd
  have hcl : ∃ a b c d e f, cse = [.slice a 8 b, .slice c 0 d, .slice e 0 f] := by
    obtain ⟨_, _, _, _, _, _, rfl, _⟩ := hbe
    exact ⟨_, _, _, _, _, _, rfl⟩
  obtain ⟨z1, y1, z2, y2, z3, y3, rfl⟩ := hcl
  have HB0 := H2
  have HL0 := HB0.here
  refine ops_alloc ty28 HL0 ?_
  intro w3 gb H3 hgb
  refine ops_store ty28 H3 1 rfl rfl rfl rfl rfl (by first | decide | (simp; done) | simp [putAt]) rfl ?_
  intro w4 H4
  refine ops_nil ?_
  refine nR20 ?_
  refine run_seq ?_
  refine run_seq ?_
  refine run_region ?_
  refine ops_val (ex_move rfl) ?_
  refine ops_val (ex_len_slice Try.underlying22 rfl) ?_
  refine ops_val (ex_move rfl) ?_
  refine ops_nil ?_
  refine nR20 ?_
  refine run_block ?_
  refine run_loop (fun nQ lQ w => ∃ (i : Nat) (y : Int) (b : Bo) (cs : List Value), l.length - i = nQ ∧ Fits [none, none, some (.pointer (some ⟨gr, 0, none⟩)), none, some (.pointer (some ⟨gb, 0, none⟩)), none, none, none, some (.slice A l.length k), some (.int .i64 (l.length : Int)), some (.int .i64 y), none, none, none, none, none, none, none, none, none] lQ ∧ y = (i : Int) ∧ i ≤ l.length ∧ repl Bo.empty (l.take i) = some b ∧ Good b i ∧ BoR w (fun x => w0.heap.size ≤ x ∧ x ≠ gr ∧ x ≠ gb) cs b ∧ Hp w0 w [] [((some gr, 28, [.slice none 0 0, .slice none 0 0, .slice none 0 0]) : Ent), (some gb, 28, cs)]) (l.length) ?_ ?_
  · exact ⟨0, _, Bo.empty, _, rfl, (fn (fn (fs (fn (fs (fn (fn (fn (fs (fs (fs (fn (fn (fn (fn (fn (fn (fn (fn (fn f0)))))))))))))))))))), rfl, Nat.zero_le _, rfl, Good.empty, hbe.to H4 (fun x hx hl => ⟨hnbr x hx, by omega, fun e => by subst e; have h1 := H4.lt (i := 0) rfl; have h2 := hnbr _ hx; exact h2 (by simp [bl]), by omega⟩), (HB0.all H4).pick [0, 1] (by decide)⟩
  · rintro nQ lQ w5 ⟨i, y, b, cs, rfl, hfit, rfl, hi, hrep, hgood, hbor, H5⟩
    obtain ⟨j, rfl⟩ := hfit.open
    refine nR20 ?_
    clear hfit
    have HB := H5
    replace H5 := HB.here
    obtain ⟨X1, x1, X2, x2, X3, x3, rfl, hx1, hx2, hx3⟩ := hbor
    refine run_seq ?_
    refine run_region ?_
    refine ops_test (ex_lss rfl rfl) (fun hp11 => ?_) (fun hp11 => ?_)
    · have hil : i < l.length := by omega
      obtain ⟨nt, hx⟩ := get_of hil
      obtain ⟨p1, hp1, hR⟩ := h2.get hx
      obtain ⟨B1, j1, B2, j2, rfl, hbv, hbe2⟩ := hR
      obtain ⟨a1, ha1⟩ := hr.some_ (by omega)
      subst ha1
      refine ops_nil ?_
      refine nR20 ?_
      refine run_seq ?_
      refine run_cond_true rfl ?_
      refine run_skip ?_
      refine run_seq ?_
      refine run_block ?_
      refine run_seq ?_
      refine run_region ?_
      refine ops_val (ex_idx Try.underlying22 ty48 rfl rfl rfl hil rfl) ?_
      refine ops_val (ex_loadN ty48 rfl (vs := [.int .i64 nt.kind, .int .i64 nt.group, .int .i64 nt.b.r, .int .i64 nt.b.n, .int .i64 nt.vote.slot, .int .i64 nt.vote.b.r, .int .i64 nt.vote.b.n, .slice B1 nt.vote.val.length j1, .int .i64 nt.entry.slot, .slice B2 nt.entry.val.length j2, .int .i64 nt.right.g, strV nt.right.key, .int .i64 nt.right.lease, .int .i64 nt.right.net, .int .i64 nt.client, .int .i64 nt.seq]) rfl ((hr.to0 (HB.all H5)).elem hp hp1)) ?_
      refine ops_alloc ty48 H5 ?_
      intro w6 g6 H6 hg6
      refine ops_store ty48 H6 2 rfl rfl rfl rfl rfl (by first | decide | (simp; done) | simp [putAt]) rfl ?_
      intro w7 H7
      refine ops_nil ?_
      refine nR20 ?_
      refine run_seq ?_
      refine run_region ?_
      refine ops_val (ex_loadN ty48 rfl (vs := [.int .i64 nt.kind, .int .i64 nt.group, .int .i64 nt.b.r, .int .i64 nt.b.n, .int .i64 nt.vote.slot, .int .i64 nt.vote.b.r, .int .i64 nt.vote.b.n, .slice B1 nt.vote.val.length j1, .int .i64 nt.entry.slot, .slice B2 nt.entry.val.length j2, .int .i64 nt.right.g, strV nt.right.key, .int .i64 nt.right.lease, .int .i64 nt.right.net, .int .i64 nt.client, .int .i64 nt.seq]) rfl (H7.cellsR (i := 2) rfl rfl)) ?_
      have HP := H7
      have hkb : ∀ x, (fun x => w0.heap.size ≤ x ∧ x ≠ gr ∧ x ≠ gb) x → x ∉ bl [((some gr, 0, []) : Ent), (some gb, 0, [])] ∧ (fun x => w0.heap.size ≤ x ∧ x ≠ gr ∧ x ≠ gb) x := fun x hx => ⟨fun hb => by
        have : x = gr ∨ x = gb := by simpa [bl] using hb
        rcases this with h | h
        · exact hx.2.1 h
        · exact hx.2.2 h, hx⟩
      have hkl : ∀ x, okl x → x < w0.heap.size → x ∉ ([] : List Nat) ∧ (okl x ∧ x < w0.heap.size) := fun x hx hl => ⟨by simp, hx, hl⟩
      have hgr0 := HB.place (i := 0) rfl
      have hgb0 := HB.place (i := 1) rfl
      have hnp := Hp.fresh H7
      have hszp := (HB.all H7).size
      refine ops_call (ex_call gf8 rfl) (goes_v gb b X1 x1 X2 x2 X3 x3 nt B1 j1 B2 j2 (fun x => okl x ∧ x < w0.heap.size) i _ (H7.at (i := 1) rfl) (fun x => w0.heap.size ≤ x ∧ x ≠ gr ∧ x ≠ gb) (fun hh => hh.2.2 rfl) (hx1.toS H7 fun x hx _ => hkb x hx) (hx2.toR H7 fun x hx _ => hkb x hx) (hx3.toM H7 fun x hx _ => hkb x hx) (fun hh => by rcases hgb0 with h | h; cases h; have := hh.2; omega) (hbv.to (HB.all H7) hkl) (hbe2.to (HB.all H7) hkl) hgood (by omega)) ?_
      rintro r w8 ⟨hyes, hno⟩
      have htk := repl_take hrep hx
      cases hin : b.into nt
      · obtain ⟨rfl, Hd⟩ := hno hin
        have HN9 := (HP.callr [1] rfl Hd).pick [0] (by decide)
        refine ops_val (ex_not rfl) ?_
        refine ops_nil ?_
        refine nR20 ?_
        refine run_cond_true rfl ?_
        refine run_seq ?_
        refine run_region ?_
        refine ops_val (ex_build ty28 pl28 rfl rfl) ?_
        refine ops_store ty28 HN9 0 rfl rfl rfl rfl rfl (by decide) rfl ?_
        intro w9 H9
        refine ops_val (ex_assign rfl) ?_
        refine ops_nil ?_
        refine nR20 ?_
        refine run_ret ?_
        refine blk_ret ?_
        refine rnd_ret ?_
        refine blk_ret ?_
        refine fin_cell_tmp rfl ty28 (cs := [.slice none 0 0, .slice none 0 0, .slice none 0 0]) rfl rfl rfl (H9.cellsR (i := 0) rfl rfl) ?_
        exact ⟨_, _, Bo.zero, rfl, BoR.zero _ _, .inr ⟨repl_none (htk.trans hin), rfl, rfl⟩, (HB.all H9).noRows⟩
      · obtain ⟨rfl, cs', Hd, hB'⟩ := hyes _ hin
        have HN9 := (HP.callr [1] rfl Hd).pick [0, 3] (by decide)
        refine ops_val (ex_not rfl) ?_
        refine ops_nil ?_
        refine nR20 ?_
        refine run_cond_false rfl ?_
        refine run_skip ?_
        refine run_nil (blk_normal ?_)
        refine run_region ?_
        refine ops_val (ex_add rfl rfl (IntWalk.i64_in _ (by omega))) ?_
        refine ops_val (ex_move rfl) ?_
        refine ops_nil ?_
        refine nR20 ?_
        refine run_nil (rnd_normal ?_)
        refine ⟨l.length - (i + 1), by omega, i + 1, _, _, cs', rfl, (fn (fn (fs (fn (fs (fn (fn (fn (fs (fs (fs (fn (fn (fn (fn (fn (fn (fn (fn (fn f0)))))))))))))))))))), by omega, by omega, htk.trans hin, hgood.into hin, hB'.to (Hp.refl _) (fun x hx hl => ⟨by simp, ?_⟩), (HB.all HN9).pick [0, 1] (by decide)⟩
        rcases hx with hx | hx
        · exact hx
        · exact ⟨by omega, fun e => by subst e; have := HP.lt (i := 0) rfl; omega, fun e => by subst e; have := HP.lt (i := 1) rfl; omega⟩
    · obtain rfl : i = l.length := by omega
      refine ops_nil ?_
      refine nR20 ?_
      refine run_seq ?_
      refine run_cond_false rfl ?_
      refine run_exit ?_
      refine rnd_exit ?_
      refine blk_exit ?_
      refine run_seq ?_
      refine run_region ?_
      refine ops_val (ex_loadN ty28 rfl (vs := [.slice X1 b.groups.length x1, .slice X2 b.rights.length x2, .slice X3 b.last.length x3]) rfl (H5.cellsR (i := 1) rfl rfl)) ?_
      refine ops_store ty28 H5 0 rfl rfl rfl rfl rfl (Nat.le_refl 3) rfl ?_
      intro w6 H6
      refine ops_val (ex_assign rfl) ?_
      refine ops_nil ?_
      refine nR20 ?_
      refine run_ret ?_
      refine fin_cell_tmp rfl ty28 (cs := [.slice X1 b.groups.length x1, .slice X2 b.rights.length x2, .slice X3 b.last.length x3]) rfl rfl rfl (H6.cellsR (i := 0) rfl rfl) ?_
      rw [List.take_length] at hrep
      refine ⟨_, _, b, rfl, BoR.to (ok := (fun x => w0.heap.size ≤ x ∧ x ≠ gr ∧ x ≠ gb)) ⟨X1, x1, X2, x2, X3, x3, rfl, hx1, hx2, hx3⟩ H6 (fun x hx hl => ⟨fun hb => ?_, hx.1⟩), .inl ⟨hrep, rfl, hgood⟩, (HB.all H6).noRows⟩
      have : x = gr ∨ x = gb := by simpa [bl] using hb
      rcases this with h | h
      · exact hx.2.1 h
      · exact hx.2.2 h
end Go.Proofs.Ytbninklfoogmdaa
