/- Walks of layer 2, printed by wip/gen/codec.py. -/
import Derived.Test.YtbninklfoogmdaaGreatNf
import Derived.Test.YtbninklfoogmdaaGreatVz
import Derived.Test.YtbninklfoogmdaaGreatVaT
import Derived.Test.YtbninklfoogmdaaGreatVaN
namespace Go.Proofs.YtbninklfoogmdaaGreat
open Go Go.RowKit
set_option linter.unusedVariables false
attribute [local irreducible] Still Ops Does Cd
set_option maxRecDepth 100000 in
set_option maxHeartbeats 32000000 in
theorem replay_r (A : Option Addr) (k : Nat) (l : List Nt) (okl : Nat → Prop) (w0 : World) (hl : Sl (NtR w0 okl) 16 w0 okl A l) (hn : l.length ≤ 840000000000) : Does Tryz.prog 12 #[.slice A l.length k] w0 (fun r w' => ∃ cs e b, r = .tuple #[.agg cs.toArray, .int .i64 e] ∧ BoR w' (up okl w0.heap.size) cs b ∧ Rep l b e ∧ Hp w0 w' [] []) := by
 refine does_of Tryz.func12 Tryz.ntmps12 rfl<|cR e29 ?_
 have H := Hp.refl w0
 obtain ⟨ps, hp, hr, ha, h2⟩ := id hl
 have hlen := h2.len
 refine Rq<|OA ty27 H<|fun w1 gr H1 hgr=>Xa rfl<|Xr e29<|Rq ?_
 have hnbr := Hp.fresh H1
 have hszr := H1.size
 refine OQ (EC gf16 rfl) (empty_r _) ?_
 rintro _ w2 ⟨cse, rfl, hbe, Hd⟩
 have H2 := H1.callN Hd
 have hcl : ∃ a b c d e f, cse = [.slice a 8 b, .slice c 0 d, .slice e 0 f] := by
   obtain ⟨_, _, _, _, _, _, rfl, _⟩ := hbe
   exact ⟨_, _, _, _, _, _, rfl⟩
 obtain ⟨z1, y1, z2, y2, z3, y3, rfl⟩ := hcl
 have HB0 := H2
 have HL0 := HB0.here
 refine OA ty27 HL0<|fun w3 gb H3 hgb=>OS ty27 H3 1 rfl rfl rfl rfl rfl (by first | decide | (simp; done) | simp [putAt]) rfl<|fun w4 H4=>Xr e29<|J1<|Rq<|Xa rfl<|Xr e29<|J7<|run_loop (fun nQ lQ w => ∃ (i : Nat) (y : Int) (b : Bo) (cs : List Value), l.length - i = nQ ∧ Fits [some (.slice A l.length k), none, some (.pointer (some ⟨gr, 0, none⟩)), none, some (.pointer (some ⟨gb, 0, none⟩)), some (.int .i64 y), none, none, none, none, none, none, none, none, none, none, none, none, none, none, none, none, none, none, none, none, none, none, none] lQ ∧ y = (i : Int) ∧ i ≤ l.length ∧ repl Bo.empty (l.take i) = some b ∧ Good b i ∧ BoR w (fun x => (okl x ∧ x < w0.heap.size ∨ w0.heap.size ≤ x) ∧ x ≠ gr ∧ x ≠ gb) cs b ∧ Hp w0 w [] [((some gr, 27, [.slice none 0 0, .slice none 0 0, .slice none 0 0]) : Ent), (some gb, 27, cs)]) (l.length) ?_ ?_
 exact ⟨0, _, Bo.empty, _, rfl, (fs (fn (fs (fn (fs (fs (fn (fn (fn (fn (fn (fn (fn (fn (fn (fn (fn (fn (fn (fn (fn (fn (fn (fn (fn (fn (fn (fn (fn f0))))))))))))))))))))))))))))), rfl, Nat.zero_le _, rfl, Good.empty, hbe.to H4 (fun x hx hl => ⟨hnbr x hx, .inr (by omega), fun e => by subst e; have h1 := H4.lt (i := 0) rfl; have h2 := hnbr _ hx; exact h2 (by simp [bl]), by omega⟩), (HB0.all H4).pick [0, 1] (by decide)⟩
 rintro nQ lQ w5 ⟨i, y, b, cs, rfl, hfit, rfl, hi, hrep, hgood, hbor, H5⟩
 obtain ⟨j, rfl⟩ := hfit.open
 refine cR e29 ?_
 clear hfit
 have HB := H5
 replace H5 := HB.here
 obtain ⟨X1, x1, X2, x2, X3, x3, rfl, hx1, hx2, hx3⟩ := hbor
 have hgr0 : w0.heap.size ≤ gr := by
   rcases HB.place (i := 0) (g := gr) rfl with h | h
   · cases h
   · exact h
 have hgb0 : w0.heap.size ≤ gb := by
   rcases HB.place (i := 1) (g := gb) rfl with h | h
   · cases h
   · exact h
 have hszB := HB.size
 have hgr1 := HB.lt (i := 0) rfl
 have hgb1 := HB.lt (i := 1) rfl
 obtain ⟨wl, hwl⟩ : ∃ n, n = w5.heap.size := ⟨_, rfl⟩
 refine J1<|Rq<|Xm rfl<|Xm rfl<|OV (ES Tryz.underlying22 rfl)<|OT (ex_lss rfl rfl) (fun hp12 => ?_) (fun hp12 => ?_)
 have hil : i < l.length := by omega
 obtain ⟨nt, hx⟩ := get_of hil
 obtain ⟨p1, hp1, hR⟩ := h2.get hx
 obtain ⟨B1, j1, B2, j2, rfl, hbv, hbe2⟩ := hR
 obtain ⟨a1, ha1⟩ := hr.some_ (by omega)
 subst ha1
 have htk := repl_take hrep hx
 refine Xr e29<|J3 rfl<|J6<|J1<|J7<|J1<|run_mixT 11 (.p 0 (.p 1 (.p 2 (.p 3 (.p 4 (.two 5 (.p 6 (.p 7 (.p 8 (.o 9 (.o 10 (.o 11 .nil)))))) 9 (.o 5 (.p 6 (.p 7 (.p 8 (.o 10 (.o 11 .nil)))))))))))) H5 [0, 1] mixed (by decide) (by kernel_rfl) ?_
 rintro w6 hw6
 have H6 := Hp.drew H5; rw [← hw6] at H6
 refine TP rfl<|MV (fun wz hz => EN ty27 rfl (vs := [.slice X1 b.groups.length x1, .slice X2 b.rights.length x2, .slice X3 b.last.length x3]) rfl (hz.cellsR (i := 1) rfl rfl))<|Tm rfl rfl<|Tm rfl rfl<|TP rfl<|MV (fun wz hz => EI Tryz.underlying22 ty45 rfl rfl (len := l.length) (i := i) (by omega) (by omega) rfl)<|cT e29<|TP rfl<|MV (fun wz hz => EN ty45 rfl (vs := [.int .i64 nt.kind, .int .i64 nt.group, .int .i64 nt.b.r, .int .i64 nt.b.n, .int .i64 nt.vote.slot, .int .i64 nt.vote.b.r, .int .i64 nt.vote.b.n, .slice B1 nt.vote.val.length j1, .int .i64 nt.entry.slot, .slice B2 nt.entry.val.length j2, .int .i64 nt.right.g, strV nt.right.key, .int .i64 nt.right.lease, .int .i64 nt.right.net, .int .i64 nt.client, .int .i64 nt.seq]) rfl ((hr.to0 (HB.all hz)).elem hp hp1))<|mixt_two ?_ ?_
 refine TQ rfl ?_
 have hszi := H6.size
 have hnp := Hp.fresh H6
 have hkb : ∀ x, (fun x => (okl x ∧ x < w0.heap.size ∨ w0.heap.size ≤ x) ∧ x ≠ gr ∧ x ≠ gb) x → x < wl → x ∉ bl [((some gr, 0, []) : Ent), (some gb, 0, [])] ∧ (fun x => (fun x => (okl x ∧ x < w0.heap.size ∨ w0.heap.size ≤ x) ∧ x ≠ gr ∧ x ≠ gb) x ∧ x ≠ gr) x := fun x hx hl => ⟨fun hb => by
   have : x = gr ∨ x = gb := by simpa [bl] using hb
   rcases this with h | h
   · exact hx.2.1 h
   · exact hx.2.2 h, hx, hx.2.1⟩
 have hkl : ∀ x, okl x → x < w0.heap.size → x ∉ ([] : List Nat) ∧ (fun x => (fun x => (okl x ∧ x < w0.heap.size ∨ w0.heap.size ≤ x) ∧ x ≠ gr ∧ x ≠ gb) x ∧ x ≠ gr) x := fun x hx hl => ⟨by simp, ⟨.inl ⟨hx, hl⟩, by omega, by omega⟩, by omega⟩
 refine OQ (EC gf9 rfl) (into_r b X1 x1 X2 x2 X3 x3 nt B1 j1 B2 j2 (fun x => (fun x => (okl x ∧ x < w0.heap.size ∨ w0.heap.size ≤ x) ∧ x ≠ gr ∧ x ≠ gb) x ∧ x ≠ gr) i _ (hx1.toS H6 fun x hx hl => hkb x hx (by omega)) (hx2.toR H6 fun x hx hl => hkb x hx (by omega)) (hx3.toM H6 fun x hx hl => hkb x hx (by omega)) (hbv.to (HB.all H6) hkl) (hbe2.to (HB.all H6) hkl) hgood (by omega)) ?_
 rintro _ w7 ⟨Y1, m1, y1, Y2, m2, y2, Y3, m3, y3, fl, rfl, hyes, hno, Hd⟩
 have HG := H6.callN Hd
 have HL := HG.here
 have H7 := HG
 have hszw := Hd.size
 have hreg : ∀ x, up (fun x => (fun x => (okl x ∧ x < w0.heap.size ∨ w0.heap.size ≤ x) ∧ x ≠ gr ∧ x ≠ gb) x ∧ x ≠ gr) w6.heap.size x → x ∉ bl [((some gr, 0, []) : Ent), ((some gb, 0, []) : Ent)] := fun x hx hb => (show False from by
   rcases hx with hx | hx
   · have h1 := hx.1.2.1; have h2 := hx.1.2.2; have h3 := hx.2; have : x = gr ∨ x = gb := by simpa [bl] using hb
     omega
   · exact hnp x hx hb)
 have hreg2 : ∀ x, up (fun x => (fun x => (okl x ∧ x < w0.heap.size ∨ w0.heap.size ≤ x) ∧ x ≠ gr ∧ x ≠ gb) x ∧ x ≠ gr) w6.heap.size x → (fun x => (okl x ∧ x < w0.heap.size ∨ w0.heap.size ≤ x) ∧ x ≠ gr ∧ x ≠ gb) x := fun x hx => by
   rcases hx with hx | hx
   · exact hx.1
   · exact ⟨.inr (by omega), by omega, by omega⟩
 cases hin : b.into nt
 obtain rfl := hno hin
 refine OE ?_
 refine ⟨fun hne => H7.pick [0, 1] (by decide), ?_⟩
 refine Tm rfl rfl<|TP rfl<|MV (fun wz hz => ex_extract rfl rfl)<|TP rfl<|MV (fun wz hz => ex_extract rfl rfl)<|cT e29<|TQ rfl<|OA ty27 HL<|fun w8 g6 HL2 _=>have H8:=HG.all HL2;OE<|⟨fun hne => H8.pick [0, 1] (by decide), ?_⟩
 refine cT e29<|TQ rfl<|OS ty27 HL2 2 (vs := [.slice Y1 m1 y1, .slice Y2 m2 y2, .slice Y3 m3 y3]) rfl rfl rfl rfl rfl (Nat.le_refl 3) rfl<|fun w9 HL3=>have H9:=HG.all HL3;OE<|⟨fun hne => H9.pick [0, 1] (by decide), ?_⟩
 refine cT e29<|TQ rfl<|Xa rfl ?_
 replace H9 := HL3
 refine OE ?_
 refine ⟨fun hne => absurd rfl hne, ?_⟩
 refine cT e29<|mixt_nil<|cR e29<|J1<|Rq<|Xm rfl<|Xn rfl<|Xr e29<|J3 rfl<|Rq<|OV (EB ty27 pl27 rfl rfl)<|OS ty27 H9 0 (vs := [.slice none 0 0, .slice none 0 0, .slice none 0 0]) rfl rfl rfl rfl rfl (Nat.le_refl 3) rfl<|fun w10 H10=>Xa rfl<|Xr e29<|J5<|BR<|rnd_ret<|BR<|fin_cell_tmp rfl ty27 (cs := [.slice none 0 0, .slice none 0 0, .slice none 0 0]) rfl rfl rfl (H10.cellsR (i := 0) rfl rfl)<|⟨_, _, Bo.zero, rfl, BoR.zero _ _, .inr ⟨repl_none (htk.trans hin), rfl, rfl⟩, (HB.all (HG.all H10)).noRows⟩
 rename_i bn
 obtain ⟨rfl, hB'⟩ := hyes bn hin
 refine OE ?_
 refine ⟨fun hne => H7.pick [0, 1] (by decide), ?_⟩
 refine Tm rfl rfl<|TP rfl<|MV (fun wz hz => ex_extract rfl rfl)<|TP rfl<|MV (fun wz hz => ex_extract rfl rfl)<|cT e29<|TQ rfl<|OA ty27 HL<|fun w8 g6 HL2 _=>have H8:=HG.all HL2;OE<|⟨fun hne => H8.pick [0, 1] (by decide), ?_⟩
 refine cT e29<|TQ rfl<|OS ty27 HL2 2 (vs := [.slice Y1 m1 y1, .slice Y2 m2 y2, .slice Y3 m3 y3]) rfl rfl rfl rfl rfl (Nat.le_refl 3) rfl<|fun w9 HL3=>have H9:=HG.all HL3;OE<|⟨fun hne => H9.pick [0, 1] (by decide), ?_⟩
 refine cT e29<|TQ rfl<|Xa rfl ?_
 replace H9 := HL3
 refine OE ?_
 refine ⟨fun hne => absurd rfl hne, ?_⟩
 refine cT e29<|mixt_nil<|cR e29<|J1<|Rq<|Xm rfl<|Xn rfl<|Xr e29<|J4 rfl<|J6<|J2<|OV (EN ty27 rfl (vs := [.slice Y1 m1 y1, .slice Y2 m2 y2, .slice Y3 m3 y3]) rfl (H9.cellsR (i := 2) rfl rfl))<|OS ty27 H9 1 (vs := [.slice Y1 m1 y1, .slice Y2 m2 y2, .slice Y3 m3 y3]) rfl rfl rfl rfl rfl (Nat.le_refl 3) rfl<|fun w10 H10=>Xr e29<|run_nil (blk_normal ?_)
 refine J2<|Xm rfl<|OV (ex_add rfl rfl (IntWalk.i64_in _ (by omega)))<|Xa rfl<|Xr e29<|run_nil (rnd_normal ?_)
 exact ⟨l.length - (i + 1), by omega, i + 1, _, bn, [.slice Y1 m1 y1, .slice Y2 m2 y2, .slice Y3 m3 y3], rfl, (fs (fn (fs (fn (fs (fs (fn (fn (fn (fn (fn (fn (fn (fn (fn (fn (fn (fn (fn (fn (fn (fn (fn (fn (fn (fn (fn (fn (fn f0))))))))))))))))))))))))))))), by omega, by omega, htk.trans hin, hgood.into hin, hB'.to H10 (fun x hx _ => ⟨hreg x hx, hreg2 x hx⟩), (HB.all (HG.all H10)).pick [0, 1] (by decide)⟩
 refine TQ rfl ?_
 have hszd := H6.size
 refine OA ty27 H6<|fun w7 g6 H7 hg6=>OE<|⟨fun hne => H7.pick [0, 1] (by decide), ?_⟩
 refine cT e29<|TQ rfl ?_
 have hszi := H7.size
 have hnp := Hp.fresh H7
 have hkb : ∀ x, (fun x => (okl x ∧ x < w0.heap.size ∨ w0.heap.size ≤ x) ∧ x ≠ gr ∧ x ≠ gb) x → x < wl → x ∉ bl [((some gr, 0, []) : Ent), (some gb, 0, [])] ∧ (fun x => (fun x => (okl x ∧ x < w0.heap.size ∨ w0.heap.size ≤ x) ∧ x ≠ gr ∧ x ≠ gb) x ∧ x ≠ g6) x := fun x hx hl => ⟨fun hb => by
   have : x = gr ∨ x = gb := by simpa [bl] using hb
   rcases this with h | h
   · exact hx.2.1 h
   · exact hx.2.2 h, hx, by omega⟩
 have hkl : ∀ x, okl x → x < w0.heap.size → x ∉ ([] : List Nat) ∧ (fun x => (fun x => (okl x ∧ x < w0.heap.size ∨ w0.heap.size ≤ x) ∧ x ≠ gr ∧ x ≠ gb) x ∧ x ≠ g6) x := fun x hx hl => ⟨by simp, ⟨.inl ⟨hx, hl⟩, by omega, by omega⟩, by omega⟩
 refine OQ (EC gf9 rfl) (into_r b X1 x1 X2 x2 X3 x3 nt B1 j1 B2 j2 (fun x => (fun x => (okl x ∧ x < w0.heap.size ∨ w0.heap.size ≤ x) ∧ x ≠ gr ∧ x ≠ gb) x ∧ x ≠ g6) i _ (hx1.toS H7 fun x hx hl => hkb x hx (by omega)) (hx2.toR H7 fun x hx hl => hkb x hx (by omega)) (hx3.toM H7 fun x hx hl => hkb x hx (by omega)) (hbv.to (HB.all H7) hkl) (hbe2.to (HB.all H7) hkl) hgood (by omega)) ?_
 rintro _ w8 ⟨Y1, m1, y1, Y2, m2, y2, Y3, m3, y3, fl, rfl, hyes, hno, Hd⟩
 have HG := H7.callN Hd
 have HL := HG.here
 have H8 := HG
 have hszw := Hd.size
 have hreg : ∀ x, up (fun x => (fun x => (okl x ∧ x < w0.heap.size ∨ w0.heap.size ≤ x) ∧ x ≠ gr ∧ x ≠ gb) x ∧ x ≠ g6) w7.heap.size x → x ∉ bl [((some gr, 0, []) : Ent), ((some gb, 0, []) : Ent), ((some g6, 0, []) : Ent)] := fun x hx hb => (show False from by
   rcases hx with hx | hx
   · have h1 := hx.1.2.1; have h2 := hx.1.2.2; have h3 := hx.2; have : x = gr ∨ x = gb ∨ x = g6 := by simpa [bl] using hb
     omega
   · exact hnp x hx hb)
 have hreg2 : ∀ x, up (fun x => (fun x => (okl x ∧ x < w0.heap.size ∨ w0.heap.size ≤ x) ∧ x ≠ gr ∧ x ≠ gb) x ∧ x ≠ g6) w7.heap.size x → (fun x => (okl x ∧ x < w0.heap.size ∨ w0.heap.size ≤ x) ∧ x ≠ gr ∧ x ≠ gb) x := fun x hx => by
   rcases hx with hx | hx
   · exact hx.1
   · exact ⟨.inr (by omega), by omega, by omega⟩
 cases hin : b.into nt
 obtain rfl := hno hin
 refine OE ?_
 refine ⟨fun hne => H8.pick [0, 1] (by decide), ?_⟩
 refine Tm rfl rfl<|TP rfl<|MV (fun wz hz => ex_extract rfl rfl)<|TP rfl<|MV (fun wz hz => ex_extract rfl rfl)<|TQ rfl<|OS ty27 HL 2 (vs := [.slice Y1 m1 y1, .slice Y2 m2 y2, .slice Y3 m3 y3]) rfl rfl rfl rfl rfl (Nat.le_refl 3) rfl<|fun w9 HL3=>have H9:=HG.all HL3;OE<|⟨fun hne => H9.pick [0, 1] (by decide), ?_⟩
 refine cT e29<|TQ rfl<|Xa rfl ?_
 replace H9 := HL3
 refine OE ?_
 refine ⟨fun hne => absurd rfl hne, ?_⟩
 refine cT e29<|mixt_nil<|cR e29<|J1<|Rq<|Xm rfl<|Xn rfl<|Xr e29<|J3 rfl<|Rq<|OV (EB ty27 pl27 rfl rfl)<|OS ty27 H9 0 (vs := [.slice none 0 0, .slice none 0 0, .slice none 0 0]) rfl rfl rfl rfl rfl (Nat.le_refl 3) rfl<|fun w10 H10=>Xa rfl<|Xr e29<|J5<|BR<|rnd_ret<|BR<|fin_cell_tmp rfl ty27 (cs := [.slice none 0 0, .slice none 0 0, .slice none 0 0]) rfl rfl rfl (H10.cellsR (i := 0) rfl rfl)<|⟨_, _, Bo.zero, rfl, BoR.zero _ _, .inr ⟨repl_none (htk.trans hin), rfl, rfl⟩, (HB.all (HG.all H10)).noRows⟩
 rename_i bn
 obtain ⟨rfl, hB'⟩ := hyes bn hin
 refine OE ?_
 refine ⟨fun hne => H8.pick [0, 1] (by decide), ?_⟩
 refine Tm rfl rfl<|TP rfl<|MV (fun wz hz => ex_extract rfl rfl)<|TP rfl<|MV (fun wz hz => ex_extract rfl rfl)<|TQ rfl<|OS ty27 HL 2 (vs := [.slice Y1 m1 y1, .slice Y2 m2 y2, .slice Y3 m3 y3]) rfl rfl rfl rfl rfl (Nat.le_refl 3) rfl<|fun w9 HL3=>have H9:=HG.all HL3;OE<|⟨fun hne => H9.pick [0, 1] (by decide), ?_⟩
 refine cT e29<|TQ rfl<|Xa rfl ?_
 replace H9 := HL3
 refine OE ?_
 refine ⟨fun hne => absurd rfl hne, ?_⟩
 refine cT e29<|mixt_nil<|cR e29<|J1<|Rq<|Xm rfl<|Xn rfl<|Xr e29<|J4 rfl<|J6<|J2<|OV (EN ty27 rfl (vs := [.slice Y1 m1 y1, .slice Y2 m2 y2, .slice Y3 m3 y3]) rfl (H9.cellsR (i := 2) rfl rfl))<|OS ty27 H9 1 (vs := [.slice Y1 m1 y1, .slice Y2 m2 y2, .slice Y3 m3 y3]) rfl rfl rfl rfl rfl (Nat.le_refl 3) rfl<|fun w10 H10=>Xr e29<|run_nil (blk_normal ?_)
 refine J2<|Xm rfl<|OV (ex_add rfl rfl (IntWalk.i64_in _ (by omega)))<|Xa rfl<|Xr e29<|run_nil (rnd_normal ?_)
 exact ⟨l.length - (i + 1), by omega, i + 1, _, bn, [.slice Y1 m1 y1, .slice Y2 m2 y2, .slice Y3 m3 y3], rfl, (fs (fn (fs (fn (fs (fs (fn (fn (fn (fn (fn (fn (fn (fn (fn (fn (fn (fn (fn (fn (fn (fn (fn (fn (fn (fn (fn (fn (fn f0))))))))))))))))))))))))))))), by omega, by omega, htk.trans hin, hgood.into hin, hB'.to H10 (fun x hx _ => ⟨hreg x hx, hreg2 x hx⟩), (HB.all (HG.all H10)).pick [0, 1] (by decide)⟩
 obtain rfl : i = l.length := by omega
 refine Xr e29<|J4 rfl<|J8<|rnd_exit<|blk_exit<|Rq<|OV (EN ty27 rfl (vs := [.slice X1 b.groups.length x1, .slice X2 b.rights.length x2, .slice X3 b.last.length x3]) rfl (H5.cellsR (i := 1) rfl rfl))<|OS ty27 H5 0 (vs := [.slice X1 b.groups.length x1, .slice X2 b.rights.length x2, .slice X3 b.last.length x3]) rfl rfl rfl rfl rfl (Nat.le_refl 3) rfl<|fun w6 H6=>Xa rfl<|Xr e29<|J5<|fin_cell_tmp rfl ty27 (cs := [.slice X1 b.groups.length x1, .slice X2 b.rights.length x2, .slice X3 b.last.length x3]) rfl rfl rfl (H6.cellsR (i := 0) rfl rfl) ?_
 rw [List.take_length] at hrep
 refine ⟨_, _, b, rfl, BoR.to (ok := (fun x => (okl x ∧ x < w0.heap.size ∨ w0.heap.size ≤ x) ∧ x ≠ gr ∧ x ≠ gb)) ⟨X1, x1, X2, x2, X3, x3, rfl, hx1, hx2, hx3⟩ H6 (fun x hx hl => ⟨fun hb => ?_, hx.1.imp (fun h => h.1) id⟩), .inl ⟨hrep, rfl, hgood⟩, (HB.all H6).noRows⟩
 have : x = gr ∨ x = gb := by simpa [bl] using hb
 rcases this with h | h
 exact hx.2.1 h
 exact hx.2.2 h
end Go.Proofs.YtbninklfoogmdaaGreat
