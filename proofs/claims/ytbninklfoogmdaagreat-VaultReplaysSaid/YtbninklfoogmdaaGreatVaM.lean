/- Walks of layer 2, printed by wip/gen/codec.py. -/
import Derived.Test.YtbninklfoogmdaaGreatNf
import Derived.Test.YtbninklfoogmdaaGreatVt
import Derived.Test.YtbninklfoogmdaaGreatVaH
import Derived.Test.YtbninklfoogmdaaGreatVaI
import Derived.Test.YtbninklfoogmdaaGreatVaL
namespace Go.Proofs.YtbninklfoogmdaaGreat
open Go Go.RowKit
set_option linter.unusedVariables false
attribute [local irreducible] Still Ops Does Cd
theorem promise_s (gs : Nat) (s : Sv) (A1 : Option Addr) (k1 : Nat) (A2 : Option Addr) (k2 : Nat) (A3 : Option Addr) (k3 : Nat) (n : Nt) (B1 : Option Addr) (j1 : Nat) (B2 : Option Addr) (j2 : Nat) (w0 : World) (hrow : w0.heap[gs]? = some (.cells [.int .i64 s.p.r, .int .i64 s.p.n, .slice A1 s.votes.length k1, .int .i64 s.index, .slice A2 s.image.length k2, .slice A3 s.entries.length k3].toArray 57 (0, 0))) (ok : Nat → Prop) (hok : ¬ ok gs) (hv1 : Sl (VtR w0 ok) 4 w0 ok A1 s.votes) (hv2 : Bs w0 ok A2 s.image) (hv3 : Sl (EnR w0 ok) 2 w0 ok A3 s.entries) : Does Tryz.prog 61 #[.pointer (some ⟨gs, 0, none⟩), .agg [.int .i64 n.kind, .int .i64 n.group, .int .i64 n.b.r, .int .i64 n.b.n, .int .i64 n.vote.slot, .int .i64 n.vote.b.r, .int .i64 n.vote.b.n, .slice B1 n.vote.val.length j1, .int .i64 n.entry.slot, .slice B2 n.entry.val.length j2, .int .i64 n.right.g, strV n.right.key, .int .i64 n.right.lease, .int .i64 n.right.net, .int .i64 n.client, .int .i64 n.seq].toArray] w0 (fun _ w' => ∃ cs', Hp w0 w' [gs] [((some gs, 57, cs') : Ent)] ∧ SvR w' (up ok w0.heap.size) cs' (s.raise n.b)) := by
 refine (promise_v gs s.p _ _ _ _ n B1 j1 B2 j2 w0 hrow).mono fun r w' H => ?_
 have hks := up_k (n := w0.heap.size) (ok := ok) (S := [gs]) fun x hx hg => hok (by rw [← List.mem_singleton.1 hg]; exact hx)
 rw [raise_eq]
 exact ⟨_, H, A1, k1, A2, k2, A3, k3, rfl, hv1.toV H hks, hv2.to H hks, hv3.toE H hks⟩
set_option maxRecDepth 100000 in
set_option maxHeartbeats 32000000 in
theorem goes_v (gb : Nat) (b : Bo) (A1 : Option Addr) (k1 : Nat) (A2 : Option Addr) (k2 : Nat) (A3 : Option Addr) (k3 : Nat) (n : Nt) (B1 : Option Addr) (j1 : Nat) (B2 : Option Addr) (j2 : Nat) (okn : Nat → Prop) (N : Nat) (w0 : World) (hrow : w0.heap[gb]? = some (.cells [.slice A1 b.groups.length k1, .slice A2 b.rights.length k2, .slice A3 b.last.length k3].toArray 27 (0, 0))) (ok : Nat → Prop) (hok : ¬ ok gb) (hb1 : Sl (SvR w0 ok) 6 w0 ok A1 b.groups) (hb2 : Sl RtR 4 w0 ok A2 b.rights) (hb3 : Sl MkR 7 w0 ok A3 b.last) (hokn : ¬ okn gb) (hbv : Bs w0 okn B1 n.vote.val) (hbe : Bs w0 okn B2 n.entry.val) (hg : Good b N) (hN : N ≤ 900000000000) : Does Tryz.prog 19 #[.pointer (some ⟨gb, 0, none⟩), .agg [.int .i64 n.kind, .int .i64 n.group, .int .i64 n.b.r, .int .i64 n.b.n, .int .i64 n.vote.slot, .int .i64 n.vote.b.r, .int .i64 n.vote.b.n, .slice B1 n.vote.val.length j1, .int .i64 n.entry.slot, .slice B2 n.entry.val.length j2, .int .i64 n.right.g, strV n.right.key, .int .i64 n.right.lease, .int .i64 n.right.net, .int .i64 n.client, .int .i64 n.seq].toArray] w0 (fun r w' => (∀ b', b.into n = some b' → r = .bool true ∧ ∃ cs', Hp w0 w' [gb] [((some gb, 27, cs') : Ent)] ∧ BoR w' (up ok w0.heap.size) cs' b') ∧ (b.into n = none → r = .bool false ∧ Hp w0 w' [gb] [])) := by
 refine does_of Tryz.func19 Tryz.ntmps19 rfl<|cR e58 ?_
 have H := Hp.old hrow
 have hks := up_k (n := w0.heap.size) (ok := ok) (S := [gb]) fun x hx hg => hok (by rw [← List.mem_singleton.1 hg]; exact hx)
 have hkB : ∀ x, ok x → x < w0.heap.size → x ∉ [gb] ∧ (ok x ∧ x < w0.heap.size) := fun x hx hl => ⟨(hks x hx hl).1, hx, hl⟩
 have hkn : ∀ x, okn x → x < w0.heap.size → x ∉ [gb] ∧ (okn x ∧ x < w0.heap.size) := fun x hx hl => ⟨fun hg => hokn (by rw [← List.mem_singleton.1 hg]; exact hx), hx, hl⟩
 obtain ⟨pg, hpg, hrg, hag, h2g⟩ := id hb1
 have hgl := h2g.len
 have h8 := hg.eight
 have hong := h2g.ones fun _ _ h => h.ones
 refine Rq<|ops_box rfl rfl H<|fun w1 g1 H1 hg1=>Xa rfl<|Xr e58<|J1<|Rq<|Xf fl45_0 rfl<|OV (EL ty3 rfl (H1.cell (i := 1) rfl rfl))<|OT (ex_eql rfl rfl) (fun hp9 => ?_) (fun hp9 => ?_)
 refine Xr e58<|J3 rfl<|Rq<|Xm rfl<|OV (EN ty45 rfl (vs := [.int .i64 n.kind, .int .i64 n.group, .int .i64 n.b.r, .int .i64 n.b.n, .int .i64 n.vote.slot, .int .i64 n.vote.b.r, .int .i64 n.vote.b.n, .slice B1 n.vote.val.length j1, .int .i64 n.entry.slot, .slice B2 n.entry.val.length j2, .int .i64 n.right.g, strV n.right.key, .int .i64 n.right.lease, .int .i64 n.right.net, .int .i64 n.client, .int .i64 n.seq]) rfl (H1.cellsR (i := 1) rfl rfl)) ?_
 have HZ0 := H1
 refine OQ (EC gf34 rfl) (spent_v gb b A1 k1 A2 k2 A3 k3 n B1 j1 B2 j2 N _ (H1.at (i := 0) rfl) (up ok w0.heap.size) (fun hh => by rcases hh with h | h; exact hok h; have := (Array.getElem?_eq_some_iff.1 hrow).1; omega) (hb1.toS H1 hks) (hb2.toR H1 hks) (hb3.toM H1 hks) hg hN) ?_
 rintro r w2 ⟨hyes, hno⟩
 by_cases hmay : mayR n.right
 obtain ⟨rfl, cs', Hd, hB⟩ := hyes hmay
 have hszp := HZ0.size
 have HN9 := (HZ0.callr [0] rfl Hd).pick [2] (by decide)
 refine Xa rfl<|Xr e58<|J5<|FN1 rfl rfl ?_
 exact ⟨fun b' hb' => by
   rw [into_right hp9 hmay] at hb'
   simp only [Option.some.injEq] at hb'
   subst hb'
   exact ⟨rfl, cs', HN9, hB.to (Hp.refl _) (fun x hx _ => ⟨by simp, by
     rcases hx with hx | hx
     · exact hx
     · exact .inr (by omega)⟩)⟩, fun h => by rw [into_right hp9 hmay] at h; cases h⟩
 obtain ⟨rfl, Hd⟩ := hno hmay
 have HN9 := (HZ0.callr [0] rfl Hd).noRows
 refine Xa rfl<|Xr e58<|J5<|FN1 rfl rfl<|⟨(fun b' hb' => by rw [into_wrong hp9 hmay] at hb'; cases hb'), fun _ => ⟨rfl, HN9⟩⟩
 refine Xr e58<|J4 rfl<|J6<|Rq<|Xf fl45_0 rfl<|OV (EL ty3 rfl (H1.cell (i := 1) rfl rfl))<|OQ (EC gf35 rfl) (table_v n.kind _) ?_
 rintro r w2 ⟨h0, h1, h2, h3, h4, Hd⟩
 have H2 := H1.callN Hd
 obtain hk | hk | hk | hk | hk : (n.kind < 1 ∨ 4 < n.kind) ∨ n.kind = 1 ∨ n.kind = 2 ∨ n.kind = 3 ∨ n.kind = 4 := by omega
 obtain rfl := h0 hk
 refine Xa rfl<|Xr e58<|J1<|Rq<|Xm rfl<|OV (ex_eql_func0 Tryz.underlying77 rfl)<|Xm rfl<|cOp e58<|OZ rfl<|OZ rfl<|cOp e58<|OZ rfl<|Xt rfl rfl<|Xm rfl<|cOp e58<|OZ rfl<|OZ rfl<|cOp e58<|OZ rfl<|Xt rfl rfl<|Xr e58<|J3 rfl<|Rq<|Xa rfl<|Xr e58<|J5<|FN1 rfl rfl<|⟨(fun b' hb' => by rw [into_bad hp9 (by omega)] at hb'; cases hb'), fun _ => ⟨rfl, H2.noRows⟩⟩
 obtain rfl := h1 hk
 refine Xa rfl<|Xr e58<|J1<|Rq<|Xm rfl<|OV (ex_eql_func Tryz.underlying77 rfl)<|Xm rfl<|cOp e58<|OY rfl<|Xf fl45_1 rfl<|OY rfl<|OV (EL ty3 rfl (H2.cell (i := 1) rfl rfl))<|cOp e58<|OY rfl<|OT (ex_lss rfl rfl) (fun hp21 => ?_) (fun hp21 => ?_)
 refine Xu rfl rfl<|Xm rfl<|cOp e58<|OZ rfl<|OZ rfl<|cOp e58<|OZ rfl<|Xt rfl rfl<|Xr e58<|J3 rfl<|Rq<|Xa rfl<|Xr e58<|J5<|FN1 rfl rfl<|⟨(fun b' hb' => by rw [into_bad hp9 (by omega)] at hb'; cases hb'), fun _ => ⟨rfl, H2.noRows⟩⟩
 refine Xu rfl rfl<|Xm rfl<|cOp e58<|OY rfl<|Xf fl45_1 rfl<|OY rfl<|OV (EL ty3 rfl (H2.cell (i := 1) rfl rfl))<|cOp e58<|OY rfl<|OT (ex_geq rfl rfl) (fun hp26 => ?_) (fun hp26 => ?_)
 refine Xu rfl rfl<|Xr e58<|J3 rfl<|Rq<|Xa rfl<|Xr e58<|J5<|FN1 rfl rfl<|⟨(fun b' hb' => by rw [into_bad hp9 (by omega)] at hb'; cases hb'), fun _ => ⟨rfl, H2.noRows⟩⟩
 obtain ⟨s, hs⟩ := get_of (l := b.groups) (j := n.group.toNat) (by omega)
 have hsl := lt_of_get hs
 obtain ⟨p1, hp1, hR⟩ := h2g.get hs
 obtain ⟨C1, q1, C2, q2, C3, q3, rfl, hv1, hv2, hv3⟩ := hR
 obtain ⟨a1, ha1⟩ := hrg.some_ (by omega)
 subst ha1
 have hce := (chk_iff s).1 (hg.chk s (mem_of hs))
 have hvfew := vts_few hce
 have hefew := ents_few hce
 have hglen := goes_len s n
 refine Xu rfl rfl<|Xr e58<|J4 rfl<|J6<|J1<|run_mixZ 9 [(true, 0), (true, 1), (true, 2), (true, 3), (true, 4), (true, 5), (true, 6), (true, 7), (false, 8), (false, 9)] H2 [0, 1] mixed (by decide) (by kernel_rfl) ?_
 rintro w3 hw3
 have H3 := Hp.drew H2; rw [← hw3] at H3
 refine Zm rfl rfl<|Zc rfl rfl<|Zf rfl fl27_0 rfl<|MP rfl<|MV (fun wz hz => EL ty23 rfl (hz.cell (i := 0) rfl rfl))<|cZ e58<|Zf rfl fl45_1 rfl<|MP rfl<|MV (fun wz hz => EL ty3 rfl (hz.cell (i := 1) rfl rfl))<|MP rfl<|MV (fun wz hz => EI Tryz.underlying23 ty57 rfl rfl (len := b.groups.length) (i := n.group.toNat) (by omega) (by omega) rfl)<|MP rfl<|MV (fun wz hz => EN ty57 rfl (vs := [.int .i64 s.p.r, .int .i64 s.p.n, .slice C1 s.votes.length q1, .int .i64 s.index, .slice C2 s.image.length q2, .slice C3 s.entries.length q3]) rfl ((hrg.move (by decide) hag hz hks).1.elem hpg hp1))<|cZ e58<|MO rfl<|OA ty57 H3<|fun w4 gs H4 hgs=>?_
 have hgs0 : w0.heap.size ≤ gs := by have := H3.size; omega
 refine OE ?_
 refine ⟨fun hne => H4.pick [0, 1] (by decide), ?_⟩
 refine cZ e58<|MO rfl<|OS ty57 H4 2 rfl rfl rfl rfl rfl (by first | decide | (simp; done) | simp [putAt]) rfl<|fun w5 H5=>OE<|⟨fun hne => absurd rfl hne, ?_⟩
 refine cZ e58<|ME<|cR e58<|Rq<|Xm rfl<|OV (EN ty45 rfl (vs := [.int .i64 n.kind, .int .i64 n.group, .int .i64 n.b.r, .int .i64 n.b.n, .int .i64 n.vote.slot, .int .i64 n.vote.b.r, .int .i64 n.vote.b.n, .slice B1 n.vote.val.length j1, .int .i64 n.entry.slot, .slice B2 n.entry.val.length j2, .int .i64 n.right.g, strV n.right.key, .int .i64 n.right.lease, .int .i64 n.right.net, .int .i64 n.client, .int .i64 n.seq]) rfl (H5.cellsR (i := 1) rfl rfl))<|OQ (ex_call_val gf61 rfl rfl) (promise_s gs s C1 q1 C2 q2 C3 q3 n B1 j1 B2 j2 _ (H5.at (i := 2) rfl) (fun x => ok x ∧ x < w0.heap.size) (fun hh => by have := hh.2; omega) (hv1.toV H5 hkB) (hv2.to H5 hkB) (hv3.toE H5 hkB)) ?_
 rintro _ w6 ⟨cs2, Hd, hsv⟩
 have hnp := Hp.fresh H5
 have hszp := H5.size
 have hpl := bl_place H5
 have HB := (H5.callr [2] rfl Hd).pick [0, 1, 3] (by decide)
 rw [← goes1 hk] at hsv
 obtain ⟨D1, e1, D2, e2, D3, e3, rfl, hw1, hw2, hw3⟩ := hsv
 have H6 := HB.here
 have hnk : ∀ x, up (fun x => ok x ∧ x < w0.heap.size) w5.heap.size x → x ∉ bl _ := fun x hx hb => (show False from by
   rcases hx with hx | hx
   · rcases hpl x hb with h | h
     · exact (hks x hx.1 hx.2).1 h
     · have := hx.2; omega
   · exact hnp x hx hb)
 have hkk : ∀ x, up (fun x => ok x ∧ x < w0.heap.size) w5.heap.size x → x < w6.heap.size → x ∉ bl _ ∧ up ok w0.heap.size x := fun x hx _ => ⟨hnk x hx, by
   rcases hx with hx | hx
   · exact .inl hx.1
   · exact .inr (by omega)⟩
 refine Xr e58<|J1<|Rq<|OV (EN ty57 rfl (vs := [.int .i64 (s.goes n).p.r, .int .i64 (s.goes n).p.n, .slice D1 (s.goes n).votes.length e1, .int .i64 (s.goes n).index, .slice D2 (s.goes n).image.length e2, .slice D3 (s.goes n).entries.length e3]) rfl (H6.cellsR (i := 2) rfl rfl))<|OQ (EC gf36 rfl) (check_p (s.goes n) D1 e1 D2 e2 D3 e3 _ _ hw1 hw2 hw3 (by omega) (by omega)) ?_
 rintro _ w7 ⟨e, rfl, hans, Hd⟩
 have H7 := H6.callN Hd
 refine OT (ex_neq rfl rfl) (fun hp41 => ?_) (fun hp41 => ?_)
 refine Xr e58<|J3 rfl<|Rq<|Xa rfl<|Xr e58<|J5<|FN1 rfl rfl<|⟨(fun b' hb' => by rw [into_no hp9 hs (by cases hc : chk (s.goes n) with | false => rfl | true => exact absurd (hans.1 hc) hp41)] at hb'; cases hb'), fun _ => ⟨rfl, (HB.all H7).noRows⟩⟩
 have hchk : chk (s.goes n) = true := by cases hc : chk (s.goes n) with | true => rfl | false => have := hans.2 hc; omega
 refine Xr e58<|J4 rfl<|J6<|Rq<|Xm rfl<|Xm rfl<|Xc rfl<|Xf fl27_0 rfl<|cOp e58<|OV (EL ty23 rfl (H7.cell (i := 0) rfl rfl))<|OQ (EC gf37 rfl) (cloneS (some a1) b.groups.length k1 pg.flatten _ (hrg.move (by decide) hag (HB.all H7) hks).1 (ones_flatten hong) (by rw [h8]; decide)) ?_
 rintro _ w8 ⟨gv, cv, sv, rfl, hmv, hcv, hgv0, Hc⟩
 have H8 := H7.call0 Hc
 obtain ⟨gw, rfl⟩ := own_some H8 (i := 3) rfl (by rw [List.length_append, hpg.len]; omega)
 refine Xc rfl<|Xf fl27_0 rfl<|cOp e58<|OW ty23 H8 0 rfl rfl rfl rfl (by first | (simp; done) | simp [putAt]) rfl<|fun w9 H9=>Xr e58<|J1<|run_mixZ 8 [(true, 0), (true, 1), (true, 2), (true, 3), (true, 4), (true, 5), (true, 6), (true, 7), (false, 8)] H9 [0, 1, 2, 3] mixed (by decide) (by kernel_rfl) ?_
 rintro w10 hw10
 have H10 := Hp.drew H9; rw [← hw10] at H10
 refine Zm rfl rfl<|Zc rfl rfl<|Zf rfl fl27_0 rfl<|MP rfl<|MV (fun wz hz => EL ty23 rfl (hz.cell (i := 0) rfl rfl))<|cZ e58<|Zf rfl fl45_1 rfl<|MP rfl<|MV (fun wz hz => EL ty3 rfl (hz.cell (i := 1) rfl rfl))<|MP rfl<|MV (fun wz hz => EN ty57 rfl (vs := [.int .i64 (s.goes n).p.r, .int .i64 (s.goes n).p.n, .slice D1 (s.goes n).votes.length e1, .int .i64 (s.goes n).index, .slice D2 (s.goes n).image.length e2, .slice D3 (s.goes n).entries.length e3]) rfl (hz.cellsR (i := 2) rfl rfl))<|MP rfl<|MV (fun wz hz => ex_idxN Tryz.underlying23 ty57 rfl rfl (len := b.groups.length) (i := n.group.toNat) (by omega) (by omega))<|cZ e58<|MO rfl<|OS ty57 H10 3 rfl rfl rfl rfl rfl (by rw [List.length_append, hpg.len]; show 0 + n.group.toNat * 6 + 6 ≤ _; omega) rfl<|fun w11 H11=>?_
 rw [store_elem (sz := 6) (vs := [.int .i64 (s.goes n).p.r, .int .i64 (s.goes n).p.n, .slice D1 (s.goes n).votes.length e1, .int .i64 (s.goes n).index, .slice D2 (s.goes n).image.length e2, .slice D3 (s.goes n).entries.length e3]) hpg (by omega) rfl] at H11
 refine OE ?_
 refine ⟨fun hne => absurd rfl hne, ?_⟩
 refine cZ e58<|ME<|cR e58<|Rq<|Xa rfl<|Xr e58<|J5<|FN1 rfl rfl ?_
 have HW := HB.all H11
 refine ⟨fun b' hb' => ?_, fun h => by rw [into_yes hp9 (by omega) hs hchk] at h; cases h⟩
 rw [into_yes hp9 (by omega) hs hchk] at hb'
 simp only [Option.some.injEq] at hb'
 subst hb'
 refine ⟨rfl, _, HW.pick [0] (by decide), hd (some gw), cv, A2, k2, A3, k3, by rw [List.length_set]; rfl, ?_, hb2.toR HW hks, hb3.toM HW hks⟩
 exact Sl.row HW (i := 3) rfl (hpg.set_len rfl) (by decide) ((h2g.imp (R' := SvR w11 (up ok w0.heap.size)) fun p x h => h.to HW hks).set _ ⟨D1, e1, D2, e2, D3, e3, rfl, hw1.toV H11 hkk, hw2.to H11 hkk, hw3.toE H11 hkk⟩) (fun c hc => row_new (ok := ok) HW (i := 3) rfl (fun c hc => by rw [List.mem_singleton.1 hc]; exact fun e => HW.ne (i := 3) (j := 0) (g := gb) (by rw [e]; rfl) rfl (by decide) rfl) c hc)
 obtain rfl := h2 hk
 refine Xa rfl<|Xr e58<|J1<|Rq<|Xm rfl<|OV (ex_eql_func Tryz.underlying77 rfl)<|Xm rfl<|cOp e58<|OY rfl<|Xf fl45_1 rfl<|OY rfl<|OV (EL ty3 rfl (H2.cell (i := 1) rfl rfl))<|cOp e58<|OY rfl<|OT (ex_lss rfl rfl) (fun hp21 => ?_) (fun hp21 => ?_)
 refine Xu rfl rfl<|Xm rfl<|cOp e58<|OZ rfl<|OZ rfl<|cOp e58<|OZ rfl<|Xt rfl rfl<|Xr e58<|J3 rfl<|Rq<|Xa rfl<|Xr e58<|J5<|FN1 rfl rfl<|⟨(fun b' hb' => by rw [into_bad hp9 (by omega)] at hb'; cases hb'), fun _ => ⟨rfl, H2.noRows⟩⟩
 refine Xu rfl rfl<|Xm rfl<|cOp e58<|OY rfl<|Xf fl45_1 rfl<|OY rfl<|OV (EL ty3 rfl (H2.cell (i := 1) rfl rfl))<|cOp e58<|OY rfl<|OT (ex_geq rfl rfl) (fun hp26 => ?_) (fun hp26 => ?_)
 refine Xu rfl rfl<|Xr e58<|J3 rfl<|Rq<|Xa rfl<|Xr e58<|J5<|FN1 rfl rfl<|⟨(fun b' hb' => by rw [into_bad hp9 (by omega)] at hb'; cases hb'), fun _ => ⟨rfl, H2.noRows⟩⟩
 obtain ⟨s, hs⟩ := get_of (l := b.groups) (j := n.group.toNat) (by omega)
 have hsl := lt_of_get hs
 obtain ⟨p1, hp1, hR⟩ := h2g.get hs
 obtain ⟨C1, q1, C2, q2, C3, q3, rfl, hv1, hv2, hv3⟩ := hR
 obtain ⟨a1, ha1⟩ := hrg.some_ (by omega)
 subst ha1
 have hce := (chk_iff s).1 (hg.chk s (mem_of hs))
 have hvfew := vts_few hce
 have hefew := ents_few hce
 have hglen := goes_len s n
 refine Xu rfl rfl<|Xr e58<|J4 rfl<|J6<|J1<|run_mixZ 9 [(true, 0), (true, 1), (true, 2), (true, 3), (true, 4), (true, 5), (true, 6), (true, 7), (false, 8), (false, 9)] H2 [0, 1] mixed (by decide) (by kernel_rfl) ?_
 rintro w3 hw3
 have H3 := Hp.drew H2; rw [← hw3] at H3
 refine Zm rfl rfl<|Zc rfl rfl<|Zf rfl fl27_0 rfl<|MP rfl<|MV (fun wz hz => EL ty23 rfl (hz.cell (i := 0) rfl rfl))<|cZ e58<|Zf rfl fl45_1 rfl<|MP rfl<|MV (fun wz hz => EL ty3 rfl (hz.cell (i := 1) rfl rfl))<|MP rfl<|MV (fun wz hz => EI Tryz.underlying23 ty57 rfl rfl (len := b.groups.length) (i := n.group.toNat) (by omega) (by omega) rfl)<|MP rfl<|MV (fun wz hz => EN ty57 rfl (vs := [.int .i64 s.p.r, .int .i64 s.p.n, .slice C1 s.votes.length q1, .int .i64 s.index, .slice C2 s.image.length q2, .slice C3 s.entries.length q3]) rfl ((hrg.move (by decide) hag hz hks).1.elem hpg hp1))<|cZ e58<|MO rfl<|OA ty57 H3<|fun w4 gs H4 hgs=>?_
 have hgs0 : w0.heap.size ≤ gs := by have := H3.size; omega
 refine OE ?_
 refine ⟨fun hne => H4.pick [0, 1] (by decide), ?_⟩
 refine cZ e58<|MO rfl<|OS ty57 H4 2 rfl rfl rfl rfl rfl (by first | decide | (simp; done) | simp [putAt]) rfl<|fun w5 H5=>OE<|⟨fun hne => absurd rfl hne, ?_⟩
 refine cZ e58<|ME<|cR e58<|Rq<|Xm rfl<|OV (EN ty45 rfl (vs := [.int .i64 n.kind, .int .i64 n.group, .int .i64 n.b.r, .int .i64 n.b.n, .int .i64 n.vote.slot, .int .i64 n.vote.b.r, .int .i64 n.vote.b.n, .slice B1 n.vote.val.length j1, .int .i64 n.entry.slot, .slice B2 n.entry.val.length j2, .int .i64 n.right.g, strV n.right.key, .int .i64 n.right.lease, .int .i64 n.right.net, .int .i64 n.client, .int .i64 n.seq]) rfl (H5.cellsR (i := 1) rfl rfl))<|OQ (ex_call_val gf62 rfl rfl) (vote_v gs s C1 q1 C2 q2 C3 q3 n B1 j1 B2 j2 (fun x => okn x ∧ x < w0.heap.size) _ (H5.at (i := 2) rfl) (fun x => ok x ∧ x < w0.heap.size) (fun hh => by have := hh.2; omega) (hv1.toV H5 hkB) (hv2.to H5 hkB) (hv3.toE H5 hkB) (fun hh => by have := hh.2; omega) (hbv.to H5 hkn) (rise_vt (vts_rise hce.v).2 _) (by omega) ⟨hce.i.1, hce.i.2.1⟩ hefew) ?_
 rintro _ w6 ⟨cs2, Hd, hsv⟩
 have hnp := Hp.fresh H5
 have hszp := H5.size
 have hpl := bl_place H5
 have HB := (H5.callr [2] rfl Hd).pick [0, 1, 3] (by decide)
 rw [← goes2 hk] at hsv
 obtain ⟨D1, e1, D2, e2, D3, e3, rfl, hw1, hw2, hw3⟩ := hsv
 have H6 := HB.here
 have hnk : ∀ x, up (fun x => ok x ∧ x < w0.heap.size) w5.heap.size x → x ∉ bl _ := fun x hx hb => (show False from by
   rcases hx with hx | hx
   · rcases hpl x hb with h | h
     · exact (hks x hx.1 hx.2).1 h
     · have := hx.2; omega
   · exact hnp x hx hb)
 have hkk : ∀ x, up (fun x => ok x ∧ x < w0.heap.size) w5.heap.size x → x < w6.heap.size → x ∉ bl _ ∧ up ok w0.heap.size x := fun x hx _ => ⟨hnk x hx, by
   rcases hx with hx | hx
   · exact .inl hx.1
   · exact .inr (by omega)⟩
 refine Xr e58<|J1<|Rq<|OV (EN ty57 rfl (vs := [.int .i64 (s.goes n).p.r, .int .i64 (s.goes n).p.n, .slice D1 (s.goes n).votes.length e1, .int .i64 (s.goes n).index, .slice D2 (s.goes n).image.length e2, .slice D3 (s.goes n).entries.length e3]) rfl (H6.cellsR (i := 2) rfl rfl))<|OQ (EC gf36 rfl) (check_p (s.goes n) D1 e1 D2 e2 D3 e3 _ _ hw1 hw2 hw3 (by omega) (by omega)) ?_
 rintro _ w7 ⟨e, rfl, hans, Hd⟩
 have H7 := H6.callN Hd
 refine OT (ex_neq rfl rfl) (fun hp41 => ?_) (fun hp41 => ?_)
 refine Xr e58<|J3 rfl<|Rq<|Xa rfl<|Xr e58<|J5<|FN1 rfl rfl<|⟨(fun b' hb' => by rw [into_no hp9 hs (by cases hc : chk (s.goes n) with | false => rfl | true => exact absurd (hans.1 hc) hp41)] at hb'; cases hb'), fun _ => ⟨rfl, (HB.all H7).noRows⟩⟩
 have hchk : chk (s.goes n) = true := by cases hc : chk (s.goes n) with | true => rfl | false => have := hans.2 hc; omega
 refine Xr e58<|J4 rfl<|J6<|Rq<|Xm rfl<|Xm rfl<|Xc rfl<|Xf fl27_0 rfl<|cOp e58<|OV (EL ty23 rfl (H7.cell (i := 0) rfl rfl))<|OQ (EC gf37 rfl) (cloneS (some a1) b.groups.length k1 pg.flatten _ (hrg.move (by decide) hag (HB.all H7) hks).1 (ones_flatten hong) (by rw [h8]; decide)) ?_
 rintro _ w8 ⟨gv, cv, sv, rfl, hmv, hcv, hgv0, Hc⟩
 have H8 := H7.call0 Hc
 obtain ⟨gw, rfl⟩ := own_some H8 (i := 3) rfl (by rw [List.length_append, hpg.len]; omega)
 refine Xc rfl<|Xf fl27_0 rfl<|cOp e58<|OW ty23 H8 0 rfl rfl rfl rfl (by first | (simp; done) | simp [putAt]) rfl<|fun w9 H9=>Xr e58<|J1<|run_mixZ 8 [(true, 0), (true, 1), (true, 2), (true, 3), (true, 4), (true, 5), (true, 6), (true, 7), (false, 8)] H9 [0, 1, 2, 3] mixed (by decide) (by kernel_rfl) ?_
 rintro w10 hw10
 have H10 := Hp.drew H9; rw [← hw10] at H10
 refine Zm rfl rfl<|Zc rfl rfl<|Zf rfl fl27_0 rfl<|MP rfl<|MV (fun wz hz => EL ty23 rfl (hz.cell (i := 0) rfl rfl))<|cZ e58<|Zf rfl fl45_1 rfl<|MP rfl<|MV (fun wz hz => EL ty3 rfl (hz.cell (i := 1) rfl rfl))<|MP rfl<|MV (fun wz hz => EN ty57 rfl (vs := [.int .i64 (s.goes n).p.r, .int .i64 (s.goes n).p.n, .slice D1 (s.goes n).votes.length e1, .int .i64 (s.goes n).index, .slice D2 (s.goes n).image.length e2, .slice D3 (s.goes n).entries.length e3]) rfl (hz.cellsR (i := 2) rfl rfl))<|MP rfl<|MV (fun wz hz => ex_idxN Tryz.underlying23 ty57 rfl rfl (len := b.groups.length) (i := n.group.toNat) (by omega) (by omega))<|cZ e58<|MO rfl<|OS ty57 H10 3 rfl rfl rfl rfl rfl (by rw [List.length_append, hpg.len]; show 0 + n.group.toNat * 6 + 6 ≤ _; omega) rfl<|fun w11 H11=>?_
 rw [store_elem (sz := 6) (vs := [.int .i64 (s.goes n).p.r, .int .i64 (s.goes n).p.n, .slice D1 (s.goes n).votes.length e1, .int .i64 (s.goes n).index, .slice D2 (s.goes n).image.length e2, .slice D3 (s.goes n).entries.length e3]) hpg (by omega) rfl] at H11
 refine OE ?_
 refine ⟨fun hne => absurd rfl hne, ?_⟩
 refine cZ e58<|ME<|cR e58<|Rq<|Xa rfl<|Xr e58<|J5<|FN1 rfl rfl ?_
 have HW := HB.all H11
 refine ⟨fun b' hb' => ?_, fun h => by rw [into_yes hp9 (by omega) hs hchk] at h; cases h⟩
 rw [into_yes hp9 (by omega) hs hchk] at hb'
 simp only [Option.some.injEq] at hb'
 subst hb'
 refine ⟨rfl, _, HW.pick [0] (by decide), hd (some gw), cv, A2, k2, A3, k3, by rw [List.length_set]; rfl, ?_, hb2.toR HW hks, hb3.toM HW hks⟩
 exact Sl.row HW (i := 3) rfl (hpg.set_len rfl) (by decide) ((h2g.imp (R' := SvR w11 (up ok w0.heap.size)) fun p x h => h.to HW hks).set _ ⟨D1, e1, D2, e2, D3, e3, rfl, hw1.toV H11 hkk, hw2.to H11 hkk, hw3.toE H11 hkk⟩) (fun c hc => row_new (ok := ok) HW (i := 3) rfl (fun c hc => by rw [List.mem_singleton.1 hc]; exact fun e => HW.ne (i := 3) (j := 0) (g := gb) (by rw [e]; rfl) rfl (by decide) rfl) c hc)
 obtain rfl := h3 hk
 refine Xa rfl<|Xr e58<|J1<|Rq<|Xm rfl<|OV (ex_eql_func Tryz.underlying77 rfl)<|Xm rfl<|cOp e58<|OY rfl<|Xf fl45_1 rfl<|OY rfl<|OV (EL ty3 rfl (H2.cell (i := 1) rfl rfl))<|cOp e58<|OY rfl<|OT (ex_lss rfl rfl) (fun hp21 => ?_) (fun hp21 => ?_)
 refine Xu rfl rfl<|Xm rfl<|cOp e58<|OZ rfl<|OZ rfl<|cOp e58<|OZ rfl<|Xt rfl rfl<|Xr e58<|J3 rfl<|Rq<|Xa rfl<|Xr e58<|J5<|FN1 rfl rfl<|⟨(fun b' hb' => by rw [into_bad hp9 (by omega)] at hb'; cases hb'), fun _ => ⟨rfl, H2.noRows⟩⟩
 refine Xu rfl rfl<|Xm rfl<|cOp e58<|OY rfl<|Xf fl45_1 rfl<|OY rfl<|OV (EL ty3 rfl (H2.cell (i := 1) rfl rfl))<|cOp e58<|OY rfl<|OT (ex_geq rfl rfl) (fun hp26 => ?_) (fun hp26 => ?_)
 refine Xu rfl rfl<|Xr e58<|J3 rfl<|Rq<|Xa rfl<|Xr e58<|J5<|FN1 rfl rfl<|⟨(fun b' hb' => by rw [into_bad hp9 (by omega)] at hb'; cases hb'), fun _ => ⟨rfl, H2.noRows⟩⟩
 obtain ⟨s, hs⟩ := get_of (l := b.groups) (j := n.group.toNat) (by omega)
 have hsl := lt_of_get hs
 obtain ⟨p1, hp1, hR⟩ := h2g.get hs
 obtain ⟨C1, q1, C2, q2, C3, q3, rfl, hv1, hv2, hv3⟩ := hR
 obtain ⟨a1, ha1⟩ := hrg.some_ (by omega)
 subst ha1
 have hce := (chk_iff s).1 (hg.chk s (mem_of hs))
 have hvfew := vts_few hce
 have hefew := ents_few hce
 have hglen := goes_len s n
 refine Xu rfl rfl<|Xr e58<|J4 rfl<|J6<|J1<|run_mixZ 9 [(true, 0), (true, 1), (true, 2), (true, 3), (true, 4), (true, 5), (true, 6), (true, 7), (false, 8), (false, 9)] H2 [0, 1] mixed (by decide) (by kernel_rfl) ?_
 rintro w3 hw3
 have H3 := Hp.drew H2; rw [← hw3] at H3
 refine Zm rfl rfl<|Zc rfl rfl<|Zf rfl fl27_0 rfl<|MP rfl<|MV (fun wz hz => EL ty23 rfl (hz.cell (i := 0) rfl rfl))<|cZ e58<|Zf rfl fl45_1 rfl<|MP rfl<|MV (fun wz hz => EL ty3 rfl (hz.cell (i := 1) rfl rfl))<|MP rfl<|MV (fun wz hz => EI Tryz.underlying23 ty57 rfl rfl (len := b.groups.length) (i := n.group.toNat) (by omega) (by omega) rfl)<|MP rfl<|MV (fun wz hz => EN ty57 rfl (vs := [.int .i64 s.p.r, .int .i64 s.p.n, .slice C1 s.votes.length q1, .int .i64 s.index, .slice C2 s.image.length q2, .slice C3 s.entries.length q3]) rfl ((hrg.move (by decide) hag hz hks).1.elem hpg hp1))<|cZ e58<|MO rfl<|OA ty57 H3<|fun w4 gs H4 hgs=>?_
 have hgs0 : w0.heap.size ≤ gs := by have := H3.size; omega
 refine OE ?_
 refine ⟨fun hne => H4.pick [0, 1] (by decide), ?_⟩
 refine cZ e58<|MO rfl<|OS ty57 H4 2 rfl rfl rfl rfl rfl (by first | decide | (simp; done) | simp [putAt]) rfl<|fun w5 H5=>OE<|⟨fun hne => absurd rfl hne, ?_⟩
 refine cZ e58<|ME<|cR e58<|Rq<|Xm rfl<|OV (EN ty45 rfl (vs := [.int .i64 n.kind, .int .i64 n.group, .int .i64 n.b.r, .int .i64 n.b.n, .int .i64 n.vote.slot, .int .i64 n.vote.b.r, .int .i64 n.vote.b.n, .slice B1 n.vote.val.length j1, .int .i64 n.entry.slot, .slice B2 n.entry.val.length j2, .int .i64 n.right.g, strV n.right.key, .int .i64 n.right.lease, .int .i64 n.right.net, .int .i64 n.client, .int .i64 n.seq]) rfl (H5.cellsR (i := 1) rfl rfl))<|OQ (ex_call_val gf63 rfl rfl) (entry_v gs s C1 q1 C2 q2 C3 q3 n B1 j1 B2 j2 (fun x => okn x ∧ x < w0.heap.size) _ (H5.at (i := 2) rfl) (fun x => ok x ∧ x < w0.heap.size) (fun hh => by have := hh.2; omega) (hv1.toV H5 hkB) (hv2.to H5 hkB) (hv3.toE H5 hkB) (fun hh => by have := hh.2; omega) (hbe.to H5 hkn) (by omega) ⟨hce.i.1, hce.i.2.1⟩ hefew) ?_
 rintro _ w6 ⟨cs2, Hd, hsv⟩
 have hnp := Hp.fresh H5
 have hszp := H5.size
 have hpl := bl_place H5
 have HB := (H5.callr [2] rfl Hd).pick [0, 1, 3] (by decide)
 rw [← goes3 hk] at hsv
 obtain ⟨D1, e1, D2, e2, D3, e3, rfl, hw1, hw2, hw3⟩ := hsv
 have H6 := HB.here
 have hnk : ∀ x, up (fun x => ok x ∧ x < w0.heap.size) w5.heap.size x → x ∉ bl _ := fun x hx hb => (show False from by
   rcases hx with hx | hx
   · rcases hpl x hb with h | h
     · exact (hks x hx.1 hx.2).1 h
     · have := hx.2; omega
   · exact hnp x hx hb)
 have hkk : ∀ x, up (fun x => ok x ∧ x < w0.heap.size) w5.heap.size x → x < w6.heap.size → x ∉ bl _ ∧ up ok w0.heap.size x := fun x hx _ => ⟨hnk x hx, by
   rcases hx with hx | hx
   · exact .inl hx.1
   · exact .inr (by omega)⟩
 refine Xr e58<|J1<|Rq<|OV (EN ty57 rfl (vs := [.int .i64 (s.goes n).p.r, .int .i64 (s.goes n).p.n, .slice D1 (s.goes n).votes.length e1, .int .i64 (s.goes n).index, .slice D2 (s.goes n).image.length e2, .slice D3 (s.goes n).entries.length e3]) rfl (H6.cellsR (i := 2) rfl rfl))<|OQ (EC gf36 rfl) (check_p (s.goes n) D1 e1 D2 e2 D3 e3 _ _ hw1 hw2 hw3 (by omega) (by omega)) ?_
 rintro _ w7 ⟨e, rfl, hans, Hd⟩
 have H7 := H6.callN Hd
 refine OT (ex_neq rfl rfl) (fun hp41 => ?_) (fun hp41 => ?_)
 refine Xr e58<|J3 rfl<|Rq<|Xa rfl<|Xr e58<|J5<|FN1 rfl rfl<|⟨(fun b' hb' => by rw [into_no hp9 hs (by cases hc : chk (s.goes n) with | false => rfl | true => exact absurd (hans.1 hc) hp41)] at hb'; cases hb'), fun _ => ⟨rfl, (HB.all H7).noRows⟩⟩
 have hchk : chk (s.goes n) = true := by cases hc : chk (s.goes n) with | true => rfl | false => have := hans.2 hc; omega
 refine Xr e58<|J4 rfl<|J6<|Rq<|Xm rfl<|Xm rfl<|Xc rfl<|Xf fl27_0 rfl<|cOp e58<|OV (EL ty23 rfl (H7.cell (i := 0) rfl rfl))<|OQ (EC gf37 rfl) (cloneS (some a1) b.groups.length k1 pg.flatten _ (hrg.move (by decide) hag (HB.all H7) hks).1 (ones_flatten hong) (by rw [h8]; decide)) ?_
 rintro _ w8 ⟨gv, cv, sv, rfl, hmv, hcv, hgv0, Hc⟩
 have H8 := H7.call0 Hc
 obtain ⟨gw, rfl⟩ := own_some H8 (i := 3) rfl (by rw [List.length_append, hpg.len]; omega)
 refine Xc rfl<|Xf fl27_0 rfl<|cOp e58<|OW ty23 H8 0 rfl rfl rfl rfl (by first | (simp; done) | simp [putAt]) rfl<|fun w9 H9=>Xr e58<|J1<|run_mixZ 8 [(true, 0), (true, 1), (true, 2), (true, 3), (true, 4), (true, 5), (true, 6), (true, 7), (false, 8)] H9 [0, 1, 2, 3] mixed (by decide) (by kernel_rfl) ?_
 rintro w10 hw10
 have H10 := Hp.drew H9; rw [← hw10] at H10
 refine Zm rfl rfl<|Zc rfl rfl<|Zf rfl fl27_0 rfl<|MP rfl<|MV (fun wz hz => EL ty23 rfl (hz.cell (i := 0) rfl rfl))<|cZ e58<|Zf rfl fl45_1 rfl<|MP rfl<|MV (fun wz hz => EL ty3 rfl (hz.cell (i := 1) rfl rfl))<|MP rfl<|MV (fun wz hz => EN ty57 rfl (vs := [.int .i64 (s.goes n).p.r, .int .i64 (s.goes n).p.n, .slice D1 (s.goes n).votes.length e1, .int .i64 (s.goes n).index, .slice D2 (s.goes n).image.length e2, .slice D3 (s.goes n).entries.length e3]) rfl (hz.cellsR (i := 2) rfl rfl))<|MP rfl<|MV (fun wz hz => ex_idxN Tryz.underlying23 ty57 rfl rfl (len := b.groups.length) (i := n.group.toNat) (by omega) (by omega))<|cZ e58<|MO rfl<|OS ty57 H10 3 rfl rfl rfl rfl rfl (by rw [List.length_append, hpg.len]; show 0 + n.group.toNat * 6 + 6 ≤ _; omega) rfl<|fun w11 H11=>?_
 rw [store_elem (sz := 6) (vs := [.int .i64 (s.goes n).p.r, .int .i64 (s.goes n).p.n, .slice D1 (s.goes n).votes.length e1, .int .i64 (s.goes n).index, .slice D2 (s.goes n).image.length e2, .slice D3 (s.goes n).entries.length e3]) hpg (by omega) rfl] at H11
 refine OE ?_
 refine ⟨fun hne => absurd rfl hne, ?_⟩
 refine cZ e58<|ME<|cR e58<|Rq<|Xa rfl<|Xr e58<|J5<|FN1 rfl rfl ?_
 have HW := HB.all H11
 refine ⟨fun b' hb' => ?_, fun h => by rw [into_yes hp9 (by omega) hs hchk] at h; cases h⟩
 rw [into_yes hp9 (by omega) hs hchk] at hb'
 simp only [Option.some.injEq] at hb'
 subst hb'
 refine ⟨rfl, _, HW.pick [0] (by decide), hd (some gw), cv, A2, k2, A3, k3, by rw [List.length_set]; rfl, ?_, hb2.toR HW hks, hb3.toM HW hks⟩
 exact Sl.row HW (i := 3) rfl (hpg.set_len rfl) (by decide) ((h2g.imp (R' := SvR w11 (up ok w0.heap.size)) fun p x h => h.to HW hks).set _ ⟨D1, e1, D2, e2, D3, e3, rfl, hw1.toV H11 hkk, hw2.to H11 hkk, hw3.toE H11 hkk⟩) (fun c hc => row_new (ok := ok) HW (i := 3) rfl (fun c hc => by rw [List.mem_singleton.1 hc]; exact fun e => HW.ne (i := 3) (j := 0) (g := gb) (by rw [e]; rfl) rfl (by decide) rfl) c hc)
 obtain rfl := h4 hk
 refine Xa rfl<|Xr e58<|J1<|Rq<|Xm rfl<|OV (ex_eql_func Tryz.underlying77 rfl)<|Xm rfl<|cOp e58<|OY rfl<|Xf fl45_1 rfl<|OY rfl<|OV (EL ty3 rfl (H2.cell (i := 1) rfl rfl))<|cOp e58<|OY rfl<|OT (ex_lss rfl rfl) (fun hp21 => ?_) (fun hp21 => ?_)
 refine Xu rfl rfl<|Xm rfl<|cOp e58<|OZ rfl<|OZ rfl<|cOp e58<|OZ rfl<|Xt rfl rfl<|Xr e58<|J3 rfl<|Rq<|Xa rfl<|Xr e58<|J5<|FN1 rfl rfl<|⟨(fun b' hb' => by rw [into_bad hp9 (by omega)] at hb'; cases hb'), fun _ => ⟨rfl, H2.noRows⟩⟩
 refine Xu rfl rfl<|Xm rfl<|cOp e58<|OY rfl<|Xf fl45_1 rfl<|OY rfl<|OV (EL ty3 rfl (H2.cell (i := 1) rfl rfl))<|cOp e58<|OY rfl<|OT (ex_geq rfl rfl) (fun hp26 => ?_) (fun hp26 => ?_)
 refine Xu rfl rfl<|Xr e58<|J3 rfl<|Rq<|Xa rfl<|Xr e58<|J5<|FN1 rfl rfl<|⟨(fun b' hb' => by rw [into_bad hp9 (by omega)] at hb'; cases hb'), fun _ => ⟨rfl, H2.noRows⟩⟩
 obtain ⟨s, hs⟩ := get_of (l := b.groups) (j := n.group.toNat) (by omega)
 have hsl := lt_of_get hs
 obtain ⟨p1, hp1, hR⟩ := h2g.get hs
 obtain ⟨C1, q1, C2, q2, C3, q3, rfl, hv1, hv2, hv3⟩ := hR
 obtain ⟨a1, ha1⟩ := hrg.some_ (by omega)
 subst ha1
 have hce := (chk_iff s).1 (hg.chk s (mem_of hs))
 have hvfew := vts_few hce
 have hefew := ents_few hce
 have hglen := goes_len s n
 refine Xu rfl rfl<|Xr e58<|J4 rfl<|J6<|J1<|run_mixZ 9 [(true, 0), (true, 1), (true, 2), (true, 3), (true, 4), (true, 5), (true, 6), (true, 7), (false, 8), (false, 9)] H2 [0, 1] mixed (by decide) (by kernel_rfl) ?_
 rintro w3 hw3
 have H3 := Hp.drew H2; rw [← hw3] at H3
 refine Zm rfl rfl<|Zc rfl rfl<|Zf rfl fl27_0 rfl<|MP rfl<|MV (fun wz hz => EL ty23 rfl (hz.cell (i := 0) rfl rfl))<|cZ e58<|Zf rfl fl45_1 rfl<|MP rfl<|MV (fun wz hz => EL ty3 rfl (hz.cell (i := 1) rfl rfl))<|MP rfl<|MV (fun wz hz => EI Tryz.underlying23 ty57 rfl rfl (len := b.groups.length) (i := n.group.toNat) (by omega) (by omega) rfl)<|MP rfl<|MV (fun wz hz => EN ty57 rfl (vs := [.int .i64 s.p.r, .int .i64 s.p.n, .slice C1 s.votes.length q1, .int .i64 s.index, .slice C2 s.image.length q2, .slice C3 s.entries.length q3]) rfl ((hrg.move (by decide) hag hz hks).1.elem hpg hp1))<|cZ e58<|MO rfl<|OA ty57 H3<|fun w4 gs H4 hgs=>?_
 have hgs0 : w0.heap.size ≤ gs := by have := H3.size; omega
 refine OE ?_
 refine ⟨fun hne => H4.pick [0, 1] (by decide), ?_⟩
 refine cZ e58<|MO rfl<|OS ty57 H4 2 rfl rfl rfl rfl rfl (by first | decide | (simp; done) | simp [putAt]) rfl<|fun w5 H5=>OE<|⟨fun hne => absurd rfl hne, ?_⟩
 refine cZ e58<|ME<|cR e58<|Rq<|Xm rfl<|OV (EN ty45 rfl (vs := [.int .i64 n.kind, .int .i64 n.group, .int .i64 n.b.r, .int .i64 n.b.n, .int .i64 n.vote.slot, .int .i64 n.vote.b.r, .int .i64 n.vote.b.n, .slice B1 n.vote.val.length j1, .int .i64 n.entry.slot, .slice B2 n.entry.val.length j2, .int .i64 n.right.g, strV n.right.key, .int .i64 n.right.lease, .int .i64 n.right.net, .int .i64 n.client, .int .i64 n.seq]) rfl (H5.cellsR (i := 1) rfl rfl))<|OQ (ex_call_val gf64 rfl rfl) (image_v gs s C1 q1 C2 q2 C3 q3 n B1 j1 B2 j2 (fun x => okn x ∧ x < w0.heap.size) _ (H5.at (i := 2) rfl) (fun x => ok x ∧ x < w0.heap.size) (fun hh => by have := hh.2; omega) (hv1.toV H5 hkB) (hv2.to H5 hkB) (hv3.toE H5 hkB) (fun hh => by have := hh.2; omega) (hbe.to H5 hkn) (by omega) (fun x hx => by obtain ⟨i, hi⟩ := List.getElem?_of_mem hx; exact (ents_slot hce.e i x hi).2.1) ⟨hce.i.1, hce.i.2.1⟩ hefew) ?_
 rintro _ w6 ⟨cs2, Hd, hsv⟩
 have hnp := Hp.fresh H5
 have hszp := H5.size
 have hpl := bl_place H5
 have HB := (H5.callr [2] rfl Hd).pick [0, 1, 3] (by decide)
 rw [← goes4 hk] at hsv
 obtain ⟨D1, e1, D2, e2, D3, e3, rfl, hw1, hw2, hw3⟩ := hsv
 have H6 := HB.here
 have hnk : ∀ x, up (fun x => ok x ∧ x < w0.heap.size) w5.heap.size x → x ∉ bl _ := fun x hx hb => (show False from by
   rcases hx with hx | hx
   · rcases hpl x hb with h | h
     · exact (hks x hx.1 hx.2).1 h
     · have := hx.2; omega
   · exact hnp x hx hb)
 have hkk : ∀ x, up (fun x => ok x ∧ x < w0.heap.size) w5.heap.size x → x < w6.heap.size → x ∉ bl _ ∧ up ok w0.heap.size x := fun x hx _ => ⟨hnk x hx, by
   rcases hx with hx | hx
   · exact .inl hx.1
   · exact .inr (by omega)⟩
 refine Xr e58<|J1<|Rq<|OV (EN ty57 rfl (vs := [.int .i64 (s.goes n).p.r, .int .i64 (s.goes n).p.n, .slice D1 (s.goes n).votes.length e1, .int .i64 (s.goes n).index, .slice D2 (s.goes n).image.length e2, .slice D3 (s.goes n).entries.length e3]) rfl (H6.cellsR (i := 2) rfl rfl))<|OQ (EC gf36 rfl) (check_p (s.goes n) D1 e1 D2 e2 D3 e3 _ _ hw1 hw2 hw3 (by omega) (by omega)) ?_
 rintro _ w7 ⟨e, rfl, hans, Hd⟩
 have H7 := H6.callN Hd
 refine OT (ex_neq rfl rfl) (fun hp41 => ?_) (fun hp41 => ?_)
 refine Xr e58<|J3 rfl<|Rq<|Xa rfl<|Xr e58<|J5<|FN1 rfl rfl<|⟨(fun b' hb' => by rw [into_no hp9 hs (by cases hc : chk (s.goes n) with | false => rfl | true => exact absurd (hans.1 hc) hp41)] at hb'; cases hb'), fun _ => ⟨rfl, (HB.all H7).noRows⟩⟩
 have hchk : chk (s.goes n) = true := by cases hc : chk (s.goes n) with | true => rfl | false => have := hans.2 hc; omega
 refine Xr e58<|J4 rfl<|J6<|Rq<|Xm rfl<|Xm rfl<|Xc rfl<|Xf fl27_0 rfl<|cOp e58<|OV (EL ty23 rfl (H7.cell (i := 0) rfl rfl))<|OQ (EC gf37 rfl) (cloneS (some a1) b.groups.length k1 pg.flatten _ (hrg.move (by decide) hag (HB.all H7) hks).1 (ones_flatten hong) (by rw [h8]; decide)) ?_
 rintro _ w8 ⟨gv, cv, sv, rfl, hmv, hcv, hgv0, Hc⟩
 have H8 := H7.call0 Hc
 obtain ⟨gw, rfl⟩ := own_some H8 (i := 3) rfl (by rw [List.length_append, hpg.len]; omega)
 refine Xc rfl<|Xf fl27_0 rfl<|cOp e58<|OW ty23 H8 0 rfl rfl rfl rfl (by first | (simp; done) | simp [putAt]) rfl<|fun w9 H9=>Xr e58<|J1<|run_mixZ 8 [(true, 0), (true, 1), (true, 2), (true, 3), (true, 4), (true, 5), (true, 6), (true, 7), (false, 8)] H9 [0, 1, 2, 3] mixed (by decide) (by kernel_rfl) ?_
 rintro w10 hw10
 have H10 := Hp.drew H9; rw [← hw10] at H10
 refine Zm rfl rfl<|Zc rfl rfl<|Zf rfl fl27_0 rfl<|MP rfl<|MV (fun wz hz => EL ty23 rfl (hz.cell (i := 0) rfl rfl))<|cZ e58<|Zf rfl fl45_1 rfl<|MP rfl<|MV (fun wz hz => EL ty3 rfl (hz.cell (i := 1) rfl rfl))<|MP rfl<|MV (fun wz hz => EN ty57 rfl (vs := [.int .i64 (s.goes n).p.r, .int .i64 (s.goes n).p.n, .slice D1 (s.goes n).votes.length e1, .int .i64 (s.goes n).index, .slice D2 (s.goes n).image.length e2, .slice D3 (s.goes n).entries.length e3]) rfl (hz.cellsR (i := 2) rfl rfl))<|MP rfl<|MV (fun wz hz => ex_idxN Tryz.underlying23 ty57 rfl rfl (len := b.groups.length) (i := n.group.toNat) (by omega) (by omega))<|cZ e58<|MO rfl<|OS ty57 H10 3 rfl rfl rfl rfl rfl (by rw [List.length_append, hpg.len]; show 0 + n.group.toNat * 6 + 6 ≤ _; omega) rfl<|fun w11 H11=>?_
 rw [store_elem (sz := 6) (vs := [.int .i64 (s.goes n).p.r, .int .i64 (s.goes n).p.n, .slice D1 (s.goes n).votes.length e1, .int .i64 (s.goes n).index, .slice D2 (s.goes n).image.length e2, .slice D3 (s.goes n).entries.length e3]) hpg (by omega) rfl] at H11
 refine OE ?_
 refine ⟨fun hne => absurd rfl hne, ?_⟩
 refine cZ e58<|ME<|cR e58<|Rq<|Xa rfl<|Xr e58<|J5<|FN1 rfl rfl ?_
 have HW := HB.all H11
 refine ⟨fun b' hb' => ?_, fun h => by rw [into_yes hp9 (by omega) hs hchk] at h; cases h⟩
 rw [into_yes hp9 (by omega) hs hchk] at hb'
 simp only [Option.some.injEq] at hb'
 subst hb'
 refine ⟨rfl, _, HW.pick [0] (by decide), hd (some gw), cv, A2, k2, A3, k3, by rw [List.length_set]; rfl, ?_, hb2.toR HW hks, hb3.toM HW hks⟩
 exact Sl.row HW (i := 3) rfl (hpg.set_len rfl) (by decide) ((h2g.imp (R' := SvR w11 (up ok w0.heap.size)) fun p x h => h.to HW hks).set _ ⟨D1, e1, D2, e2, D3, e3, rfl, hw1.toV H11 hkk, hw2.to H11 hkk, hw3.toE H11 hkk⟩) (fun c hc => row_new (ok := ok) HW (i := 3) rfl (fun c hc => by rw [List.mem_singleton.1 hc]; exact fun e => HW.ne (i := 3) (j := 0) (g := gb) (by rw [e]; rfl) rfl (by decide) rfl) c hc)
end Go.Proofs.YtbninklfoogmdaaGreat
