/- Walks of layer 2, printed by wip/gen/codec.py. -/
import Derived.Test.YtbninklfoogmdaaGreatNf
import Derived.Test.YtbninklfoogmdaaGreatVaF
import Derived.Test.YtbninklfoogmdaaGreatVaA
namespace Go.Proofs.YtbninklfoogmdaaGreat
open Go Go.RowKit
set_option linter.unusedVariables false
attribute [local irreducible] Still Ops Does Cd
set_option maxRecDepth 100000 in
set_option maxHeartbeats 4000000 in
theorem last_v (gs : Nat) (c0 c1 c2 c4 : Value) (x : Int) (A3 : Option Addr) (m k3 : Nat) (w0 : World) (hrow : w0.heap[gs]? = some (.cells [c0, c1, c2, .int .i64 x, c4, .slice A3 m k3].toArray 57 (0, 0))) (hx : -1000000000000000000 ≤ x ∧ x ≤ 1000000000000000000) (hm : m ≤ 1000000000000000000) : Does Tryz.prog 85 #[.pointer (some ⟨gs, 0, none⟩)] w0 (fun r w' => r = .int .i64 (x + m) ∧ Hp w0 w' [] []) := by
 refine does_of Tryz.func85 Tryz.ntmps85 rfl<|cR e13 ?_
 have H := Hp.refl w0
 refine Rq<|Xa rfl<|Xr e13<|J1<|run_mixZ 10 [(true, 0), (true, 1), (true, 2), (true, 3), (true, 4), (true, 5), (true, 6), (true, 7), (true, 8), (true, 9), (false, 10)] H [] mixed (by decide) (by kernel_rfl) ?_
 rintro w1 hw1
 have H1 := Hp.drew H; rw [← hw1] at H1
 refine Zm rfl rfl<|Zc rfl rfl<|Zf rfl fl57_2 rfl<|MP rfl<|MV (fun wz hz => EL ty3 rfl (cell_at (hz.keep hrow (by simp)) rfl))<|cZ e13<|Zm rfl rfl<|Zc rfl rfl<|Zf rfl fl57_4 rfl<|MP rfl<|MV (fun wz hz => EL ty55 rfl (cell_at (hz.keep hrow (by simp)) rfl))<|cZ e13<|MP rfl<|MV (fun wz hz => ES Tryz.underlying55 rfl)<|MP rfl<|MV (fun wz hz => ex_add rfl rfl (IntWalk.i64_in _ (by omega)))<|MO rfl<|Xa rfl<|OE<|⟨fun hne => absurd rfl hne, ?_⟩
 refine cZ e13<|ME<|cR e13<|J5<|FN1 rfl rfl<|⟨rfl, H1.noRows⟩
set_option maxRecDepth 100000 in
set_option maxHeartbeats 4000000 in
theorem promise_v (gs : Nat) (p : Bal) (c2 c3 c4 c5 : Value) (n : Nt) (B1 : Option Addr) (j1 : Nat) (B2 : Option Addr) (j2 : Nat) (w0 : World) (hrow : w0.heap[gs]? = some (.cells [.int .i64 p.r, .int .i64 p.n, c2, c3, c4, c5].toArray 57 (0, 0))) : Does Tryz.prog 61 #[.pointer (some ⟨gs, 0, none⟩), .agg [.int .i64 n.kind, .int .i64 n.group, .int .i64 n.b.r, .int .i64 n.b.n, .int .i64 n.vote.slot, .int .i64 n.vote.b.r, .int .i64 n.vote.b.n, .slice B1 n.vote.val.length j1, .int .i64 n.entry.slot, .slice B2 n.entry.val.length j2, .int .i64 n.right.g, strV n.right.key, .int .i64 n.right.lease, .int .i64 n.right.net, .int .i64 n.client, .int .i64 n.seq].toArray] w0 (fun _ w' => Hp w0 w' [gs] [((some gs, 57, [.int .i64 (rz p n.b).r, .int .i64 (rz p n.b).n, c2, c3, c4, c5]) : Ent)]) := by
 refine does_of Tryz.func61 Tryz.ntmps61 rfl<|cR e16 ?_
 have H := Hp.old hrow
 refine Rq<|ops_box rfl rfl H<|fun w1 g1 H1 hg1=>Xr e16<|J1<|run_mixZ 6 [(true, 0), (true, 1), (true, 2), (true, 3), (true, 4), (true, 5), (false, 6)] H1 [0, 1] mixed (by decide) (by kernel_rfl) ?_
 rintro w2 hw2
 have H2 := Hp.drew H1; rw [← hw2] at H2
 refine Zm rfl rfl<|Zc rfl rfl<|Zf rfl fl57_0 rfl<|MP rfl<|MV (fun wz hz => EN ty36 rfl (vs := [.int .i64 p.r, .int .i64 p.n]) rfl (hz.cellsR (i := 0) rfl rfl))<|cZ e16<|Zf rfl fl45_2 rfl<|MP rfl<|MV (fun wz hz => EN ty36 rfl (vs := [.int .i64 n.b.r, .int .i64 n.b.n]) rfl (hz.cellsR (i := 1) rfl rfl))<|MO rfl<|OX (EC gf84 rfl) (less_b _ _ _) (fun hp10 w3 Hd => ?_) (fun hp10 w3 Hd => ?_)
 have H3 := H2.callN Hd
 refine OE ?_
 refine ⟨fun hne => absurd rfl hne, ?_⟩
 refine ME<|cR e16<|J3 rfl<|J2<|Xm rfl<|Xf fl45_2 rfl<|OV (EN ty36 rfl (vs := [.int .i64 n.b.r, .int .i64 n.b.n]) rfl (H3.cellsR (i := 1) rfl rfl))<|Xc rfl<|cOp e16<|Xf fl57_0 rfl<|OS ty36 H3 0 rfl rfl rfl rfl rfl (by first | decide | (simp; done) | simp [putAt]) rfl<|fun w4 H4=>Xr e16<|run_nil<|fin_end0 rfl ?_
 unfold rz
 rw [if_pos hp10]
 exact H4.pick [0] (by decide)
 have H3 := H2.callN Hd
 refine OE ?_
 refine ⟨fun hne => absurd rfl hne, ?_⟩
 refine ME<|cR e16<|J4 rfl<|J6<|run_nil<|fin_end0 rfl ?_
 unfold rz
 rw [if_neg hp10]
 exact H3.pick [0] (by decide)
set_option maxRecDepth 100000 in
set_option maxHeartbeats 4000000 in
theorem behind_v (A : Option Addr) (k : Nat) (l : List Vt) (n : Int) (ok : Nat → Prop) (w0 : World) (hl : Sl (VtR w0 ok) 4 w0 ok A l) (hn : l.length ≤ 1099511627776) : Does Tryz.prog 89 #[.slice A l.length k, .int .i64 n] w0 (fun r w' => ∃ A' k', r = .slice A' (behind l n).length k' ∧ Sl (VtR w' (up ok w0.heap.size)) 4 w' (up ok w0.heap.size) A' (behind l n) ∧ Hp w0 w' [] []) := by
 refine does_of Tryz.func89 Tryz.ntmps89 rfl<|cR e9 ?_
 have H := Hp.refl w0
 obtain ⟨ps, hp, hr, ha, h2⟩ := hl
 have hlen := h2.len
 have hon := h2.ones fun _ _ h => h.ones
 refine Rq<|ops_box rfl rfl H<|fun w1 gc H1 hgc=>Xa rfl<|Xr e9<|Rq<|Xm rfl<|OQ (EC gf52 rfl) (cloneV A l.length k ps.flatten _ (hr.to0 H1) (ones_flatten hon) (by omega)) ?_
 rintro _ w2 ⟨g, cap, sp, rfl, hgn, hcz, hg0, Hc⟩
 have hgf := row_new (ok := ok) Hc (i := 0) rfl (fun _ h => by cases h)
 have hsz1 := H1.size
 have H2 := H1.call0 Hc
 refine OV (ex_makeFunc rfl rfl) ?_
 have hgcx := H2.at (i := 0) rfl
 refine OQ (EC gf103 rfl) (deleteV g cap l.length ps hlen sp 104 gc (vtLe n) _ (H2.pick [1] (by decide)).here hp hon (by omega) (by omega) hcz (prd_behind h2 hgcx rfl) (row_not H2 (i := 0) (is := [1]) rfl (by decide))) ?_
 rintro _ w3 ⟨sp2, rfl, hl2, Hd⟩
 have H3 := H2.callr [1] rfl Hd
 refine cOp e9<|Xa rfl<|Xr e9<|J5<|FN1 rfl rfl ?_
 have hf := h2.filter (f := fun p => !vtLe n p) (g := fun x => !decide (x.slot ≤ n)) fun p x h => by rw [vtLe_eq h]
 rw [behind_eq] at hf
 rw [hf.len]
 refine ⟨_, cap, rfl, Sl.row H3 (i := 2) rfl (hp.sub fun x hx => (List.mem_filter.1 hx).1) (by decide) (hf.imp fun p x h => h.to H3 up_k0) (fun b hb => ?_), H3.noRows⟩
 rcases hgf b hb with h | h
 exact .inl h
 exact .inr (by omega)
set_option maxRecDepth 100000 in
set_option maxHeartbeats 16000000 in
theorem vote_v (gs : Nat) (s : Sv) (A1 : Option Addr) (k1 : Nat) (A2 : Option Addr) (k2 : Nat) (A3 : Option Addr) (k3 : Nat) (n : Nt) (B1 : Option Addr) (j1 : Nat) (B2 : Option Addr) (j2 : Nat) (okn : Nat → Prop) (w0 : World) (hrow : w0.heap[gs]? = some (.cells [.int .i64 s.p.r, .int .i64 s.p.n, .slice A1 s.votes.length k1, .int .i64 s.index, .slice A2 s.image.length k2, .slice A3 s.entries.length k3].toArray 57 (0, 0))) (ok : Nat → Prop) (hok : ¬ ok gs) (hv1 : Sl (VtR w0 ok) 4 w0 ok A1 s.votes) (hv2 : Bs w0 ok A2 s.image) (hv3 : Sl (EnR w0 ok) 2 w0 ok A3 s.entries) (hokn : ¬ okn gs) (hb : Bs w0 okn B1 n.vote.val) (hrise : Rise (fun x : Vt => cmpI x.slot n.vote.slot) s.votes) (hvl : s.votes.length ≤ 1000) (hi : 0 ≤ s.index ∧ s.index ≤ 1099511627776) (he : s.entries.length ≤ 1099511627776) : Does Tryz.prog 62 #[.pointer (some ⟨gs, 0, none⟩), .agg [.int .i64 n.kind, .int .i64 n.group, .int .i64 n.b.r, .int .i64 n.b.n, .int .i64 n.vote.slot, .int .i64 n.vote.b.r, .int .i64 n.vote.b.n, .slice B1 n.vote.val.length j1, .int .i64 n.entry.slot, .slice B2 n.entry.val.length j2, .int .i64 n.right.g, strV n.right.key, .int .i64 n.right.lease, .int .i64 n.right.net, .int .i64 n.client, .int .i64 n.seq].toArray] w0 (fun _ w' => ∃ cs', Hp w0 w' [gs] [((some gs, 57, cs') : Ent)] ∧ SvR w' (up ok w0.heap.size) cs' (if n.vote.slot ≤ s.last then s else ({ s with votes := putVt s.votes n.vote } : Sv).raise n.vote.b)) := by
 refine does_of Tryz.func62 Tryz.ntmps62 rfl<|cR e53 ?_
 have H := Hp.old hrow
 have hks := up_k (n := w0.heap.size) (ok := ok) (S := [gs]) fun x hx hg => hok (by rw [← List.mem_singleton.1 hg]; exact hx)
 have hkn : ∀ x, okn x → x < w0.heap.size → x ∉ [gs] ∧ okn x := fun x hx _ => ⟨fun hg => hokn (by rw [← List.mem_singleton.1 hg]; exact hx), hx⟩
 obtain ⟨ps, hp, hr, ha, h2⟩ := id hv1
 have hlen := h2.len
 have hon := h2.ones fun _ _ h => h.ones
 refine Rq<|ops_box rfl rfl H<|fun w1 g1 H1 hg1=>Xr e53<|Rq<|Xf fl45_3 rfl<|OV (EN ty39 rfl (vs := [.int .i64 n.vote.slot, .int .i64 n.vote.b.r, .int .i64 n.vote.b.n, .slice B1 n.vote.val.length j1]) rfl (H1.cellsR (i := 1) rfl rfl))<|OA ty39 H1<|fun w2 g2 H2 hg2=>OS ty39 H2 2 rfl rfl rfl rfl rfl (by first | decide | (simp; done) | simp [putAt]) rfl<|fun w3 H3=>Xr e53<|J1<|J1<|run_mixZ 4 [(true, 0), (true, 1), (true, 2), (false, 3), (false, 4)] H3 [0, 1, 2] mixed (by decide) (by kernel_rfl) ?_
 rintro w4 hw4
 have H4 := Hp.drew H3; rw [← hw4] at H4
 refine Zf rfl fl39_0 rfl<|MP rfl<|MV (fun wz hz => EL ty3 rfl (hz.cell (i := 2) rfl rfl))<|Zm rfl rfl<|MO rfl<|OC (EC gf85 rfl) (last_v gs _ _ _ _ s.index A3 s.entries.length k3 _ (H4.at (i := 0) rfl) ⟨by omega, by omega⟩ (by omega))<|fun w5 Hd=>have H5:=H4.callN Hd;OE<|⟨fun hne => H5.pick [0, 1, 2] (by decide), ?_⟩
 refine cZ e53<|MO rfl<|OT (ex_leq rfl rfl) (fun hp14 => ?_) (fun hp14 => ?_)
 refine OE ?_
 refine ⟨fun hne => absurd rfl hne, ?_⟩
 refine ME<|cR e53<|J3 rfl<|J5<|fin_ret0 rfl ?_
 rw [if_pos (by unfold Sv.last; exact hp14)]
 exact ⟨_, H5.pick [0] (by decide), A1, k1, A2, k2, A3, k3, rfl, hv1.toV H5 hks, hv2.to H5 hks, hv3.toE H5 hks⟩
 refine OE ?_
 refine ⟨fun hne => absurd rfl hne, ?_⟩
 refine ME<|cR e53<|J4 rfl<|J6<|Rq<|Xf fl39_2 rfl<|OV (EL ty37 rfl (H5.cell (i := 2) rfl rfl))<|ops_call_own (EC gf51 rfl) (clone_any B1 n.vote.val j1 _ (hb.to H5 hkn).1 (by have := hb.2.2; omega))<|fun w6 gb cb sb hmb hcb hgb Hc=>have H6:=H5.call0 Hc;Xf fl39_2 rfl<|cOp e53<|OW ty37 H6 2 rfl rfl rfl rfl (by first | decide | (simp; done) | simp [putAt]) rfl<|fun w7 H7=>Xr e53<|J1<|run_mixZ 11 [(true, 0), (true, 1), (true, 2), (true, 3), (true, 4), (true, 5), (false, 6), (true, 7), (true, 8), (true, 9), (true, 10), (false, 11)] H7 [0, 1, 2, 3] mixed (by decide) (by kernel_rfl) ?_
 rintro w8 hw8
 have H8 := Hp.drew H7; rw [← hw8] at H8
 refine Zm rfl rfl<|Zc rfl rfl<|Zf rfl fl57_1 rfl<|MP rfl<|MV (fun wz hz => EL ty54 rfl (hz.cell (i := 0) rfl rfl))<|cZ e53<|Zf rfl fl39_0 rfl<|MP rfl<|MV (fun wz hz => EL ty3 rfl (hz.cell (i := 2) rfl rfl))<|MO rfl<|OQ (EC gf86 rfl) (bsearchV A1 k1 ps s.votes.length hlen 87 n.vote.slot (vtCf n.vote.slot) _ hp (by rw [hlen]; exact (hr.move (by decide) ha H8 hks).1) (by omega) (cmp_vote h2 hrise)) ?_
 rintro _ w9 ⟨i, f, rfl, hfd, Hd⟩
 have H9 := H8.callN Hd
 refine OE ?_
 refine ⟨fun hne => H9.pick [0, 1, 2, 3] (by decide), ?_⟩
 refine cZ e53<|Zm rfl rfl<|MP rfl<|MV (fun wz hz => ex_extract rfl rfl)<|MP rfl<|MV (fun wz hz => ex_extract rfl rfl)<|MP rfl<|MV (fun wz hz => ex_assign rfl)<|cZ e53<|MO rfl<|Xa rfl<|OE<|⟨fun hne => absurd rfl hne, ?_⟩
 refine cZ e53<|ME<|cR e53<|Rq<|Xm rfl<|Xc rfl<|Xf fl57_1 rfl<|OV (EL ty54 rfl (H9.cell (i := 0) rfl rfl))<|cOp e53<|OQ (EC gf52 rfl) (cloneV A1 s.votes.length k1 ps.flatten _ (hr.move (by decide) ha H9 hks).1 (ones_flatten hon) (by omega)) ?_
 rintro _ w10 ⟨gv, cv, sv, rfl, hmv, hcv, hgv0, Hc⟩
 have H10 := H9.call0 Hc
 refine Xa rfl<|Xr e53<|J1<|Rq<|Xm rfl<|Xr e53<|run_cond rfl (fun hb34 => ?_) (fun hb34 => ?_)
 obtain ⟨pi, hpi, _⟩ := hfd.yes hb34
 have hil := lt_of_get hpi
 obtain ⟨gw, rfl⟩ := own_some H10 (i := 4) rfl (by rw [List.length_append, hp.len]; omega)
 subst hb34
 refine J2<|Xm rfl<|Xm rfl<|OV (EN ty39 rfl (vs := [.int .i64 n.vote.slot, .int .i64 n.vote.b.r, .int .i64 n.vote.b.n, .slice (hd gb) n.vote.val.length cb]) rfl (H10.cellsR (i := 2) rfl rfl))<|OV (ex_idxN Tryz.underlying54 ty39 rfl rfl rfl (by omega))<|cOp e53<|OS ty39 H10 4 rfl rfl rfl rfl rfl (by rw [List.length_append, hp.len]; show 0 + i * 4 + 4 ≤ _; omega) rfl<|fun w11 H11=>?_
 rw [store_elem (sz := 4) (vs := [.int .i64 n.vote.slot, .int .i64 n.vote.b.r, .int .i64 n.vote.b.n, .slice (hd gb) n.vote.val.length cb]) hp hil rfl] at H11
 replace H11 := H11.pick [0, 1, 2, 3, 4] (by decide)
 refine Xr e53<|Rq<|Xm rfl<|Xm rfl<|Xc rfl<|Xf fl57_1 rfl<|cOp e53<|OW ty54 H11 0 rfl rfl rfl rfl (by simp) rfl<|fun w12 H12=>Xr e53<|J2<|Xm rfl<|Xf fl39_1 rfl<|OV (EN ty36 rfl (vs := [.int .i64 n.vote.b.r, .int .i64 n.vote.b.n]) rfl (H12.cellsR (i := 2) rfl rfl))<|OV (EB ty45 pl45 rfl rfl)<|cOp e53<|OQ (EC gf61 rfl) (promise_v gs s.p _ _ _ _ ⟨0, 0, n.vote.b, ⟨0, ⟨0, 0⟩, []⟩, ⟨0, []⟩, ⟨0, [], 0, 0⟩, 0, 0⟩ none 0 none 0 _ (H12.at (i := 0) rfl)) ?_
 rintro r w13 Hd
 have H13 := (H12.callr [0] rfl Hd).pick [5, 1, 2, 3, 4] (by decide)
 refine Xr e53<|run_nil<|fin_end0 rfl ?_
 rw [if_neg (by unfold Sv.last; exact hp14)]
 have HZ := H13
 have hgb2 := row_new (ok := ok) HZ (i := 3) rfl (fun b hb => by rw [List.mem_singleton.1 hb]; exact fun e => HZ.ne (i := 3) (j := 0) (g := gs) (by rw [e]; rfl) rfl (by decide) rfl)
 have hgv2 := row_new (ok := ok) HZ (i := 4) rfl (fun b hb => by rw [List.mem_singleton.1 hb]; exact fun e => HZ.ne (i := 4) (j := 0) (g := gs) (by rw [e]; rfl) rfl (by decide) rfl)
 have hnew : VtR w13 (up ok w0.heap.size) [.int .i64 n.vote.slot, .int .i64 n.vote.b.r, .int .i64 n.vote.b.n, .slice (hd gb) n.vote.val.length cb] n.vote := ⟨hd gb, cb, rfl, Bs.row HZ (i := 3) rfl hb.2.2 hgb2⟩
 have hold := h2.imp (R' := VtR w13 (up ok w0.heap.size)) fun p x h => h.to HZ hks
 have hput := hfd.put (v := n.vote) h2 (fun p x h => vtCf_eq h) hrise
 rw [← putVt_eq] at hput
 rw [raise_eq, hput]
 rw [if_pos rfl]
 have hset := hold.set i hnew
 refine ⟨_, HZ.pick [0] (by decide), hd (some gw), cv, A2, k2, A3, k3, by rw [List.length_set], ?_, hv2.to HZ hks, hv3.toE HZ hks⟩
 exact Sl.row HZ (i := 4) rfl (hp.set_len rfl) (by decide) hset hgv2
 subst hb34
 refine J2<|Xm rfl<|Xm rfl<|OV (EN ty39 rfl (vs := [.int .i64 n.vote.slot, .int .i64 n.vote.b.r, .int .i64 n.vote.b.n, .slice (hd gb) n.vote.val.length cb]) rfl (H10.cellsR (i := 2) rfl rfl))<|ops_buildSlice Tryz.underlying54 ty39 H10 rfl (by decide) rfl<|fun w11 g11 H11 hg11=>cOp e53<|OQ (EC gf88 rfl) (insertV gv cv i _ s.votes.length ps hlen [.int .i64 n.vote.slot, .int .i64 n.vote.b.r, .int .i64 n.vote.b.n, .slice (hd gb) n.vote.val.length cb] sv _ (H11.pick [4] (by decide)).here hp hon (by omega) hcv hgv0 hfd.le (H11.at (i := 5) rfl) rfl rfl (row_not H11 (i := 5) (is := [4]) rfl (by decide)) (by omega)) ?_
 rintro _ w12 ⟨gw, cw, sw, rfl, hnw, hcw, hgw, Hd⟩
 rw [hlen]
 have H12 := (H11.callr [4] rfl Hd).pick [0, 1, 2, 3, 6] (by decide)
 refine Xa rfl<|Xr e53<|Rq<|Xm rfl<|Xm rfl<|Xc rfl<|Xf fl57_1 rfl<|cOp e53<|OW ty54 H12 0 rfl rfl rfl rfl (by simp) rfl<|fun w13 H13=>Xr e53<|J2<|Xm rfl<|Xf fl39_1 rfl<|OV (EN ty36 rfl (vs := [.int .i64 n.vote.b.r, .int .i64 n.vote.b.n]) rfl (H13.cellsR (i := 2) rfl rfl))<|OV (EB ty45 pl45 rfl rfl)<|cOp e53<|OQ (EC gf61 rfl) (promise_v gs s.p _ _ _ _ ⟨0, 0, n.vote.b, ⟨0, ⟨0, 0⟩, []⟩, ⟨0, []⟩, ⟨0, [], 0, 0⟩, 0, 0⟩ none 0 none 0 _ (H13.at (i := 0) rfl)) ?_
 rintro r w14 Hd
 have H14 := (H13.callr [0] rfl Hd).pick [5, 1, 2, 3, 4] (by decide)
 refine Xr e53<|run_nil<|fin_end0 rfl ?_
 rw [if_neg (by unfold Sv.last; exact hp14)]
 have HZ := H14
 have hgb2 := row_new (ok := ok) HZ (i := 3) rfl (fun b hb => by rw [List.mem_singleton.1 hb]; exact fun e => HZ.ne (i := 3) (j := 0) (g := gs) (by rw [e]; rfl) rfl (by decide) rfl)
 have hgv2 := row_new (ok := ok) HZ (i := 4) rfl (fun b hb => by rw [List.mem_singleton.1 hb]; exact fun e => HZ.ne (i := 4) (j := 0) (g := gs) (by rw [e]; rfl) rfl (by decide) rfl)
 have hnew : VtR w14 (up ok w0.heap.size) [.int .i64 n.vote.slot, .int .i64 n.vote.b.r, .int .i64 n.vote.b.n, .slice (hd gb) n.vote.val.length cb] n.vote := ⟨hd gb, cb, rfl, Bs.row HZ (i := 3) rfl hb.2.2 hgb2⟩
 have hold := h2.imp (R' := VtR w14 (up ok w0.heap.size)) fun p x h => h.to HZ hks
 have hput := hfd.put (v := n.vote) h2 (fun p x h => vtCf_eq h) hrise
 rw [← putVt_eq] at hput
 rw [raise_eq, hput]
 rw [if_neg (by decide)]
 have hle := hfd.le
 have hil3 : (s.votes.take i ++ n.vote :: s.votes.drop i).length = s.votes.length + 1 := by rw [List.length_append, List.length_cons, List.length_take, List.length_drop]; omega
 refine ⟨_, HZ.pick [0] (by decide), hd gw, cw, A2, k2, A3, k3, by rw [hil3], ?_, hv2.to HZ hks, hv3.toE HZ hks⟩
 exact Sl.row HZ (i := 4) rfl ((hp.sub fun x hx => List.mem_of_mem_take hx).app fun x hx => by
   rcases List.mem_cons.1 hx with rfl | hx
   · rfl
   · exact hp x (List.mem_of_mem_drop hx)) (by decide) ((hold.take i).app ⟨hnew, hold.drop i⟩) hgv2
end Go.Proofs.YtbninklfoogmdaaGreat
