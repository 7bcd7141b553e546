/- Walks of layer 2, printed by wip/gen/codec.py. -/
import Derived.Test.YtbninklfoogmdaaGreatNf
import Derived.Test.YtbninklfoogmdaaGreatVaB
namespace Go.Proofs.YtbninklfoogmdaaGreat
open Go Go.RowKit
set_option linter.unusedVariables false
attribute [local irreducible] Still Ops Does Cd
set_option maxRecDepth 100000 in
set_option maxHeartbeats 4000000 in
theorem indexV (A : Option Addr) (c : Nat) (ps : List (List Value)) (n k gc : Nat) (hn : ps.length = n) (pr : List Value → Bool) (w0 : World) (hp : Pl 4 ps) (hr : Rd w0 A ps.length 4 ps.flatten) (hl : ps.length ≤ 4611686018427387904) (hk : Prd Tryz.prog k gc pr ps w0) : Does Tryz.prog 113 #[.slice A n c, .func (.func k) #[] #[.pointer (some ⟨gc, 0, none⟩)]] w0 (fun r w' => ∃ y : Int, r = .int .i64 y ∧ IdxR ps pr y ∧ Hp w0 w' [] []) := by
 refine does_of Tryz.func113 Tryz.ntmps113 rfl<|cR e19 ?_
 subst hn
 have H := Hp.refl w0
 refine Rq<|Xa rfl<|Xr e19<|J1<|Rq<|Xm rfl<|OV (ES Tryz.underlying54 rfl)<|Xm rfl<|Xr e19<|J7<|run_loop (fun nQ lQ w => ∃ (jj : Nat) (y : Int), ps.length - jj = nQ ∧ Fits [some (.slice A ps.length c), some (.func (.func k) #[] #[.pointer (some ⟨gc, 0, none⟩)]), none, none, none, none, none, some (.int .i64 (ps.length : Int)), some (.int .i64 y), none, none, none, none, none, none, none, none, none, none] lQ ∧ y = (jj : Int) ∧ jj ≤ ps.length ∧ (∀ q ∈ ps.take jj, pr q = false) ∧ Hp w0 w [] []) (ps.length) ?_ ?_
 exact ⟨0, _, rfl, (fs (fs (fn (fn (fn (fn (fn (fs (fs (fn (fn (fn (fn (fn (fn (fn (fn (fn (fn f0))))))))))))))))))), rfl, Nat.zero_le _, fun q hq => by simp at hq, H⟩
 rintro nQ lQ w1 ⟨jj, y, rfl, hfit, rfl, hj, hno, H1⟩
 obtain ⟨j, rfl⟩ := hfit.open
 refine cR e19 ?_
 clear hfit
 refine Rq<|OT (ex_lss rfl rfl) (fun hp9 => ?_) (fun hp9 => ?_)
 have hjl : jj < ps.length := by omega
 obtain ⟨p1, hp1⟩ := get_of hjl
 obtain ⟨a1, ha1⟩ := hr.some_ (by omega)
 subst ha1
 refine Xr e19<|J1<|J3 rfl<|J6<|J1<|J7<|Rq<|Xm rfl<|Xa rfl<|Xr e19<|Rq<|Xm rfl<|Xm rfl<|Xm rfl<|OV (EI Tryz.underlying54 ty39 rfl rfl rfl hjl rfl)<|cOp e19<|OV (EN ty39 rfl (vs := p1) (hp.at hp1) ((hr.to0 H1).elem hp hp1))<|OC (ex_call_val hk.1 rfl rfl) (hk.2.2 w1 (H1.frame gc hk.2.1 (by simp)) p1 (mem_of hp1))<|fun w2 Hd=>have H2:=H1.callN Hd;Xr e19<|run_cond rfl (fun hb16 => ?_) (fun hb16 => ?_)
 refine Rq<|Xm rfl<|Xa rfl<|Xr e19<|J5<|BR<|rnd_ret<|BR<|FN1 rfl rfl<|⟨_, rfl, .inr ⟨jj, p1, rfl, hp1, hb16, hno⟩, H2.noRows⟩
 refine J6<|run_nil (blk_normal ?_)
 refine J2<|OV (ex_add rfl rfl (IntWalk.i64_in _ (by omega)))<|Xm rfl<|Xr e19<|run_nil (rnd_normal ?_)
 exact ⟨ps.length - (jj + 1), by omega, jj + 1, _, rfl, (fs (fs (fn (fn (fn (fn (fn (fs (fs (fn (fn (fn (fn (fn (fn (fn (fn (fn (fn f0))))))))))))))))))), by omega, by omega, take_all_snoc hno hp1 hb16, H2⟩
 obtain rfl : jj = ps.length := by omega
 refine Xr e19<|J1<|J4 rfl<|J8<|rnd_exit<|blk_exit<|Rq<|Xa rfl<|Xr e19<|J5<|FN1 rfl rfl<|⟨_, rfl, .inl ⟨rfl, by rw [List.take_length] at hno; exact hno⟩, H1.noRows⟩
set_option maxRecDepth 100000 in
set_option maxHeartbeats 4000000 in
theorem deleteV (g : Option Nat) (cap n : Nat) (ps : List (List Value)) (hn : ps.length = n) (sp : List Value) (k gc : Nat) (pr : List Value → Bool) (w0 : World) (H0 : Hp w0 w0 (bl [((g, 39, ps.flatten ++ sp) : Ent)]) [((g, 39, ps.flatten ++ sp) : Ent)]) (hp : Pl 4 ps) (ho : ∀ p ∈ ps, p.all (·.oneCell') = true) (hl : ps.length ≤ cap) (hl2 : ps.length ≤ 4611686018427387903) (hcz : cap * 4 ≤ (ps.flatten ++ sp).length) (hk : Prd Tryz.prog k gc pr ps w0) (hgc : gc ∉ bl [((g, 39, ps.flatten ++ sp) : Ent)]) : Does Tryz.prog 103 #[.slice (hd g) n cap, .func (.func k) #[] #[.pointer (some ⟨gc, 0, none⟩)]] w0 (fun r w' => ∃ sp', r = .slice (hd g) (ps.filter fun p => !pr p).length cap ∧ ((ps.filter fun p => !pr p).flatten ++ sp').length = (ps.flatten ++ sp).length ∧ Hp w0 w' (bl [((g, 39, ps.flatten ++ sp) : Ent)]) [((g, 39, (ps.filter fun p => !pr p).flatten ++ sp') : Ent)]) := by
 refine does_of Tryz.func103 Tryz.ntmps103 rfl<|cR e42 ?_
 subst hn
 have H := H0
 refine Rq<|Xa rfl<|Xr e42<|Rq<|Xm rfl<|Xm rfl<|OQ (EC gf113 rfl) (indexV (hd g) cap ps _ k gc rfl pr _ hp (H.rd (i := 0) rfl hp.len (by decide)) (by omega) hk) ?_
 rintro r w1 ⟨y, rfl, hix, Hd⟩
 have H1 := H.callN Hd
 refine Xa rfl<|Xr e42<|J1<|Rq<|Xm rfl<|OT (ex_eql rfl rfl) (fun hp12 => ?_) (fun hp12 => ?_)
 have hnone : ∀ p ∈ ps, pr p = false := by
   rcases hix with ⟨_, h⟩ | ⟨jj, p, h, _⟩
   · exact h
   · omega
 refine Xr e42<|J3 rfl<|Rq<|Xm rfl<|Xa rfl<|Xr e42<|J5<|FN1 rfl rfl<|⟨sp, by rw [filter_none hnone], by rw [filter_none hnone], by rw [filter_none hnone]; exact H1⟩
 obtain ⟨j0, p0, rfl, hj0, ht0, hn0⟩ : ∃ (jj : Nat) (p : List Value), y = (jj : Int) ∧ ps[jj]? = some p ∧ pr p = true ∧ ∀ q ∈ ps.take jj, pr q = false := by
   rcases hix with ⟨h, _⟩ | h
   · omega
   · exact h
 have hj0l := lt_of_get hj0
 obtain ⟨gx, rfl⟩ := own_some H1 (i := 0) rfl (by rw [List.length_append, hp.len]; have : 0 < ps.length * 4 := Nat.mul_pos (by omega) (by decide); omega)
 clear hix
 refine Xr e42<|J4 rfl<|J6<|J1<|Rq<|Xm rfl<|OV (ex_add rfl rfl (IntWalk.i64_in _ (by omega)))<|Xa rfl<|Xr e42<|J7<|run_loop (fun nQ lQ w => ∃ (i jj : Nat) (y z : Int) (qs : List (List Value)), ps.length - jj = nQ ∧ Fits [some (.slice (hd (some gx)) ps.length cap), some (.func (.func k) #[] #[.pointer (some ⟨gc, 0, none⟩)]), none, none, none, some (.int .i64 y), some (.int .i64 z), none, none, none, none, none, none, none, none, none, none, none, none, none, none, none, none, none, none, none, none, none, none, none, none, none, none, none, none, none, none, none, none, none, none, none] lQ ∧ y = (i : Int) ∧ z = (jj : Int) ∧ Del ps qs pr i jj 4 ∧ Hp w0 w (bl [((some gx, 39, ps.flatten ++ sp) : Ent)]) [((some gx, 39, qs.flatten ++ sp) : Ent)]) (ps.length - (j0 + 1)) ?_ ?_
 exact ⟨j0, j0 + 1, _, _, ps, rfl, (fs (fs (fn (fn (fn (fs (fs (fn (fn (fn (fn (fn (fn (fn (fn (fn (fn (fn (fn (fn (fn (fn (fn (fn (fn (fn (fn (fn (fn (fn (fn (fn (fn (fn (fn (fn (fn (fn (fn (fn (fn (fn f0)))))))))))))))))))))))))))))))))))))))))), rfl, by omega, Del.start hp hj0 ht0 hn0, H1⟩
 rintro nQ lQ w2 ⟨i, jj, y, z, qs, rfl, hfit, rfl, rfl, hdel, H2⟩
 obtain ⟨j, rfl⟩ := hfit.open
 refine cR e42 ?_
 clear hfit
 have hdl := hdel.lt
 have hde := hdel.le
 have hqn := hdel.len
 refine J1<|Rq<|Xm rfl<|Xm rfl<|OV (ES Tryz.underlying54 rfl)<|OT (ex_lss rfl rfl) (fun hp19 => ?_) (fun hp19 => ?_)
 have hjl : jj < ps.length := by omega
 obtain ⟨p1, hp1⟩ := get_of hjl
 have hq1 : qs[jj]? = some p1 := hdel.at.trans hp1
 refine Xr e42<|J3 rfl<|J6<|J1<|J7<|Rq<|Xm rfl<|Xm rfl<|OV (EI Tryz.underlying54 ty39 rfl rfl rfl hjl rfl)<|OV (EN ty39 rfl (vs := p1) (hp.at hp1) (H2.elem (k := 0) rfl hdel.pl hq1))<|cOp e42<|OA ty39 H2<|fun w3 g3 H3 hg3=>OS ty39 H3 1 rfl rfl rfl rfl (hp.at hp1) (by rw [hp.at hp1]; decide) (ho p1 (mem_of hp1))<|fun w4 H4=>?_
 rw [putAt_all (by rw [hp.at hp1]; rfl)] at H4
 refine Xr e42<|Rq<|Xm rfl<|OV (EN ty39 rfl (vs := p1) (hp.at hp1) (H4.cellsR (i := 1) rfl (by rw [List.drop_zero, List.take_length])))<|OC (ex_call_val hk.1 rfl rfl) (hk.2.2 w4 (H4.frame gc hk.2.1 hgc) p1 (mem_of hp1))<|fun w5 Hd=>have H5:=H4.callN Hd;Xn rfl<|Xr e42<|run_cond rfl (fun hb29 => ?_) (fun hb29 => ?_)
 refine Rq<|Xm rfl<|Xm rfl<|OV (EN ty39 rfl (vs := p1) (hp.at hp1) (H5.cellsR (i := 1) rfl (by rw [List.drop_zero, List.take_length])))<|OV (ex_idxN Tryz.underlying54 ty39 rfl rfl rfl (by omega))<|cOp e42<|OS ty39 H5 0 rfl rfl rfl rfl (hp.at hp1) (by rw [hp.at hp1, List.length_append, hdel.pl.len, Nat.zero_add]; have : (i + 1) * 4 ≤ qs.length * 4 := Nat.mul_le_mul_right _ (by omega); omega) (ho p1 (mem_of hp1))<|fun w6 H6=>?_
 rw [Nat.zero_add, putAt_left (by rw [hp.at hp1, hdel.pl.len]; have : (i + 1) * 4 ≤ qs.length * 4 := Nat.mul_le_mul_right _ (by omega); omega), hdel.pl.set_ (by omega) (hp.at hp1)] at H6
 refine Xr e42<|J2<|Xm rfl<|OV (ex_add rfl rfl (IntWalk.i64_in _ (by omega)))<|Xa rfl<|Xr e42<|run_nil (blk_normal ?_)
 refine J2<|Xm rfl<|OV (ex_add rfl rfl (IntWalk.i64_in _ (by omega)))<|Xa rfl<|Xr e42<|run_nil (rnd_normal ?_)
 exact ⟨ps.length - (jj + 1), by omega, i + 1, jj + 1, _, _, qs.set i p1, rfl, (fs (fs (fn (fn (fn (fs (fs (fn (fn (fn (fn (fn (fn (fn (fn (fn (fn (fn (fn (fn (fn (fn (fn (fn (fn (fn (fn (fn (fn (fn (fn (fn (fn (fn (fn (fn (fn (fn (fn (fn (fn (fn f0)))))))))))))))))))))))))))))))))))))))))), by omega, by omega, hdel.keep hp1 (by simpa using hb29) (hp.at hp1), H6.pick [0] (by decide)⟩
 refine J6<|run_nil (blk_normal ?_)
 refine J2<|Xm rfl<|OV (ex_add rfl rfl (IntWalk.i64_in _ (by omega)))<|Xa rfl<|Xr e42<|run_nil (rnd_normal ?_)
 exact ⟨ps.length - (jj + 1), by omega, i, jj + 1, _, _, qs, rfl, (fs (fs (fn (fn (fn (fs (fs (fn (fn (fn (fn (fn (fn (fn (fn (fn (fn (fn (fn (fn (fn (fn (fn (fn (fn (fn (fn (fn (fn (fn (fn (fn (fn (fn (fn (fn (fn (fn (fn (fn (fn (fn f0)))))))))))))))))))))))))))))))))))))))))), rfl, by omega, hdel.skip hp1 (by simpa using hb29), H5.pick [0] (by decide)⟩
 obtain rfl : jj = ps.length := by omega
 refine Xr e42<|J4 rfl<|J8<|rnd_exit<|blk_exit<|Rq<|Xm rfl<|Xm rfl ?_
 have hdn := hdel.done
 refine OV (ex_lo Tryz.underlying54 ty39 rfl rfl rfl (by omega) (by omega)) ?_
 rw [addn]
 have hfit : 0 + i * 4 + (ps.length - i) * 4 ≤ (qs.flatten ++ sp).length := by
   rw [List.length_append, hdel.pl.len, hqn, Nat.zero_add, ← Nat.add_mul, show i + (ps.length - i) = ps.length by omega]; omega
 refine ops_clear Tryz.underlying54 ty39 H2 0 rfl rfl hfit rfl<|fun w3 H3=>Xr e42<|Rq<|Xm rfl<|Xm rfl<|OV (ex_hi Tryz.underlying54 ty39 rfl rfl rfl (by omega))<|Xa rfl<|Xr e42<|J5<|FN1 rfl rfl ?_
 have hpl := putAt_len (cs := qs.flatten ++ sp) (vs := initL [.int .i64 0, .int .i64 0, .int .i64 0, .slice none 0 0] (ps.length - i)) (o := 0 + i * 4) (by rw [initL_length]; exact hfit)
 rw [hdel.cells rfl] at hpl
 have HZ := H3
 change Hp _ _ _ [((some gx, 39, putAt (qs.flatten ++ sp) (0 + i * 4) _) : Ent)] at HZ
 rw [hdel.cells rfl] at HZ
 refine ⟨_, by rw [hdn.2], ?_, HZ⟩
 rw [hpl, List.length_append, List.length_append, hdel.pl.len, hp.len, hqn]
set_option maxRecDepth 100000 in
set_option maxHeartbeats 4000000 in
theorem indexE (A : Option Addr) (c : Nat) (ps : List (List Value)) (n k gc : Nat) (hn : ps.length = n) (pr : List Value → Bool) (w0 : World) (hp : Pl 2 ps) (hr : Rd w0 A ps.length 2 ps.flatten) (hl : ps.length ≤ 4611686018427387904) (hk : Prd Tryz.prog k gc pr ps w0) : Does Tryz.prog 105 #[.slice A n c, .func (.func k) #[] #[.pointer (some ⟨gc, 0, none⟩)]] w0 (fun r w' => ∃ y : Int, r = .int .i64 y ∧ IdxR ps pr y ∧ Hp w0 w' [] []) := by
 refine does_of Tryz.func105 Tryz.ntmps105 rfl<|cR e19 ?_
 subst hn
 have H := Hp.refl w0
 refine Rq<|Xa rfl<|Xr e19<|J1<|Rq<|Xm rfl<|OV (ES Tryz.underlying55 rfl)<|Xm rfl<|Xr e19<|J7<|run_loop (fun nQ lQ w => ∃ (jj : Nat) (y : Int), ps.length - jj = nQ ∧ Fits [some (.slice A ps.length c), some (.func (.func k) #[] #[.pointer (some ⟨gc, 0, none⟩)]), none, none, none, none, none, some (.int .i64 (ps.length : Int)), some (.int .i64 y), none, none, none, none, none, none, none, none, none, none] lQ ∧ y = (jj : Int) ∧ jj ≤ ps.length ∧ (∀ q ∈ ps.take jj, pr q = false) ∧ Hp w0 w [] []) (ps.length) ?_ ?_
 exact ⟨0, _, rfl, (fs (fs (fn (fn (fn (fn (fn (fs (fs (fn (fn (fn (fn (fn (fn (fn (fn (fn (fn f0))))))))))))))))))), rfl, Nat.zero_le _, fun q hq => by simp at hq, H⟩
 rintro nQ lQ w1 ⟨jj, y, rfl, hfit, rfl, hj, hno, H1⟩
 obtain ⟨j, rfl⟩ := hfit.open
 refine cR e19 ?_
 clear hfit
 refine Rq<|OT (ex_lss rfl rfl) (fun hp9 => ?_) (fun hp9 => ?_)
 have hjl : jj < ps.length := by omega
 obtain ⟨p1, hp1⟩ := get_of hjl
 obtain ⟨a1, ha1⟩ := hr.some_ (by omega)
 subst ha1
 refine Xr e19<|J1<|J3 rfl<|J6<|J1<|J7<|Rq<|Xm rfl<|Xa rfl<|Xr e19<|Rq<|Xm rfl<|Xm rfl<|Xm rfl<|OV (EI Tryz.underlying55 ty41 rfl rfl rfl hjl rfl)<|cOp e19<|OV (EN ty41 rfl (vs := p1) (hp.at hp1) ((hr.to0 H1).elem hp hp1))<|OC (ex_call_val hk.1 rfl rfl) (hk.2.2 w1 (H1.frame gc hk.2.1 (by simp)) p1 (mem_of hp1))<|fun w2 Hd=>have H2:=H1.callN Hd;Xr e19<|run_cond rfl (fun hb16 => ?_) (fun hb16 => ?_)
 refine Rq<|Xm rfl<|Xa rfl<|Xr e19<|J5<|BR<|rnd_ret<|BR<|FN1 rfl rfl<|⟨_, rfl, .inr ⟨jj, p1, rfl, hp1, hb16, hno⟩, H2.noRows⟩
 refine J6<|run_nil (blk_normal ?_)
 refine J2<|OV (ex_add rfl rfl (IntWalk.i64_in _ (by omega)))<|Xm rfl<|Xr e19<|run_nil (rnd_normal ?_)
 exact ⟨ps.length - (jj + 1), by omega, jj + 1, _, rfl, (fs (fs (fn (fn (fn (fn (fn (fs (fs (fn (fn (fn (fn (fn (fn (fn (fn (fn (fn f0))))))))))))))))))), by omega, by omega, take_all_snoc hno hp1 hb16, H2⟩
 obtain rfl : jj = ps.length := by omega
 refine Xr e19<|J1<|J4 rfl<|J8<|rnd_exit<|blk_exit<|Rq<|Xa rfl<|Xr e19<|J5<|FN1 rfl rfl<|⟨_, rfl, .inl ⟨rfl, by rw [List.take_length] at hno; exact hno⟩, H1.noRows⟩
set_option maxRecDepth 100000 in
set_option maxHeartbeats 4000000 in
theorem deleteE (g : Option Nat) (cap n : Nat) (ps : List (List Value)) (hn : ps.length = n) (sp : List Value) (k gc : Nat) (pr : List Value → Bool) (w0 : World) (H0 : Hp w0 w0 (bl [((g, 41, ps.flatten ++ sp) : Ent)]) [((g, 41, ps.flatten ++ sp) : Ent)]) (hp : Pl 2 ps) (ho : ∀ p ∈ ps, p.all (·.oneCell') = true) (hl : ps.length ≤ cap) (hl2 : ps.length ≤ 4611686018427387903) (hcz : cap * 2 ≤ (ps.flatten ++ sp).length) (hk : Prd Tryz.prog k gc pr ps w0) (hgc : gc ∉ bl [((g, 41, ps.flatten ++ sp) : Ent)]) : Does Tryz.prog 90 #[.slice (hd g) n cap, .func (.func k) #[] #[.pointer (some ⟨gc, 0, none⟩)]] w0 (fun r w' => ∃ sp', r = .slice (hd g) (ps.filter fun p => !pr p).length cap ∧ ((ps.filter fun p => !pr p).flatten ++ sp').length = (ps.flatten ++ sp).length ∧ Hp w0 w' (bl [((g, 41, ps.flatten ++ sp) : Ent)]) [((g, 41, (ps.filter fun p => !pr p).flatten ++ sp') : Ent)]) := by
 refine does_of Tryz.func90 Tryz.ntmps90 rfl<|cR e42 ?_
 subst hn
 have H := H0
 refine Rq<|Xa rfl<|Xr e42<|Rq<|Xm rfl<|Xm rfl<|OQ (EC gf105 rfl) (indexE (hd g) cap ps _ k gc rfl pr _ hp (H.rd (i := 0) rfl hp.len (by decide)) (by omega) hk) ?_
 rintro r w1 ⟨y, rfl, hix, Hd⟩
 have H1 := H.callN Hd
 refine Xa rfl<|Xr e42<|J1<|Rq<|Xm rfl<|OT (ex_eql rfl rfl) (fun hp12 => ?_) (fun hp12 => ?_)
 have hnone : ∀ p ∈ ps, pr p = false := by
   rcases hix with ⟨_, h⟩ | ⟨jj, p, h, _⟩
   · exact h
   · omega
 refine Xr e42<|J3 rfl<|Rq<|Xm rfl<|Xa rfl<|Xr e42<|J5<|FN1 rfl rfl<|⟨sp, by rw [filter_none hnone], by rw [filter_none hnone], by rw [filter_none hnone]; exact H1⟩
 obtain ⟨j0, p0, rfl, hj0, ht0, hn0⟩ : ∃ (jj : Nat) (p : List Value), y = (jj : Int) ∧ ps[jj]? = some p ∧ pr p = true ∧ ∀ q ∈ ps.take jj, pr q = false := by
   rcases hix with ⟨h, _⟩ | h
   · omega
   · exact h
 have hj0l := lt_of_get hj0
 obtain ⟨gx, rfl⟩ := own_some H1 (i := 0) rfl (by rw [List.length_append, hp.len]; have : 0 < ps.length * 2 := Nat.mul_pos (by omega) (by decide); omega)
 clear hix
 refine Xr e42<|J4 rfl<|J6<|J1<|Rq<|Xm rfl<|OV (ex_add rfl rfl (IntWalk.i64_in _ (by omega)))<|Xa rfl<|Xr e42<|J7<|run_loop (fun nQ lQ w => ∃ (i jj : Nat) (y z : Int) (qs : List (List Value)), ps.length - jj = nQ ∧ Fits [some (.slice (hd (some gx)) ps.length cap), some (.func (.func k) #[] #[.pointer (some ⟨gc, 0, none⟩)]), none, none, none, some (.int .i64 y), some (.int .i64 z), none, none, none, none, none, none, none, none, none, none, none, none, none, none, none, none, none, none, none, none, none, none, none, none, none, none, none, none, none, none, none, none, none, none, none] lQ ∧ y = (i : Int) ∧ z = (jj : Int) ∧ Del ps qs pr i jj 2 ∧ Hp w0 w (bl [((some gx, 41, ps.flatten ++ sp) : Ent)]) [((some gx, 41, qs.flatten ++ sp) : Ent)]) (ps.length - (j0 + 1)) ?_ ?_
 exact ⟨j0, j0 + 1, _, _, ps, rfl, (fs (fs (fn (fn (fn (fs (fs (fn (fn (fn (fn (fn (fn (fn (fn (fn (fn (fn (fn (fn (fn (fn (fn (fn (fn (fn (fn (fn (fn (fn (fn (fn (fn (fn (fn (fn (fn (fn (fn (fn (fn (fn f0)))))))))))))))))))))))))))))))))))))))))), rfl, by omega, Del.start hp hj0 ht0 hn0, H1⟩
 rintro nQ lQ w2 ⟨i, jj, y, z, qs, rfl, hfit, rfl, rfl, hdel, H2⟩
 obtain ⟨j, rfl⟩ := hfit.open
 refine cR e42 ?_
 clear hfit
 have hdl := hdel.lt
 have hde := hdel.le
 have hqn := hdel.len
 refine J1<|Rq<|Xm rfl<|Xm rfl<|OV (ES Tryz.underlying55 rfl)<|OT (ex_lss rfl rfl) (fun hp19 => ?_) (fun hp19 => ?_)
 have hjl : jj < ps.length := by omega
 obtain ⟨p1, hp1⟩ := get_of hjl
 have hq1 : qs[jj]? = some p1 := hdel.at.trans hp1
 refine Xr e42<|J3 rfl<|J6<|J1<|J7<|Rq<|Xm rfl<|Xm rfl<|OV (EI Tryz.underlying55 ty41 rfl rfl rfl hjl rfl)<|OV (EN ty41 rfl (vs := p1) (hp.at hp1) (H2.elem (k := 0) rfl hdel.pl hq1))<|cOp e42<|OA ty41 H2<|fun w3 g3 H3 hg3=>OS ty41 H3 1 rfl rfl rfl rfl (hp.at hp1) (by rw [hp.at hp1]; decide) (ho p1 (mem_of hp1))<|fun w4 H4=>?_
 rw [putAt_all (by rw [hp.at hp1]; rfl)] at H4
 refine Xr e42<|Rq<|Xm rfl<|OV (EN ty41 rfl (vs := p1) (hp.at hp1) (H4.cellsR (i := 1) rfl (by rw [List.drop_zero, List.take_length])))<|OC (ex_call_val hk.1 rfl rfl) (hk.2.2 w4 (H4.frame gc hk.2.1 hgc) p1 (mem_of hp1))<|fun w5 Hd=>have H5:=H4.callN Hd;Xn rfl<|Xr e42<|run_cond rfl (fun hb29 => ?_) (fun hb29 => ?_)
 refine Rq<|Xm rfl<|Xm rfl<|OV (EN ty41 rfl (vs := p1) (hp.at hp1) (H5.cellsR (i := 1) rfl (by rw [List.drop_zero, List.take_length])))<|OV (ex_idxN Tryz.underlying55 ty41 rfl rfl rfl (by omega))<|cOp e42<|OS ty41 H5 0 rfl rfl rfl rfl (hp.at hp1) (by rw [hp.at hp1, List.length_append, hdel.pl.len, Nat.zero_add]; have : (i + 1) * 2 ≤ qs.length * 2 := Nat.mul_le_mul_right _ (by omega); omega) (ho p1 (mem_of hp1))<|fun w6 H6=>?_
 rw [Nat.zero_add, putAt_left (by rw [hp.at hp1, hdel.pl.len]; have : (i + 1) * 2 ≤ qs.length * 2 := Nat.mul_le_mul_right _ (by omega); omega), hdel.pl.set_ (by omega) (hp.at hp1)] at H6
 refine Xr e42<|J2<|Xm rfl<|OV (ex_add rfl rfl (IntWalk.i64_in _ (by omega)))<|Xa rfl<|Xr e42<|run_nil (blk_normal ?_)
 refine J2<|Xm rfl<|OV (ex_add rfl rfl (IntWalk.i64_in _ (by omega)))<|Xa rfl<|Xr e42<|run_nil (rnd_normal ?_)
 exact ⟨ps.length - (jj + 1), by omega, i + 1, jj + 1, _, _, qs.set i p1, rfl, (fs (fs (fn (fn (fn (fs (fs (fn (fn (fn (fn (fn (fn (fn (fn (fn (fn (fn (fn (fn (fn (fn (fn (fn (fn (fn (fn (fn (fn (fn (fn (fn (fn (fn (fn (fn (fn (fn (fn (fn (fn (fn f0)))))))))))))))))))))))))))))))))))))))))), by omega, by omega, hdel.keep hp1 (by simpa using hb29) (hp.at hp1), H6.pick [0] (by decide)⟩
 refine J6<|run_nil (blk_normal ?_)
 refine J2<|Xm rfl<|OV (ex_add rfl rfl (IntWalk.i64_in _ (by omega)))<|Xa rfl<|Xr e42<|run_nil (rnd_normal ?_)
 exact ⟨ps.length - (jj + 1), by omega, i, jj + 1, _, _, qs, rfl, (fs (fs (fn (fn (fn (fs (fs (fn (fn (fn (fn (fn (fn (fn (fn (fn (fn (fn (fn (fn (fn (fn (fn (fn (fn (fn (fn (fn (fn (fn (fn (fn (fn (fn (fn (fn (fn (fn (fn (fn (fn (fn f0)))))))))))))))))))))))))))))))))))))))))), rfl, by omega, hdel.skip hp1 (by simpa using hb29), H5.pick [0] (by decide)⟩
 obtain rfl : jj = ps.length := by omega
 refine Xr e42<|J4 rfl<|J8<|rnd_exit<|blk_exit<|Rq<|Xm rfl<|Xm rfl ?_
 have hdn := hdel.done
 refine OV (ex_lo Tryz.underlying55 ty41 rfl rfl rfl (by omega) (by omega)) ?_
 rw [addn]
 have hfit : 0 + i * 2 + (ps.length - i) * 2 ≤ (qs.flatten ++ sp).length := by
   rw [List.length_append, hdel.pl.len, hqn, Nat.zero_add, ← Nat.add_mul, show i + (ps.length - i) = ps.length by omega]; omega
 refine ops_clear Tryz.underlying55 ty41 H2 0 rfl rfl hfit rfl<|fun w3 H3=>Xr e42<|Rq<|Xm rfl<|Xm rfl<|OV (ex_hi Tryz.underlying55 ty41 rfl rfl rfl (by omega))<|Xa rfl<|Xr e42<|J5<|FN1 rfl rfl ?_
 have hpl := putAt_len (cs := qs.flatten ++ sp) (vs := initL [.int .i64 0, .slice none 0 0] (ps.length - i)) (o := 0 + i * 2) (by rw [initL_length]; exact hfit)
 rw [hdel.cells rfl] at hpl
 have HZ := H3
 change Hp _ _ _ [((some gx, 41, putAt (qs.flatten ++ sp) (0 + i * 2) _) : Ent)] at HZ
 rw [hdel.cells rfl] at HZ
 refine ⟨_, by rw [hdn.2], ?_, HZ⟩
 rw [hpl, List.length_append, List.length_append, hdel.pl.len, hp.len, hqn]
set_option maxRecDepth 100000 in
set_option maxHeartbeats 4000000 in
theorem indexM (A : Option Addr) (c : Nat) (ps : List (List Value)) (n k gc : Nat) (hn : ps.length = n) (pr : List Value → Bool) (w0 : World) (hp : Pl 7 ps) (hr : Rd w0 A ps.length 7 ps.flatten) (hl : ps.length ≤ 4611686018427387904) (hk : Prd Tryz.prog k gc pr ps w0) : Does Tryz.prog 81 #[.slice A n c, .func (.func k) #[] #[.pointer (some ⟨gc, 0, none⟩)]] w0 (fun r w' => ∃ y : Int, r = .int .i64 y ∧ IdxR ps pr y ∧ Hp w0 w' [] []) := by
 refine does_of Tryz.func81 Tryz.ntmps81 rfl<|cR e19 ?_
 subst hn
 have H := Hp.refl w0
 refine Rq<|Xa rfl<|Xr e19<|J1<|Rq<|Xm rfl<|OV (ES Tryz.underlying25 rfl)<|Xm rfl<|Xr e19<|J7<|run_loop (fun nQ lQ w => ∃ (jj : Nat) (y : Int), ps.length - jj = nQ ∧ Fits [some (.slice A ps.length c), some (.func (.func k) #[] #[.pointer (some ⟨gc, 0, none⟩)]), none, none, none, none, none, some (.int .i64 (ps.length : Int)), some (.int .i64 y), none, none, none, none, none, none, none, none, none, none] lQ ∧ y = (jj : Int) ∧ jj ≤ ps.length ∧ (∀ q ∈ ps.take jj, pr q = false) ∧ Hp w0 w [] []) (ps.length) ?_ ?_
 exact ⟨0, _, rfl, (fs (fs (fn (fn (fn (fn (fn (fs (fs (fn (fn (fn (fn (fn (fn (fn (fn (fn (fn f0))))))))))))))))))), rfl, Nat.zero_le _, fun q hq => by simp at hq, H⟩
 rintro nQ lQ w1 ⟨jj, y, rfl, hfit, rfl, hj, hno, H1⟩
 obtain ⟨j, rfl⟩ := hfit.open
 refine cR e19 ?_
 clear hfit
 refine Rq<|OT (ex_lss rfl rfl) (fun hp9 => ?_) (fun hp9 => ?_)
 have hjl : jj < ps.length := by omega
 obtain ⟨p1, hp1⟩ := get_of hjl
 obtain ⟨a1, ha1⟩ := hr.some_ (by omega)
 subst ha1
 refine Xr e19<|J1<|J3 rfl<|J6<|J1<|J7<|Rq<|Xm rfl<|Xa rfl<|Xr e19<|Rq<|Xm rfl<|Xm rfl<|Xm rfl<|OV (EI Tryz.underlying25 ty63 rfl rfl rfl hjl rfl)<|cOp e19<|OV (EN ty63 rfl (vs := p1) (hp.at hp1) ((hr.to0 H1).elem hp hp1))<|OC (ex_call_val hk.1 rfl rfl) (hk.2.2 w1 (H1.frame gc hk.2.1 (by simp)) p1 (mem_of hp1))<|fun w2 Hd=>have H2:=H1.callN Hd;Xr e19<|run_cond rfl (fun hb16 => ?_) (fun hb16 => ?_)
 refine Rq<|Xm rfl<|Xa rfl<|Xr e19<|J5<|BR<|rnd_ret<|BR<|FN1 rfl rfl<|⟨_, rfl, .inr ⟨jj, p1, rfl, hp1, hb16, hno⟩, H2.noRows⟩
 refine J6<|run_nil (blk_normal ?_)
 refine J2<|OV (ex_add rfl rfl (IntWalk.i64_in _ (by omega)))<|Xm rfl<|Xr e19<|run_nil (rnd_normal ?_)
 exact ⟨ps.length - (jj + 1), by omega, jj + 1, _, rfl, (fs (fs (fn (fn (fn (fn (fn (fs (fs (fn (fn (fn (fn (fn (fn (fn (fn (fn (fn f0))))))))))))))))))), by omega, by omega, take_all_snoc hno hp1 hb16, H2⟩
 obtain rfl : jj = ps.length := by omega
 refine Xr e19<|J1<|J4 rfl<|J8<|rnd_exit<|blk_exit<|Rq<|Xa rfl<|Xr e19<|J5<|FN1 rfl rfl<|⟨_, rfl, .inl ⟨rfl, by rw [List.take_length] at hno; exact hno⟩, H1.noRows⟩
set_option maxRecDepth 100000 in
set_option maxHeartbeats 4000000 in
theorem deleteM (g : Option Nat) (cap n : Nat) (ps : List (List Value)) (hn : ps.length = n) (sp : List Value) (k gc : Nat) (pr : List Value → Bool) (w0 : World) (H0 : Hp w0 w0 (bl [((g, 63, ps.flatten ++ sp) : Ent)]) [((g, 63, ps.flatten ++ sp) : Ent)]) (hp : Pl 7 ps) (ho : ∀ p ∈ ps, p.all (·.oneCell') = true) (hl : ps.length ≤ cap) (hl2 : ps.length ≤ 4611686018427387903) (hcz : cap * 7 ≤ (ps.flatten ++ sp).length) (hk : Prd Tryz.prog k gc pr ps w0) (hgc : gc ∉ bl [((g, 63, ps.flatten ++ sp) : Ent)]) : Does Tryz.prog 58 #[.slice (hd g) n cap, .func (.func k) #[] #[.pointer (some ⟨gc, 0, none⟩)]] w0 (fun r w' => ∃ sp', r = .slice (hd g) (ps.filter fun p => !pr p).length cap ∧ ((ps.filter fun p => !pr p).flatten ++ sp').length = (ps.flatten ++ sp).length ∧ Hp w0 w' (bl [((g, 63, ps.flatten ++ sp) : Ent)]) [((g, 63, (ps.filter fun p => !pr p).flatten ++ sp') : Ent)]) := by
 refine does_of Tryz.func58 Tryz.ntmps58 rfl<|cR e42 ?_
 subst hn
 have H := H0
 refine Rq<|Xa rfl<|Xr e42<|Rq<|Xm rfl<|Xm rfl<|OQ (EC gf81 rfl) (indexM (hd g) cap ps _ k gc rfl pr _ hp (H.rd (i := 0) rfl hp.len (by decide)) (by omega) hk) ?_
 rintro r w1 ⟨y, rfl, hix, Hd⟩
 have H1 := H.callN Hd
 refine Xa rfl<|Xr e42<|J1<|Rq<|Xm rfl<|OT (ex_eql rfl rfl) (fun hp12 => ?_) (fun hp12 => ?_)
 have hnone : ∀ p ∈ ps, pr p = false := by
   rcases hix with ⟨_, h⟩ | ⟨jj, p, h, _⟩
   · exact h
   · omega
 refine Xr e42<|J3 rfl<|Rq<|Xm rfl<|Xa rfl<|Xr e42<|J5<|FN1 rfl rfl<|⟨sp, by rw [filter_none hnone], by rw [filter_none hnone], by rw [filter_none hnone]; exact H1⟩
 obtain ⟨j0, p0, rfl, hj0, ht0, hn0⟩ : ∃ (jj : Nat) (p : List Value), y = (jj : Int) ∧ ps[jj]? = some p ∧ pr p = true ∧ ∀ q ∈ ps.take jj, pr q = false := by
   rcases hix with ⟨h, _⟩ | h
   · omega
   · exact h
 have hj0l := lt_of_get hj0
 obtain ⟨gx, rfl⟩ := own_some H1 (i := 0) rfl (by rw [List.length_append, hp.len]; have : 0 < ps.length * 7 := Nat.mul_pos (by omega) (by decide); omega)
 clear hix
 refine Xr e42<|J4 rfl<|J6<|J1<|Rq<|Xm rfl<|OV (ex_add rfl rfl (IntWalk.i64_in _ (by omega)))<|Xa rfl<|Xr e42<|J7<|run_loop (fun nQ lQ w => ∃ (i jj : Nat) (y z : Int) (qs : List (List Value)), ps.length - jj = nQ ∧ Fits [some (.slice (hd (some gx)) ps.length cap), some (.func (.func k) #[] #[.pointer (some ⟨gc, 0, none⟩)]), none, none, none, some (.int .i64 y), some (.int .i64 z), none, none, none, none, none, none, none, none, none, none, none, none, none, none, none, none, none, none, none, none, none, none, none, none, none, none, none, none, none, none, none, none, none, none, none] lQ ∧ y = (i : Int) ∧ z = (jj : Int) ∧ Del ps qs pr i jj 7 ∧ Hp w0 w (bl [((some gx, 63, ps.flatten ++ sp) : Ent)]) [((some gx, 63, qs.flatten ++ sp) : Ent)]) (ps.length - (j0 + 1)) ?_ ?_
 exact ⟨j0, j0 + 1, _, _, ps, rfl, (fs (fs (fn (fn (fn (fs (fs (fn (fn (fn (fn (fn (fn (fn (fn (fn (fn (fn (fn (fn (fn (fn (fn (fn (fn (fn (fn (fn (fn (fn (fn (fn (fn (fn (fn (fn (fn (fn (fn (fn (fn (fn f0)))))))))))))))))))))))))))))))))))))))))), rfl, by omega, Del.start hp hj0 ht0 hn0, H1⟩
 rintro nQ lQ w2 ⟨i, jj, y, z, qs, rfl, hfit, rfl, rfl, hdel, H2⟩
 obtain ⟨j, rfl⟩ := hfit.open
 refine cR e42 ?_
 clear hfit
 have hdl := hdel.lt
 have hde := hdel.le
 have hqn := hdel.len
 refine J1<|Rq<|Xm rfl<|Xm rfl<|OV (ES Tryz.underlying25 rfl)<|OT (ex_lss rfl rfl) (fun hp19 => ?_) (fun hp19 => ?_)
 have hjl : jj < ps.length := by omega
 obtain ⟨p1, hp1⟩ := get_of hjl
 have hq1 : qs[jj]? = some p1 := hdel.at.trans hp1
 refine Xr e42<|J3 rfl<|J6<|J1<|J7<|Rq<|Xm rfl<|Xm rfl<|OV (EI Tryz.underlying25 ty63 rfl rfl rfl hjl rfl)<|OV (EN ty63 rfl (vs := p1) (hp.at hp1) (H2.elem (k := 0) rfl hdel.pl hq1))<|cOp e42<|OA ty63 H2<|fun w3 g3 H3 hg3=>OS ty63 H3 1 rfl rfl rfl rfl (hp.at hp1) (by rw [hp.at hp1]; decide) (ho p1 (mem_of hp1))<|fun w4 H4=>?_
 rw [putAt_all (by rw [hp.at hp1]; rfl)] at H4
 refine Xr e42<|Rq<|Xm rfl<|OV (EN ty63 rfl (vs := p1) (hp.at hp1) (H4.cellsR (i := 1) rfl (by rw [List.drop_zero, List.take_length])))<|OC (ex_call_val hk.1 rfl rfl) (hk.2.2 w4 (H4.frame gc hk.2.1 hgc) p1 (mem_of hp1))<|fun w5 Hd=>have H5:=H4.callN Hd;Xn rfl<|Xr e42<|run_cond rfl (fun hb29 => ?_) (fun hb29 => ?_)
 refine Rq<|Xm rfl<|Xm rfl<|OV (EN ty63 rfl (vs := p1) (hp.at hp1) (H5.cellsR (i := 1) rfl (by rw [List.drop_zero, List.take_length])))<|OV (ex_idxN Tryz.underlying25 ty63 rfl rfl rfl (by omega))<|cOp e42<|OS ty63 H5 0 rfl rfl rfl rfl (hp.at hp1) (by rw [hp.at hp1, List.length_append, hdel.pl.len, Nat.zero_add]; have : (i + 1) * 7 ≤ qs.length * 7 := Nat.mul_le_mul_right _ (by omega); omega) (ho p1 (mem_of hp1))<|fun w6 H6=>?_
 rw [Nat.zero_add, putAt_left (by rw [hp.at hp1, hdel.pl.len]; have : (i + 1) * 7 ≤ qs.length * 7 := Nat.mul_le_mul_right _ (by omega); omega), hdel.pl.set_ (by omega) (hp.at hp1)] at H6
 refine Xr e42<|J2<|Xm rfl<|OV (ex_add rfl rfl (IntWalk.i64_in _ (by omega)))<|Xa rfl<|Xr e42<|run_nil (blk_normal ?_)
 refine J2<|Xm rfl<|OV (ex_add rfl rfl (IntWalk.i64_in _ (by omega)))<|Xa rfl<|Xr e42<|run_nil (rnd_normal ?_)
 exact ⟨ps.length - (jj + 1), by omega, i + 1, jj + 1, _, _, qs.set i p1, rfl, (fs (fs (fn (fn (fn (fs (fs (fn (fn (fn (fn (fn (fn (fn (fn (fn (fn (fn (fn (fn (fn (fn (fn (fn (fn (fn (fn (fn (fn (fn (fn (fn (fn (fn (fn (fn (fn (fn (fn (fn (fn (fn f0)))))))))))))))))))))))))))))))))))))))))), by omega, by omega, hdel.keep hp1 (by simpa using hb29) (hp.at hp1), H6.pick [0] (by decide)⟩
 refine J6<|run_nil (blk_normal ?_)
 refine J2<|Xm rfl<|OV (ex_add rfl rfl (IntWalk.i64_in _ (by omega)))<|Xa rfl<|Xr e42<|run_nil (rnd_normal ?_)
 exact ⟨ps.length - (jj + 1), by omega, i, jj + 1, _, _, qs, rfl, (fs (fs (fn (fn (fn (fs (fs (fn (fn (fn (fn (fn (fn (fn (fn (fn (fn (fn (fn (fn (fn (fn (fn (fn (fn (fn (fn (fn (fn (fn (fn (fn (fn (fn (fn (fn (fn (fn (fn (fn (fn (fn f0)))))))))))))))))))))))))))))))))))))))))), rfl, by omega, hdel.skip hp1 (by simpa using hb29), H5.pick [0] (by decide)⟩
 obtain rfl : jj = ps.length := by omega
 refine Xr e42<|J4 rfl<|J8<|rnd_exit<|blk_exit<|Rq<|Xm rfl<|Xm rfl ?_
 have hdn := hdel.done
 refine OV (ex_lo Tryz.underlying25 ty63 rfl rfl rfl (by omega) (by omega)) ?_
 rw [addn]
 have hfit : 0 + i * 7 + (ps.length - i) * 7 ≤ (qs.flatten ++ sp).length := by
   rw [List.length_append, hdel.pl.len, hqn, Nat.zero_add, ← Nat.add_mul, show i + (ps.length - i) = ps.length by omega]; omega
 refine ops_clear Tryz.underlying25 ty63 H2 0 rfl rfl hfit rfl<|fun w3 H3=>Xr e42<|Rq<|Xm rfl<|Xm rfl<|OV (ex_hi Tryz.underlying25 ty63 rfl rfl rfl (by omega))<|Xa rfl<|Xr e42<|J5<|FN1 rfl rfl ?_
 have hpl := putAt_len (cs := qs.flatten ++ sp) (vs := initL [.int .i64 0, .int .i64 0, .bool false, .int .i64 0, .int .i64 0, .int .i64 0, .int .i64 0] (ps.length - i)) (o := 0 + i * 7) (by rw [initL_length]; exact hfit)
 rw [hdel.cells rfl] at hpl
 have HZ := H3
 change Hp _ _ _ [((some gx, 63, putAt (qs.flatten ++ sp) (0 + i * 7) _) : Ent)] at HZ
 rw [hdel.cells rfl] at HZ
 refine ⟨_, by rw [hdn.2], ?_, HZ⟩
 rw [hpl, List.length_append, List.length_append, hdel.pl.len, hp.len, hqn]
end Go.Proofs.YtbninklfoogmdaaGreat
