/- Walks of layer 2, printed by wip/gen/codec.py. -/
import Derived.Test.YtbninklfoogmdaaGreatNf
import Derived.Test.YtbninklfoogmdaaGreatVaN
import Derived.Test.YtbninklfoogmdaaGreatVu
namespace Go.Proofs.YtbninklfoogmdaaGreat
open Go Go.RowKit
set_option linter.unusedVariables false
attribute [local irreducible] Still Ops Does Cd
set_option maxRecDepth 100000 in
set_option maxHeartbeats 4000000 in
theorem awake_v (w0 : World) : Does Tryz.prog 7 #[] w0 (fun r w' => r = .bool (decide (True)) ∧ Hp w0 w' [] []) := by
 refine does_of Tryz.func7 Tryz.ntmps7 rfl<|cR e27 ?_
 have H := Hp.refl w0
 refine Rq<|Xa rfl<|Xr e27<|Rq<|OV (EB ty36 pl36 rfl rfl)<|OV (EB ty45 pl45 rfl rfl)<|ops_buildSlice Tryz.underlying22 ty45 H (cs := [.int .i64 1, .int .i64 1, .int .i64 2, .int .i64 1, .int .i64 0, .int .i64 0, .int .i64 0, .slice none 0 0, .int .i64 0, .slice none 0 0, .int .i64 0, .string ⟨#[]⟩, .int .i64 0, .int .i64 0, .int .i64 0, .int .i64 0]) rfl (by decide) rfl<|fun w1 g1 H1 hg1=>?_
 have hl := Sl.row (R := NtR w1 (fun _ => True)) (xs := [awN]) (ok := fun _ => True) H1 (i := 0) (sp := []) (ps := [[.int .i64 1, .int .i64 1, .int .i64 2, .int .i64 1, .int .i64 0, .int .i64 0, .int .i64 0, .slice none 0 0, .int .i64 0, .slice none 0 0, .int .i64 0, .string ⟨#[]⟩, .int .i64 0, .int .i64 0, .int .i64 0, .int .i64 0]]) rfl (Pl.one rfl) (by decide) (All2.one ⟨none, 0, none, 0, rfl, Bs.none _ _, Bs.none _ _⟩) (fun _ _ => trivial)
 refine OQ (EC gf6 rfl) (replay_v _ 1 [awN] _ _ hl (by decide)) ?_
 rintro _ w2 ⟨cs, e, b9, rfl, hbo, hrep, Hd⟩
 obtain ⟨hb9, rfl⟩ : b9 = awB ∧ e = 0 := by
   rcases hrep with ⟨h1, h2, _⟩ | ⟨h1, _⟩
   · rw [awB_eq] at h1; cases h1; exact ⟨rfl, h2⟩
   · rw [awB_eq] at h1; cases h1
 subst hb9
 obtain ⟨A1, k1, A2, k2, A3, k3, rfl, hv1, hv2, hv3⟩ := hbo
 have H2 := H1.callN Hd
 obtain ⟨ps, hp, hr, ha, h2⟩ := id hv1
 obtain ⟨a1, ha1⟩ := hr.some_ (by decide)
 subst ha1
 obtain ⟨p1, hp1, hR⟩ := h2.get (i := 1) (b := awS) rfl
 obtain ⟨C1, q1, C2, q2, C3, q3, rfl, _, _, _⟩ := hR
 have HR := H2.noRows
 replace H2 := HR.here
 refine cOp e27<|Xm rfl<|Xe rfl rfl<|Xe rfl rfl<|OA ty27 H2<|fun w3 g3 H3 hg3=>cOp e27<|OS ty27 H3 0 rfl rfl rfl rfl rfl (by first | decide | (simp; done) | simp [putAt]) rfl<|fun w4 H4=>Xa rfl<|Xr e27<|Rq<|Xm rfl<|OT1 (ex_eql rfl rfl) (rfl)<|Xm rfl<|cOp e27<|OY rfl<|Xf fl27_0 rfl<|OY rfl<|OV (EL ty23 rfl (H4.cell (i := 0) rfl rfl))<|cOp e27<|OY rfl<|OV (ES Tryz.underlying23 rfl)<|OY rfl<|OT1 (ex_eql rfl rfl) (rfl)<|Xt rfl rfl<|Xm rfl<|cOp e27<|OY rfl<|Xf fl27_0 rfl<|OY rfl<|OV (EL ty23 rfl (H4.cell (i := 0) rfl rfl))<|cOp e27<|OY rfl<|OV (EI Tryz.underlying23 ty57 rfl rfl (len := 8) (i := 1) rfl (by decide) rfl)<|OY rfl<|OV (ex_fieldAddrA fl57_0 rfl)<|cOp e27 ?_
 refine OY rfl<|OV (ex_fieldAddrB fl36_0 rfl)<|OY rfl<|OV (EL ty3 rfl (((hr.to0 H4).elem hp hp1) 0 _ rfl))<|cOp e27<|OY rfl<|OT1 (ex_eql rfl rfl) (rfl)<|Xt rfl rfl<|Xa rfl<|Xr e27<|J5<|FN1 rfl rfl<|⟨bt trivial, (HR.all H4).noRows⟩
end Go.Proofs.YtbninklfoogmdaaGreat
