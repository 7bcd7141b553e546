/- Walks of layer 2, printed by wip/gen/codec.py. -/
import Derived.Test.YtbninklfoogmdaaGreatNf
import Derived.Test.YtbninklfoogmdaaGreatVk
import Derived.Test.YtbninklfoogmdaaGreatCodecA
import Derived.Test.YtbninklfoogmdaaGreatMit
namespace Go.Proofs.YtbninklfoogmdaaGreat
open Go Go.RowKit
set_option linter.unusedVariables false
attribute [local irreducible] Still Ops Does Cd
theorem pl36 : placesOf Tryz.prog 36 = some [(0, 1), (1, 1)] := by kernel_rfl
theorem pl39 : placesOf Tryz.prog 39 = some [(0, 1), (1, 2), (3, 1)] := by kernel_rfl
theorem pl41 : placesOf Tryz.prog 41 = some [(0, 1), (1, 1)] := by kernel_rfl
theorem pl43 : placesOf Tryz.prog 43 = some [(0, 1), (1, 1), (2, 1), (3, 1)] := by kernel_rfl
theorem pl63 : placesOf Tryz.prog 63 = some [(0, 1), (1, 1), (2, 1), (3, 4)] := by kernel_rfl
theorem pl61 : placesOf Tryz.prog 61 = some [(0, 1), (1, 1), (2, 1), (3, 1)] := by kernel_rfl
theorem pl57 : placesOf Tryz.prog 57 = some [(0, 2), (2, 1), (3, 1), (4, 1), (5, 1)] := by kernel_rfl
theorem pl27 : placesOf Tryz.prog 27 = some [(0, 1), (1, 1), (2, 1)] := by kernel_rfl
theorem pl45 : placesOf Tryz.prog 45 = some [(0, 1), (1, 1), (2, 2), (4, 4), (8, 2), (10, 4), (14, 1), (15, 1)] := by kernel_rfl
theorem pl141 : placesOf Tryz.prog 141 = some [(0, 2), (2, 1), (3, 1)] := by kernel_rfl
theorem pl111 : placesOf Tryz.prog 111 = some [(0, 2), (2, 1), (3, 1)] := by kernel_rfl
set_option maxRecDepth 100000 in
set_option maxHeartbeats 4000000 in
theorem known_b (n : Int) (w0 : World) : Does Tryz.prog 106 #[.int .i64 n] w0 (fun r w' => r = .bool (decide (1 ≤ n ∧ n ≤ 5)) ∧ Hp w0 w' [] []) := by
 refine does_of Tryz.func106 Tryz.ntmps106 rfl<|cR e9 ?_
 have H := Hp.refl w0
 refine Rq<|Xa rfl<|Xr e9<|Rq<|Xm rfl<|OT (ex_geq rfl rfl) (fun hp4 => ?_) (fun hp4 => ?_)
 refine Xm rfl<|cOp e9<|OY rfl<|Xm rfl<|OY rfl<|OT (ex_leq rfl rfl) (fun hp7 => ?_) (fun hp7 => ?_)
 refine Xt rfl rfl<|Xa rfl<|Xr e9<|J5<|FN1 rfl rfl<|⟨bt (by omega), H.noRows⟩
 refine Xt rfl rfl<|Xa rfl<|Xr e9<|J5<|FN1 rfl rfl<|⟨bf (by omega), H.noRows⟩
 refine Xm rfl<|cOp e9<|OZ rfl<|OZ rfl<|Xu rfl rfl<|Xa rfl<|Xr e9<|J5<|FN1 rfl rfl<|⟨bf (by omega), H.noRows⟩
set_option maxRecDepth 100000 in
set_option maxHeartbeats 4000000 in
theorem nodes9 (n : Int) (w0 : World) : Does Tryz.prog 69 #[.int .i64 n] w0 (fun r w' => r = .bool (decide (1 ≤ n ∧ n ≤ 5)) ∧ Hp w0 w' [] []) := by
 refine does_of Tryz.func69 Tryz.ntmps69 rfl<|cR e9 ?_
 have H := Hp.refl w0
 refine Rq<|Xa rfl<|Xr e9<|Rq<|Xm rfl<|OT (ex_geq rfl rfl) (fun hp4 => ?_) (fun hp4 => ?_)
 refine Xm rfl<|cOp e9<|OY rfl<|Xm rfl<|OY rfl<|OT (ex_leq rfl rfl) (fun hp7 => ?_) (fun hp7 => ?_)
 refine Xt rfl rfl<|Xa rfl<|Xr e9<|J5<|FN1 rfl rfl<|⟨bt (by omega), H.noRows⟩
 refine Xt rfl rfl<|Xa rfl<|Xr e9<|J5<|FN1 rfl rfl<|⟨bf (by omega), H.noRows⟩
 refine Xm rfl<|cOp e9<|OZ rfl<|OZ rfl<|Xu rfl rfl<|Xa rfl<|Xr e9<|J5<|FN1 rfl rfl<|⟨bf (by omega), H.noRows⟩
set_option maxRecDepth 100000 in
set_option maxHeartbeats 4000000 in
theorem client14 (n : Int) (w0 : World) : Does Tryz.prog 22 #[.int .i64 n] w0 (fun r w' => r = .bool (decide (1 ≤ n ∧ n ≤ 8)) ∧ Hp w0 w' [] []) := by
 refine does_of Tryz.func22 Tryz.ntmps22 rfl<|cR e9 ?_
 have H := Hp.refl w0
 refine Rq<|Xa rfl<|Xr e9<|Rq<|Xm rfl<|OT (ex_geq rfl rfl) (fun hp4 => ?_) (fun hp4 => ?_)
 refine Xm rfl<|cOp e9<|OY rfl<|Xm rfl<|OY rfl<|OT (ex_leq rfl rfl) (fun hp7 => ?_) (fun hp7 => ?_)
 refine Xt rfl rfl<|Xa rfl<|Xr e9<|J5<|FN1 rfl rfl<|⟨bt (by omega), H.noRows⟩
 refine Xt rfl rfl<|Xa rfl<|Xr e9<|J5<|FN1 rfl rfl<|⟨bf (by omega), H.noRows⟩
 refine Xm rfl<|cOp e9<|OZ rfl<|OZ rfl<|Xu rfl rfl<|Xa rfl<|Xr e9<|J5<|FN1 rfl rfl<|⟨bf (by omega), H.noRows⟩
set_option maxRecDepth 100000 in
set_option maxHeartbeats 4000000 in
theorem seq14 (n : Int) (w0 : World) : Does Tryz.prog 23 #[.int .i64 n] w0 (fun r w' => r = .bool (decide (1 ≤ n ∧ n ≤ 4611686018427387904)) ∧ Hp w0 w' [] []) := by
 refine does_of Tryz.func23 Tryz.ntmps23 rfl<|cR e9 ?_
 have H := Hp.refl w0
 refine Rq<|Xa rfl<|Xr e9<|Rq<|Xm rfl<|OT (ex_geq rfl rfl) (fun hp4 => ?_) (fun hp4 => ?_)
 refine Xm rfl<|cOp e9<|OY rfl<|Xm rfl<|OY rfl<|OT (ex_leq rfl rfl) (fun hp7 => ?_) (fun hp7 => ?_)
 refine Xt rfl rfl<|Xa rfl<|Xr e9<|J5<|FN1 rfl rfl<|⟨bt (by omega), H.noRows⟩
 refine Xt rfl rfl<|Xa rfl<|Xr e9<|J5<|FN1 rfl rfl<|⟨bf (by omega), H.noRows⟩
 refine Xm rfl<|cOp e9<|OZ rfl<|OZ rfl<|Xu rfl rfl<|Xa rfl<|Xr e9<|J5<|FN1 rfl rfl<|⟨bf (by omega), H.noRows⟩
set_option maxRecDepth 100000 in
set_option maxHeartbeats 4000000 in
theorem group16 (n : Int) (w0 : World) : Does Tryz.prog 66 #[.int .i64 n] w0 (fun r w' => r = .bool (decide (1 ≤ n ∧ n < 8)) ∧ Hp w0 w' [] []) := by
 refine does_of Tryz.func66 Tryz.ntmps66 rfl<|cR e9 ?_
 have H := Hp.refl w0
 refine Rq<|Xa rfl<|Xr e9<|Rq<|Xm rfl<|OT (ex_geq rfl rfl) (fun hp4 => ?_) (fun hp4 => ?_)
 refine Xm rfl<|cOp e9<|OY rfl<|Xm rfl<|OY rfl<|OT (ex_lss rfl rfl) (fun hp7 => ?_) (fun hp7 => ?_)
 refine Xt rfl rfl<|Xa rfl<|Xr e9<|J5<|FN1 rfl rfl<|⟨bt (by omega), H.noRows⟩
 refine Xt rfl rfl<|Xa rfl<|Xr e9<|J5<|FN1 rfl rfl<|⟨bf (by omega), H.noRows⟩
 refine Xm rfl<|cOp e9<|OZ rfl<|OZ rfl<|Xu rfl rfl<|Xa rfl<|Xr e9<|J5<|FN1 rfl rfl<|⟨bf (by omega), H.noRows⟩
set_option maxRecDepth 100000 in
set_option maxHeartbeats 4000000 in
theorem group_l (n : Int) (w0 : World) : Does Tryz.prog 94 #[.int .i64 n] w0 (fun r w' => r = .bool (decide (1 ≤ n ∧ n < 8)) ∧ Hp w0 w' [] []) := by
 refine does_of Tryz.func94 Tryz.ntmps94 rfl<|cR e9 ?_
 have H := Hp.refl w0
 refine Rq<|Xa rfl<|Xr e9<|Rq<|Xm rfl<|OT (ex_geq rfl rfl) (fun hp4 => ?_) (fun hp4 => ?_)
 refine Xm rfl<|cOp e9<|OY rfl<|Xm rfl<|OY rfl<|OT (ex_lss rfl rfl) (fun hp7 => ?_) (fun hp7 => ?_)
 refine Xt rfl rfl<|Xa rfl<|Xr e9<|J5<|FN1 rfl rfl<|⟨bt (by omega), H.noRows⟩
 refine Xt rfl rfl<|Xa rfl<|Xr e9<|J5<|FN1 rfl rfl<|⟨bf (by omega), H.noRows⟩
 refine Xm rfl<|cOp e9<|OZ rfl<|OZ rfl<|Xu rfl rfl<|Xa rfl<|Xr e9<|J5<|FN1 rfl rfl<|⟨bf (by omega), H.noRows⟩
set_option maxRecDepth 100000 in
set_option maxHeartbeats 4000000 in
theorem less_b (a b : Bal) (w0 : World) : Does Tryz.prog 84 #[.agg [.int .i64 a.r, .int .i64 a.n].toArray, .agg [.int .i64 b.r, .int .i64 b.n].toArray] w0 (fun r w' => r = .bool (decide (Bal.lt a b)) ∧ Hp w0 w' [] []) := by
 refine does_of Tryz.func84 Tryz.ntmps84 rfl<|cR e24 ?_
 have H := Hp.refl w0
 refine Rq<|ops_box rfl rfl H<|fun w1 g1 H1 hg1=>ops_box rfl rfl H1<|fun w2 g2 H2 hg2=>Xa rfl<|Xr e24<|Rq<|Xf fl36_0 rfl<|OV (EL ty3 rfl (H2.cell (i := 0) rfl rfl))<|Xf fl36_0 rfl<|OV (EL ty3 rfl (H2.cell (i := 1) rfl rfl))<|cOp e24<|OT (ex_lss rfl rfl) (fun hp9 => ?_) (fun hp9 => ?_)
 refine Xm rfl<|OZ rfl<|cOp e24<|OZ rfl<|OZ rfl<|cOp e24<|OZ rfl<|OZ rfl<|cOp e24<|OZ rfl<|OZ rfl<|cOp e24<|OZ rfl<|OZ rfl<|cOp e24<|OZ rfl<|OZ rfl<|cOp e24<|OZ rfl<|Xt rfl rfl<|Xa rfl<|Xr e24<|J5<|FN1 rfl rfl<|⟨bt (by omega), H2.noRows⟩
 refine Xm rfl<|OY rfl<|Xf fl36_0 rfl<|cOp e24<|OY rfl<|OV (EL ty3 rfl (H2.cell (i := 0) rfl rfl))<|OY rfl<|Xf fl36_0 rfl<|cOp e24<|OY rfl<|OV (EL ty3 rfl (H2.cell (i := 1) rfl rfl))<|OY rfl<|OT (ex_eql rfl rfl) (fun hp15 => ?_) (fun hp15 => ?_)
 refine OY rfl<|Xm rfl<|cOp e24<|OY rfl<|Xf fl36_1 rfl<|OY rfl<|OV (EL ty3 rfl (H2.cell (i := 0) rfl rfl))<|cOp e24<|OY rfl<|Xf fl36_1 rfl<|OY rfl<|OV (EL ty3 rfl (H2.cell (i := 1) rfl rfl))<|cOp e24<|OY rfl<|OT (ex_lss rfl rfl) (fun hp21 => ?_) (fun hp21 => ?_)
 refine OY rfl<|Xt rfl rfl<|Xu rfl rfl<|Xa rfl<|Xr e24<|J5<|FN1 rfl rfl<|⟨bt (by omega), H2.noRows⟩
 refine OY rfl<|Xt rfl rfl<|Xu rfl rfl<|Xa rfl<|Xr e24<|J5<|FN1 rfl rfl<|⟨bf (by omega), H2.noRows⟩
 refine OY rfl<|Xm rfl<|cOp e24<|OZ rfl<|OZ rfl<|cOp e24<|OZ rfl<|OZ rfl<|cOp e24<|OZ rfl<|OY rfl<|Xu rfl rfl<|Xu rfl rfl<|Xa rfl<|Xr e24<|J5<|FN1 rfl rfl<|⟨bf (by omega), H2.noRows⟩
set_option maxRecDepth 100000 in
set_option maxHeartbeats 4000000 in
theorem less9 (a b : Bal) (w0 : World) : Does Tryz.prog 68 #[.agg [.int .i64 a.r, .int .i64 a.n].toArray, .agg [.int .i64 b.r, .int .i64 b.n].toArray] w0 (fun r w' => r = .bool (decide (Bal.lt a b)) ∧ Hp w0 w' [] []) := by
 refine does_of Tryz.func68 Tryz.ntmps68 rfl<|cR e20 ?_
 have H := Hp.refl w0
 refine Rq<|ops_box rfl rfl H<|fun w1 g1 H1 hg1=>ops_box rfl rfl H1<|fun w2 g2 H2 hg2=>Xa rfl<|Xr e20<|J1<|Rq<|Xf fl36_0 rfl<|OV (EL ty3 rfl (H2.cell (i := 0) rfl rfl))<|Xf fl36_0 rfl<|OV (EL ty3 rfl (H2.cell (i := 1) rfl rfl))<|cOp e20<|OT (ex_neq rfl rfl) (fun hp9 => ?_) (fun hp9 => ?_)
 refine Xr e20<|J3 rfl<|Rq<|Xf fl36_0 rfl<|OV (EL ty3 rfl (H2.cell (i := 0) rfl rfl))<|Xf fl36_0 rfl<|OV (EL ty3 rfl (H2.cell (i := 1) rfl rfl))<|cOp e20<|OT (ex_lss rfl rfl) (fun hp14 => ?_) (fun hp14 => ?_)
 refine Xa rfl<|Xr e20<|J5<|FN1 rfl rfl<|⟨bt (by omega), H2.noRows⟩
 refine Xa rfl<|Xr e20<|J5<|FN1 rfl rfl<|⟨bf (by omega), H2.noRows⟩
 refine Xr e20<|J4 rfl<|J6<|Rq<|Xf fl36_1 rfl<|OV (EL ty3 rfl (H2.cell (i := 0) rfl rfl))<|Xf fl36_1 rfl<|OV (EL ty3 rfl (H2.cell (i := 1) rfl rfl))<|cOp e20<|OT (ex_lss rfl rfl) (fun hp19 => ?_) (fun hp19 => ?_)
 refine Xa rfl<|Xr e20<|J5<|FN1 rfl rfl<|⟨bt (by omega), H2.noRows⟩
 refine Xa rfl<|Xr e20<|J5<|FN1 rfl rfl<|⟨bf (by omega), H2.noRows⟩
set_option maxRecDepth 100000 in
set_option maxHeartbeats 4000000 in
theorem may_b (a : Bal) (n : Int) (w0 : World) : Does Tryz.prog 92 #[.agg [.int .i64 a.r, .int .i64 a.n].toArray, .int .i64 n] w0 (fun r w' => r = .bool (decide (1 ≤ n ∧ n ≤ 5 ∧ 1 ≤ a.r ∧ 1 ≤ a.n ∧ a.n ≤ n)) ∧ Hp w0 w' [] []) := by
 refine does_of Tryz.func92 Tryz.ntmps92 rfl<|cR e23 ?_
 have H := Hp.refl w0
 refine Rq<|ops_box rfl rfl H<|fun w1 g1 H1 hg1=>Xa rfl<|Xr e23<|Rq<|Xm rfl<|OX (EC gf106 rfl) (known_b _ _) (fun hp6 w2 Hd => ?_) (fun hp6 w2 Hd => ?_)
 have H2 := H1.callN Hd
 refine Xm rfl<|cOp e23<|OY rfl<|Xf fl36_0 rfl<|OY rfl<|OV (EL ty3 rfl (H2.cell (i := 0) rfl rfl))<|cOp e23<|OY rfl<|OT (ex_geq rfl rfl) (fun hp10 => ?_) (fun hp10 => ?_)
 refine Xt rfl rfl<|Xm rfl<|cOp e23<|OY rfl<|Xf fl36_1 rfl<|OY rfl<|OV (EL ty3 rfl (H2.cell (i := 0) rfl rfl))<|cOp e23<|OY rfl<|OT (ex_geq rfl rfl) (fun hp15 => ?_) (fun hp15 => ?_)
 refine Xt rfl rfl<|Xm rfl<|cOp e23<|OY rfl<|Xf fl36_1 rfl<|OY rfl<|OV (EL ty3 rfl (H2.cell (i := 0) rfl rfl))<|cOp e23<|OY rfl<|Xm rfl<|OY rfl<|OT (ex_leq rfl rfl) (fun hp21 => ?_) (fun hp21 => ?_)
 refine Xt rfl rfl<|Xa rfl<|Xr e23<|J5<|FN1 rfl rfl<|⟨bt (by omega), H2.noRows⟩
 refine Xt rfl rfl<|Xa rfl<|Xr e23<|J5<|FN1 rfl rfl<|⟨bf (by omega), H2.noRows⟩
 refine Xt rfl rfl<|Xm rfl<|cOp e23<|OZ rfl<|OZ rfl<|cOp e23<|OZ rfl<|OZ rfl<|Xu rfl rfl<|Xa rfl<|Xr e23<|J5<|FN1 rfl rfl<|⟨bf (by omega), H2.noRows⟩
 refine Xt rfl rfl<|Xm rfl<|cOp e23<|OZ rfl<|OZ rfl<|cOp e23<|OZ rfl<|Xu rfl rfl<|Xm rfl<|cOp e23<|OZ rfl<|OZ rfl<|cOp e23<|OZ rfl<|OZ rfl<|Xu rfl rfl<|Xa rfl<|Xr e23<|J5<|FN1 rfl rfl<|⟨bf (by omega), H2.noRows⟩
 have H2 := H1.callN Hd
 refine Xm rfl<|cOp e23<|OZ rfl<|OZ rfl<|cOp e23<|OZ rfl<|Xu rfl rfl<|Xm rfl<|cOp e23<|OZ rfl<|OZ rfl<|cOp e23<|OZ rfl<|Xu rfl rfl<|Xm rfl<|cOp e23<|OZ rfl<|OZ rfl<|cOp e23<|OZ rfl<|OZ rfl<|Xu rfl rfl<|Xa rfl<|Xr e23<|J5<|FN1 rfl rfl<|⟨bf (by omega), H2.noRows⟩
set_option maxRecDepth 100000 in
set_option maxHeartbeats 4000000 in
theorem may9 (a : Bal) (n : Int) (w0 : World) : Does Tryz.prog 46 #[.agg [.int .i64 a.r, .int .i64 a.n].toArray, .int .i64 n] w0 (fun r w' => r = .bool (decide (1 ≤ n ∧ n ≤ 5 ∧ 1 ≤ a.r ∧ 1 ≤ a.n ∧ a.n ≤ n)) ∧ Hp w0 w' [] []) := by
 refine does_of Tryz.func46 Tryz.ntmps46 rfl<|cR e23 ?_
 have H := Hp.refl w0
 refine Rq<|ops_box rfl rfl H<|fun w1 g1 H1 hg1=>Xa rfl<|Xr e23<|Rq<|Xm rfl<|OX (EC gf69 rfl) (nodes9 _ _) (fun hp6 w2 Hd => ?_) (fun hp6 w2 Hd => ?_)
 have H2 := H1.callN Hd
 refine Xm rfl<|cOp e23<|OY rfl<|Xf fl36_1 rfl<|OY rfl<|OV (EL ty3 rfl (H2.cell (i := 0) rfl rfl))<|cOp e23<|OY rfl<|OT (ex_geq rfl rfl) (fun hp10 => ?_) (fun hp10 => ?_)
 refine Xt rfl rfl<|Xm rfl<|cOp e23<|OY rfl<|Xf fl36_1 rfl<|OY rfl<|OV (EL ty3 rfl (H2.cell (i := 0) rfl rfl))<|cOp e23<|OY rfl<|Xm rfl<|OY rfl<|OT (ex_leq rfl rfl) (fun hp16 => ?_) (fun hp16 => ?_)
 refine Xt rfl rfl<|Xm rfl<|cOp e23<|OY rfl<|Xf fl36_0 rfl<|OY rfl<|OV (EL ty3 rfl (H2.cell (i := 0) rfl rfl))<|cOp e23<|OY rfl<|OT (ex_geq rfl rfl) (fun hp21 => ?_) (fun hp21 => ?_)
 refine Xt rfl rfl<|Xa rfl<|Xr e23<|J5<|FN1 rfl rfl<|⟨bt (by omega), H2.noRows⟩
 refine Xt rfl rfl<|Xa rfl<|Xr e23<|J5<|FN1 rfl rfl<|⟨bf (by omega), H2.noRows⟩
 refine Xt rfl rfl<|Xm rfl<|cOp e23<|OZ rfl<|OZ rfl<|cOp e23<|OZ rfl<|Xu rfl rfl<|Xa rfl<|Xr e23<|J5<|FN1 rfl rfl<|⟨bf (by omega), H2.noRows⟩
 refine Xt rfl rfl<|Xm rfl<|cOp e23<|OZ rfl<|OZ rfl<|cOp e23<|OZ rfl<|OZ rfl<|Xu rfl rfl<|Xm rfl<|cOp e23<|OZ rfl<|OZ rfl<|cOp e23<|OZ rfl<|Xu rfl rfl<|Xa rfl<|Xr e23<|J5<|FN1 rfl rfl<|⟨bf (by omega), H2.noRows⟩
 have H2 := H1.callN Hd
 refine Xm rfl<|cOp e23<|OZ rfl<|OZ rfl<|cOp e23<|OZ rfl<|Xu rfl rfl<|Xm rfl<|cOp e23<|OZ rfl<|OZ rfl<|cOp e23<|OZ rfl<|OZ rfl<|Xu rfl rfl<|Xm rfl<|cOp e23<|OZ rfl<|OZ rfl<|cOp e23<|OZ rfl<|Xu rfl rfl<|Xa rfl<|Xr e23<|J5<|FN1 rfl rfl<|⟨bf (by omega), H2.noRows⟩
set_option maxRecDepth 100000 in
set_option maxHeartbeats 4000000 in
theorem real_a (a : Bal) (w0 : World) : Does Tryz.prog 107 #[.agg [.int .i64 a.r, .int .i64 a.n].toArray] w0 (fun r w' => r = .bool (decide (1 ≤ a.r ∧ 1 ≤ a.n)) ∧ Hp w0 w' [] []) := by
 refine does_of Tryz.func107 Tryz.ntmps107 rfl<|cR e11 ?_
 have H := Hp.refl w0
 refine Rq<|ops_box rfl rfl H<|fun w1 g1 H1 hg1=>Xa rfl<|Xr e11<|Rq<|Xf fl36_0 rfl<|OV (EL ty3 rfl (H1.cell (i := 0) rfl rfl))<|OT (ex_geq rfl rfl) (fun hp5 => ?_) (fun hp5 => ?_)
 refine Xm rfl<|cOp e11<|OY rfl<|Xf fl36_1 rfl<|OY rfl<|OV (EL ty3 rfl (H1.cell (i := 0) rfl rfl))<|cOp e11<|OY rfl<|OT (ex_geq rfl rfl) (fun hp9 => ?_) (fun hp9 => ?_)
 refine Xt rfl rfl<|Xa rfl<|Xr e11<|J5<|FN1 rfl rfl<|⟨bt (by omega), H1.noRows⟩
 refine Xt rfl rfl<|Xa rfl<|Xr e11<|J5<|FN1 rfl rfl<|⟨bf (by omega), H1.noRows⟩
 refine Xm rfl<|cOp e11<|OZ rfl<|OZ rfl<|cOp e11<|OZ rfl<|Xu rfl rfl<|Xa rfl<|Xr e11<|J5<|FN1 rfl rfl<|⟨bf (by omega), H1.noRows⟩
set_option maxRecDepth 100000 in
set_option maxHeartbeats 4000000 in
theorem turn10 (a : Bal) (w0 : World) : Does Tryz.prog 70 #[.agg [.int .i64 a.r, .int .i64 a.n].toArray] w0 (fun r w' => r = .bool (decide (1 ≤ a.r ∧ 1 ≤ a.n)) ∧ Hp w0 w' [] []) := by
 refine does_of Tryz.func70 Tryz.ntmps70 rfl<|cR e11 ?_
 have H := Hp.refl w0
 refine Rq<|ops_box rfl rfl H<|fun w1 g1 H1 hg1=>Xa rfl<|Xr e11<|Rq<|Xf fl36_0 rfl<|OV (EL ty3 rfl (H1.cell (i := 0) rfl rfl))<|OT (ex_geq rfl rfl) (fun hp5 => ?_) (fun hp5 => ?_)
 refine Xm rfl<|cOp e11<|OY rfl<|Xf fl36_1 rfl<|OY rfl<|OV (EL ty3 rfl (H1.cell (i := 0) rfl rfl))<|cOp e11<|OY rfl<|OT (ex_geq rfl rfl) (fun hp9 => ?_) (fun hp9 => ?_)
 refine Xt rfl rfl<|Xa rfl<|Xr e11<|J5<|FN1 rfl rfl<|⟨bt (by omega), H1.noRows⟩
 refine Xt rfl rfl<|Xa rfl<|Xr e11<|J5<|FN1 rfl rfl<|⟨bf (by omega), H1.noRows⟩
 refine Xm rfl<|cOp e11<|OZ rfl<|OZ rfl<|cOp e11<|OZ rfl<|Xu rfl rfl<|Xa rfl<|Xr e11<|J5<|FN1 rfl rfl<|⟨bf (by omega), H1.noRows⟩
set_option maxRecDepth 100000 in
set_option maxHeartbeats 4000000 in
theorem key15 (s : Blk) (w0 : World) : Does Tryz.prog 67 #[strV s] w0 (fun r w' => r = .bool (decide (1 ≤ s.length ∧ s.length ≤ 16)) ∧ Hp w0 w' [] []) := by
 refine does_of Tryz.func67 Tryz.ntmps67 rfl<|cR e11 ?_
 have H := Hp.refl w0
 refine Rq<|Xa rfl<|Xr e11<|Rq<|Xm rfl<|OV (ex_len_strV Tryz.underlying9 rfl)<|OT (ex_geq rfl rfl) (fun hp5 => ?_) (fun hp5 => ?_)
 refine Xm rfl<|cOp e11<|OY rfl<|Xm rfl<|OY rfl<|OV (ex_len_strV Tryz.underlying9 rfl)<|cOp e11<|OY rfl<|OT (ex_leq rfl rfl) (fun hp9 => ?_) (fun hp9 => ?_)
 refine Xt rfl rfl<|Xa rfl<|Xr e11<|J5<|FN1 rfl rfl<|⟨bt (by omega), H.noRows⟩
 refine Xt rfl rfl<|Xa rfl<|Xr e11<|J5<|FN1 rfl rfl<|⟨bf (by omega), H.noRows⟩
 refine Xm rfl<|cOp e11<|OZ rfl<|OZ rfl<|cOp e11<|OZ rfl<|Xu rfl rfl<|Xa rfl<|Xr e11<|J5<|FN1 rfl rfl<|⟨bf (by omega), H.noRows⟩
set_option maxRecDepth 100000 in
set_option maxHeartbeats 4000000 in
theorem may_l (a : Rt) (w0 : World) : Does Tryz.prog 75 #[.agg [.int .i64 a.g, strV a.key, .int .i64 a.lease, .int .i64 a.net].toArray] w0 (fun r w' => r = .bool (decide (mayR a)) ∧ Hp w0 w' [] []) := by
 refine does_of Tryz.func75 Tryz.ntmps75 rfl<|cR e23 ?_
 have H := Hp.refl w0
 refine Rq<|ops_box rfl rfl H<|fun w1 g1 H1 hg1=>Xa rfl<|Xr e23<|Rq<|Xf fl43_0 rfl<|OV (EL ty3 rfl (H1.cell (i := 0) rfl rfl))<|OX (EC gf94 rfl) (group_l _ _) (fun hp5 w2 Hd => ?_) (fun hp5 w2 Hd => ?_)
 have H2 := H1.callN Hd
 refine Xm rfl<|cOp e23<|OY rfl<|Xf fl43_1 rfl<|OY rfl<|OV (EL ty9 rfl (H2.cell (i := 0) rfl rfl))<|cOp e23<|OY rfl<|OV (ex_len_strV Tryz.underlying9 rfl)<|OY rfl<|OT (ex_geq rfl rfl) (fun hp10 => ?_) (fun hp10 => ?_)
 refine Xt rfl rfl<|Xm rfl<|cOp e23<|OY rfl<|Xf fl43_1 rfl<|OY rfl<|OV (EL ty9 rfl (H2.cell (i := 0) rfl rfl))<|cOp e23<|OY rfl<|OV (ex_len_strV Tryz.underlying9 rfl)<|OY rfl<|OT (ex_leq rfl rfl) (fun hp16 => ?_) (fun hp16 => ?_)
 refine Xt rfl rfl<|Xm rfl<|cOp e23<|OY rfl<|Xf fl43_2 rfl<|OY rfl<|OV (EL ty3 rfl (H2.cell (i := 0) rfl rfl))<|cOp e23<|OY rfl<|OT (ex_geq rfl rfl) (fun hp21 => ?_) (fun hp21 => ?_)
 refine Xt rfl rfl<|Xa rfl<|Xr e23<|J5<|FN1 rfl rfl<|⟨bt (by omega), H2.noRows⟩
 refine Xt rfl rfl<|Xa rfl<|Xr e23<|J5<|FN1 rfl rfl<|⟨bf (by omega), H2.noRows⟩
 refine Xt rfl rfl<|Xm rfl<|cOp e23<|OZ rfl<|OZ rfl<|cOp e23<|OZ rfl<|Xu rfl rfl<|Xa rfl<|Xr e23<|J5<|FN1 rfl rfl<|⟨bf (by omega), H2.noRows⟩
 refine Xt rfl rfl<|Xm rfl<|cOp e23<|OZ rfl<|OZ rfl<|cOp e23<|OZ rfl<|OZ rfl<|Xu rfl rfl<|Xm rfl<|cOp e23<|OZ rfl<|OZ rfl<|cOp e23<|OZ rfl<|Xu rfl rfl<|Xa rfl<|Xr e23<|J5<|FN1 rfl rfl<|⟨bf (by omega), H2.noRows⟩
 have H2 := H1.callN Hd
 refine Xm rfl<|cOp e23<|OZ rfl<|OZ rfl<|cOp e23<|OZ rfl<|OZ rfl<|Xu rfl rfl<|Xm rfl<|cOp e23<|OZ rfl<|OZ rfl<|cOp e23<|OZ rfl<|OZ rfl<|Xu rfl rfl<|Xm rfl<|cOp e23<|OZ rfl<|OZ rfl<|cOp e23<|OZ rfl<|Xu rfl rfl<|Xa rfl<|Xr e23<|J5<|FN1 rfl rfl<|⟨bf (by omega), H2.noRows⟩
set_option maxRecDepth 100000 in
set_option maxHeartbeats 4000000 in
theorem may16 (a : Rt) (w0 : World) : Does Tryz.prog 39 #[.agg [.int .i64 a.g, strV a.key, .int .i64 a.lease, .int .i64 a.net].toArray] w0 (fun r w' => r = .bool (decide (mayR a)) ∧ Hp w0 w' [] []) := by
 refine does_of Tryz.func39 Tryz.ntmps39 rfl<|cR e16 ?_
 have H := Hp.refl w0
 refine Rq<|ops_box rfl rfl H<|fun w1 g1 H1 hg1=>Xa rfl<|Xr e16<|Rq<|Xf fl43_0 rfl<|OV (EL ty3 rfl (H1.cell (i := 0) rfl rfl))<|OX (EC gf66 rfl) (group16 _ _) (fun hp5 w2 Hd => ?_) (fun hp5 w2 Hd => ?_)
 have H2 := H1.callN Hd
 refine Xm rfl<|cOp e16<|OY rfl<|Xf fl43_1 rfl<|OY rfl<|OV (EL ty9 rfl (H2.cell (i := 0) rfl rfl))<|cOp e16<|OY rfl<|OX (EC gf67 rfl) (key15 _ _) (fun hp9 w3 Hd => ?_) (fun hp9 w3 Hd => ?_)
 have H3 := H2.callN Hd
 refine Xt rfl rfl<|Xm rfl<|cOp e16<|OY rfl<|Xf fl43_2 rfl<|OY rfl<|OV (EL ty3 rfl (H3.cell (i := 0) rfl rfl))<|cOp e16<|OY rfl<|OT (ex_geq rfl rfl) (fun hp14 => ?_) (fun hp14 => ?_)
 refine Xt rfl rfl<|Xa rfl<|Xr e16<|J5<|FN1 rfl rfl<|⟨bt (by omega), H3.noRows⟩
 refine Xt rfl rfl<|Xa rfl<|Xr e16<|J5<|FN1 rfl rfl<|⟨bf (by omega), H3.noRows⟩
 have H3 := H2.callN Hd
 refine Xt rfl rfl<|Xm rfl<|cOp e16<|OZ rfl<|OZ rfl<|cOp e16<|OZ rfl<|Xu rfl rfl<|Xa rfl<|Xr e16<|J5<|FN1 rfl rfl<|⟨bf (by omega), H3.noRows⟩
 have H2 := H1.callN Hd
 refine Xm rfl<|cOp e16<|OZ rfl<|OZ rfl<|cOp e16<|OZ rfl<|Xu rfl rfl<|Xm rfl<|cOp e16<|OZ rfl<|OZ rfl<|cOp e16<|OZ rfl<|Xu rfl rfl<|Xa rfl<|Xr e16<|J5<|FN1 rfl rfl<|⟨bf (by omega), H2.noRows⟩
set_option maxRecDepth 100000 in
set_option maxHeartbeats 4000000 in
theorem below16 (a b : Rt) (w0 : World) : Does Tryz.prog 40 #[.agg [.int .i64 a.g, strV a.key, .int .i64 a.lease, .int .i64 a.net].toArray, .agg [.int .i64 b.g, strV b.key, .int .i64 b.lease, .int .i64 b.net].toArray] w0 (fun r w' => r = .bool (decide (ltR a b = true)) ∧ Hp w0 w' [] []) := by
 refine does_of Tryz.func40 Tryz.ntmps40 rfl<|cR e24 ?_
 have H := Hp.refl w0
 refine Rq<|ops_box rfl rfl H<|fun w1 g1 H1 hg1=>ops_box rfl rfl H1<|fun w2 g2 H2 hg2=>Xa rfl<|Xr e24<|Rq<|Xf fl43_0 rfl<|OV (EL ty3 rfl (H2.cell (i := 0) rfl rfl))<|Xf fl43_0 rfl<|OV (EL ty3 rfl (H2.cell (i := 1) rfl rfl))<|cOp e24<|OT (ex_lss rfl rfl) (fun hp9 => ?_) (fun hp9 => ?_)
 refine Xm rfl<|OZ rfl<|cOp e24<|OZ rfl<|OZ rfl<|cOp e24<|OZ rfl<|OZ rfl<|cOp e24<|OZ rfl<|OZ rfl<|cOp e24<|OZ rfl<|OZ rfl<|cOp e24<|OZ rfl<|OZ rfl<|cOp e24<|OZ rfl<|Xt rfl rfl<|Xa rfl<|Xr e24<|J5<|FN1 rfl rfl<|⟨bt (by simp_all [ltR]), H2.noRows⟩
 refine Xm rfl<|OY rfl<|Xf fl43_0 rfl<|cOp e24<|OY rfl<|OV (EL ty3 rfl (H2.cell (i := 0) rfl rfl))<|OY rfl<|Xf fl43_0 rfl<|cOp e24<|OY rfl<|OV (EL ty3 rfl (H2.cell (i := 1) rfl rfl))<|OY rfl<|OT (ex_eql rfl rfl) (fun hp15 => ?_) (fun hp15 => ?_)
 refine OY rfl<|Xm rfl<|cOp e24<|OY rfl<|Xf fl43_1 rfl<|OY rfl<|OV (EL ty9 rfl (H2.cell (i := 0) rfl rfl))<|cOp e24<|OY rfl<|Xf fl43_1 rfl<|OY rfl<|OV (EL ty9 rfl (H2.cell (i := 1) rfl rfl))<|cOp e24<|OY rfl<|OT (ex_lss_str rfl rfl) (fun hp21 => ?_) (fun hp21 => ?_)
 refine OY rfl<|Xt rfl rfl<|Xu rfl rfl<|Xa rfl<|Xr e24<|J5<|FN1 rfl rfl<|⟨bt (by simp_all [ltR]), H2.noRows⟩
 refine OY rfl<|Xt rfl rfl<|Xu rfl rfl<|Xa rfl<|Xr e24<|J5<|FN1 rfl rfl<|⟨bf (by simp_all [ltR]), H2.noRows⟩
 refine OY rfl<|Xm rfl<|cOp e24<|OZ rfl<|OZ rfl<|cOp e24<|OZ rfl<|OZ rfl<|cOp e24<|OZ rfl<|OY rfl<|Xu rfl rfl<|Xu rfl rfl<|Xa rfl<|Xr e24<|J5<|FN1 rfl rfl<|⟨bf (by simp_all [ltR]), H2.noRows⟩
end Go.Proofs.YtbninklfoogmdaaGreat
