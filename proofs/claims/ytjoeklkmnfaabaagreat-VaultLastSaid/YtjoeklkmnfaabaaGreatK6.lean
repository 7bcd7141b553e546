/-
  Parts of the walk, one behind the other.
-/
import Derived.Test.YtjoeklkmnfaabaaGreatK5
import Derived.WalkKit
import Derived.ProofKit
import Derived.OpenShut
import Derived.Carry
import Derived.SizedLaws
namespace Go.Proofs.YtjoeklkmnfaabaaGreat
set_option maxRecDepth 100000
set_option maxHeartbeats 16000000
open Go Go.RowKit
set_option linter.unusedVariables false
attribute [local irreducible] yT Ops zP Cd
theorem NQ (p:Bal) (first:Int) (A:Option Addr) (k:Nat) (l:List Vt) (ok:Nat→Prop) (w0:World) (hl:Sl (Et w0 ok) 4 w0 ok A l) (hn:l.length≤1000000000000) (hf:-4611686018427387904≤first∧first≤4611686018427387904):zP Tryz.prog 140 #[.agg [.int .i64 p.r,.int .i64 p.n].toArray,.int .i64 first,.slice A l.length k] w0 (fun r w'=>∃ a:Option Addr,r=.pointer a∧(oL p first l=true→∃ x,a=some x)∧(oL p first l=false→a=none)∧Hp w0 w' [] []):=by
 refine zE Tryz.func140 Tryz.ntmps140 Y<|cR Cc ?_
 have H:=Hp.refl w0
 obtain⟨ps,hp,hr,ha,h2⟩:=hl
 have hlen:=h2.len
 refine Rq<|yA Y Y H<|fun w1 gp H1 _=>Xa Y<|Xr Cc<|J1<|Rq<|Xm Y<|OT (zQ Y Y) (fun hp11=>?_) (fun hp11=>?_)
 refine Xm Y<|Aa Cc<|Oz 2 Y<|Xt Y Y ?_
 have m3:=()
 rotate_left 1
 refine Xm Y<|Aa Cc<|OY Y<|Xm Y<|OY Y<|OT (yO Y Y) (fun hp14=>?_) (fun hp14=>?_)
 refine Xu Y Y ?_
 have m3:=()
 rotate_left 1
 refine Xu Y Y<|Xm Y<|Aa Cc<|OY Y<|OV (EN wX Y (vs:=[.int .i64 p.r,.int .i64 p.n]) Y (H1.Ad (i:=0) Y Y))<|OY Y<|OV (EB wX BG Y Y)<|Aa Cc<|OY Y<|OT (sB Y Y) (fun hp19=>?_) (fun hp19=>?_)
 refine OY Y<|Xm Y<|OY Y<|OV (EN wX Y (vs:=[.int .i64 p.r,.int .i64 p.n]) Y (H1.Ad (i:=0) Y Y))<|Aa Cc<|OY Y<|OX (EC OG Y) (FB _ _) (fun Jm w2 Hd=>?_) (fun Jm w2 Hd=>?_)
 have H2:=H1.Af Hd
 refine OY Y<|Xn Y<|OY Y<|Xt Y Y<|Xu Y Y<|Xr Cc<|J4 Y<|J6<|Rq<|Xm Y<|OV (uW Y Y (IntWalk.i64_in _ (by omega)))<|Xa Y<|Xr Cc<|J1<|Rq<|Xa Y<|Xr Cc<|J7<|zU (fun nQ lQ w=>∃ (i:Nat) (y m:Int),l.length - i=nQ∧xN (Dj [(1,.int .i64 first),(2,.slice A l.length k),(3,.pointer (some ⟨gp,0,none⟩)),(7,.int .i64 m),(8,.int .i64 y)] 0 75) lQ∧y=(i:Int)∧i≤l.length∧uB p first first l=uB p first (m+1) (l.drop i)∧first≤m+1∧m≤first+16∧Hp w0 w [] [((some gp,75,[.int .i64 p.r,.int .i64 p.n]):Ent)]) (l.length) ?_ ?_
 exact⟨0,_,first - 1,Y,(Ez Y Y Y Y Y Y),Y,Nat.zero_le _,by rw[Int.sub_add_cancel];rfl,by omega,by omega,H2⟩
 rintro nQ lQ w3 ⟨i,y,m,rfl,hfit,rfl,hi,hinv,hfm,hfm2,H3⟩
 obtain⟨j,rfl⟩:=hfit.open
 refine cR Cc ?_
 clear hfit
 have HB:=H3
 replace H3:=HB.here
 refine J1<|Rq<|Xm Y<|Xm Y<|OV (ES Tryz.underlying94 Y)<|OT (zQ Y Y) (fun Ep=>?_) (fun Ep=>?_)
 have hil:i < l.length:=by omega
 obtain⟨x,hx⟩:=yM hil
 obtain⟨p1,hp1,hR⟩:=h2.get hx
 obtain⟨Ax,kx,rfl,hbx⟩:=hR
 obtain⟨a1,ha1⟩:=hr.some_ (by omega)
 subst ha1
 refine Xr Cc<|J3 Y<|J6<|J1<|J7<|Rq<|Xm Y<|Xm Y<|OV (EI Tryz.underlying94 yZ Y Y Y hil Y)<|OV (EN yZ Y (vs:=[.int .i64 x.slot,.int .i64 x.b.r,.int .i64 x.b.n,.slice Ax x.val.length kx]) Y ((hr.to0 (HB.all H3)).elem hp hp1))<|Aa Cc<|OA yZ H3<|fun w4 g4 H4 hg4=>OS yZ H4 1 Y Y Y Y Y (by first|exact NL Y|simp[zH]) Y<|fun w5 H5=>Xr Cc<|J1<|Rq<|Xf vB Y<|OV (EL ty3 Y (H5.cell (i:=1) Y Y))<|Xm Y<|OT (tB Y Y) (fun hp41=>?_) (fun hp41=>?_)
 refine Xm Y<|Aa Cc<|Oz 5 Y<|Aa Cc<|Xt Y Y ?_
 have m1:=()
 rotate_left 1
 refine Xm Y<|Aa Cc<|OY Y<|Xf vB Y<|OY Y<|OV (EL ty3 Y (H5.cell (i:=1) Y Y))<|Aa Cc<|OY Y<|Xm Y<|OY Y<|OV (zL Y Y (IntWalk.i64_in _ (by omega)))<|Aa Cc<|OY Y<|OT (wL Y Y) (fun Gf=>?_) (fun Gf=>?_)
 refine Xu Y Y ?_
 have m1:=()
 rotate_left 1
 refine Xu Y Y<|Xm Y<|Aa Cc<|OY Y<|Xf tZ Y<|OY Y<|OV (EN wX Y (vs:=[.int .i64 x.b.r,.int .i64 x.b.n]) Y (H5.Ad (i:=1) Y Y))<|Aa Cc<|OY Y<|OX (EC OG Y) (FB _ _) (fun Ey w6 Hd=>?_) (fun Ey w6 Hd=>?_)
 have H6:=H5.Af Hd
 refine OY Y<|Xn Y<|Xu Y Y<|Xm Y<|Aa Cc<|OY Y<|OV (EN wX Y (vs:=[.int .i64 p.r,.int .i64 p.n]) Y (H6.Ad (i:=0) Y Y))<|OY Y<|Xf tZ Y<|Aa Cc<|OY Y<|OV (EN wX Y (vs:=[.int .i64 x.b.r,.int .i64 x.b.n]) Y (H6.Ad (i:=1) Y Y))<|OY Y<|OX (EC OH Y) (NS _ _ _) (fun Ot w7 Hd=>?_) (fun Ot w7 Hd=>?_)
 have H7:=H6.Af Hd
 refine Xu Y Y<|Xm Y<|Aa Cc<|Oz 4 Y<|Aa Cc<|Xt Y Y<|Xr Cc<|J3 Y<|Rq<|Xa Y<|Xr Cc<|J5<|BR<|yR<|BR<|Ak Y Y ?_
 have hno:oL p first l=false:=by rw[nB (by omega) (by omega),hinv];exact sO hx fun hh=>hh.2.2.2.2.1 Ot
 exact⟨_,Y,(fun h=>by rw[hno]at h;cases h),fun _=>Y,(HB.all H7).Ac⟩
 have H7:=H6.Af Hd
 refine Xu Y Y<|Xm Y<|Aa Cc<|OY Y<|Xf sS Y<|OY Y<|OV (EL xK Y (H7.cell (i:=1) Y Y))<|Aa Cc<|OY Y<|OV (ES Tryz.underlying73 Y)<|OY Y<|OT (yO Y Y) (fun XI=>?_) (fun XI=>?_)
 refine Xu Y Y<|Xr Cc<|J3 Y<|Rq<|Xa Y<|Xr Cc<|J5<|BR<|yR<|BR<|Ak Y Y ?_
 have hno:oL p first l=false:=by rw[nB (by omega) (by omega),hinv];exact sO hx fun hh=>by omega
 exact⟨_,Y,(fun h=>by rw[hno]at h;cases h),fun _=>Y,(HB.all H7).Ac⟩
 refine Xu Y Y<|Xr Cc<|J4 Y<|J6<|J2<|Xf vB Y<|OV (EL ty3 Y (H7.cell (i:=1) Y Y))<|Xa Y<|Xr Cc<|zA (zB ?_)
 refine J2<|Xm Y<|OV (zL Y Y (IntWalk.i64_in _ (by omega)))<|Xa Y<|Xr Cc<|zA (zI ?_)
 have hgo:=AU (p:=p) (first:=first) (m:=m+1) hx ⟨by omega,by omega,Ey.1,Ey.2,Ot,by omega⟩
 exact⟨l.length - (i+1),by omega,i+1,_,x.slot,Y,(Ez Y Y Y Y Y Y),by omega,by omega,by rw[hinv,hgo],by omega,by omega,(HB.all H7).pick [0] (by decide)⟩
 have H6:=H5.Af Hd
 refine OY Y<|Xn Y<|Xu Y Y<|Xm Y<|Aa Cc<|Oz 4 Y<|Aa Cc<|Xt Y Y<|Xm Y<|Aa Cc<|Oz 4 Y<|Aa Cc<|Xt Y Y<|Xr Cc<|J3 Y<|Rq<|Xa Y<|Xr Cc<|J5<|BR<|yR<|BR<|Ak Y Y ?_
 have hno:oL p first l=false:=by rw[nB (by omega) (by omega),hinv];exact sO hx fun hh=>Ey ⟨hh.2.2.1,hh.2.2.2.1⟩
 exact⟨_,Y,(fun h=>by rw[hno]at h;cases h),fun _=>Y,(HB.all H6).Ac⟩
 obtain rfl:i=l.length:=by omega
 refine Xr Cc<|J4 Y<|J8<|zT<|zS<|J1<|zR 6 [(true,0),(true,1),(true,2),(false,3),(true,4),(false,5),(false,6)] H3 [0] yG (by decide) (by kernel_rfl) ?_
 rintro w4 hw4
 have H4:=Hp.drew H3;rw[← hw4]at H4
 refine MP Y<|MV (fun wz hz=>EN wX Y (vs:=[.int .i64 p.r,.int .i64 p.n]) Y (hz.Ad (i:=0) Y Y))<|Zm Y Y<|Zm Y Y<|MO Y ?_
 have hon:=h2.ones fun _ _ h=>h.ones
 refine yX Tryz.underlying94 yZ (by decide) (H4.nil 77) 1 (g:=none) (n:=0) (cap:=0) (xs:=[]) (sp:=[]) Y Y Y (by decide) (by decide) (fun _=>Y) Y (hr.to0 (HB.all H4)) (xF hon) (by omega) (by omega) (by decide)<|fun w5 gv cv sv H5 _ _ _=>OE<|⟨fun hne=>H5.pick [0] (by decide),?_⟩
 refine cZ Cc<|MP Y<|MV (fun wz hz=>EB TJ TO Y Y)<|MO Y<|yA Y Y H5<|fun w6 g6 H6 Vo=>OE<|⟨fun hne=>H6.pick [0] (by decide),?_⟩
 refine cZ Cc<|MO Y<|Xa Y<|OE<|⟨fun hne=>absurd Y hne,?_⟩
 refine cZ Cc<|ME<|cR Cc<|J5<|Ak Y Y<|⟨_,Y,fun _=>⟨_,Y⟩,(fun h=>by rw[nB (by omega) (by omega),hinv,eN]at h;cases h),(HB.all H6).Ac⟩
 have H2:=H1.Af Hd
 refine OY Y<|Xn Y<|OY Y<|Xt Y Y<|Xu Y Y<|Xr Cc<|J3 Y<|Rq<|Xa Y<|Xr Cc<|J5<|Ak Y Y ?_
 have hno:oL p first l=false:=TT (by omega)
 exact⟨_,Y,(fun h=>by rw[hno]at h;cases h),fun _=>Y,H2.Ac⟩
 refine OY Y<|Xm Y<|Oz 3 Y<|Aa Cc<|OY Y<|Xu Y Y<|Xu Y Y<|Xr Cc<|J4 Y<|J6<|Rq<|Xm Y<|OV (uW Y Y (IntWalk.i64_in _ (by omega)))<|Xa Y<|Xr Cc<|J1<|Rq<|Xa Y<|Xr Cc<|J7<|zU (fun nQ lQ w=>∃ (i:Nat) (y m:Int),l.length - i=nQ∧xN (Dj [(1,.int .i64 first),(2,.slice A l.length k),(3,.pointer (some ⟨gp,0,none⟩)),(7,.int .i64 m),(8,.int .i64 y)] 0 75) lQ∧y=(i:Int)∧i≤l.length∧uB p first first l=uB p first (m+1) (l.drop i)∧first≤m+1∧m≤first+16∧Hp w0 w [] [((some gp,75,[.int .i64 p.r,.int .i64 p.n]):Ent)]) (l.length) ?_ ?_
 exact⟨0,_,first - 1,Y,(Ez Y Y Y Y Y Y),Y,Nat.zero_le _,by rw[Int.sub_add_cancel];rfl,by omega,by omega,H1⟩
 rintro nQ lQ w2 ⟨i,y,m,rfl,hfit,rfl,hi,hinv,hfm,hfm2,H2⟩
 obtain⟨j,rfl⟩:=hfit.open
 refine cR Cc ?_
 clear hfit
 have HB:=H2
 replace H2:=HB.here
 refine J1<|Rq<|Xm Y<|Xm Y<|OV (ES Tryz.underlying94 Y)<|OT (zQ Y Y) (fun Ep=>?_) (fun Ep=>?_)
 have hil:i < l.length:=by omega
 obtain⟨x,hx⟩:=yM hil
 obtain⟨p1,hp1,hR⟩:=h2.get hx
 obtain⟨Ax,kx,rfl,hbx⟩:=hR
 obtain⟨a1,ha1⟩:=hr.some_ (by omega)
 subst ha1
 refine Xr Cc<|J3 Y<|J6<|J1<|J7<|Rq<|Xm Y<|Xm Y<|OV (EI Tryz.underlying94 yZ Y Y Y hil Y)<|OV (EN yZ Y (vs:=[.int .i64 x.slot,.int .i64 x.b.r,.int .i64 x.b.n,.slice Ax x.val.length kx]) Y ((hr.to0 (HB.all H2)).elem hp hp1))<|Aa Cc<|OA yZ H2<|fun w3 g3 H3 hg3=>OS yZ H3 1 Y Y Y Y Y (by first|exact NL Y|simp[zH]) Y<|fun w4 H4=>Xr Cc<|J1<|Rq<|Xf vB Y<|OV (EL ty3 Y (H4.cell (i:=1) Y Y))<|Xm Y<|OT (tB Y Y) (fun hp41=>?_) (fun hp41=>?_)
 refine Xm Y<|Aa Cc<|Oz 5 Y<|Aa Cc<|Xt Y Y ?_
 have m2:=()
 rotate_left 1
 refine Xm Y<|Aa Cc<|OY Y<|Xf vB Y<|OY Y<|OV (EL ty3 Y (H4.cell (i:=1) Y Y))<|Aa Cc<|OY Y<|Xm Y<|OY Y<|OV (zL Y Y (IntWalk.i64_in _ (by omega)))<|Aa Cc<|OY Y<|OT (wL Y Y) (fun Gf=>?_) (fun Gf=>?_)
 refine Xu Y Y ?_
 have m2:=()
 rotate_left 1
 refine Xu Y Y<|Xm Y<|Aa Cc<|OY Y<|Xf tZ Y<|OY Y<|OV (EN wX Y (vs:=[.int .i64 x.b.r,.int .i64 x.b.n]) Y (H4.Ad (i:=1) Y Y))<|Aa Cc<|OY Y<|OX (EC OG Y) (FB _ _) (fun Ey w5 Hd=>?_) (fun Ey w5 Hd=>?_)
 have H5:=H4.Af Hd
 refine OY Y<|Xn Y<|Xu Y Y<|Xm Y<|Aa Cc<|OY Y<|OV (EN wX Y (vs:=[.int .i64 p.r,.int .i64 p.n]) Y (H5.Ad (i:=0) Y Y))<|OY Y<|Xf tZ Y<|Aa Cc<|OY Y<|OV (EN wX Y (vs:=[.int .i64 x.b.r,.int .i64 x.b.n]) Y (H5.Ad (i:=1) Y Y))<|OY Y<|OX (EC OH Y) (NS _ _ _) (fun Ot w6 Hd=>?_) (fun Ot w6 Hd=>?_)
 have H6:=H5.Af Hd
 refine Xu Y Y<|Xm Y<|Aa Cc<|Oz 4 Y<|Aa Cc<|Xt Y Y<|Xr Cc<|J3 Y<|Rq<|Xa Y<|Xr Cc<|J5<|BR<|yR<|BR<|Ak Y Y ?_
 have hno:oL p first l=false:=by rw[nB (by omega) (by omega),hinv];exact sO hx fun hh=>hh.2.2.2.2.1 Ot
 exact⟨_,Y,(fun h=>by rw[hno]at h;cases h),fun _=>Y,(HB.all H6).Ac⟩
 have H6:=H5.Af Hd
 refine Xu Y Y<|Xm Y<|Aa Cc<|OY Y<|Xf sS Y<|OY Y<|OV (EL xK Y (H6.cell (i:=1) Y Y))<|Aa Cc<|OY Y<|OV (ES Tryz.underlying73 Y)<|OY Y<|OT (yO Y Y) (fun XI=>?_) (fun XI=>?_)
 refine Xu Y Y<|Xr Cc<|J3 Y<|Rq<|Xa Y<|Xr Cc<|J5<|BR<|yR<|BR<|Ak Y Y ?_
 have hno:oL p first l=false:=by rw[nB (by omega) (by omega),hinv];exact sO hx fun hh=>by omega
 exact⟨_,Y,(fun h=>by rw[hno]at h;cases h),fun _=>Y,(HB.all H6).Ac⟩
 refine Xu Y Y<|Xr Cc<|J4 Y<|J6<|J2<|Xf vB Y<|OV (EL ty3 Y (H6.cell (i:=1) Y Y))<|Xa Y<|Xr Cc<|zA (zB ?_)
 refine J2<|Xm Y<|OV (zL Y Y (IntWalk.i64_in _ (by omega)))<|Xa Y<|Xr Cc<|zA (zI ?_)
 have hgo:=AU (p:=p) (first:=first) (m:=m+1) hx ⟨by omega,by omega,Ey.1,Ey.2,Ot,by omega⟩
 exact⟨l.length - (i+1),by omega,i+1,_,x.slot,Y,(Ez Y Y Y Y Y Y),by omega,by omega,by rw[hinv,hgo],by omega,by omega,(HB.all H6).pick [0] (by decide)⟩
 have H5:=H4.Af Hd
 refine OY Y<|Xn Y<|Xu Y Y<|Xm Y<|Aa Cc<|Oz 4 Y<|Aa Cc<|Xt Y Y<|Xm Y<|Aa Cc<|Oz 4 Y<|Aa Cc<|Xt Y Y<|Xr Cc<|J3 Y<|Rq<|Xa Y<|Xr Cc<|J5<|BR<|yR<|BR<|Ak Y Y ?_
 have hno:oL p first l=false:=by rw[nB (by omega) (by omega),hinv];exact sO hx fun hh=>Ey ⟨hh.2.2.1,hh.2.2.2.1⟩
 exact⟨_,Y,(fun h=>by rw[hno]at h;cases h),fun _=>Y,(HB.all H5).Ac⟩
 obtain rfl:i=l.length:=by omega
 refine Xr Cc<|J4 Y<|J8<|zT<|zS<|J1<|zR 6 [(true,0),(true,1),(true,2),(false,3),(true,4),(false,5),(false,6)] H2 [0] yG (by decide) (by kernel_rfl) ?_
 rintro w3 hw3
 have H3:=Hp.drew H2;rw[← hw3]at H3
 refine MP Y<|MV (fun wz hz=>EN wX Y (vs:=[.int .i64 p.r,.int .i64 p.n]) Y (hz.Ad (i:=0) Y Y))<|Zm Y Y<|Zm Y Y<|MO Y ?_
 have hon:=h2.ones fun _ _ h=>h.ones
 refine yX Tryz.underlying94 yZ (by decide) (H3.nil 77) 1 (g:=none) (n:=0) (cap:=0) (xs:=[]) (sp:=[]) Y Y Y (by decide) (by decide) (fun _=>Y) Y (hr.to0 (HB.all H3)) (xF hon) (by omega) (by omega) (by decide)<|fun w4 gv cv sv H4 _ _ _=>OE<|⟨fun hne=>H4.pick [0] (by decide),?_⟩
 refine cZ Cc<|MP Y<|MV (fun wz hz=>EB TJ TO Y Y)<|MO Y<|yA Y Y H4<|fun w5 g5 H5 hg5=>OE<|⟨fun hne=>H5.pick [0] (by decide),?_⟩
 refine cZ Cc<|MO Y<|Xa Y<|OE<|⟨fun hne=>absurd Y hne,?_⟩
 refine cZ Cc<|ME<|cR Cc<|J5<|Ak Y Y<|⟨_,Y,fun _=>⟨_,Y⟩,(fun h=>by rw[nB (by omega) (by omega),hinv,eN]at h;cases h),(HB.all H5).Ac⟩
 any_goals
  clear m3
  refine Xm Y<|Aa Cc<|Oz 8 Y<|Aa Cc<|Xt Y Y<|Xr Cc<|J3 Y<|Rq<|Xa Y<|Xr Cc<|J5<|Ak Y Y ?_
  have hno:oL p first l=false:=TU (by omega)
  exact⟨_,Y,(fun h=>by rw[hno]at h;cases h),fun _=>Y,H1.Ac⟩
 any_goals
  clear m2
  refine Xm Y<|Aa Cc<|Oz 4 Y<|Aa Cc<|Xt Y Y<|Xm Y<|Aa Cc<|Oz 4 Y<|Aa Cc<|Xt Y Y<|Xm Y<|Aa Cc<|Oz 4 Y<|Aa Cc<|Xt Y Y<|Xr Cc<|J3 Y<|Rq<|Xa Y<|Xr Cc<|J5<|BR<|yR<|BR<|Ak Y Y ?_
  have hno:oL p first l=false:=by rw[nB (by omega) (by omega),hinv];exact sO hx fun hh=>by omega
  exact⟨_,Y,(fun h=>by rw[hno]at h;cases h),fun _=>Y,(HB.all H4).Ac⟩
 any_goals
  clear m1
  refine Xm Y<|Aa Cc<|Oz 4 Y<|Aa Cc<|Xt Y Y<|Xm Y<|Aa Cc<|Oz 4 Y<|Aa Cc<|Xt Y Y<|Xm Y<|Aa Cc<|Oz 4 Y<|Aa Cc<|Xt Y Y<|Xr Cc<|J3 Y<|Rq<|Xa Y<|Xr Cc<|J5<|BR<|yR<|BR<|Ak Y Y ?_
  have hno:oL p first l=false:=by rw[nB (by omega) (by omega),hinv];exact sO hx fun hh=>by omega
  exact⟨_,Y,(fun h=>by rw[hno]at h;cases h),fun _=>Y,(HB.all H5).Ac⟩
theorem S5 (s:Sv) (A1:Option Addr) (k1:Nat) (A2:Option Addr) (k2:Nat) (A3:Option Addr) (k3:Nat) (ok:Nat→Prop) (w0:World) (hv1:Sl (Et w0 ok) 4 w0 ok A1 s.Ae) (hv2:Bs w0 ok A2 s.image) (hv3:Sl (Gs w0 ok) 2 w0 ok A3 s.entries) (hvl:s.Ae.length≤1000000000000) (Xp:s.entries.length≤2000000000000):zP Tryz.prog 96 #[.int .i64 1,.int .i64 5,.agg [.int .i64 s.p.r,.int .i64 s.p.n,.slice A1 s.Ae.length k1,.int .i64 s.index,.slice A2 s.image.length k2,.slice A3 s.entries.length k3].toArray] w0 (fun r w'=>∃ e:Int,r=.int .i64 e∧Ans (chk s) e∧Hp w0 w' [] []):=by
 refine zE Tryz.func96 Tryz.ntmps96 Y<|cR e109 ?_
 have H:=Hp.refl w0
 obtain⟨pe,hpe,hre,hae,he2⟩:=id hv3
 have hel:=he2.len
 refine Rq<|yA Y Y H<|fun w1 gs H1 _=>Xa Y<|Xr e109<|J1<|Rq<|Xm Y<|Ij (yS Y Y) (by decide)<|Xm Y<|Aa e109<|OY Y<|Xm Y<|OY Y<|Ij (yS Y Y) (by decide)<|Xt Y Y<|Xm Y<|Aa e109<|OY Y<|Xm Y<|OY Y<|Dy (yS Y Y) (by decide)<|Xt Y Y<|Xm Y<|Aa e109<|OY Y<|Xm Y<|OY Y<|Dy (zQ Y Y) (by decide)<|Xu Y Y<|Xm Y<|Aa e109<|OY Y<|Xm Y<|OY Y<|Xm Y<|Aa e109 ?_
 refine OY Y<|Dy (yO Y Y) (by decide)<|Xu Y Y<|Xr e109<|J4 Y<|J6<|J1<|Rq<|Xf vW Y<|OV (EN wX Y (vs:=[.int .i64 s.p.r,.int .i64 s.p.n]) Y (H1.Ad (i:=0) Y Y))<|OV (EB wX BG Y Y)<|OT (sB Y Y) (fun Ep=>?_) (fun Ep=>?_)
 refine Xm Y<|Aa e109<|OY Y<|Xf vW Y<|OY Y<|OV (EN wX Y (vs:=[.int .i64 s.p.r,.int .i64 s.p.n]) Y (H1.Ad (i:=0) Y Y))<|Aa e109<|OY Y<|Xm Y<|OY Y<|OX (EC gf139 Y) (may9 _ _ _) (fun hp36 w2 Hd=>?_) (fun hp36 w2 Hd=>?_)
 have H2:=H1.Af Hd
 refine OY Y<|Xn Y<|Xt Y Y<|Xm Y<|Aa e109<|OY Y<|Xf wR Y<|OY Y<|OV (EL ty3 Y (H2.cell (i:=0) Y Y))<|Aa e109<|OY Y<|OT (zQ Y Y) (fun hp42=>?_) (fun hp42=>?_)
 refine Xu Y Y<|Xm Y<|Aa e109<|Oz 3 Y<|Aa e109<|Xt Y Y ?_
 have m5:=()
 rotate_left 1
 refine Xu Y Y<|Xm Y<|Aa e109<|OY Y<|Xf wR Y<|OY Y<|OV (EL ty3 Y (H2.cell (i:=0) Y Y))<|Aa e109<|OY Y<|OT (yO Y Y) (fun Gf=>?_) (fun Gf=>?_)
 refine Xu Y Y ?_
 have m5:=()
 rotate_left 1
 refine Xu Y Y<|Xm Y<|Aa e109<|OY Y<|Xf wR Y<|OY Y<|OV (EL ty3 Y (H2.cell (i:=0) Y Y))<|Aa e109<|OY Y<|OT (xP Y Y) (fun Ey=>?_) (fun Ey=>?_)
 refine OY Y<|Xm Y<|OY Y<|Xf uU Y<|Aa e109<|OY Y<|OV (EL xK Y (H2.cell (i:=0) Y Y))<|OY Y<|OV (ES Tryz.underlying73 Y)<|Aa e109<|OY Y<|OT (yO Y Y) (fun hp57=>?_) (fun hp57=>?_)
 refine OY Y<|Xt Y Y<|Xu Y Y ?_
 have m3:=()
 rotate_left 1
 refine OY Y<|Xt Y Y ?_
 have m1:=()
 rotate_left 1
 refine OY Y<|Xm Y<|Oz 4 Y<|Aa e109<|OY Y<|Xu Y Y ?_
 have m1:=()
 rotate_left 1
 have H2:=H1.Af Hd
 refine OY Y<|Xn Y<|Xt Y Y<|Xm Y<|Aa e109<|Oz 3 Y<|Aa e109<|Xt Y Y<|Xm Y<|Aa e109<|Oz 3 Y<|Aa e109<|Xt Y Y<|Xm Y<|Aa e109<|Oz 9 Y<|Aa e109<|Xt Y Y<|Xm Y<|Aa e109<|Oz 4 Y<|Aa e109 ?_
 refine Xt Y Y<|Xr e109<|J3 Y<|Rq<|Xa Y<|Xr e109<|J5<|Ak Y Y<|⟨_,Y,Ans.no (PQ (by omega)),H2.Ac⟩
 refine Xm Y<|Aa e109<|Oz 5 Y<|Aa e109<|Xu Y Y<|Xm Y<|Aa e109<|OY Y<|Xf wR Y<|OY Y<|OV (EL ty3 Y (H1.cell (i:=0) Y Y))<|Aa e109<|OY Y<|OT (zQ Y Y) (fun hp42=>?_) (fun hp42=>?_)
 refine Xu Y Y<|Xm Y<|Aa e109<|Oz 3 Y<|Aa e109<|Xt Y Y ?_
 have m6:=()
 rotate_left 1
 refine Xu Y Y<|Xm Y<|Aa e109<|OY Y<|Xf wR Y<|OY Y<|OV (EL ty3 Y (H1.cell (i:=0) Y Y))<|Aa e109<|OY Y<|OT (yO Y Y) (fun Gf=>?_) (fun Gf=>?_)
 refine Xu Y Y ?_
 have m6:=()
 rotate_left 1
 refine Xu Y Y<|Xm Y<|Aa e109<|OY Y<|Xf wR Y<|OY Y<|OV (EL ty3 Y (H1.cell (i:=0) Y Y))<|Aa e109<|OY Y<|OT (xP Y Y) (fun Ey=>?_) (fun Ey=>?_)
 refine OY Y<|Xm Y<|OY Y<|Xf uU Y<|Aa e109<|OY Y<|OV (EL xK Y (H1.cell (i:=0) Y Y))<|OY Y<|OV (ES Tryz.underlying73 Y)<|Aa e109<|OY Y<|OT (yO Y Y) (fun hp57=>?_) (fun hp57=>?_)
 refine OY Y<|Xt Y Y<|Xu Y Y ?_
 have m4:=()
 rotate_left 1
 refine OY Y<|Xt Y Y ?_
 have m2:=()
 rotate_left 1
 refine OY Y<|Xm Y<|Oz 4 Y<|Aa e109<|OY Y<|Xu Y Y ?_
 have m2:=()
 rotate_left 1
 any_goals
  clear m6
  refine Xm Y<|Aa e109<|Oz 9 Y<|Aa e109<|Xt Y Y ?_
  have m4:=()
  rotate_left 1
 any_goals
  clear m5
  refine Xm Y<|Aa e109<|Oz 9 Y<|Aa e109<|Xt Y Y ?_
  have m3:=()
  rotate_left 1
 any_goals
  clear m4
  refine Xm Y<|Aa e109<|Oz 4 Y<|Aa e109<|Xt Y Y<|Xr e109<|J3 Y<|Rq<|Xa Y<|Xr e109<|J5<|Ak Y Y<|⟨_,Y,Ans.no (lS (by omega)),H1.Ac⟩
 any_goals
  clear m3
  refine Xm Y<|Aa e109<|Oz 4 Y<|Aa e109<|Xt Y Y<|Xr e109<|J3 Y<|Rq<|Xa Y<|Xr e109<|J5<|Ak Y Y<|⟨_,Y,Ans.no (lS (by omega)),H2.Ac⟩
 any_goals
  clear m2
  refine Xu Y Y<|Xm Y<|Aa e109<|OY Y<|Xf uU Y<|OY Y<|OV (EL xK Y (H1.cell (i:=0) Y Y))<|Aa e109<|OY Y<|OV (ES Tryz.underlying73 Y)<|OY Y<|OT (yO Y Y) (fun Lc=>?_) (fun Lc=>?_)
  refine Xu Y Y<|Xr e109<|J3 Y<|Rq<|Xa Y<|Xr e109<|J5<|Ak Y Y<|⟨_,Y,Ans.no (lS (by omega)),H1.Ac⟩
  refine Xu Y Y<|Xr e109<|J4 Y<|J6<|Rq<|Xf wR Y<|OV (EL ty3 Y (H1.cell (i:=0) Y Y))<|Xa Y<|Xr e109<|J1<|Rq<|Xa Y<|Xr e109<|J7<|zU (fun nQ lQ w=>∃ (i:Nat) (y m:Int),s.entries.length - i=nQ∧xN (Dj [(1,.int .i64 5),(5,.pointer (some ⟨gs,0,none⟩)),(7,.int .i64 m),(8,.int .i64 y)] 0 109) lQ∧y=(i:Int)∧m=s.index+i∧i≤s.entries.length∧tH s.index s.entries=tH (s.index+i) (s.entries.drop i)∧Hp w0 w [] [((some gs,97,[.int .i64 s.p.r,.int .i64 s.p.n,.slice A1 s.Ae.length k1,.int .i64 s.index,.slice A2 s.image.length k2,.slice A3 s.entries.length k3]):Ent)]) (s.entries.length) ?_ ?_
  exact⟨0,_,_,Y,(Dv Y Y Y Y Y),Y,by simp,Nat.zero_le _,by simp,H1⟩
  rintro nQ lQ w2 ⟨i,y,m,rfl,hfit,rfl,hm,hi,hinv,H2⟩
  obtain⟨j,rfl⟩:=hfit.open
  refine cR e109 ?_
  clear hfit
  refine J1<|Rq<|Xm Y<|Xf xZ Y<|OV (EL uZ Y (H2.cell (i:=0) Y Y))<|OV (ES Tryz.underlying95 Y)<|Aa e109<|OT (zQ Y Y) (fun XH=>?_) (fun XH=>?_)
  have hil:i < s.entries.length:=by omega
  obtain⟨x,hx⟩:=yM hil
  obtain⟨p1,hp1,hR⟩:=he2.get hx
  obtain⟨Ax,kx,rfl,hbx⟩:=hR
  obtain⟨a1,ha1⟩:=hre.some_ (by omega)
  subst ha1
  refine Xr e109<|J3 Y<|J6<|J1<|J7<|J1<|Rq<|Xf xZ Y<|OV (EL uZ Y (H2.cell (i:=0) Y Y))<|Xm Y<|OV (EI Tryz.underlying95 wD Y Y Y hil Y)<|Aa e109<|OV (yJ wE Y)<|OV (EL ty3 Y (((hre.to0 H2).elem hpe hp1) 0 _ Y))<|Xm Y<|OV (zL Y Y (IntWalk.i64_in _ (by omega)))<|Aa e109<|OT (yS Y Y) (fun Sj=>?_) (fun Sj=>?_)
  refine Xm Y<|Oz 3 Y<|Aa e109<|Xt Y Y<|Xm Y<|Aa e109<|Oz 8 Y<|Aa e109<|Xt Y Y<|Xr e109<|J3 Y<|Rq<|Xa Y<|Xr e109<|J5<|BR<|yR<|BR<|Ak Y Y<|⟨_,Y,Ans.no (qO (by rw[hinv];exact qN hx fun hh=>by omega)),H2.Ac⟩
  refine Xm Y<|OY Y<|Xm Y<|Aa e109<|OY Y<|OV (zL Y Y (IntWalk.i64_in _ (by omega)))<|OY Y<|OT (yO Y Y) (fun XD=>?_) (fun XD=>?_)
  refine Xu Y Y<|Xm Y<|Aa e109<|Oz 8 Y<|Aa e109<|Xt Y Y<|Xr e109<|J3 Y<|Rq<|Xa Y<|Xr e109<|J5<|BR<|yR<|BR<|Ak Y Y<|⟨_,Y,Ans.no (qO (by rw[hinv];exact qN hx fun hh=>by omega)),H2.Ac⟩
  refine Xu Y Y<|Xm Y<|Aa e109<|OY Y<|Xf xZ Y<|OY Y<|OV (EL uZ Y (H2.cell (i:=0) Y Y))<|Aa e109<|OY Y<|Xm Y<|OY Y<|OV (EI Tryz.underlying95 wD Y Y Y hil Y)<|Aa e109<|OY Y<|OV (yJ uV Y)<|OY Y<|OV (EL xK Y (((hre.to0 H2).elem hpe hp1) 1 _ Y))<|Aa e109<|OY Y<|OV (ES Tryz.underlying73 Y)<|OY Y<|OT (yO Y Y) (fun XB=>?_) (fun XB=>?_)
  refine Xu Y Y<|Xr e109<|J3 Y<|Rq<|Xa Y<|Xr e109<|J5<|BR<|yR<|BR<|Ak Y Y<|⟨_,Y,Ans.no (qO (by rw[hinv];exact qN hx fun hh=>by omega)),H2.Ac⟩
  refine Xu Y Y<|Xr e109<|J4 Y<|J6<|J2<|Xm Y<|OV (zL Y Y (IntWalk.i64_in _ (by omega)))<|Xa Y<|Xr e109<|zA (zB ?_)
  refine J2<|Xm Y<|OV (zL Y Y (IntWalk.i64_in _ (by omega)))<|Xa Y<|Xr e109<|zA (zI ?_)
  have hgo:=B7 (m:=s.index+i) hx ⟨by omega,by omega,by omega⟩
  exact⟨s.entries.length - (i+1),by omega,i+1,_,_,Y,(Dv Y Y Y Y Y),by omega,by omega,by omega,by rw[hinv,hgo];congr 1;omega,H2.pick [0] (by decide)⟩
  obtain rfl:i=s.entries.length:=by omega
  have hent:=hinv.trans dA
  subst hm
  refine Xr e109<|J4 Y<|J8<|zT<|zS<|J1<|Rq<|Xf vW Y<|OV (EN wX Y (vs:=[.int .i64 s.p.r,.int .i64 s.p.n]) Y (H2.Ad (i:=0) Y Y))<|Xm Y<|OV (zL Y Y (IntWalk.i64_in _ (by omega)))<|Aa e109<|Xf xV Y<|OV (EL uP Y (H2.cell (i:=0) Y Y))<|OQ (EC T6 Y) (NQ s.p (s.index+s.entries.length+1) A1 k1 s.Ae ok _ (hv1.Gi H2 k0) (by omega) (by omega)) ?_
  rintro _ w3 ⟨a,rfl,hyes,hno,Hd⟩
  have H3:=H2.Af Hd
  rw[← CA (by omega) (by omega) hent]at hyes hno
  refine OT (yE Tryz.underlying212 Y) (fun Ic=>?_) (fun Ic=>?_)
  refine Xr e109<|J3 rfl<|Rq<|Xa rfl<|Xr e109<|J5<|Ak rfl rfl<|⟨_,rfl,Ans.no (by cases hc:chk s with | false=>rfl | true=>obtain⟨x,hx⟩:=hyes hc;rw[hx]at Ic;cases Ic),H3.Ac⟩
  refine Xr e109<|J4 rfl<|J6<|Rq<|Xa rfl<|Xr e109<|J5<|Ak rfl rfl<|⟨_,rfl,Ans.ok (by cases hc:chk s with | true=>rfl | false=>exact absurd (hno hc) Ic),H3.Ac⟩
 any_goals
  clear m1
  refine Xu Y Y<|Xm Y<|Aa e109<|OY Y<|Xf uU Y<|OY Y<|OV (EL xK Y (H2.cell (i:=0) Y Y))<|Aa e109<|OY Y<|OV (ES Tryz.underlying73 Y)<|OY Y<|OT (yO Y Y) (fun Lc=>?_) (fun Lc=>?_)
  refine Xu Y Y<|Xr e109<|J3 Y<|Rq<|Xa Y<|Xr e109<|J5<|Ak Y Y<|⟨_,Y,Ans.no (lS (by omega)),H2.Ac⟩
  refine Xu Y Y<|Xr e109<|J4 Y<|J6<|Rq<|Xf wR Y<|OV (EL ty3 Y (H2.cell (i:=0) Y Y))<|Xa Y<|Xr e109<|J1<|Rq<|Xa Y<|Xr e109<|J7<|zU (fun nQ lQ w=>∃ (i:Nat) (y m:Int),s.entries.length - i=nQ∧xN (Dj [(1,.int .i64 5),(5,.pointer (some ⟨gs,0,none⟩)),(7,.int .i64 m),(8,.int .i64 y)] 0 109) lQ∧y=(i:Int)∧m=s.index+i∧i≤s.entries.length∧tH s.index s.entries=tH (s.index+i) (s.entries.drop i)∧Hp w0 w [] [((some gs,97,[.int .i64 s.p.r,.int .i64 s.p.n,.slice A1 s.Ae.length k1,.int .i64 s.index,.slice A2 s.image.length k2,.slice A3 s.entries.length k3]):Ent)]) (s.entries.length) ?_ ?_
  exact⟨0,_,_,Y,(Dv Y Y Y Y Y),Y,by simp,Nat.zero_le _,by simp,H2⟩
  rintro nQ lQ w3 ⟨i,y,m,rfl,hfit,rfl,hm,hi,hinv,H3⟩
  obtain⟨j,rfl⟩:=hfit.open
  refine cR e109 ?_
  clear hfit
  refine J1<|Rq<|Xm Y<|Xf xZ Y<|OV (EL uZ Y (H3.cell (i:=0) Y Y))<|OV (ES Tryz.underlying95 Y)<|Aa e109<|OT (zQ Y Y) (fun XH=>?_) (fun XH=>?_)
  have hil:i < s.entries.length:=by omega
  obtain⟨x,hx⟩:=yM hil
  obtain⟨p1,hp1,hR⟩:=he2.get hx
  obtain⟨Ax,kx,rfl,hbx⟩:=hR
  obtain⟨a1,ha1⟩:=hre.some_ (by omega)
  subst ha1
  refine Xr e109<|J3 Y<|J6<|J1<|J7<|J1<|Rq<|Xf xZ Y<|OV (EL uZ Y (H3.cell (i:=0) Y Y))<|Xm Y<|OV (EI Tryz.underlying95 wD Y Y Y hil Y)<|Aa e109<|OV (yJ wE Y)<|OV (EL ty3 Y (((hre.to0 H3).elem hpe hp1) 0 _ Y))<|Xm Y<|OV (zL Y Y (IntWalk.i64_in _ (by omega)))<|Aa e109<|OT (yS Y Y) (fun Sj=>?_) (fun Sj=>?_)
  refine Xm Y<|Oz 3 Y<|Aa e109<|Xt Y Y<|Xm Y<|Aa e109<|Oz 8 Y<|Aa e109<|Xt Y Y<|Xr e109<|J3 Y<|Rq<|Xa Y<|Xr e109<|J5<|BR<|yR<|BR<|Ak Y Y<|⟨_,Y,Ans.no (qO (by rw[hinv];exact qN hx fun hh=>by omega)),H3.Ac⟩
  refine Xm Y<|OY Y<|Xm Y<|Aa e109<|OY Y<|OV (zL Y Y (IntWalk.i64_in _ (by omega)))<|OY Y<|OT (yO Y Y) (fun XD=>?_) (fun XD=>?_)
  refine Xu Y Y<|Xm Y<|Aa e109<|Oz 8 Y<|Aa e109<|Xt Y Y<|Xr e109<|J3 Y<|Rq<|Xa Y<|Xr e109<|J5<|BR<|yR<|BR<|Ak Y Y<|⟨_,Y,Ans.no (qO (by rw[hinv];exact qN hx fun hh=>by omega)),H3.Ac⟩
  refine Xu Y Y<|Xm Y<|Aa e109<|OY Y<|Xf xZ Y<|OY Y<|OV (EL uZ Y (H3.cell (i:=0) Y Y))<|Aa e109<|OY Y<|Xm Y<|OY Y<|OV (EI Tryz.underlying95 wD Y Y Y hil Y)<|Aa e109<|OY Y<|OV (yJ uV Y)<|OY Y<|OV (EL xK Y (((hre.to0 H3).elem hpe hp1) 1 _ Y))<|Aa e109<|OY Y<|OV (ES Tryz.underlying73 Y)<|OY Y<|OT (yO Y Y) (fun XB=>?_) (fun XB=>?_)
  refine Xu Y Y<|Xr e109<|J3 Y<|Rq<|Xa Y<|Xr e109<|J5<|BR<|yR<|BR<|Ak Y Y<|⟨_,Y,Ans.no (qO (by rw[hinv];exact qN hx fun hh=>by omega)),H3.Ac⟩
  refine Xu Y Y<|Xr e109<|J4 Y<|J6<|J2<|Xm Y<|OV (zL Y Y (IntWalk.i64_in _ (by omega)))<|Xa Y<|Xr e109<|zA (zB ?_)
  refine J2<|Xm Y<|OV (zL Y Y (IntWalk.i64_in _ (by omega)))<|Xa Y<|Xr e109<|zA (zI ?_)
  have hgo:=B7 (m:=s.index+i) hx ⟨by omega,by omega,by omega⟩
  exact⟨s.entries.length - (i+1),by omega,i+1,_,_,Y,(Dv Y Y Y Y Y),by omega,by omega,by omega,by rw[hinv,hgo];congr 1;omega,H3.pick [0] (by decide)⟩
  obtain rfl:i=s.entries.length:=by omega
  have hent:=hinv.trans dA
  subst hm
  refine Xr e109<|J4 Y<|J8<|zT<|zS<|J1<|Rq<|Xf vW Y<|OV (EN wX Y (vs:=[.int .i64 s.p.r,.int .i64 s.p.n]) Y (H3.Ad (i:=0) Y Y))<|Xm Y<|OV (zL Y Y (IntWalk.i64_in _ (by omega)))<|Aa e109<|Xf xV Y<|OV (EL uP Y (H3.cell (i:=0) Y Y))<|OQ (EC T6 Y) (NQ s.p (s.index+s.entries.length+1) A1 k1 s.Ae ok _ (hv1.Gi H3 k0) (by omega) (by omega)) ?_
  rintro _ w4 ⟨a,rfl,hyes,hno,Hd⟩
  have H4:=H3.Af Hd
  rw[← CA (by omega) (by omega) hent]at hyes hno
  refine OT (yE Tryz.underlying212 Y) (fun Ic=>?_) (fun Ic=>?_)
  refine Xr e109<|J3 rfl<|Rq<|Xa rfl<|Xr e109<|J5<|Ak rfl rfl<|⟨_,rfl,Ans.no (by cases hc:chk s with | false=>rfl | true=>obtain⟨x,hx⟩:=hyes hc;rw[hx]at Ic;cases Ic),H4.Ac⟩
  refine Xr e109<|J4 rfl<|J6<|Rq<|Xa rfl<|Xr e109<|J5<|Ak rfl rfl<|⟨_,rfl,Ans.ok (by cases hc:chk s with | true=>rfl | false=>exact absurd (hno hc) Ic),H4.Ac⟩
end Go.Proofs.YtjoeklkmnfaabaaGreat
namespace Go.Proofs.YtjoeklkmnfaabaaGreat
set_option maxRecDepth 100000
set_option maxHeartbeats 32000000
open Go Go.RowKit
set_option linter.unusedVariables false
attribute [local irreducible] yT Ops zP Cd
theorem NX (b:Bo) (A1:Option Addr) (k1:Nat) (A2:Option Addr) (k2:Nat) (A3:Option Addr) (k3:Nat) (n:Nt) (B1:Option Addr) (j1:Nat) (B2:Option Addr) (j2:Nat) (ok:Nat→Prop) (N:Nat) (w0:World) (hb1:Sl (Gz w0 ok) 6 w0 ok A1 b.groups) (hb2:Sl Fb 4 w0 ok A2 b.rights) (hb3:Sl Fp 7 w0 ok A3 b.last) (hbv:Bs w0 ok B1 n.Ag.val) (hbe:Bs w0 ok B2 n.entry.val) (hg:rJ b N) (hN:N≤900000000000) (hc2:b.rights.length≤k2):zP Tryz.prog 48 #[.agg [.slice A1 b.groups.length k1,.slice A2 b.rights.length k2,.slice A3 b.last.length k3].toArray,.agg [.int .i64 n.kind,.int .i64 n.group,.int .i64 n.b.r,.int .i64 n.b.n,.int .i64 n.Ag.slot,.int .i64 n.Ag.b.r,.int .i64 n.Ag.b.n,.slice B1 n.Ag.val.length j1,.int .i64 n.entry.slot,.slice B2 n.entry.val.length j2,.int .i64 n.right.g,yC n.right.key,.int .i64 n.right.Ai,.int .i64 n.right.net,.int .i64 n.client,.int .i64 n.seq].toArray] w0 (fun r w'=>∃ X1 m1 x1 X2 m2 x2 X3 m3 x3 f,r=.tuple #[.agg [.slice X1 m1 x1,.slice X2 m2 x2,.slice X3 m3 x3].toArray,.bool f]∧(∀ b',b.into n=some b'→f=true∧Hl w' (up ok w0.heap.size) [.slice X1 m1 x1,.slice X2 m2 x2,.slice X3 m3 x3] b'∧m2≤x2)∧(b.into n=none→f=false)∧Hp w0 w' [] []):=by
 refine zE Tryz.func48 Tryz.ntmps48 Y<|cR Au ?_
 have H:=Hp.refl w0
 obtain⟨pg,hpg,hrg,hag,h2g⟩:=id hb1
 have hgl:=h2g.len
 have h8:=hg.eight
 have XW:=h2g.ones fun _ _ h=>h.ones
 refine Rq<|yA Y Y H<|fun w1 gb H1 _=>yA Y Y H1<|fun w2 gn H2 _=>OA xQ H2<|fun w3 gr H3 _=>Xa Y<|Xr Au<|J1<|Rq<|Xf oO Y<|OV (EL ty3 Y (H3.cell (i:=1) Y Y))<|OT (xP Y Y) (fun hp14=>?_) (fun hp14=>?_)
 refine Xr Au<|J3 Y<|Rq<|Xf sU Y<|OV (EL kX Y (H3.cell (i:=0) Y Y))<|Xf fO Y<|OV (EN xR Y (vs:=[.int .i64 n.right.g,yC n.right.key,.int .i64 n.right.Ai,.int .i64 n.right.net]) Y (H3.Ad (i:=1) Y Y))<|Aa Au ?_
 have Tn:=Hp.fresh H3
 have Qm:=H3.size
 refine OQ (EC gf90 Y) (Yg n.right A2 k2 b.rights ok _ (hb2.toR H3 k0) (by have:=hg.few;omega) hg.rts) ?_
 rintro r w4 ⟨hyes,hno,Hd⟩
 have HP:=H3.Af Hd
 have H4:=HP.here
 have hszP:=HP.size
 by_cases hmay:nW n.right
 obtain⟨A9,k9,rfl,Zi,Nq⟩:=hyes hmay
 refine Xm Y<|Xe Y Y<|Xe Y Y<|Xa Y<|Aa Au<|Xa Y<|Xr Au<|J1<|Rq<|Xm Y<|Dy (yS Y Y) (by decide)<|Xr Au<|J4 Y<|J6<|Rq<|Xm Y<|Xf sU Y<|OW kX H4 0 Y Y Y Y (by first | (simp;done) | simp[zH]) Y<|fun w5 H5=>Xr Au<|Rq<|Xf tJ Y<|OV (EL mM Y (H5.cell (i:=0) Y Y))<|Xf tA Y<|OV (EL ty3 Y (H5.cell (i:=1) Y Y))<|Aa Au<|OQ (EC gf91 Y) (O6 A3 k3 b.last n.client ok _ (hb3.toM (HP.all H5) k0) hg.Qb) ?_
 rintro r w6 ⟨Yy,hno2,Hd⟩
 have H6:=H5.Af Hd
 cases hfm:Bg b.last n.client
 obtain rfl:=hno2 hfm
 refine Xm Y<|Xe Y Y<|Xe Y Y<|OA yP H6<|fun w7 gz H7 _=>Aa Au<|OS yP H7 3 (vs:=[.int .i64 (⟨0,0⟩:Mk).client,.int .i64 (⟨0,0⟩:Mk).seq,.bool false,.int .i64 0,.int .i64 0,.int .i64 0,.int .i64 0]) Y Y Y Y Y (Nat.le_refl 7) Y<|fun w8 H8=>Xa Y<|Xr Au<|J1<|Rq<|Xf tA Y<|OV (EL ty3 Y (H8.cell (i:=1) Y Y))<|OX (EC gf92 Y) (EO _ _) (fun hp38 w9 Hd=>?_) (fun hp38 w9 Hd=>?_)
 have H9:=H8.Af Hd
 refine Xm Y<|Aa Au<|OY Y<|Xf sQ Y<|OY Y<|OV (EL ty3 Y (H9.cell (i:=1) Y Y))<|Aa Au<|OY Y<|OX (EC gf93 Y) (TM _ _) (fun hp42 w10 Hd=>?_) (fun hp42 w10 Hd=>?_)
 have Ar:=H9.Af Hd
 refine Xt Y Y<|Xm Y<|Aa Au<|OY Y<|Xm Y<|OY Y<|Xn Y<|Aa Au<|OY Y<|Xm Y<|Oz 5 Y<|Aa Au<|OY Y<|Xt Y Y<|Xt Y Y<|Xr Au<|J3 Y<|J2<|Xf tJ Y<|OV (EL mM Y (Ar.cell (i:=0) Y Y))<|Xf tA Y<|OV (EL ty3 Y (Ar.cell (i:=1) Y Y))<|Aa Au<|Xf sQ Y<|OV (EL ty3 Y (Ar.cell (i:=1) Y Y))<|OV (EB yP eE Y Y) ?_
 have XY:=Hp.fresh Ar
 have hsz8:=Ar.size
 refine OQ (EC gf94 Y) (LO A3 k3 b.last (⟨n.client,n.seq⟩:Mk) ok _ (hb3.toM (HP.all Ar) k0) hg.Qb hp38 hp42) ?_
 rintro _ Gm ⟨A8,k8,rfl,hA8,Hd⟩
 have HX:=Ar.Af Hd
 have Bd:=HX.here
 refine Aa Au<|Xf tJ Y<|OW mM Bd 0 Y Y Y Y (by first | (simp;done) | simp[zH]) Y<|fun w12 Bc=>Xr Au<|Rq<|OV (EN xQ Y (vs:=[.slice A1 b.groups.length k1,.slice A9 (Di b.rights n.right).length k9,.slice A8 (uL b.last ⟨n.client,n.seq⟩).length k8]) Y (Bc.Ad (i:=0) Y Y))<|OS xQ Bc 2 Y Y Y Y Y (by first|exact NL Y|simp[zH]) Y<|fun Io Ce=>Xa Y<|Xr Au<|J5<|xO Y xQ (cs:=[.slice A1 b.groups.length k1,.slice A9 (Di b.rights n.right).length k9,.slice A8 (uL b.last ⟨n.client,n.seq⟩).length k8]) Y Y Y (Ce.Ad (i:=2) Y Y) ?_
 have HW:=HP.all (HX.all Ce)
 refine⟨A1,_,k1,A9,_,k9,_,_,_,true,Y,(fun b' hb'=>?_),(fun hb'=>by rw[vM hp14 hmay]at hb';cases hb'),HW.Ac⟩
 rw[vM hp14 hmay]at hb'
 simp only[Option.some.injEq]at hb'
 subst hb'
 refine⟨Y,⟨A1,k1,A9,k9,A8,k8,?_,hb1.toS HW vC,Zi.toR (HX.all Ce) (fun x hx _=>⟨Tn x hx,.inr (by have:=hx;omega)⟩),?_⟩,Nq⟩
 show _=[_,_,Value.slice _ (uS b.last n.client n.seq).length _]
 rw[kB (by omega) hfm]
 show Sl Fp 7 _ _ _ (uS b.last n.client n.seq)
 rw[kB (by omega) hfm]
 exact hA8.toM Ce (fun x hx _=>⟨XY x hx,.inr (by have:=hx;omega)⟩)
 have m4:=()
 rotate_left 1
 have m3:=()
 rotate_left 1
 rename_i o
 obtain rfl:=Yy o hfm
 refine Xm Y<|Xe Y Y<|Xe Y Y<|OA yP H6<|fun w7 gz H7 _=>Aa Au<|OS yP H7 3 (vs:=[.int .i64 o.client,.int .i64 o.seq,.bool false,.int .i64 0,.int .i64 0,.int .i64 0,.int .i64 0]) Y Y Y Y Y (Nat.le_refl 7) Y<|fun w8 H8=>Xa Y<|Xr Au<|J1<|Rq<|Xf tA Y<|OV (EL ty3 Y (H8.cell (i:=1) Y Y))<|OX (EC gf92 Y) (EO _ _) (fun hp38 w9 Hd=>?_) (fun hp38 w9 Hd=>?_)
 have H9:=H8.Af Hd
 refine Xm Y<|Aa Au<|OY Y<|Xf sQ Y<|OY Y<|OV (EL ty3 Y (H9.cell (i:=1) Y Y))<|Aa Au<|OY Y<|OX (EC gf93 Y) (TM _ _) (fun hp42 w10 Hd=>?_) (fun hp42 w10 Hd=>?_)
 have Ar:=H9.Af Hd
 refine Xt Y Y<|Xm Y<|Aa Au<|OY Y<|Xm Y<|OY Y<|Xn Y<|Aa Au<|OY Y<|Xm Y<|OY Y<|Xf sQ Y<|Aa Au<|OY Y<|OV (EL ty3 Y (Ar.cell (i:=1) Y Y))<|OY Y<|Xf kS Y<|Aa Au<|OY Y<|OV (EL ty3 Y (Ar.cell (i:=3) Y Y))<|OY Y<|OT (yO Y Y) (fun Ey=>?_) (fun Ey=>?_)
 refine OY Y<|Xu Y Y<|Xt Y Y<|Xr Au<|J3 Y<|J2<|Xf tJ Y<|OV (EL mM Y (Ar.cell (i:=0) Y Y))<|Xf tA Y<|OV (EL ty3 Y (Ar.cell (i:=1) Y Y))<|Aa Au<|Xf sQ Y<|OV (EL ty3 Y (Ar.cell (i:=1) Y Y))<|OV (EB yP eE Y Y) ?_
 have XY:=Hp.fresh Ar
 have hsz8:=Ar.size
 refine OQ (EC gf94 Y) (LO A3 k3 b.last (⟨n.client,n.seq⟩:Mk) ok _ (hb3.toM (HP.all Ar) k0) hg.Qb hp38 hp42) ?_
 rintro _ Gm ⟨A8,k8,rfl,hA8,Hd⟩
 have HX:=Ar.Af Hd
 have Bd:=HX.here
 refine Aa Au<|Xf tJ Y<|OW mM Bd 0 Y Y Y Y (by first | (simp;done) | simp[zH]) Y<|fun w12 Bc=>Xr Au<|Rq<|OV (EN xQ Y (vs:=[.slice A1 b.groups.length k1,.slice A9 (Di b.rights n.right).length k9,.slice A8 (uL b.last ⟨n.client,n.seq⟩).length k8]) Y (Bc.Ad (i:=0) Y Y))<|OS xQ Bc 2 Y Y Y Y Y (by first|exact NL Y|simp[zH]) Y<|fun Io Ce=>Xa Y<|Xr Au<|J5<|xO Y xQ (cs:=[.slice A1 b.groups.length k1,.slice A9 (Di b.rights n.right).length k9,.slice A8 (uL b.last ⟨n.client,n.seq⟩).length k8]) Y Y Y (Ce.Ad (i:=2) Y Y) ?_
 have HW:=HP.all (HX.all Ce)
 refine⟨A1,_,k1,A9,_,k9,_,_,_,true,Y,(fun b' hb'=>?_),(fun hb'=>by rw[vM hp14 hmay]at hb';cases hb'),HW.Ac⟩
 rw[vM hp14 hmay]at hb'
 simp only[Option.some.injEq]at hb'
 subst hb'
 refine⟨Y,⟨A1,k1,A9,k9,A8,k8,?_,hb1.toS HW vC,Zi.toR (HX.all Ce) (fun x hx _=>⟨Tn x hx,.inr (by have:=hx;omega)⟩),?_⟩,Nq⟩
 show _=[_,_,Value.slice _ (uS b.last n.client n.seq).length _]
 rw[nM (by omega) hfm (by omega)]
 show Sl Fp 7 _ _ _ (uS b.last n.client n.seq)
 rw[nM (by omega) hfm (by omega)]
 exact hA8.toM Ce (fun x hx _=>⟨XY x hx,.inr (by have:=hx;omega)⟩)
 refine OY Y<|Xu Y Y<|Xt Y Y<|Xr Au<|J4 Y<|J6<|Rq<|OV (EN xQ Y (vs:=[.slice A1 b.groups.length k1,.slice A9 (Di b.rights n.right).length k9,.slice A3 b.last.length k3]) Y (Ar.Ad (i:=0) Y Y))<|OS xQ Ar 2 Y Y Y Y Y (by first|exact NL Y|simp[zH]) Y<|fun Gm Bd=>Xa Y<|Xr Au<|J5<|xO Y xQ (cs:=[.slice A1 b.groups.length k1,.slice A9 (Di b.rights n.right).length k9,.slice A3 b.last.length k3]) Y Y Y (Bd.Ad (i:=2) Y Y) ?_
 have HW:=HP.all Bd
 refine⟨A1,_,k1,A9,_,k9,_,_,_,true,Y,(fun b' hb'=>?_),(fun hb'=>by rw[vM hp14 hmay]at hb';cases hb'),HW.Ac⟩
 rw[vM hp14 hmay]at hb'
 simp only[Option.some.injEq]at hb'
 subst hb'
 refine⟨Y,⟨A1,k1,A9,k9,A3,k3,?_,hb1.toS HW vC,Zi.toR Bd (fun x hx _=>⟨Tn x hx,.inr (by have:=hx;omega)⟩),?_⟩,Nq⟩
 show _=[_,_,Value.slice _ (uS b.last n.client n.seq).length _]
 rw[kC hfm (by omega)]
 show Sl Fp 7 _ _ _ (uS b.last n.client n.seq)
 rw[kC hfm (by omega)]
 exact hb3.toM HW vC
 have m4:=()
 rotate_left 1
 have m3:=()
 rotate_left 1
 obtain rfl:=hno hmay
 refine Xm Y<|Xe Y Y<|Xe Y Y<|Xa Y<|Aa Au<|Xa Y<|Xr Au<|J1<|Rq<|Xm Y<|Ij (yS Y Y) (by decide)<|Xr Au<|J3 Y<|Rq<|OV (EN xQ Y (vs:=[.slice A1 b.groups.length k1,.slice A2 b.rights.length k2,.slice A3 b.last.length k3]) Y (H4.Ad (i:=0) Y Y))<|OS xQ H4 2 Y Y Y Y Y (by first|exact NL Y|simp[zH]) Y<|fun w5 H5=>Xa Y<|Xr Au<|J5<|xO Y xQ (cs:=[.slice A1 b.groups.length k1,.slice A2 b.rights.length k2,.slice A3 b.last.length k3]) Y Y Y (H5.Ad (i:=2) Y Y)<|⟨_,_,_,_,_,_,_,_,_,false,Y,(fun b' hb'=>by rw[cJ hp14 hmay]at hb';cases hb'),fun _=>Y,(HP.all H5).Ac⟩
 refine Xr Au<|J4 Y<|J6<|J1<|Rq<|Xf oO Y<|OV (EL ty3 Y (H3.cell (i:=1) Y Y))<|OT (zQ Y Y) (fun La=>?_) (fun La=>?_)
 refine Xm Y<|Aa Au<|Oz 3 Y<|Aa Au<|Xt Y Y ?_
 have m5:=()
 rotate_left 1
 refine Xm Y<|Aa Au<|OY Y<|Xf oO Y<|OY Y<|OV (EL ty3 Y (H3.cell (i:=1) Y Y))<|Aa Au<|OY Y<|OT (yO Y Y) (fun hp71=>?_) (fun hp71=>?_)
 refine Xu Y Y ?_
 have m5:=()
 rotate_left 1
 refine Xu Y Y<|Xm Y<|Aa Au<|OY Y<|Xf fl81_1 Y<|OY Y<|OV (EL ty3 Y (H3.cell (i:=1) Y Y))<|Aa Au<|OY Y<|OT (zQ Y Y) (fun XG=>?_) (fun XG=>?_)
 refine Xu Y Y<|Xm Y<|Aa Au<|Oz 3 Y<|Aa Au<|Xt Y Y ?_
 have m2:=()
 rotate_left 1
 refine Xu Y Y<|Xm Y<|Aa Au<|OY Y<|Xf fl81_1 Y<|OY Y<|OV (EL ty3 Y (H3.cell (i:=1) Y Y))<|Aa Au<|OY Y<|OT (wL Y Y) (fun XF=>?_) (fun XF=>?_)
 refine Xu Y Y ?_
 have m2:=()
 rotate_left 1
 obtain⟨s,hs⟩:=yM (l:=b.groups) (j:=n.group.toNat) (by omega)
 have hsl:=lt_of_get hs
 obtain⟨p1,hp1,hR⟩:=h2g.get hs
 obtain⟨C1,q1,C2,q2,C3,q3,rfl,hv1,hv2,hv3⟩:=hR
 obtain⟨a1,ha1⟩:=hrg.some_ (by omega)
 subst ha1
 have hce:=(tP s).1 (hg.chk s (mem_of hs))
 have Qc:=pT hce
 have Ig:=pP hce
 have Qd:=nF s n
 refine Xu Y Y<|Xr Au<|J4 Y<|J6<|J1<|qI 9 (.p 0 (.p 1 (.p 2 (.p 3 (.p 4 (.p 5 (.p 6 (.two 7 (.o 8 (.o 9 .nil)) 8 (.o 7 (.o 9 .nil)))))))))) H3 [0,1,2] yG (by decide) (by kernel_rfl) ?_
 rintro w4 hw4
 have H4:=Hp.drew H3;rw[← hw4]at H4
 refine Tf Y vO Y<|TP Y<|MV (fun wz hz=>EL qH Y (hz.cell (i:=0) Y Y))<|Tf Y fl81_1 Y<|TP Y<|MV (fun wz hz=>EL ty3 Y (hz.cell (i:=1) Y Y))<|cT Au<|TP Y<|MV (fun wz hz=>EI Tryz.underlying37 xW Y Y (len:=b.groups.length) (i:=n.group.toNat) (by omega) (by omega) Y)<|TP Y<|MV (fun wz hz=>EN xW Y (vs:=[.int .i64 s.p.r,.int .i64 s.p.n,.slice C1 s.Ae.length q1,.int .i64 s.index,.slice C2 s.image.length q2,.slice C3 s.entries.length q3]) Y ((hrg.to0 hz).elem hpg hp1))<|TP Y<|MV (fun wz hz=>EN xE Y (vs:=[.int .i64 n.kind,.int .i64 n.group,.int .i64 n.b.r,.int .i64 n.b.n,.int .i64 n.Ag.slot,.int .i64 n.Ag.b.r,.int .i64 n.Ag.b.n,.slice B1 n.Ag.val.length j1,.int .i64 n.entry.slot,.slice B2 n.entry.val.length j2,.int .i64 n.right.g,yC n.right.key,.int .i64 n.right.Ai,.int .i64 n.right.net,.int .i64 n.client,.int .i64 n.seq]) Y (hz.Ad (i:=1) Y Y))<|pO ?_ ?_
 refine TQ Y ?_
 have hnp:=Hp.fresh H4
 have Ol:=H4.size
 have hpl:=bl_place H4
 refine OQ (EC gf95 rfl) (N6 s C1 q1 C2 q2 C3 q3 n B1 j1 B2 j2 (fun x=>ok x∧x < w0.heap.size) _ (hv1.Gi H4 (fun x hx hl=>⟨by simp,hx,hl⟩)) (hv2.to H4 (fun x hx hl=>⟨by simp,hx,hl⟩)) (hv3.Hu H4 (fun x hx hl=>⟨by simp,hx,hl⟩)) (hbv.to H4 (fun x hx hl=>⟨by simp,hx,hl⟩)) (hbe.to H4 (fun x hx hl=>⟨by simp,hx,hl⟩)) ⟨by omega,by omega⟩ ⟨hce.i.1,hce.i.2.1⟩ Ig (by omega) (fun x hx=>by obtain⟨i,hi⟩:=List.getElem?_of_mem hx;exact(pE hce.e i x hi).2.1)) ?_
 rintro _ w5 ⟨cs2,rfl,hsv,Hd⟩
 have HG:=H4.Af Hd
 have HL:=HG.here
 have H5:=HG
 obtain⟨D1,e1,D2,e2,D3,e3,rfl,hw1,hw2,hw3⟩:=hsv
 have hnk:∀ x,up (fun x=>ok x∧x < w0.heap.size) w4.heap.size x→x∉bl _:=fun x hx hb=>(show False from by
  rcases hx with hx | hx
  · rcases hpl x hb with h | h
    · cases h
    · have:=hx.2;omega
  · exact hnp x hx hb)
 have hkk:∀ x,up (fun x=>ok x∧x < w0.heap.size) w4.heap.size x→x < w5.heap.size→x∉bl _∧up ok w0.heap.size x:=fun x hx _=>⟨hnk x hx,by
  rcases hx with hx | hx
  · exact .inl hx.1
  · exact .inr (by omega)⟩
 refine OE ?_
 refine⟨fun hne=>H5.pick [0,1,2] (by decide),?_⟩
 refine cT Au<|TQ Y<|OA xW HL<|fun w6 gs HL2 _=>have H6:=HG.all HL2;OE<|⟨fun hne=>H6.pick [0,1,2] (by decide),?_⟩
 refine cT Au<|TQ Y<|OS xW HL2 3 (vs:=[.int .i64 (s.goes n).p.r,.int .i64 (s.goes n).p.n,.slice D1 (s.goes n).Ae.length e1,.int .i64 (s.goes n).index,.slice D2 (s.goes n).image.length e2,.slice D3 (s.goes n).entries.length e3]) Y Y Y Y Y (Nat.le_refl 6) Y ?_
 have m1:=()
 rotate_left 1
 refine TQ Y<|OA xW H4<|fun w5 gs H5 _=>OE<|⟨fun hne=>H5.pick [0,1,2] (by decide),?_⟩
 refine cT Au<|TQ Y ?_
 have hnp:=Hp.fresh H5
 have Ol:=H5.size
 have hpl:=bl_place H5
 refine OQ (EC gf95 rfl) (N6 s C1 q1 C2 q2 C3 q3 n B1 j1 B2 j2 (fun x=>ok x∧x < w0.heap.size) _ (hv1.Gi H5 (fun x hx hl=>⟨by simp,hx,hl⟩)) (hv2.to H5 (fun x hx hl=>⟨by simp,hx,hl⟩)) (hv3.Hu H5 (fun x hx hl=>⟨by simp,hx,hl⟩)) (hbv.to H5 (fun x hx hl=>⟨by simp,hx,hl⟩)) (hbe.to H5 (fun x hx hl=>⟨by simp,hx,hl⟩)) ⟨by omega,by omega⟩ ⟨hce.i.1,hce.i.2.1⟩ Ig (by omega) (fun x hx=>by obtain⟨i,hi⟩:=List.getElem?_of_mem hx;exact(pE hce.e i x hi).2.1)) ?_
 rintro _ w6 ⟨cs2,rfl,hsv,Hd⟩
 have HG:=H5.Af Hd
 have HL:=HG.here
 have H6:=HG
 obtain⟨D1,e1,D2,e2,D3,e3,rfl,hw1,hw2,hw3⟩:=hsv
 have hnk:∀ x,up (fun x=>ok x∧x < w0.heap.size) w5.heap.size x→x∉bl _:=fun x hx hb=>(show False from by
  rcases hx with hx | hx
  · rcases hpl x hb with h | h
    · cases h
    · have:=hx.2;omega
  · exact hnp x hx hb)
 have hkk:∀ x,up (fun x=>ok x∧x < w0.heap.size) w5.heap.size x→x < w6.heap.size→x∉bl _∧up ok w0.heap.size x:=fun x hx _=>⟨hnk x hx,by
  rcases hx with hx | hx
  · exact .inl hx.1
  · exact .inr (by omega)⟩
 refine OE ?_
 refine⟨fun hne=>H6.pick [0,1,2] (by decide),?_⟩
 refine cT Au<|TQ Y<|OS xW HL 3 (vs:=[.int .i64 (s.goes n).p.r,.int .i64 (s.goes n).p.n,.slice D1 (s.goes n).Ae.length e1,.int .i64 (s.goes n).index,.slice D2 (s.goes n).image.length e2,.slice D3 (s.goes n).entries.length e3]) Y Y Y Y Y (Nat.le_refl 6) Y ?_
 have m1:=()
 rotate_left 1
 any_goals
  clear m5
  refine Xm Y<|Aa Au<|Oz 3 Y<|Aa Au<|Xt Y Y<|Xm Y<|Aa Au<|Oz 3 Y<|Aa Au<|Xt Y Y ?_
  have m2:=()
  rotate_left 1
 any_goals
  clear m4
  have Ar:=H9.Af Hd
  refine Xt Y Y<|Xm Y<|Aa Au<|Oz 9 Y<|Aa Au<|Xu Y Y<|Xr Au<|J4 Y<|J6<|Rq<|OV (EN xQ Y (vs:=[.slice A1 b.groups.length k1,.slice A9 (Di b.rights n.right).length k9,.slice A3 b.last.length k3]) Y (Ar.Ad (i:=0) Y Y))<|OS xQ Ar 2 Y Y Y Y Y (by first|exact NL Y|simp[zH]) Y<|fun Gm Bd=>Xa Y<|Xr Au<|J5<|xO Y xQ (cs:=[.slice A1 b.groups.length k1,.slice A9 (Di b.rights n.right).length k9,.slice A3 b.last.length k3]) Y Y Y (Bd.Ad (i:=2) Y Y) ?_
  have HW:=HP.all Bd
  refine⟨A1,_,k1,A9,_,k9,_,_,_,true,Y,(fun b' hb'=>?_),(fun hb'=>by rw[vM hp14 hmay]at hb';cases hb'),HW.Ac⟩
  rw[vM hp14 hmay]at hb'
  simp only[Option.some.injEq]at hb'
  subst hb'
  refine⟨Y,⟨A1,k1,A9,k9,A3,k3,?_,hb1.toS HW vC,Zi.toR Bd (fun x hx _=>⟨Tn x hx,.inr (by have:=hx;omega)⟩),?_⟩,Nq⟩
  show _=[_,_,Value.slice _ (uS b.last n.client n.seq).length _]
  rw[pG (by omega)]
  show Sl Fp 7 _ _ _ (uS b.last n.client n.seq)
  rw[pG (by omega)]
  exact hb3.toM HW vC
 any_goals
  clear m3
  have H9:=H8.Af Hd
  refine Xm Y<|Aa Au<|Oz 3 Y<|Aa Au<|Xu Y Y<|Xm Y<|Aa Au<|Oz 9 Y<|Aa Au<|Xu Y Y<|Xr Au<|J4 Y<|J6<|Rq<|OV (EN xQ Y (vs:=[.slice A1 b.groups.length k1,.slice A9 (Di b.rights n.right).length k9,.slice A3 b.last.length k3]) Y (H9.Ad (i:=0) Y Y))<|OS xQ H9 2 Y Y Y Y Y (by first|exact NL Y|simp[zH]) Y<|fun w10 Ar=>Xa Y<|Xr Au<|J5<|xO Y xQ (cs:=[.slice A1 b.groups.length k1,.slice A9 (Di b.rights n.right).length k9,.slice A3 b.last.length k3]) Y Y Y (Ar.Ad (i:=2) Y Y) ?_
  have HW:=HP.all Ar
  refine⟨A1,_,k1,A9,_,k9,_,_,_,true,Y,(fun b' hb'=>?_),(fun hb'=>by rw[vM hp14 hmay]at hb';cases hb'),HW.Ac⟩
  rw[vM hp14 hmay]at hb'
  simp only[Option.some.injEq]at hb'
  subst hb'
  refine⟨Y,⟨A1,k1,A9,k9,A3,k3,?_,hb1.toS HW vC,Zi.toR Ar (fun x hx _=>⟨Tn x hx,.inr (by have:=hx;omega)⟩),?_⟩,Nq⟩
  show _=[_,_,Value.slice _ (uS b.last n.client n.seq).length _]
  rw[pG (by omega)]
  show Sl Fp 7 _ _ _ (uS b.last n.client n.seq)
  rw[pG (by omega)]
  exact hb3.toM HW vC
 any_goals
  clear m2
  refine Xr Au<|J3 Y<|Rq<|OV (EN xQ Y (vs:=[.slice A1 b.groups.length k1,.slice A2 b.rights.length k2,.slice A3 b.last.length k3]) Y (H3.Ad (i:=0) Y Y))<|OS xQ H3 2 Y Y Y Y Y (by first|exact NL Y|simp[zH]) Y<|fun w4 H4=>Xa Y<|Xr Au<|J5<|xO Y xQ (cs:=[.slice A1 b.groups.length k1,.slice A2 b.rights.length k2,.slice A3 b.last.length k3]) Y Y Y (H4.Ad (i:=2) Y Y)<|⟨_,_,_,_,_,_,_,_,_,false,Y,(fun b' hb'=>by rw[DQ hp14 (by omega)]at hb';cases hb'),fun _=>Y,H4.Ac⟩
 any_goals
  clear m1
  intro w7 H7
  refine OE ?_
  refine⟨fun hne=>absurd Y hne,?_⟩
  refine cT Au<|sZ<|cR Au<|J1<|Rq<|OV (EN xW Y (vs:=[.int .i64 (s.goes n).p.r,.int .i64 (s.goes n).p.n,.slice D1 (s.goes n).Ae.length e1,.int .i64 (s.goes n).index,.slice D2 (s.goes n).image.length e2,.slice D3 (s.goes n).entries.length e3]) Y (H7.Ad (i:=3) Y Y))<|OQ (EC gf96 Y) (S5 (s.goes n) D1 e1 D2 e2 D3 e3 _ _ (hw1.Gi H7 hkk) (hw2.to H7 hkk) (hw3.Hu H7 hkk) (by omega) (by omega)) ?_
  rintro _ w8 ⟨e,rfl,hans,Hd⟩
  have H8:=H7.Af Hd
  refine OT (yS Y Y) (fun Qn=>?_) (fun Qn=>?_)
  refine Xr Au<|J3 rfl<|Rq<|OV (EN xQ rfl (vs:=[.slice (some a1) b.groups.length k1,.slice A2 b.rights.length k2,.slice A3 b.last.length k3]) rfl (H8.Ad (i:=0) rfl rfl))<|OS xQ H8 2 rfl rfl rfl rfl rfl (by first|exact NL rfl|simp[zH]) rfl<|fun w9 H9=>Xa rfl<|Xr Au<|J5<|xO rfl xQ (cs:=[.slice (some a1) b.groups.length k1,.slice A2 b.rights.length k2,.slice A3 b.last.length k3]) rfl rfl rfl (H9.Ad (i:=2) rfl rfl)<|⟨_,_,_,_,_,_,_,_,_,false,rfl,(fun b' hb'=>by rw[HY hp14 hs (by cases hc:chk (s.goes n)with | false=>rfl | true=>exact absurd (hans.1 hc) Qn)]at hb';cases hb'),fun _=>rfl,(HG.all H9).Ac⟩
  have Ud:chk (s.goes n)=true:=by cases hc:chk (s.goes n)with | true=>rfl | false=>have:=hans.2 hc;omega
  refine Xr Au<|J4 Y<|J6<|Rq<|Xf vO Y<|OV (EL qH Y (H8.cell (i:=0) Y Y))<|xD Tryz.underlying37 xW (by decide) (H8.nil 97) 4 (Gw.nil 6) Y Y (rs:=pg) (m:=b.groups.length) hgl Y (hrg.to0 (HG.all H8)) hpg XW (by rw[List.length_nil];omega) (by rw[List.length_nil];omega) (by decide)<|fun w9 g2 cap2 sp2 H9 hG2=>?_
  rw[List.nil_append pg]at H9 hG2 ⊢
  rw[hgl]
  obtain⟨gw,rfl⟩:=vK H9 (i:=4) rfl (by rw[List.length_append,hpg.len];omega)
  refine Xa Y<|Xr Au<|Rq<|Xm Y<|Xf fl81_1 Y<|OV (EL ty3 Y (H9.cell (i:=1) Y Y))<|OV (EN xW Y (vs:=[.int .i64 (s.goes n).p.r,.int .i64 (s.goes n).p.n,.slice D1 (s.goes n).Ae.length e1,.int .i64 (s.goes n).index,.slice D2 (s.goes n).image.length e2,.slice D3 (s.goes n).entries.length e3]) Y (H9.Ad (i:=3) Y Y))<|Aa Au<|OV (uR Tryz.underlying37 xW Y Y (len:=b.groups.length) (i:=n.group.toNat) (by omega) (by omega))<|OS xW H9 4 Y Y Y Y Y (by rw[List.length_append,hpg.len];show 0+n.group.toNat*6+6≤_;omega) Y<|fun w10 Ar=>?_
  rw[nL (sz:=6) (vs:=[.int .i64 (s.goes n).p.r,.int .i64 (s.goes n).p.n,.slice D1 (s.goes n).Ae.length e1,.int .i64 (s.goes n).index,.slice D2 (s.goes n).image.length e2,.slice D3 (s.goes n).entries.length e3]) hpg (by omega) rfl]at Ar
  refine Xr Au<|Rq<|Xm Y<|Xf vO Y<|OW qH Ar 0 Y Y Y Y (by first | (simp;done) | simp[zH]) Y<|fun Gm Bd=>Xr Au<|Rq<|OV (EN xQ Y (vs:=[.slice (hd (some gw)) b.groups.length cap2,.slice A2 b.rights.length k2,.slice A3 b.last.length k3]) Y (Bd.Ad (i:=0) Y Y))<|OS xQ Bd 2 Y Y Y Y Y (by first|exact NL Y|simp[zH]) Y<|fun w12 Bc=>Xa Y<|Xr Au<|J5<|xO Y xQ (cs:=[.slice (hd (some gw)) b.groups.length cap2,.slice A2 b.rights.length k2,.slice A3 b.last.length k3]) Y Y Y (Bc.Ad (i:=2) Y Y) ?_
  have HW:=HG.all Bc
  refine⟨_,_,_,_,_,_,_,_,_,true,Y,fun b' hb'=>?_,(fun h=>by rw[lI hp14 (by omega) hs Ud]at h;cases h),HW.Ac⟩
  rw[lI hp14 (by omega) hs Ud]at hb'
  simp only[Option.some.injEq]at hb'
  subst hb'
  refine⟨Y,⟨hd (some gw),cap2,A2,k2,A3,k3,by rw[List.length_set],?_,hb2.toR HW vC,hb3.toM HW vC⟩,hc2⟩
  exact Sl.row HW (i:=4) Y (hpg.Hy Y) (by decide) ((h2g.imp (R':=Gz w12 (up ok w0.heap.size)) fun p x h=>h.to HW vC).set _ ⟨D1,e1,D2,e2,D3,e3,Y,hw1.Gi Bc hkk,hw2.to Bc hkk,hw3.Hu Bc hkk⟩) (wO (ok:=ok) HW (i:=4) Y (fun _ h=>by cases h))
end Go.Proofs.YtjoeklkmnfaabaaGreat
namespace Go.Proofs.YtjoeklkmnfaabaaGreat
set_option maxRecDepth 100000
set_option maxHeartbeats 32000000
open Go Go.RowKit
set_option linter.unusedVariables false
attribute [local irreducible] yT Ops zP Cd
theorem MF (A:Option Addr) (k:Nat) (l:List Nt) (Es:Nat→Prop) (w0:World) (hl:Sl (NtR w0 Es) 16 w0 Es A l) (hn:l.length≤840000000000):zP Tryz.prog 17 #[.slice A l.length k] w0 (fun r w'=>∃ cs e b,r=.tuple #[.agg cs.toArray,.int .i64 e]∧Hl w' (up Es w0.heap.size) cs b∧Rep l b e∧CapR cs∧Hp w0 w' [] []):=by
 refine zE Tryz.func17 Tryz.ntmps17 Y<|cR e29 ?_
 have H:=Hp.refl w0
 obtain⟨ps,hp,hr,ha,h2⟩:=id hl
 have hlen:=h2.len
 refine Rq<|OA xQ H<|fun w1 gr H1 hgr=>Xa Y<|Xr e29<|Rq ?_
 have Tq:=Hp.fresh H1
 have hszr:=H1.size
 refine OQ (EC gf15 Y) (SY _) ?_
 rintro _ w2 ⟨cse,rfl,hbe,Hd⟩
 have H2:=H1.Af Hd
 have hcl:∃ a b c d e f,cse=[.slice a 8 b,.slice c 0 d,.slice e 0 f]:=by
  obtain⟨_,_,_,_,_,_,rfl,_⟩:=hbe
  exact⟨_,_,_,_,_,_,Y⟩
 obtain⟨z1,y1,z2,y2,z3,y3,rfl⟩:=hcl
 have HB0:=H2
 have HL0:=HB0.here
 refine OA xQ HL0<|fun w3 gb H3 hgb=>OS xQ H3 1 Y Y Y Y Y (by first|exact NL Y|simp[zH]) Y<|fun w4 H4=>Xr e29<|J1<|Rq<|Xa Y<|Xr e29<|J7<|zU (fun nQ lQ w=>∃ (i:Nat) (y:Int) (b:Bo) (cs:List Value),l.length - i=nQ∧xN (Dj [(0,.slice A l.length k),(2,.pointer (some ⟨gr,0,none⟩)),(4,.pointer (some ⟨gb,0,none⟩)),(5,.int .i64 y)] 0 29) lQ∧y=(i:Int)∧i≤l.length∧vR Bo.empty (l.take i)=some b∧rJ b i∧Hl w (fun x=>(Es x∧x < w0.heap.size∨w0.heap.size≤x)∧x≠gr∧x≠gb) cs b∧CapR cs∧Hp w0 w [] [((some gr,41,[.slice none 0 0,.slice none 0 0,.slice none 0 0]):Ent),(some gb,41,cs)]) (l.length) ?_ ?_
 exact⟨0,_,Bo.empty,_,rfl,(Dv rfl rfl rfl rfl rfl),rfl,Nat.zero_le _,rfl,rJ.empty,hbe.to H4 (fun x hx hl=>⟨Tq x hx,.inr (by omega),fun e=>by subst e;have h1:=H4.lt (i:=0) rfl;have h2:=Tq _ hx;exact h2 (by simp[bl]),by omega⟩),(fun x A n k z e=>by simp only[List.cons.injEq,Value.slice.injEq]at e;omega),(HB0.all H4).pick [0,1] (by decide)⟩
 rintro nQ lQ w5 ⟨i,y,b,cs,rfl,hfit,rfl,hi,hrep,hgood,Ue,hcap,H5⟩
 obtain⟨j,rfl⟩:=hfit.open
 refine cR e29 ?_
 clear hfit
 have HB:=H5
 replace H5:=HB.here
 obtain⟨X1,x1,X2,x2,X3,x3,rfl,hx1,hx2,hx3⟩:=Ue
 have hgr0:w0.heap.size≤gr:=by
  rcases HB.place (i:=0) (g:=gr) rfl with h | h
  · cases h
  · exact h
 have Xk:w0.heap.size≤gb:=by
  rcases HB.place (i:=1) (g:=gb) rfl with h | h
  · cases h
  · exact h
 have hszB:=HB.size
 have hgr1:=HB.lt (i:=0) rfl
 have hgb1:=HB.lt (i:=1) rfl
 obtain⟨wl,hwl⟩:∃ n,n=w5.heap.size:=⟨_,rfl⟩
 refine J1<|Rq<|Xm Y<|Xm Y<|OV (ES Tryz.underlying22 Y)<|OT (zQ Y Y) (fun Ib=>?_) (fun Ib=>?_)
 have hil:i < l.length:=by omega
 obtain⟨nt,hx⟩:=yM hil
 obtain⟨p1,hp1,hR⟩:=h2.get hx
 obtain⟨B1,j1,B2,j2,rfl,hbv,Ih⟩:=hR
 obtain⟨a1,ha1⟩:=hr.some_ (by omega)
 subst ha1
 have htk:=qB hrep hx
 refine Xr e29<|J3 Y<|J6<|J1<|J7<|J1<|qI 11 (.p 0 (.p 1 (.p 2 (.p 3 (.p 4 (.two 5 (.p 6 (.p 7 (.p 8 (.o 9 (.o 10 (.o 11 .nil)))))) 9 (.o 5 (.p 6 (.p 7 (.p 8 (.o 10 (.o 11 .nil)))))))))))) H5 [0,1] yG (by decide) (by kernel_rfl) ?_
 rintro w6 hw6
 have H6:=Hp.drew H5;rw[← hw6]at H6
 refine TP Y<|MV (fun wz hz=>EN xQ Y (vs:=[.slice X1 b.groups.length x1,.slice X2 b.rights.length x2,.slice X3 b.last.length x3]) Y (hz.Ad (i:=1) Y Y))<|Tm Y Y<|Tm Y Y<|TP Y<|MV (fun wz hz=>EI Tryz.underlying22 xE Y Y (len:=l.length) (i:=i) (by omega) (by omega) Y)<|cT e29<|TP Y<|MV (fun wz hz=>EN xE Y (vs:=[.int .i64 nt.kind,.int .i64 nt.group,.int .i64 nt.b.r,.int .i64 nt.b.n,.int .i64 nt.Ag.slot,.int .i64 nt.Ag.b.r,.int .i64 nt.Ag.b.n,.slice B1 nt.Ag.val.length j1,.int .i64 nt.entry.slot,.slice B2 nt.entry.val.length j2,.int .i64 nt.right.g,yC nt.right.key,.int .i64 nt.right.Ai,.int .i64 nt.right.net,.int .i64 nt.client,.int .i64 nt.seq]) Y ((hr.to0 (HB.all hz)).elem hp hp1))<|pO ?_ ?_
 refine TQ Y ?_
 have hszi:=H6.size
 have hnp:=Hp.fresh H6
 have hkb:∀ x,(fun x=>(Es x∧x < w0.heap.size∨w0.heap.size≤x)∧x≠gr∧x≠gb) x→x < wl→x∉bl [((some gr,0,[]):Ent),(some gb,0,[])]∧(fun x=>(fun x=>(Es x∧x < w0.heap.size∨w0.heap.size≤x)∧x≠gr∧x≠gb) x∧x≠gr) x:=fun x hx hl=>⟨fun hb=>by
  have:x=gr∨x=gb:=by simpa[bl]using hb
  rcases this with h | h
  · exact hx.2.1 h
  · exact hx.2.2 h,hx,hx.2.1⟩
 have hkl:∀ x,Es x→x < w0.heap.size→x∉([]:List Nat)∧(fun x=>(fun x=>(Es x∧x < w0.heap.size∨w0.heap.size≤x)∧x≠gr∧x≠gb) x∧x≠gr) x:=fun x hx hl=>⟨by simp,⟨.inl ⟨hx,hl⟩,by omega,by omega⟩,by omega⟩
 refine OQ (EC gf48 Y) (NX b X1 x1 X2 x2 X3 x3 nt B1 j1 B2 j2 (fun x=>(fun x=>(Es x∧x < w0.heap.size∨w0.heap.size≤x)∧x≠gr∧x≠gb) x∧x≠gr) i _ (hx1.toS H6 fun x hx hl=>hkb x hx (by omega)) (hx2.toR H6 fun x hx hl=>hkb x hx (by omega)) (hx3.toM H6 fun x hx hl=>hkb x hx (by omega)) (hbv.to (HB.all H6) hkl) (Ih.to (HB.all H6) hkl) hgood (by omega) (hcap _ _ _ _ _ Y)) ?_
 rintro _ w7 ⟨Y1,m1,y1,Y2,m2,y2,Y3,m3,y3,fl,rfl,hyes,hno,Hd⟩
 have HG:=H6.Af Hd
 have HL:=HG.here
 have H7:=HG
 have hszw:=Hd.size
 have ZI:∀ x,up (fun x=>(fun x=>(Es x∧x < w0.heap.size∨w0.heap.size≤x)∧x≠gr∧x≠gb) x∧x≠gr) w6.heap.size x→x∉bl [((some gr,0,[]):Ent),((some gb,0,[]):Ent)]:=fun x hx hb=>(show False from by
  rcases hx with hx | hx
  · have h1:=hx.1.2.1;have h2:=hx.1.2.2;have h3:=hx.2;have:x=gr∨x=gb:=by simpa[bl]using hb
    omega
  · exact hnp x hx hb)
 have WJ:∀ x,up (fun x=>(fun x=>(Es x∧x < w0.heap.size∨w0.heap.size≤x)∧x≠gr∧x≠gb) x∧x≠gr) w6.heap.size x→(fun x=>(Es x∧x < w0.heap.size∨w0.heap.size≤x)∧x≠gr∧x≠gb) x:=fun x hx=>by
  rcases hx with hx | hx
  · exact hx.1
  · exact⟨.inr (by omega),by omega,by omega⟩
 cases hin:b.into nt
 obtain rfl:=hno hin
 refine OE ?_
 refine⟨fun hne=>H7.pick [0,1] (by decide),?_⟩
 refine Tm Y Y<|TP Y<|MV (fun wz hz=>xA Y Y)<|TP Y<|MV (fun wz hz=>xA Y Y)<|cT e29<|TQ Y<|OA xQ HL<|fun w8 g6 HL2 _=>have H8:=HG.all HL2;OE<|⟨fun hne=>H8.pick [0,1] (by decide),?_⟩
 refine cT e29<|TQ Y<|OS xQ HL2 2 (vs:=[.slice Y1 m1 y1,.slice Y2 m2 y2,.slice Y3 m3 y3]) Y Y Y Y Y (Nat.le_refl 3) Y ?_
 have m2:=()
 rotate_left 1
 rename_i bn
 obtain⟨rfl,hB',hc'⟩:=hyes bn hin
 refine OE ?_
 refine⟨fun hne=>H7.pick [0,1] (by decide),?_⟩
 refine Tm Y Y<|TP Y<|MV (fun wz hz=>xA Y Y)<|TP Y<|MV (fun wz hz=>xA Y Y)<|cT e29<|TQ Y<|OA xQ HL<|fun w8 g6 HL2 _=>have H8:=HG.all HL2;OE<|⟨fun hne=>H8.pick [0,1] (by decide),?_⟩
 refine cT e29<|TQ Y<|OS xQ HL2 2 (vs:=[.slice Y1 m1 y1,.slice Y2 m2 y2,.slice Y3 m3 y3]) Y Y Y Y Y (Nat.le_refl 3) Y ?_
 have m1:=()
 rotate_left 1
 refine TQ Y ?_
 have hszd:=H6.size
 refine OA xQ H6<|fun w7 g6 H7 Vo=>OE<|⟨fun hne=>H7.pick [0,1] (by decide),?_⟩
 refine cT e29<|TQ Y ?_
 have hszi:=H7.size
 have hnp:=Hp.fresh H7
 have hkb:∀ x,(fun x=>(Es x∧x < w0.heap.size∨w0.heap.size≤x)∧x≠gr∧x≠gb) x→x < wl→x∉bl [((some gr,0,[]):Ent),(some gb,0,[])]∧(fun x=>(fun x=>(Es x∧x < w0.heap.size∨w0.heap.size≤x)∧x≠gr∧x≠gb) x∧x≠g6) x:=fun x hx hl=>⟨fun hb=>by
  have:x=gr∨x=gb:=by simpa[bl]using hb
  rcases this with h | h
  · exact hx.2.1 h
  · exact hx.2.2 h,hx,by omega⟩
 have hkl:∀ x,Es x→x < w0.heap.size→x∉([]:List Nat)∧(fun x=>(fun x=>(Es x∧x < w0.heap.size∨w0.heap.size≤x)∧x≠gr∧x≠gb) x∧x≠g6) x:=fun x hx hl=>⟨by simp,⟨.inl ⟨hx,hl⟩,by omega,by omega⟩,by omega⟩
 refine OQ (EC gf48 Y) (NX b X1 x1 X2 x2 X3 x3 nt B1 j1 B2 j2 (fun x=>(fun x=>(Es x∧x < w0.heap.size∨w0.heap.size≤x)∧x≠gr∧x≠gb) x∧x≠g6) i _ (hx1.toS H7 fun x hx hl=>hkb x hx (by omega)) (hx2.toR H7 fun x hx hl=>hkb x hx (by omega)) (hx3.toM H7 fun x hx hl=>hkb x hx (by omega)) (hbv.to (HB.all H7) hkl) (Ih.to (HB.all H7) hkl) hgood (by omega) (hcap _ _ _ _ _ Y)) ?_
 rintro _ w8 ⟨Y1,m1,y1,Y2,m2,y2,Y3,m3,y3,fl,rfl,hyes,hno,Hd⟩
 have HG:=H7.Af Hd
 have HL:=HG.here
 have H8:=HG
 have hszw:=Hd.size
 have ZI:∀ x,up (fun x=>(fun x=>(Es x∧x < w0.heap.size∨w0.heap.size≤x)∧x≠gr∧x≠gb) x∧x≠g6) w7.heap.size x→x∉bl [((some gr,0,[]):Ent),((some gb,0,[]):Ent),((some g6,0,[]):Ent)]:=fun x hx hb=>(show False from by
  rcases hx with hx | hx
  · have h1:=hx.1.2.1;have h2:=hx.1.2.2;have h3:=hx.2;have:x=gr∨x=gb∨x=g6:=by simpa[bl]using hb
    omega
  · exact hnp x hx hb)
 have WJ:∀ x,up (fun x=>(fun x=>(Es x∧x < w0.heap.size∨w0.heap.size≤x)∧x≠gr∧x≠gb) x∧x≠g6) w7.heap.size x→(fun x=>(Es x∧x < w0.heap.size∨w0.heap.size≤x)∧x≠gr∧x≠gb) x:=fun x hx=>by
  rcases hx with hx | hx
  · exact hx.1
  · exact⟨.inr (by omega),by omega,by omega⟩
 cases hin:b.into nt
 obtain rfl:=hno hin
 refine OE ?_
 refine⟨fun hne=>H8.pick [0,1] (by decide),?_⟩
 refine Tm Y Y<|TP Y<|MV (fun wz hz=>xA Y Y)<|TP Y<|MV (fun wz hz=>xA Y Y)<|TQ Y<|OS xQ HL 2 (vs:=[.slice Y1 m1 y1,.slice Y2 m2 y2,.slice Y3 m3 y3]) Y Y Y Y Y (Nat.le_refl 3) Y ?_
 have m2:=()
 rotate_left 1
 rename_i bn
 obtain⟨rfl,hB',hc'⟩:=hyes bn hin
 refine OE ?_
 refine⟨fun hne=>H8.pick [0,1] (by decide),?_⟩
 refine Tm Y Y<|TP Y<|MV (fun wz hz=>xA Y Y)<|TP Y<|MV (fun wz hz=>xA Y Y)<|TQ Y<|OS xQ HL 2 (vs:=[.slice Y1 m1 y1,.slice Y2 m2 y2,.slice Y3 m3 y3]) Y Y Y Y Y (Nat.le_refl 3) Y ?_
 have m1:=()
 rotate_left 1
 obtain rfl:i=l.length:=by omega
 refine Xr e29<|J4 Y<|J8<|zT<|zS<|Rq<|OV (EN xQ Y (vs:=[.slice X1 b.groups.length x1,.slice X2 b.rights.length x2,.slice X3 b.last.length x3]) Y (H5.Ad (i:=1) Y Y))<|OS xQ H5 0 (vs:=[.slice X1 b.groups.length x1,.slice X2 b.rights.length x2,.slice X3 b.last.length x3]) Y Y Y Y Y (Nat.le_refl 3) Y<|fun w6 H6=>Xa Y<|Xr e29<|J5<|xO Y xQ (cs:=[.slice X1 b.groups.length x1,.slice X2 b.rights.length x2,.slice X3 b.last.length x3]) Y Y Y (H6.Ad (i:=0) Y Y) ?_
 rw[List.take_length]at hrep
 refine⟨_,_,b,Y,Hl.to (ok:=(fun x=>(Es x∧x < w0.heap.size∨w0.heap.size≤x)∧x≠gr∧x≠gb)) ⟨X1,x1,X2,x2,X3,x3,Y,hx1,hx2,hx3⟩ H6 (fun x hx hl=>⟨fun hb=>?_,hx.1.imp (fun h=>h.1) id⟩),.inl ⟨hrep,Y,hgood⟩,hcap,(HB.all H6).Ac⟩
 have:x=gr∨x=gb:=by simpa[bl]using hb
 rcases this with h | h
 exact hx.2.1 h
 exact hx.2.2 h
 any_goals
  clear m2
  intro w9 HL3
  have H9:=HG.all HL3
  refine OE ?_
  refine⟨fun hne=>H9.pick [0,1] (by decide),?_⟩
  refine cT e29<|TQ Y<|Xa Y ?_
  replace H9:=HL3
  refine OE ?_
  refine⟨fun hne=>absurd Y hne,?_⟩
  refine cT e29<|sZ<|cR e29<|J1<|Rq<|Xm Y<|Xn Y<|Xr e29<|J3 Y<|Rq<|OV (EB xQ RX Y Y)<|OS xQ H9 0 (vs:=[.slice none 0 0,.slice none 0 0,.slice none 0 0]) Y Y Y Y Y (Nat.le_refl 3) Y<|fun w10 Ar=>Xa Y<|Xr e29<|J5<|BR<|yR<|BR<|xO Y xQ (cs:=[.slice none 0 0,.slice none 0 0,.slice none 0 0]) Y Y Y (Ar.Ad (i:=0) Y Y)<|⟨_,_,Bo.zero,Y,Hl.zero _ _,.inr ⟨kD (htk.trans hin),Y,Y⟩,(fun x A n k z e=>by simp only[List.cons.injEq,Value.slice.injEq]at e;omega),(HB.all (HG.all Ar)).Ac⟩
 any_goals
  clear m1
  intro w9 HL3
  have H9:=HG.all HL3
  refine OE ?_
  refine⟨fun hne=>H9.pick [0,1] (by decide),?_⟩
  refine cT e29<|TQ Y<|Xa Y ?_
  replace H9:=HL3
  refine OE ?_
  refine⟨fun hne=>absurd Y hne,?_⟩
  refine cT e29<|sZ<|cR e29<|J1<|Rq<|Xm Y<|Xn Y<|Xr e29<|J4 Y<|J6<|J2<|OV (EN xQ Y (vs:=[.slice Y1 m1 y1,.slice Y2 m2 y2,.slice Y3 m3 y3]) Y (H9.Ad (i:=2) Y Y))<|OS xQ H9 1 (vs:=[.slice Y1 m1 y1,.slice Y2 m2 y2,.slice Y3 m3 y3]) Y Y Y Y Y (Nat.le_refl 3) Y<|fun w10 Ar=>Xr e29<|zA (zB ?_)
  refine J2<|Xm Y<|OV (zL Y Y (IntWalk.i64_in _ (by omega)))<|Xa Y<|Xr e29<|zA (zI ?_)
  exact⟨l.length - (i+1),by omega,i+1,_,bn,[.slice Y1 m1 y1,.slice Y2 m2 y2,.slice Y3 m3 y3],Y,(Dv Y Y Y Y Y),by omega,by omega,htk.trans hin,hgood.into hin,hB'.to Ar (fun x hx _=>⟨ZI x hx,WJ x hx⟩),(fun x A n k z e=>by simp only[List.cons.injEq,Value.slice.injEq]at e;omega),(HB.all (HG.all Ar)).pick [0,1] (by decide)⟩
end Go.Proofs.YtjoeklkmnfaabaaGreat
namespace Go.Proofs.YtjoeklkmnfaabaaGreat
set_option maxRecDepth 100000
set_option maxHeartbeats 4000000
open Go Go.RowKit
set_option linter.unusedVariables false
attribute [local irreducible] yT Ops zP Cd
theorem S9 (w0:World):zP Tryz.prog 10 #[] w0 (fun r w'=>r=.bool (decide (True))∧Hp w0 w' [] []):=by
 refine zE Tryz.func10 Tryz.ntmps10 Y<|cR e27 ?_
 have H:=Hp.refl w0
 refine Rq<|Xa Y<|Xr e27<|Rq<|OV (EB wX BG Y Y)<|OV (EB xE pS Y Y)<|zG Tryz.underlying22 xE H (cs:=[.int .i64 1,.int .i64 1,.int .i64 2,.int .i64 1,.int .i64 0,.int .i64 0,.int .i64 0,.slice none 0 0,.int .i64 0,.slice none 0 0,.int .i64 0,.string ⟨#[]⟩,.int .i64 0,.int .i64 0,.int .i64 0,.int .i64 0]) Y (by decide) Y<|fun w1 g1 H1 hg1=>?_
 have hl:=Sl.row (R:=NtR w1 (fun _=>True)) (xs:=[YH]) (ok:=fun _=>True) H1 (i:=0) (sp:=[]) (ps:=[[.int .i64 1,.int .i64 1,.int .i64 2,.int .i64 1,.int .i64 0,.int .i64 0,.int .i64 0,.slice none 0 0,.int .i64 0,.slice none 0 0,.int .i64 0,.string ⟨#[]⟩,.int .i64 0,.int .i64 0,.int .i64 0,.int .i64 0]]) rfl (Pl.one rfl) (by decide) (wC.one ⟨none,0,none,0,rfl,Bs.none _ _,Bs.none _ _⟩) (fun _ _=>trivial)
 refine OQ (EC gf33 Y) (MD _ 1 [YH] _ _ hl (by decide)) ?_
 rintro _ w2 ⟨cs,e,b9,rfl,Zb,hrep,Hd⟩
 obtain⟨hb9,rfl⟩:b9=awB∧e=0:=by
  rcases hrep with ⟨h1,h2,_⟩ | ⟨h1,_⟩
  · rw[P0]at h1;cases h1;exact⟨rfl,h2⟩
  · rw[P0]at h1;cases h1
 subst hb9
 obtain⟨A1,k1,A2,k2,A3,k3,rfl,hv1,hv2,hv3⟩:=Zb
 have H2:=H1.Af Hd
 obtain⟨ps,hp,hr,ha,h2⟩:=id hv1
 obtain⟨a1,ha1⟩:=hr.some_ (by decide)
 subst ha1
 obtain⟨p1,hp1,hR⟩:=h2.get (i:=1) (b:=awS) rfl
 obtain⟨C1,q1,C2,q2,C3,q3,rfl,_,_,_⟩:=hR
 have HR:=H2.Ac
 replace H2:=HR.here
 refine Aa e27<|Xm Y<|Xe Y Y<|Xe Y Y<|OA xQ H2<|fun w3 g3 H3 hg3=>Aa e27<|OS xQ H3 0 Y Y Y Y Y (by first|exact NL Y|simp[zH]) Y<|fun w4 H4=>Xa Y<|Xr e27<|Rq<|Xm Y<|Ij (xP Y Y) (Y)<|Xm Y<|Aa e27<|OY Y<|Xf vO Y<|OY Y<|OV (EL qH Y (H4.cell (i:=0) Y Y))<|Aa e27<|OY Y<|OV (ES Tryz.underlying37 Y)<|OY Y<|Ij (xP Y Y) (Y)<|Xt Y Y<|Xm Y<|Aa e27<|OY Y<|Xf vO Y<|OY Y<|OV (EL qH Y (H4.cell (i:=0) Y Y))<|Aa e27<|OY Y<|OV (EI Tryz.underlying37 xW Y Y (len:=8) (i:=1) Y (by decide) Y)<|OY Y<|OV (yJ vW Y)<|Aa e27 ?_
 refine OY Y<|OV (bU sT Y)<|OY Y<|OV (EL ty3 Y (((hr.to0 H4).elem hp hp1) 0 _ Y))<|Aa e27<|OY Y<|Ij (xP Y Y) (Y)<|Xt Y Y<|Xa Y<|Xr e27<|J5<|Ak Y Y<|⟨bt trivial,(HR.all H4).Ac⟩
end Go.Proofs.YtjoeklkmnfaabaaGreat
namespace Go.Proofs.YtjoeklkmnfaabaaGreat
set_option maxRecDepth 100000
set_option maxHeartbeats 32000000
open Go Go.RowKit
set_option linter.unusedVariables false
attribute [local irreducible] yT Ops zP Cd
theorem QT (A:Option Addr) (k:Nat) (l:List Nt) (Es:Nat→Prop) (w0:World) (hl:Sl (NtR w0 Es) 16 w0 Es A l) (hn:l.length≤838000000000) (hnt:∀ n∈l,NtB n):zP Tryz.prog 4 #[.slice A l.length k] w0 (fun r w'=>r=.bool true∧Hp w0 w' [] []):=by
 refine zE Tryz.func4 Tryz.ntmps4 Y<|cR e115 ?_
 have H:=Hp.refl w0
 have hlo:Sl (NtR w0 (fun x=>x < w0.heap.size)) 16 w0 (fun x=>x < w0.heap.size) A l:=hl.toN (Hp.refl w0) (fun x _ hx=>⟨by simp,hx⟩)
 refine Rq<|Xa Y<|Xr e115<|Rq<|OQ (EC gf8 Y) (NI 4096 _ (by decide) (by decide)) ?_
 rintro _ w1 ⟨gd,gk,rfl,Hd⟩
 have H1:=(H.call0 Hd).pick [0,1,2] (by decide)
 refine Xm Y<|Xe Y Y<|Xe Y Y<|Aa e115<|Xa Y<|Xa Y<|Xr e115<|Rq<|Xm Y ?_
 have hO:=Yq (n:=4096) (by decide) (by decide)
 refine OQ (EC gf7 Y) ((Rn.Pz gd gk none 0 [] jH _ H1.here hO Y (Nat.zero_le _) (Wl.anew 0 0 0) 0 VE Y (Nat.zero_le _) (Nat.zero_le _) [] Y (fun n hn=>by cases hn) Bo.empty Y (Nat.zero_le _)).d (fun _ _ h=>h)) ?_
 rintro _ w2 ⟨v1,W1,rfl,e1,e2,f1,f2,f3,f4,f5,X5,hok1,Hd1⟩
 subst e1 e2
 have hv1:Il w0 w2 [] noB v1 v1 jH W1 Bo.empty []:=Il.opened (by rw[List.append_nil];exact H1) hok1 Hd1
 have WI:Jz jH W1 Bo.empty [] 0 0:=Jz.YF X5 f1 f2 f3 f5
 have H2:=hv1.H.here
 refine Xm Y<|Xe Y Y<|Aa e115<|Xe Y Y<|Xa Y<|Xa Y<|Xr e115<|J1<|Rq<|OC (EC gf10 Y) (S9 _)<|fun w3 Hd=>have H3:=H2.Af Hd;Xn Y<|Xm Y<|Aa e115<|OY Y<|Xm Y<|OY Y<|Dy (yS Y Y) (by decide)<|Xu Y Y<|Xm Y<|Aa e115<|OY Y<|Xm Y<|OY Y<|Dy (yE Tryz.underlying23 Y) (by simp)<|Xu Y Y<|Xr e115<|J4 Y<|J6<|Rq<|Xm Y<|OQ (EC gf17 Y) (MF A k l (fun x=>x < w0.heap.size) _ (hlo.toN (hv1.H.all H3) k0) (by omega)) ?_
 rintro _ w4 ⟨csw,ew,wb,rfl,hbw,hrep,hcap,Hd⟩
 obtain⟨Y1,y1,Y2,y2,Y3,y3,rfl,hy1,hy2,hy3⟩:=hbw
 have hc2:wb.rights.length≤y2:=hcap _ _ _ _ _ rfl
 have hv2:=hv1.on (R':=[]) (H3.Af Hd)
 have hoY:∀ x,up (fun x=>x < w0.heap.size) w3.heap.size x→x < w4.heap.size→x∉bl (Aj v1 jH W1++[])∧True:=fun x hx _=>⟨by
  rcases hx with hx | hx
  · exact G3 hv2.H x hx
  · exact BJ (hv1.on (R':=[]) H3).H (Nat.le_refl _) x hx,trivial⟩
 have H4:=hv2.H.here
 refine Xm Y<|Xe Y Y<|Aa e115<|Xe Y Y<|OA xQ H4<|fun w5 g7 H5 hg7=>OS xQ H5 7 Y Y Y Y Y (by first|exact NL Y|simp[zH]) Y<|fun w6 H6=>Xa Y<|Xr e115<|J1<|Rq<|Xm Y<|OV (ES Tryz.underlying22 Y)<|OT (yO Y Y) (fun hp38=>?_) (fun hp38=>?_)
 refine Xm Y<|Aa e115<|Oz 2 Y<|Xt Y Y ?_
 have m1:=()
 rotate_left 1
 refine Xm Y<|Aa e115<|OY Y<|Xm Y<|OY Y<|OT (yS Y Y) (fun hp41=>?_) (fun hp41=>?_)
 refine Xu Y Y ?_
 have m1:=()
 rotate_left 1
 obtain⟨YX,_,hgw⟩:vR Bo.empty l=some wb∧ew=0∧rJ wb l.length:=by
  rcases hrep with h | ⟨_,_,h⟩
  · exact h
  · omega
 have Zg:BoB wb:=BoB.empty.Oe hnt YX
 have hnnw:=KJ hgw YX
 have hl30:l.length≤30:=by omega
 refine Xu Y Y<|Xm Y<|Aa e115<|OY Y<|Xm Y<|OY Y<|OV (EN xQ Y (vs:=[.slice Y1 wb.groups.length y1,.slice Y2 wb.rights.length y2,.slice Y3 wb.last.length y3]) Y (H6.Ad (i:=7) Y Y))<|Aa e115<|OY Y<|OX (EC gf18 Y) (V2 A k l (fun x=>x < w0.heap.size) wb Y1 y1 Y2 y2 Y3 y3 l.length _ _ (hlo.toN (hv2.H.all H6) k0) (by omega) hnt (hy1.toS H6 hoY) (hy2.toR H6 hoY) hgw Zg (by omega) (by omega)) (fun XO w7 Hd=>?_) (fun XO w7 Hd=>?_)
 have H7:=H6.Af Hd
 have hsh:∀ n∈l,rN n:=fun n hn=>XO.1 n (List.mem_append_left _ hn)
 have hus:=XO.2
 have hus1:used (W1.recs++l.map xG)≤2032:=by
  rw[WI.recs]
  have h9:=lW (l++wb.notes) l.length
  rw[List.take_left' rfl]at h9
  exact Nat.le_trans h9 hus
 refine OY Y<|Xn Y<|Xu Y Y<|Xr e115<|J4 Y<|J6<|J1<|J1<|zR 17 [(true,0),(true,1),(false,2),(true,3),(true,4),(true,5),(true,7),(false,6),(false,8),(true,9),(true,10),(true,11),(true,12),(true,14),(true,15),(false,13),(true,16),(false,17)] H7 [7] yG (by decide) (by kernel_rfl) ?_
 rintro w8 hw8
 have H8:=Hp.drew H7;rw[← hw8]at H8
 have hv3:=hv2.on (R':=[((some g7,41,[.slice Y1 wb.groups.length y1,.slice Y2 wb.rights.length y2,.slice Y3 wb.last.length y3]):Ent)]) H8
 have hk3:∀ x,up (fun x=>x < w0.heap.size) _ x→x < _→x∉bl (Aj v1 jH W1++[])∧x∉bl (Aj v1 jH W1++[((some g7,41,[.slice Y1 wb.groups.length y1,.slice Y2 wb.rights.length y2,.slice Y3 wb.last.length y3]):Ent)]):=fun x hx hl=>⟨(hoY x hx hl).1,(off H8 x (hoY x hx hl).1 hl).2⟩
 have hbw3:Hl w8 (fun x=>x∉bl (Aj v1 jH W1++[((some g7,41,[.slice Y1 wb.groups.length y1,.slice Y2 wb.rights.length y2,.slice Y3 wb.last.length y3]):Ent)])) [.slice Y1 wb.groups.length y1,.slice Y2 wb.rights.length y2,.slice Y3 wb.last.length y3] wb:=⟨Y1,y1,Y2,y2,Y3,y3,rfl,hy1.toS H8 hk3,hy2.toR H8 hk3,hy3.toM H8 hk3⟩
 refine Zm Y Y<|Zm Y Y<|MO Y<|OQ (EC gf11 Y) (QP v1 jH W1 Bo.empty (gG w0 noB (Aj v1 jH W1++[((some g7,41,[.slice Y1 wb.groups.length y1,.slice Y2 wb.rights.length y2,.slice Y3 wb.last.length y3]):Ent)])) _ hv3.H.less.here hv3.ok A l k (fun x=>x < w0.heap.size) (hlo.toN hv3.H k0) (fun x hx hb=>hb.elim (fun h=>h.1.elim) (G3 hv3.H x hx)) hnt (fun x hx=> .inr (Dt hx)) (by omega) 0 rJ.empty (Nat.zero_le _) 0 WI.lg WI.up WI.dead (Nat.zero_le _) (Nat.le_trans WI.first (Nat.zero_le _)) (Nat.le_trans WI.turn (Nat.zero_le _))) ?_
 rintro _ w9 ⟨x,D2,W2,b2,rfl,hres,hpo⟩
 obtain⟨v2,g1,g2,g3,hv4,_,HX4⟩:=hv3.call hpo
 obtain⟨hx0,hb2,ha2,hw2,ht2,hr2,s2,WH⟩:=WI.save (Nat.zero_le _) rfl hres hnt hsh YX hus1
 subst hx0
 subst b2
 obtain⟨⟨gd2,gk2,Uf,Uj,sp2,gv2,gr2,cr2,xs2,sr2,gp2,cp2,sq2⟩,YE,cs2⟩:=v2
 obtain rfl:gd2=v1.m.gd:=g1
 obtain rfl:gk2=v1.m.gk:=g2
 obtain rfl:YE=v1.gx:=g3
 have hbw4:=hbw3.to HX4 (off HX4)
 have hlr2:W2.recs.length=l.length:=by rw[hr2,WI.recs];simp
 have H9:=H8.all HX4
 refine OE ?_
 refine⟨fun hne=>H9.pick [7] (by decide),?_⟩
 refine cZ e115<|MP Y<|tW (fun wz hz=>yS Y Y) (by decide)<|Zm Y Y<|MP Y<|MY Y<|MV (fun wz hz=>zK Y)<|MP Y<|MY Y<|MV (fun wz hz=>EN xQ Y (vs:=[.slice Y1 wb.groups.length y1,.slice Y2 wb.rights.length y2,.slice Y3 wb.last.length y3]) Y (hz.Ad (i:=0) Y Y))<|cZ e115<|MO Y<|OY Y<|OQ (EC VZ Y) (AX (⟨⟨v1.m.gd,v1.m.gk,Uf,Uj,sp2,gv2,gr2,cr2,xs2,sr2,gp2,cp2,sq2⟩,v1.gx,cs2⟩:Vm) D2 W2 wb _ _ hv4.H.less.here hv4.ok l.length hgw (by omega) (fun x hx=> .inr (Dt hx))) ?_
 rintro _ w10 ⟨_,rfl,⟨Z1,z1,Z2,z2,Z3,z3,rfl,hz1,hz2,hz3⟩,Hd5⟩
 have Qu:=hv4.H.here.front Hd5
 have hv5:=hv4.on Qu
 have ZY:=hbw4.to Qu (off Qu)
 have Ar:=H9.front Hd5
 refine OE ?_
 refine⟨fun hne=>Ar.pick [7] (by decide),?_⟩
 refine cZ e115<|MO Y<|OY Y ?_
 obtain⟨_,hq1,hq2,hq3⟩:=ZY.Yo
 obtain⟨n1,n2,n3,n4⟩:=(Rep.size (l:=l) (.inl ⟨YX,rfl,hgw⟩) (by omega))
 refine OC (EC gf13 Y) (GS wb Z1 z1 Z2 z2 Z3 z3 Y1 y1 Y2 y2 Y3 y3 _ _ _ hz1 hz2 hz3 hq1 hq2 hq3 n1 n2 n3 n4)<|fun Gm Hd6=>have HX6:=hv5.H.here.Af Hd6;have hv6:=hv5.on HX6;have hbw6:=ZY.to HX6 (off HX6);have Bd:=Ar.Af Hd6;OE<|⟨fun hne=>Bd.pick [7] (by decide),?_⟩
 refine cZ e115<|MP Y<|MY Y<|MV (fun wz hz=>iA Y)<|MP Y<|MV (fun wz hz=>wT Y Y)<|Zm Y Y<|MP Y<|MY Y<|MV (fun wz hz=>zK Y)<|cZ e115<|MP Y<|MY Y<|MV (fun wz hz=>zK Y)<|MP Y<|MY Y<|MV (fun wz hz=>ES Tryz.underlying22 Y)<|MO Y<|OY Y<|OC (EC gf16 Y) (LT (⟨⟨v1.m.gd,v1.m.gk,Uf,Uj,sp2,gv2,gr2,cr2,xs2,sr2,gp2,cp2,sq2⟩,v1.gx,cs2⟩:Vm) D2 W2 wb _ _ hv6.H.less.here hv6.ok)<|fun w12 Hd7=>have Zz:=hv6.H.here.front Hd7;have hv7:=hv6.on Zz;have hbw7:=hbw6.to Zz (off Zz);have Bc:=Bd.front Hd7;OE<|⟨fun hne=>Bc.pick [7] (by decide),?_⟩
 refine cZ e115<|MP Y<|MY Y<|tW (fun wz hz=>yS Y Y) (by omega)<|MO Y<|Xu Y Y<|OE<|⟨fun hne=>absurd Y hne,?_⟩
 refine cZ e115<|ME<|cR e115<|J4 Y<|J6<|Rq<|Xm Y<|OQ (EC gf9 Y) (K0 v1.m.gd v1.m.gk Uf Uj sp2 D2 _ (hv7.H.pick [0,1,2] (by decide)).here hv7.ok.ok.d none [] 0 (Rd.none_ _ 1) (fun h=>by cases h) (by rw[hw2];exact Nat.zero_le _)) ?_
 rintro _ Io ⟨rfl,gw8,cw8,sp8,hD8,Hd8⟩
 have HP8:Hp w0 w12 [] (xC _ _ _ _ _ D2++[((some g7,41,[.slice Y1 wb.groups.length y1,.slice Y2 wb.rights.length y2,.slice Y3 wb.last.length y3]):Ent)]):=hv7.H.pick [0,1,2,7] (by decide)
 have HX8:=HP8.here.front Hd8
 have HD8:=HP8.front Hd8
 have Ce:=HD8.here
 have hk8:∀ x,x∉bl (Aj (⟨⟨v1.m.gd,v1.m.gk,Uf,Uj,sp2,gv2,gr2,cr2,xs2,sr2,gp2,cp2,sq2⟩,v1.gx,cs2⟩:Vm) D2 W2++[((some g7,41,[.slice Y1 wb.groups.length y1,.slice Y2 wb.rights.length y2,.slice Y3 wb.last.length y3]):Ent)])→x < w12.heap.size→x∉bl _∧x∉bl _:=fun x hx hl=>off HX8 x (fun hb=>hx (Df (is:=[0,1,2,7]) hv7.H x hb)) hl
 have hbw8:=hbw7.to HX8 hk8
 refine Xr e115<|Rq<|Xm Y<|OQ (EC gf19 Y) (JR v1.m.gd v1.m.gk gw8 cw8 sp8 (D2.crash []) _ HD8.less.here hD8) ?_
 rintro _ Md ⟨rfl,gw9,cw9,sp9,hD9,Hd9⟩
 have HP9:Hp w0 Io [] (xC _ _ _ _ _ (D2.crash [])++[((some g7,41,[.slice Y1 wb.groups.length y1,.slice Y2 wb.rights.length y2,.slice Y3 wb.last.length y3]):Ent)]):=HD8
 have HX9:=HP9.here.front Hd9
 have HD9:=HP9.front Hd9
 have Ei:=HD9.here
 have hbw9:=hbw8.to HX9 (off HX9)
 obtain⟨hlg9,ZC,Qm,Qx,ha9⟩:=WH.fall hw2 []
 refine Xr e115<|Rq<|Xm Y<|OQ (EC gf7 Y) ((Rn.Pz v1.m.gd v1.m.gk gw9 cw9 sp9 (D2.crash []).start _ HD9.less.here hD9 ZC (by rw[Qx];exact Nat.zero_le _) W2 s2 hlg9 ht2 (Nat.le_trans WH.turn (by decide)) (Nat.le_trans WH.first (by decide)) ([]++l) WH.recs WH.nts wb WH.rep (by rw[List.nil_append];omega)).d (fun _ _ h=>h)) ?_
 rintro _ Mc ⟨v3,W3,rfl,e1,e2,f1',f2',f3',f4',f5',hlg3,Nl,Zy⟩
 have ZB:Il w0 Mc [] noB v3 v3 _ W3 wb [((some g7,41,[.slice Y1 wb.groups.length y1,.slice Y2 wb.rights.length y2,.slice Y3 wb.last.length y3]):Ent)]:=Il.opened HD9 Nl Zy
 have HX10:=HD9.here.front Zy
 have Za:=hbw9.to HX10 (off HX10)
 have Wj:=WH.again hlg3 ZC Qm Qx f1' f2' f3' f5'
 have Fa:=ZB.H.here
 refine Xm Y<|Xe Y Y<|Aa e115<|Xe Y Y<|Xa Y<|Xa Y<|Xr e115<|J1<|J1<|zR 19 [(true,0),(true,1),(true,2),(true,3),(true,4),(true,5),(true,6),(true,7),(true,9),(false,8),(false,10),(true,11),(true,12),(true,13),(true,14),(true,15),(true,16),(false,17),(true,18),(false,19)] Fa [7] yG (by decide) (by kernel_rfl) ?_
 rintro w16 hw16
 have Jf:=Hp.drew Fa;rw[← hw16]at Jf
 have Vj:=ZB.on Jf
 have Z9:=Za.to Jf (off Jf)
 refine Zm Y Y<|MP Y<|tW (fun wz hz=>yS Y Y) (by decide)<|Zm Y Y<|MP Y<|MY Y<|MV (fun wz hz=>zK Y)<|cZ e115<|MP Y<|MY Y<|tW (fun wz hz=>yE Tryz.underlying23 Y) (by simp)<|MP Y<|MV (fun wz hz=>wT Y Y)<|Zm Y Y<|MP Y<|MY Y<|MV (fun wz hz=>zK Y)<|cZ e115<|MP Y<|MY Y<|MV (fun wz hz=>EN xQ Y (vs:=[.slice Y1 wb.groups.length y1,.slice Y2 wb.rights.length y2,.slice Y3 wb.last.length y3]) Y (hz.Ad (i:=0) Y Y))<|MO Y<|OY Y<|OQ (EC VZ Y) (AX v3 (D2.crash []).start W3 wb _ _ Vj.H.less.here Vj.ok l.length hgw (by omega) (fun x hx=> .inr (Dt hx))) ?_
 rintro _ w17 ⟨_,rfl,⟨P1,p1,P2,p2,P3,p3,rfl,hp1,hp2,hp3⟩,Zx⟩
 have YS:=Vj.H.here.front Zx
 have ZA:=Vj.on YS
 have WU:=Z9.to YS (off YS)
 have Qv:=Jf.front Zx
 refine OE ?_
 refine⟨fun hne=>Qv.pick [7] (by decide),?_⟩
 refine cZ e115<|MO Y<|OY Y ?_
 obtain⟨_,hq1,hq2,hq3⟩:=WU.Yo
 obtain⟨n1,n2,n3,n4⟩:=(Rep.size (l:=l) (.inl ⟨YX,rfl,hgw⟩) (by omega))
 refine OC (EC gf13 Y) (GS wb P1 p1 P2 p2 P3 p3 Y1 y1 Y2 y2 Y3 y3 _ _ _ hp1 hp2 hp3 hq1 hq2 hq3 n1 n2 n3 n4)<|fun w18 Zw=>have YR:=ZA.H.here.Af Zw;have Wv:=ZA.on YR;have WT:=WU.to YR (off YR);have H18:=Qv.Af Zw;OE<|⟨fun hne=>H18.pick [7] (by decide),?_⟩
 refine cZ e115<|MP Y<|MY Y<|MV (fun wz hz=>iA Y)<|MP Y<|MV (fun wz hz=>wT Y Y)<|Zm Y Y<|MP Y<|MY Y<|MV (fun wz hz=>zK Y)<|cZ e115<|MP Y<|MY Y<|MV (fun wz hz=>EF sU Y)<|MP Y<|MY Y<|MV (fun wz hz=>EL kX Y (hz.cell (i:=0) Y Y))<|MO Y<|OY Y ?_
 obtain⟨_,_,XA,_⟩:=WT.Yo
 have Kt:=FW hgw.rts
 have hus3:used (W3.recs++(wb.fold wb.rights).notes.map xG)≤2032:=by
  rw[f1',WH.recs,List.nil_append,← List.map_append]
  exact hus
 refine OQ (EC gf12 Y) (QU v3 (D2.crash []).start W3 wb _ _ Wv.H.less.here Wv.ok (fun x hx=> .inr (Dt hx)) Y2 wb.rights y2 _ XA hc2 (fun x hx hb=>hb.elim (fun h=>h.1.elim) hx) l.length hgw Zg (by omega) (by omega) s2 Wj.lg Wj.up Wj.dead (Nat.le_trans Wj.wait (by decide)) (Nat.le_trans Wj.first (by decide)) (Nat.le_trans Wj.turn (by decide))) ?_
 rintro _ w19 ⟨x,D4,W4,b4,rfl,ZH,hpo4⟩
 obtain⟨v4,g1',g2',g3',Ql,_,YQ⟩:=Wv.call hpo4
 obtain⟨hx0,hb4,ha4,hw4,ht4,hr4,s4,lv4⟩:=Wj.fold (by decide) ha9 ZH Kt hus3
 subst hx0
 subst b4
 obtain⟨m4,gx4,cs4⟩:=v4
 obtain rfl:gx4=v3.gx:=g3'
 have Z8:=WT.to YQ (off YQ)
 have hg4:rJ (wb.fold wb.rights) l.length:=hgw.fold (List.Sublist.refl _)
 have H19:=H18.all YQ
 refine OE ?_
 refine⟨fun hne=>H19.pick [7] (by decide),?_⟩
 refine cZ e115<|MP Y<|MY Y<|tW (fun wz hz=>yS Y Y) (by decide)<|MO Y<|Xu Y Y<|OE<|⟨fun hne=>absurd Y hne,?_⟩
 refine cZ e115<|ME<|cR e115<|J4 Y<|J6<|Rq<|Xm Y<|OQ (EC VZ Y) (AX (⟨m4,v3.gx,cs4⟩:Vm) D4 W4 (wb.fold wb.rights) _ _ Ql.H.less.here Ql.ok l.length hg4 (by omega) (fun x hx=> .inr (Dt hx))) ?_
 rintro _ w20 ⟨_,rfl,⟨Q1,q1,Q2,q2,Q3,q3,rfl,hq1,hq2,hq3⟩,Hd15⟩
 have YP:=Ql.H.here.front Hd15
 have Wu:=Ql.on YP
 have Z7:=Z8.to YP (off YP)
 have Y9:=Wu.H.here
 refine OA xQ Y9<|fun w21 g11 H21 Ua=>OS xQ H21 8 Y Y Y Y Y (by first|exact NL Y|simp[zH]) Y<|fun w22 H22=>Xr e115<|J1<|zR 17 [(true,0),(true,1),(false,2),(true,3),(true,4),(true,5),(true,6),(true,7),(true,8),(true,9),(true,10),(true,12),(false,11),(false,13),(true,14),(true,15),(true,16),(false,17)] H22 [7,8] yG (by decide) (by kernel_rfl) ?_
 rintro w23 hw23
 have YT:=Hp.drew H22;rw[← hw23]at YT
 have Ws:=Wu.on (R':=[((some g7,41,[.slice Y1 wb.groups.length y1,.slice Y2 wb.rights.length y2,.slice Y3 wb.last.length y3]):Ent),((some g11,41,[.slice Q1 wb.groups.length q1,.slice Q2 wb.rights.length q2,.slice Q3 0 q3]):Ent)]) YT
 have WR:=Z7.to YT (off YT)
 have hq16:=hq1.toS (ok':=fun _=>True) YT (fun x hx hl=>⟨BJ Ql.H (Nat.le_refl _) x hx.1,trivial⟩)
 have hq17:=hq2.toR (ok':=fun _=>True) YT (fun x hx hl=>⟨BJ Ql.H (Nat.le_refl _) x hx.1,trivial⟩)
 refine MP Y<|MV (fun wz hz=>EN xQ Y (vs:=[.slice Q1 wb.groups.length q1,.slice Q2 wb.rights.length q2,.slice Q3 0 q3]) Y (hz.Ad (i:=1) Y Y))<|MP Y<|MV (fun wz hz=>EN xQ Y (vs:=[.slice Y1 wb.groups.length y1,.slice Y2 wb.rights.length y2,.slice Y3 wb.last.length y3]) Y (hz.Ad (i:=0) Y Y))<|MO Y ?_
 obtain⟨_,hq21,XA,hq23⟩:=WR.Yo
 obtain⟨n1,n2,n3,n4⟩:=(Rep.size (l:=l) (.inl ⟨YX,rfl,hgw⟩) (by omega))
 refine OC (EC gf20 Y) (TE wb.groups wb.rights Q1 q1 Q2 q2 Q3 0 q3 Y1 y1 Y2 y2 Y3 wb.last.length y3 _ _ _ hq16 hq17 hq21 XA n1 n2 n4)<|fun w24 Zv=>have YO:=Ws.H.here.Af Zv;have Vh:=Ws.on YO;have Z5:=WR.to YO (off YO);have H24:=YT.Af Zv;OE<|⟨fun hne=>H24.pick [7,8] (by decide),?_⟩
 refine cZ e115<|Zm Y Y<|MP Y<|MY Y<|MV (fun wz hz=>EF tJ Y)<|MP Y<|MY Y<|MV (fun wz hz=>EL mM Y (hz.cell (i:=1) Y Y))<|MP Y<|MY Y<|MV (fun wz hz=>ES Tryz.underlying39 Y)<|cZ e115<|MP Y<|MY Y<|kJ (fun wz hz=>xP Y Y) (Y)<|MP Y<|MV (fun wz hz=>xS Y Y)<|Zm Y Y<|MP Y<|MY Y<|MV (fun wz hz=>zK Y)<|cZ e115<|MP Y<|MY Y<|MV (fun wz hz=>EN xQ Y (vs:=[.slice Y1 wb.groups.length y1,.slice Y2 wb.rights.length y2,.slice Y3 wb.last.length y3]) Y (hz.Ad (i:=0) Y Y))<|MO Y<|OY Y<|OC (EC gf16 Y) (LT (⟨m4,v3.gx,cs4⟩:Vm) D4 W4 (wb.fold wb.rights) _ _ Vh.H.less.here Vh.ok)<|fun w25 Zu=>have YN:=Vh.H.here.front Zu;have hv18:=Vh.on YN;have Z4:=Z5.to YN (off YN);have H25:=H24.front Zu;OE<|⟨fun hne=>H25.pick [7,8] (by decide),?_⟩
 refine cZ e115<|MO Y<|OY Y ?_
 obtain⟨_,hq31,hq32,_⟩:=Z4.Yo
 refine OQ (EC gf21 Y) (G4 wb Y1 y1 Y2 y2 Y3 wb.last.length y3 l.length _ _ hq31 hq32 hgw (by omega) (by omega)) ?_
 rintro _ w26 ⟨A9,k9,rfl,_,Hd19⟩
 have hlr4:W4.recs.length=wb.notes.length:=(congrArg List.length hr4).trans (List.length_map ..)
 have H26:=H25.Af Hd19
 refine OE ?_
 refine⟨fun hne=>H26.pick [7,8] (by decide),?_⟩
 refine cZ e115<|MP Y<|MY Y<|MV (fun wz hz=>ES Tryz.underlying22 Y)<|MP Y<|MY Y<|kJ (fun wz hz=>xP Y Y) (by omega)<|MP Y<|MV (fun wz hz=>xS Y Y)<|MO Y<|Xa Y<|OE<|⟨fun hne=>absurd Y hne,?_⟩
 refine cZ e115<|ME<|cR e115<|J5<|Ak Y Y<|⟨Y,(Wu.H.all H26).Ac⟩
 have H7:=H6.Af Hd
 refine OY Y<|Xn Y<|Xu Y Y<|Xr e115<|J3 Y<|Rq<|Xa Y<|Xr e115<|J5<|Ak Y Y<|⟨Y,(hv2.H.all H7).Ac⟩
 any_goals
  clear m1
  refine Xm Y<|Aa e115<|Oz 4 Y<|Aa e115<|Xt Y Y<|Xr e115<|J3 Y<|Rq<|Xa Y<|Xr e115<|J5<|Ak Y Y<|⟨Y,(hv2.H.all H6).Ac⟩
end Go.Proofs.YtjoeklkmnfaabaaGreat
namespace Go.Proofs.YtjoeklkmnfaabaaGreat
open Go Go.ChangeShapes Go.WideShapes Go.ChangeAt Go.RowKit
section
variable {H:Type} {enc:TypeId×Value→H} {P:Program} {w:World} {base:Nat} {spare:Nat→Bool} {held:Bool}
theorem wf8 {n:Int} (h:(Lit.int .u8 n).wf=true):∃ c:UInt8,n=(c.toNat:Int):=by
 simp only[Lit.wf,Bool.and_eq_true,decide_eq_true_eq]at h
 have h1:IntKind.u8.min=0:=rfl
 have h2:IntKind.u8.max=255:=rfl
 refine⟨UInt8.ofNat n.toNat,?_⟩
 have:(UInt8.ofNat n.toNat).toNat=n.toNat:=by simp;omega
 rw[this];omega
theorem wf8s :∀ {zs:List Int},(∀ n∈zs,(Lit.int .u8 n).wf=true)→∃ b:List UInt8,zs=b.map fun c=>(c.toNat:Int)
 | [],_=>⟨[],rfl⟩
 | z::zs,h=>by
  obtain⟨c,hc⟩:=wf8 (h z (by simp))
  obtain⟨b,hb⟩:=wf8s (fun n hn=>h n (List.mem_cons_of_mem _ hn))
  exact⟨c::b,by rw[hc,hb];rfl⟩
end
end Go.Proofs.YtjoeklkmnfaabaaGreat
namespace Go.Proofs.YtjoeklkmnfaabaaGreat
open Go Go.ChangeShapes Go.WideShapes Go.ChangeAt Go.RowKit
inductive Fk 
 | int
 | text
 | bytes
def Fl (w:World):Fk→Value→Prop
 | .int,v=>∃ n:Int,v=.int .i64 n∧i64 n
 | .text,v=>∃ s:Blk,v=yC s
 | .bytes,v=>∃ (A:Option Addr) (b:Blk) (c:Nat),v=.slice A b.length c∧Bs w (fun _=>True) A b
theorem wfi64 {n:Int} (h:(Lit.int .i64 n).wf=true):i64 n:=by
 simp only[Lit.wf,Bool.and_eq_true,decide_eq_true_eq]at h
 exact h
def fkF (P:Program) (rec:TypeId→List Fk→Bool) (ks:List Fk):Nat→List Field→Bool
 | off,[]=>decide (off=ks.length)
 | off,f::fs=>match P.info? f.type with
  | some i=>decide (f.offset=off) && decide (off+i.size≤ks.length) && rec f.type ((ks.drop off).take i.size) && fkF P rec ks (off+i.size) fs
  | none=>false
def SP (P:Program):Nat→TypeId→List Fk→Bool
 | 0,_,_=>false
 | d+1,t,ks=>match P.underlying t with
  | some (.int .i64)=>match ks with | [.int]=>true | _=>false
  | some .string=>match ks with | [.text]=>true | _=>false
  | some (.slice e)=>match ks with
   | [.bytes]=>match P.underlying e with | some (.int .u8)=>decide (P.cellsOf e=1) && decide (P.bytesOf e=1) | _=>false
   | _=>false
  | some (.struct fs)=>decide (P.cellsOf t=ks.length) && fkF P (SP P d) ks 0 fs.toList
  | _=>false
section
variable {H:Type} {enc:TypeId×Value→H} {P:Program} {w:World} {base:Nat} {spare:Nat→Bool} {held:Bool}
theorem AH {rec:TypeId→List Fk→Bool} {ks:List Fk} {cs:List Value} (hl:cs.length=ks.length) {m:Nat}
 (ih:∀ t k n y,rec t ((ks.drop k).take n)=true→DataW.trod enc P w base spare held m t ((cs.drop k).take n)=some y→(∀ q∈y.1.weights P t,q≤140737488351232)→wC (Fl w) ((ks.drop k).take n) ((cs.drop k).take n)):
 ∀ (fs:List Field) (ys:List (DataW H×List MemPlace)) (off:Nat),off≤ks.length→fkF P rec ks off fs=true→fs.length=ys.length→
  (∀ (i:Nat) (f:Field),fs[i]? =some f→DataW.trod enc P w base spare held m f.type ((cs.drop f.offset).take (P.cellsOf f.type))=ys[i]?)→(∀ q∈DataW.weightsEach P (fs.map (·.type)) (ys.map (·.1)),q≤140737488351232)→
  wC (Fl w) (ks.drop off) (cs.drop off)
 | [],_,off,_,h,_,_,_=>by
  unfold fkF at h
  have h0:=of_decide_eq_true h
  rw[List.drop_of_length_le (by omega),List.drop_of_length_le (by omega)];trivial
 | f::fs,ys,off,hoff,h,hlen,hall,hw=>by
  unfold fkF at h
  split at h
  · rename_i i hi
    simp only[Bool.and_eq_true,decide_eq_true_eq]at h
    obtain⟨⟨⟨h1,h2⟩,h3⟩,h4⟩:=h
    have hco:P.cellsOf f.type=i.size:=by simp[Program.cellsOf,hi]
    match ys,hlen with
    | y::ys,hlen=>
     have h5:=hall 0 f rfl
     rw[h1,hco]at h5
     have hw':∀ q∈y.1.weights P f.type++DataW.weightsEach P (fs.map (·.type)) (ys.map (·.1)),q≤140737488351232:=hw
     have F1:=ih f.type off i.size y h3 h5 fun q hq=>hw' q (List.mem_append_left _ hq)
     have F2:=AH hl ih fs ys (off+i.size) h2 h4 (by simpa using hlen) (fun j g hg=>hall (j+1) g hg) fun q hq=>hw' q (List.mem_append_right _ hq)
     have:=F1.app F2
     rwa [← List.drop_drop,List.take_append_drop,← List.drop_drop,List.take_append_drop]at this
  · cases h
theorem UJ :∀ (d:Nat) (t:TypeId) (ks:List Fk) (cs:List Value) (m:Nat) (y:DataW H×List MemPlace),SP P d t ks=true→DataW.trod enc P w base (fun _=>true) true m t cs=some y→(∀ q∈y.1.weights P t,q≤140737488351232)→wC (Fl w) ks cs
 | 0,_,_,_,_,_,h,_,_=>by cases h
 | d+1,t,ks,cs,m,y,h,ht,hw=>by
  unfold SP at h
  split at h
  · rename_i hu
    split at h
    · obtain⟨n,rfl,_,hwf⟩:=DataW.trod_int hu ht
      exact⟨⟨n,Y,wfi64 hwf⟩,trivial⟩
    · cases h
  · rename_i hu
    split at h
    · obtain⟨s,rfl,_⟩:=DataW.trod_string hu ht
      exact⟨⟨s.data.toList,by simp[yC]⟩,trivial⟩
    · cases h
  · rename_i e hu
    split at h
    · split at h
      · rename_i he
        simp only[Bool.and_eq_true,decide_eq_true_eq]at h
        rcases open_ints hu he h.1 ht with ⟨rfl,_⟩ | ⟨x,l,c,zs,rfl,_,hl,hm,hz,hdd,hcell,hwz⟩
        · exact⟨⟨none,[],0,Y,Bs.none _ _⟩,trivial⟩
        · rw[if_pos rfl]at hz
          obtain⟨b,hb⟩:=wf8s (zs:=zs.take l) (fun n hn=>hwz n (List.mem_of_mem_take hn))
          have hlen:b.length=l:=by
           have:=congrArg List.length hb
           simp at this;omega
          refine⟨⟨some x,b,c,by rw[hlen],⟨by simp[u8s],fun a ha j u hu=>?_,fun h=>(by cases h)⟩,fun _ _ _=>trivial,?_⟩,trivial⟩
          · cases ha
            have hj:j < b.length:=by
             have:=(List.getElem?_eq_some_iff.1 hu).1
             simpa[u8s]using this
            rw[hcell j (by omega)]
            have h1:(zs.take l)[j]? =some ((b[j]'hj).toNat:Int):=by rw[hb];simp[hj]
            have h2:zs[j]? =some ((b[j]'hj).toNat:Int):=by rw[← h1,List.getElem?_take,if_pos (by omega)]
            have h3:u=.int .u8 ((b[j]'hj).toNat:Int):=by
             simp[u8s,List.getElem?_map,List.getElem?_eq_getElem hj]at hu
             exact hu.symm
            rw[h3,List.getD_eq_getElem?_getD,h2];rfl
          · refine Nat.le_trans ?_ (hw (((lits .u8 (zs.take l):List (DataW H)).length+(lits .u8 (zs.drop l):List (DataW H)).length)*P.bytesOf e) ?_)
            · rw[h.2];simp[lits];omega
            · rw[(Prod.mk.inj hdd).1]
              unfold DataW.weights
              rw[hu]
              exact List.mem_cons_self
      · cases h
    · cases h
  · rename_i fs hu
    simp only[Bool.and_eq_true,decide_eq_true_eq]at h
    obtain⟨h1,h2⟩:=h
    obtain⟨ys,n,rfl,rfl,hl,hlen,hall⟩:=DataW.trod_struct hu ht
    refine AH (rec:=SP P d) (cs:=cs) (ks:=ks) (by omega) (fun t' k n' y' h3 h4 h5=>UJ d t' _ _ n y' h3 h4 h5) fs.toList ys 0 (Nat.zero_le _) h2 (by simp[hlen]) (fun i f hf=>hall i f (by simpa using hf)) ?_
    unfold DataW.weights at hw
    rw[hu]at hw
    exact hw
  · cases h
end
def ntK :List Fk:=[.int,.int,.int,.int,.int,.int,.int,.bytes,.int,.bytes,.int,.text,.int,.int,.int,.int]
theorem nt_of {w:World} {cs:List Value} (h:wC (Fl w) ntK cs):∃ n:Nt,NtR w (fun _=>True) cs n∧NtB n:=by
 have hlen:cs.length=16:=h.len.symm
 match cs,hlen,h with
 | [c0,c1,c2,c3,c4,c5,c6,c7,c8,c9,c10,c11,c12,c13,c14,c15],_,h=>
  obtain⟨⟨n0,rfl,z0⟩,⟨n1,rfl,z1⟩,⟨n2,rfl,z2⟩,⟨n3,rfl,z3⟩,⟨n4,rfl,z4⟩,⟨n5,rfl,z5⟩,⟨n6,rfl,z6⟩,⟨A,b,c,rfl,hb⟩,⟨n8,rfl,z8⟩,⟨A2,b2,c2',rfl,hb2⟩,⟨n10,rfl,z10⟩,⟨s,rfl⟩,⟨n12,rfl,z12⟩,⟨n13,rfl,z13⟩,⟨n14,rfl,z14⟩,⟨n15,rfl,z15⟩,_⟩:=h
  exact⟨⟨n0,n1,⟨n2,n3⟩,⟨n4,⟨n5,n6⟩,b⟩,⟨n8,b2⟩,⟨n10,s,n12,n13⟩,n14,n15⟩,⟨A,c,A2,c2',Y,hb,hb2⟩,⟨z0,z1,z2,z3,z4,z5,z6,z8,z10,z12,z13,z14,z15⟩⟩
theorem E6 {H:Type} {P:Program} {t:TypeId} {l:List (DataW H)} {d:DataW H} (hd:d∈l) {n:Nat} (hn:n∈d.weights P t):n∈DataW.weightsAll P t l:=by
 induction l with
 | nil=>cases hd
 | cons a l ih=>
  show n∈a.weights P t++DataW.weightsAll P t l
  rcases List.mem_cons.1 hd with rfl | hd
  · exact List.mem_append_left _ hn
  · exact List.mem_append_right _ (ih hd)
theorem I5 {α:Type} {R:List Value→α→Prop}:∀ n (f:Nat→List Value),(∀ i,i < n→∃ a,R (f i) a)→∃ l:List α,l.length=n∧wC R ((List.range n).map f) l
 | 0,_,_=>⟨[],rfl,trivial⟩
 | n+1,f,h=>by
  obtain⟨l,hl,hR⟩:=I5 n f fun i hi=>h i (by omega)
  obtain⟨a,ha⟩:=h n (by omega)
  refine⟨l++[a],by simp[hl],?_⟩
  rw[List.range_succ,List.map_append]
  exact hR.app ⟨ha,trivial⟩
section
variable {H:Type} {enc:TypeId×Value→H} {w:World}
set_option maxRecDepth 10000 in
theorem NE {r:Reach} {b0:Nat} {v:Value} {d:DataW H} {ps:List MemPlace} (hval:Value.okWide Tryz.prog w r b0 22 v) (hd:DataW.Trod enc Tryz.prog w 0 (fun _=>true) true 22 v d ps)
 {ts:List TypeId} {ds:List (DataW H)} (hs:(DataW.weightsEach Tryz.prog ts ds).all (·≤reachBytes)=true) {j:Nat} (hts:ts[j]? =some 22) (hds:ds[j]? =some d):
 ∃ (A:Option Addr) (l:List Nt) (c:Nat),v=.slice A l.length c∧Sl (NtR w (fun _=>True)) 16 w (fun _=>True) A l∧l.length≤838000000000∧l.length≤c∧(∀ n∈l,NtB n)∧(l.length=0∨∃ x y,d=.slice x y∧x.length=l.length):=by
 have hw:∀ q∈d.weights Tryz.prog 22,q≤140737488351232:=fun q hq=>by
  have:=List.all_eq_true.1 hs _ (DataW.weights_mem_each hts hds q hq)
  have this:=of_decide_eq_true this
  simp only[reachBytes]at this
  omega
 have hc16:Tryz.prog.cellsOf 81=16:=by kernel_rfl
 have hb168:Tryz.prog.bytesOf 81=168:=by kernel_rfl
 obtain⟨A,len,cap,rfl⟩:=okWide_slice Tryz.underlying22 hval
 obtain⟨fuel,hf⟩:=hd
 rcases DataW.trod_slice Tryz.underlying22 hf with ⟨hcs,_⟩ | ⟨a,l,c,elems,rest,n,_,hcs,hdd,_,hlc,_,hlen,hel,_,_⟩
 · simp[Value.cells]at hcs
   obtain⟨rfl,rfl,rfl⟩:=hcs
   exact⟨none,[],0,Y,Sl.none _ _ _ _,Nat.zero_le _,Nat.le_refl _,(fun n hn=>by cases hn),.inl Y⟩
 · simp[Value.cells]at hcs
   obtain⟨rfl,rfl,rfl⟩:=hcs
   have hdd1:=(Prod.mk.inj hdd).1
   subst hdd1
   have hbig:len*168≤140737488351232:=by
    refine Nat.le_trans ?_ (hw (((elems.map (·.1)).length+(rest.map (·.1)).length)*Tryz.prog.bytesOf 81) ?_)
    · rw[hb168];exact Nat.mul_le_mul_right _ (by simp[hlen])
    · unfold DataW.weights
      rw[Tryz.underlying22]
      exact List.mem_cons_self
   obtain⟨xs,hxl,hR⟩:=I5 (R:=fun p x=>(NtR w (fun _=>True) p x∧NtB x)∧p.length=16) len (fun i=>(w.cells? 0 (a.add (i*16)) 16).getD []) fun i hi=>by
    have hb:=hel i hi
    rw[hc16,List.getElem?_eq_getElem (by omega),Option.bind_eq_some_iff]at hb
    obtain⟨cs',hcs,hy'⟩:=hb
    rw[hcs]
    obtain⟨x,hx⟩:=nt_of (UJ 4 81 ntK cs' n _ (by kernel_rfl) hy' fun q hq=>hw q (by
     unfold DataW.weights
     rw[Tryz.underlying22]
     exact List.mem_cons_of_mem _ (List.mem_append_left _ (E6 (List.mem_map.2 ⟨elems[i]'(by omega),List.getElem_mem _,Y⟩) hq))))
    exact⟨x,hx,hx.1.len⟩
   have hpl:Pl 16 ((List.range len).map fun i=>(w.cells? 0 (a.add (i*16)) 16).getD []):=fun p hp=>by
    obtain⟨k,hk⟩:=List.getElem?_of_mem hp
    obtain⟨x,_,hx⟩:=hR.getL hk
    exact hx.2
   refine⟨some a,xs,cap,by rw[hxl],⟨_,hpl,⟨by rw[hpl.len,List.length_map,List.length_range,hxl],fun a' ha k u hu=>?_,fun h=>(by cases h)⟩,fun _ _ _=>trivial,hR.imp fun p x h=>h.1.1⟩,by omega,by omega,(fun n hn=>by
    obtain⟨i,hi⟩:=List.getElem?_of_mem hn
    obtain⟨p,_,hp⟩:=hR.get hi
    exact hp.1.2),.inr ⟨_,_,Y,by simp;omega⟩⟩
   cases ha
   have hk:=(List.getElem?_eq_some_iff.1 hu).1
   rw[hpl.len,List.length_map,List.length_range]at hk
   have hi:k / 16 < len:=by omega
   have hb:=hel (k / 16) hi
   rw[hc16,List.getElem?_eq_getElem (by omega),Option.bind_eq_some_iff]at hb
   obtain⟨cs',hcs,_⟩:=hb
   have hat:((List.range len).map fun i=>(w.cells? 0 (a.add (i*16)) 16).getD [])[k / 16]? =some cs':=by
    rw[List.getElem?_map,List.getElem?_range hi]
    simp only[Option.map_some]
    rw[hcs];rfl
   have hq:cs'[k % 16]? =some u:=by
    have hlt:k % 16 < cs'.length:=by rw[hpl.at hat];omega
    have h2:=hpl.get hat (List.getElem?_eq_getElem hlt)
    rw[show k / 16*16+k % 16=k by omega,hu]at h2
    rw[List.getElem?_eq_getElem hlt];exact h2.symm
   have h3:=(World.cells?_some hcs).2.2 (k % 16) (by omega)
   rw[hq,tQ,show k / 16*16+k % 16=k by omega]at h3
   exact h3
end
end Go.Proofs.YtjoeklkmnfaabaaGreat
