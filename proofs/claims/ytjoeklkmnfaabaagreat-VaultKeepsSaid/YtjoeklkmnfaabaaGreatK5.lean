/-
  Parts of the walk, one behind the other.
-/
import Derived.Test.YtjoeklkmnfaabaaGreatK4
namespace Go.Proofs.YtjoeklkmnfaabaaGreat
open Go Go.RowKit
set_option linter.unusedVariables false
set_option linter.unusedSimpArgs false
attribute [local irreducible] yT Ops zO Cd
set_option maxRecDepth 100000
set_option maxHeartbeats 4000000
theorem eqpR (A B:Option Addr) (ka kb:Nat) (l m:List Rt) (ok ok2:Nat→Prop) (w0:World) (hl:Sl Px 4 w0 ok A l) (hm:Sl Px 4 w0 ok2 B m) (hn:l.length≤1000000000000000000) (hn2:m.length≤1000000000000000000):Aj 44 #[Ac A l.length ka,Ac B m.length kb] w0 (fun r w'=>r=.bool (decide (l=m))∧Hp w0 w' [] []):=by
 refine zE Tryz.func44 Tryz.ntmps44 Y<|cR e26 ?_
 have H:=Hp.refl w0
 obtain⟨ps,hp,hr,_,h2⟩:=hl
 obtain⟨qs,hq,hrb,_,h2b⟩:=hm
 refine Rq<|Xa Y<|Xr e26<|J1<|Rq<|Xm Y<|OV (ES Kv Y)<|Xm Y<|OV (ES Kv Y)<|Ae e26<|OT (yR Y Y) (fun hp10=>?_) (fun hp10=>?_)
 refine Xr e26<|J3 Y<|Rq<|Xa Y<|Xr e26<|J5<|Cj Y Y<|⟨bf (fun h=>hp10 (by rw[h])),H.Ag⟩
 have hlm:l.length=m.length:=by omega
 refine Xr e26<|J4 Y<|J6<|J1<|Rq<|Xa Y<|Xr e26<|J7<|zU (fun nQ lQ w=>∃ (i:Nat) (y:Int),l.length - i=nQ∧xO (Ik [(0,Ac A l.length ka),(1,Ac B m.length kb),(5,Aa y)] 0 26) lQ∧y=(i:Int)∧i≤l.length∧l.take i=m.take i∧Hp w0 w [] []) (l.length) ?_ ?_
 exact⟨0,_,Y,(Uy Y Y Y Y),Y,Am _,Y,H.Ag⟩
 rintro nQ lQ w1 ⟨i,y,rfl,hfit,rfl,hi,heq,H1⟩
 obtain⟨j,rfl⟩:=hfit.open
 refine cR e26 ?_
 clear hfit
 refine J1<|Rq<|Xm Y<|Xm Y<|OV (ES Kv Y)<|OT (zR Y Y) (fun hp14=>?_) (fun hp14=>?_)
 have hil:i < l.length:=by omega
 obtain⟨x,hx⟩:=yM hil
 obtain⟨y,hy⟩:=yM (l:=m) (j:=i) (by omega)
 obtain⟨p1,hp1,hR⟩:=h2.get hx
 obtain⟨p2,hp2,hR2⟩:=h2b.get hy
 obtain⟨a1,ha1⟩:=hr.some_ (by omega)
 obtain⟨a2,ha2⟩:=hrb.some_ (by omega)
 subst ha1 ha2
 unfold Px at hR hR2
 subst hR hR2
 refine Xr e26<|J3 Y<|J6<|J1<|J7<|J1<|uU yF (by kernel_rfl) ?_
 rintro w2 hw2
 have H2:=Hp.drew H1;rw[← hw2]at H2
 refine SV (zK Y)<|SV (zK Y)<|SV (EI Kv xR Y Y (len:=l.length) (i:=i) (by omega) (by omega) Y)<|SV (EN xR Y (vs:=Dc x) Y ((hr.to0 H2).elem hp hp1))<|vN e26<|SV (zK Y)<|SV (zK Y)<|SV (EI Kv xR Y Y (len:=m.length) (i:=i) (by omega) (by omega) Y)<|SV (EN xR Y (vs:=Dc y) Y ((hrb.to0 H2).elem hq hp2))<|vN e26<|vG (G9 Y Y) (fun hp25=>?_) (fun hp25=>?_)
 refine xP<|cR e26<|J3 Y<|Rq<|Xa Y<|Xr e26<|J5<|BR<|yN<|BR<|Cj Y Y<|⟨bf (kX hx hy hp25),H2.Ag⟩
 refine xP<|cR e26<|J4 Y<|J6<|zA (zD ?_)
 refine J2<|Xm Y<|OV (zL Y Y (Ad _ (by omega)))<|Xa Y<|Xr e26<|zA (zH ?_)
 exact⟨l.length - (i+1),by omega,i+1,_,Y,(Uy Y Y Y Y),by omega,by omega,pI heq hx hy (Decidable.of_not_not hp25),H2.Ag⟩
 obtain rfl:i=l.length:=by omega
 refine Xr e26<|J4 Y<|J8<|zT<|zS<|Rq<|Xa Y<|Xr e26<|J5<|Cj Y Y<|⟨bt (nE heq hlm),H1.Ag⟩
theorem eqpM (A B:Option Addr) (ka kb:Nat) (l m:List Mk) (ok ok2:Nat→Prop) (w0:World) (hl:Sl Pq 7 w0 ok A l) (hm:Sl Pq 7 w0 ok2 B m) (hn:l.length≤1000000000000000000) (hn2:m.length≤1000000000000000000):Aj 45 #[Ac A l.length ka,Ac B m.length kb] w0 (fun r w'=>r=.bool (decide (l=m))∧Hp w0 w' [] []):=by
 refine zE Tryz.func45 Tryz.ntmps45 Y<|cR e26 ?_
 have H:=Hp.refl w0
 obtain⟨ps,hp,hr,_,h2⟩:=hl
 obtain⟨qs,hq,hrb,_,h2b⟩:=hm
 refine Rq<|Xa Y<|Xr e26<|J1<|Rq<|Xm Y<|OV (ES La Y)<|Xm Y<|OV (ES La Y)<|Ae e26<|OT (yR Y Y) (fun hp10=>?_) (fun hp10=>?_)
 refine Xr e26<|J3 Y<|Rq<|Xa Y<|Xr e26<|J5<|Cj Y Y<|⟨bf (fun h=>hp10 (by rw[h])),H.Ag⟩
 have hlm:l.length=m.length:=by omega
 refine Xr e26<|J4 Y<|J6<|J1<|Rq<|Xa Y<|Xr e26<|J7<|zU (fun nQ lQ w=>∃ (i:Nat) (y:Int),l.length - i=nQ∧xO (Ik [(0,Ac A l.length ka),(1,Ac B m.length kb),(5,Aa y)] 0 26) lQ∧y=(i:Int)∧i≤l.length∧l.take i=m.take i∧Hp w0 w [] []) (l.length) ?_ ?_
 exact⟨0,_,Y,(Uy Y Y Y Y),Y,Am _,Y,H.Ag⟩
 rintro nQ lQ w1 ⟨i,y,rfl,hfit,rfl,hi,heq,H1⟩
 obtain⟨j,rfl⟩:=hfit.open
 refine cR e26 ?_
 clear hfit
 refine J1<|Rq<|Xm Y<|Xm Y<|OV (ES La Y)<|OT (zR Y Y) (fun hp14=>?_) (fun hp14=>?_)
 have hil:i < l.length:=by omega
 obtain⟨x,hx⟩:=yM hil
 obtain⟨y,hy⟩:=yM (l:=m) (j:=i) (by omega)
 obtain⟨p1,hp1,hR⟩:=h2.get hx
 obtain⟨p2,hp2,hR2⟩:=h2b.get hy
 obtain⟨a1,ha1⟩:=hr.some_ (by omega)
 obtain⟨a2,ha2⟩:=hrb.some_ (by omega)
 subst ha1 ha2
 unfold Pq at hR hR2
 subst hR hR2
 refine Xr e26<|J3 Y<|J6<|J1<|J7<|J1<|uU yF (by kernel_rfl) ?_
 rintro w2 hw2
 have H2:=Hp.drew H1;rw[← hw2]at H2
 refine SV (zK Y)<|SV (zK Y)<|SV (EI La yQ Y Y (len:=l.length) (i:=i) (by omega) (by omega) Y)<|SV (EN yQ Y (vs:=[Aa x.client,Aa x.seq,.bool false,Aa 0,Aa 0,Aa 0,Aa 0]) Y ((hr.to0 H2).elem hp hp1))<|vN e26<|SV (zK Y)<|SV (zK Y)<|SV (EI La yQ Y Y (len:=m.length) (i:=i) (by omega) (by omega) Y)<|SV (EN yQ Y (vs:=[Aa y.client,Aa y.seq,.bool false,Aa 0,Aa 0,Aa 0,Aa 0]) Y ((hrb.to0 H2).elem hq hp2))<|vN e26<|vG (HK Y Y) (fun hp25=>?_) (fun hp25=>?_)
 refine xP<|cR e26<|J3 Y<|Rq<|Xa Y<|Xr e26<|J5<|BR<|yN<|BR<|Cj Y Y<|⟨bf (kX hx hy hp25),H2.Ag⟩
 refine xP<|cR e26<|J4 Y<|J6<|zA (zD ?_)
 refine J2<|Xm Y<|OV (zL Y Y (Ad _ (by omega)))<|Xa Y<|Xr e26<|zA (zH ?_)
 exact⟨l.length - (i+1),by omega,i+1,_,Y,(Uy Y Y Y Y),by omega,by omega,pI heq hx hy (Decidable.of_not_not hp25),H2.Ag⟩
 obtain rfl:i=l.length:=by omega
 refine Xr e26<|J4 Y<|J8<|zT<|zS<|Rq<|Xa Y<|Xr e26<|J5<|Cj Y Y<|⟨bt (nE heq hlm),H1.Ag⟩
theorem eq_vt (x y:Vt) (Ax Ay:Option Addr) (kx ky:Nat) (ok ok2:Nat→Prop) (w0:World) (ha:Bs w0 ok Ax x.val) (hb:Bs w0 ok2 Ay y.val):Aj 127 #[.agg (Dl x Ax kx).toArray,.agg (Dl y Ay ky).toArray] w0 (fun r w'=>r=.bool (decide (x=y))∧Hp w0 w' [] []):=by
 refine zE Tryz.func127 Tryz.ntmps127 Y<|cR e24 ?_
 have H:=Hp.refl w0
 refine Rq<|zW Y Y H<|fun w1 g1 H1 hg1=>zW Y Y H1<|fun w2 g2 H2 hg2=>Xa Y<|Xr e24<|Rq<|Xf wY Y<|OV (EL ty3 Y (H2.cell (i:=0) Y Y))<|Xf wY Y<|OV (EL ty3 Y (H2.cell (i:=1) Y Y))<|Ae e24<|OT (yU Y Y) (fun hp9=>?_) (fun hp9=>?_)
 refine Xm Y<|OY Y<|Xf tA Y<|Ae e24<|OY Y<|OV (EN vC Y (vs:=[Aa x.b.r,Aa x.b.n]) Y (H2.Ak (i:=0) Y Y))<|OY Y<|Xf tA Y<|Ae e24<|OY Y<|OV (EN vC Y (vs:=[Aa y.b.r,Aa y.b.n]) Y (H2.Ak (i:=1) Y Y))<|OY Y<|OT (mQ Y Y) (fun Iz=>?_) (fun Iz=>?_)
 refine Xt Y Y<|Xm Y<|Ae e24<|OY Y<|Xf tO Y<|OY Y<|OV (EL xG Y (H2.cell (i:=0) Y Y))<|Ae e24<|OY Y<|Xf tO Y<|OY Y<|OV (EL xG Y (H2.cell (i:=1) Y Y))<|Ae e24<|OY Y<|OX (EC PX Y) (nP Ax Ay x.val y.val kx ky _ (ha.1.to0 H2) (hb.1.to0 H2) (by have:=ha.2.2;omega) (by have:=hb.2.2;omega)) (fun Ou w3 Hd=>?_) (fun Ou w3 Hd=>?_)
 have H3:=H2.Ap Hd
 refine Xt Y Y<|Xa Y<|Xr e24<|J5<|Cj Y Y<|⟨bt (Vt.ext_iff'.2 ⟨hp9,Iz,Ou⟩),H3.Ag⟩
 have H3:=H2.Ap Hd
 refine Xt Y Y<|Xa Y<|Xr e24<|J5<|Cj Y Y<|⟨bf (fun h=>Ou (Vt.ext_iff'.1 h).2.2),H3.Ag⟩
 refine Xt Y Y<|Xm Y<|Ae e24<|Oz 5 Y<|Ae e24<|Xu Y Y<|Xa Y<|Xr e24<|J5<|Cj Y Y<|⟨bf (fun h=>Iz (Vt.ext_iff'.1 h).2.1),H2.Ag⟩
 refine Xm Y<|Oz 5 Y<|Ae e24<|Xu Y Y<|Xm Y<|Ae e24<|Oz 5 Y<|Ae e24<|Xu Y Y<|Xa Y<|Xr e24<|J5<|Cj Y Y<|⟨bf (fun h=>hp9 (Vt.ext_iff'.1 h).1),H2.Ag⟩
theorem eq_en (x y:En) (Ax Ay:Option Addr) (kx ky:Nat) (ok ok2:Nat→Prop) (w0:World) (ha:Bs w0 ok Ax x.val) (hb:Bs w0 ok2 Ay y.val):Aj 130 #[.agg (Ey x Ax kx).toArray,.agg (Ey y Ay ky).toArray] w0 (fun r w'=>r=.bool (decide (x=y))∧Hp w0 w' [] []):=by
 refine zE Tryz.func130 Tryz.ntmps130 Y<|cR e17 ?_
 have H:=Hp.refl w0
 refine Rq<|zW Y Y H<|fun w1 g1 H1 hg1=>zW Y Y H1<|fun w2 g2 H2 hg2=>Xa Y<|Xr e17<|Rq<|Xf xX Y<|OV (EL ty3 Y (H2.cell (i:=0) Y Y))<|Xf xX Y<|OV (EL ty3 Y (H2.cell (i:=1) Y Y))<|Ae e17<|OT (yU Y Y) (fun hp9=>?_) (fun hp9=>?_)
 refine Xm Y<|OY Y<|Xf uH Y<|Ae e17<|OY Y<|OV (EL xG Y (H2.cell (i:=0) Y Y))<|OY Y<|Xf uH Y<|Ae e17<|OY Y<|OV (EL xG Y (H2.cell (i:=1) Y Y))<|OY Y<|OX (EC PX Y) (nP Ax Ay x.val y.val kx ky _ (ha.1.to0 H2) (hb.1.to0 H2) (by have:=ha.2.2;omega) (by have:=hb.2.2;omega)) (fun Iz w3 Hd=>?_) (fun Iz w3 Hd=>?_)
 have H3:=H2.Ap Hd
 refine Xt Y Y<|Xa Y<|Xr e17<|J5<|Cj Y Y<|⟨bt (En.ext_iff'.2 ⟨hp9,Iz⟩),H3.Ag⟩
 have H3:=H2.Ap Hd
 refine Xt Y Y<|Xa Y<|Xr e17<|J5<|Cj Y Y<|⟨bf (fun h=>Iz (En.ext_iff'.1 h).2),H3.Ag⟩
 refine Xm Y<|Oz 5 Y<|Ae e17<|Xu Y Y<|Xa Y<|Xr e17<|J5<|Cj Y Y<|⟨bf (fun h=>hp9 (En.ext_iff'.1 h).1),H2.Ag⟩
theorem UL (A B:Option Addr) (ka kb:Nat) (l m:List Vt) (ok ok2:Nat→Prop) (w0:World) (hl:Sl (Oc w0 ok) 4 w0 ok A l) (hm:Sl (Oc w0 ok2) 4 w0 ok2 B m) (hn:l.length≤1000000000000000000) (hn2:m.length≤1000000000000000000):Aj 126 #[Ac A l.length ka,Ac B m.length kb,.func (.func 127) #[] #[]] w0 (fun r w'=>r=.bool (decide (l=m))∧Hp w0 w' [] []):=by
 refine zE Tryz.func126 Tryz.ntmps126 Y<|cR e30 ?_
 have H:=Hp.refl w0
 obtain⟨ps,hp,hr,_,h2⟩:=hl
 obtain⟨qs,hq,hrb,_,h2b⟩:=hm
 refine Rq<|Xa Y<|Xr e30<|J1<|Rq<|Xm Y<|OV (ES Jj Y)<|Xm Y<|OV (ES Jj Y)<|Ae e30<|OT (yR Y Y) (fun Np=>?_) (fun Np=>?_)
 refine Xr e30<|J3 Y<|Rq<|Xa Y<|Xr e30<|J5<|Cj Y Y<|⟨bf (fun h=>Np (by rw[h])),H.Ag⟩
 have hlm:l.length=m.length:=by omega
 refine Xr e30<|J4 Y<|J6<|J1<|Rq<|Xa Y<|Xr e30<|J7<|zU (fun nQ lQ w=>∃ (i:Nat) (y:Int),l.length - i=nQ∧xO (Ik [(0,Ac A l.length ka),(1,Ac B m.length kb),(2,.func (.func 127) #[] #[]),(7,Aa y)] 0 30) lQ∧y=(i:Int)∧i≤l.length∧l.take i=m.take i∧Hp w0 w [] []) (l.length) ?_ ?_
 exact⟨0,_,Y,(Ja Y Y Y Y Y),Y,Am _,Y,H.Ag⟩
 rintro nQ lQ w1 ⟨i,y,rfl,hfit,rfl,hi,heq,H1⟩
 obtain⟨j,rfl⟩:=hfit.open
 refine cR e30 ?_
 clear hfit
 refine J1<|Rq<|Xm Y<|Xm Y<|OV (ES Jj Y)<|OT (zR Y Y) (fun hp16=>?_) (fun hp16=>?_)
 have hil:i < l.length:=by omega
 obtain⟨x,hx⟩:=yM hil
 obtain⟨y,hy⟩:=yM (l:=m) (j:=i) (by omega)
 obtain⟨p1,hp1,hR⟩:=h2.get hx
 obtain⟨p2,hp2,hR2⟩:=h2b.get hy
 obtain⟨a1,ha1⟩:=hr.some_ (by omega)
 obtain⟨a2,ha2⟩:=hrb.some_ (by omega)
 subst ha1 ha2
 obtain⟨Ax,kx,rfl,hbx⟩:=hR
 obtain⟨Ay,ky,rfl,hby⟩:=hR2
 refine Xr e30<|J3 Y<|J6<|J1<|J7<|J1<|zQ 10 [(true,0),(true,1),(true,2),(true,3),(true,4),(true,5),(true,6),(true,7),(true,8),(false,9),(false,10)] H1 [] yF (by decide) (by kernel_rfl) ?_
 rintro w2 hw2
 have H2:=Hp.drew H1;rw[← hw2]at H2
 refine Zm Y Y<|Zm Y Y<|Zm Y Y<|MP Y<|MV (fun wz hz=>EI Jj xC Y Y (len:=l.length) (i:=i) (by omega) (by omega) Y)<|cZ e30<|MP Y<|MV (fun wz hz=>EN xC Y (vs:=Dl x Ax kx) Y ((hr.to0 hz).elem hp hp1))<|Zm Y Y<|Zm Y Y<|MP Y<|MV (fun wz hz=>EI Jj xC Y Y (len:=m.length) (i:=i) (by omega) (by omega) Y)<|cZ e30<|MP Y<|MV (fun wz hz=>EN xC Y (vs:=Dl y Ay ky) Y ((hrb.to0 hz).elem hq hp2))<|MO Y ?_
 have HO:=H2
 refine OX (xD V1 Y Y) (eq_vt x y Ax Ay kx ky ok ok2 _ (hbx.to H2 k0) (hby.to H2 k0)) (fun Ry w3 Hd=>?_) (fun Ry w3 Hd=>?_)
 have H3:=HO.Ap Hd
 refine OE ?_
 refine⟨fun hne=>H3.pick [] (by decide),?_⟩
 refine MO Y<|Xn Y<|OE<|⟨fun hne=>absurd Y hne,?_⟩
 refine cZ e30<|ME<|cR e30<|J4 Y<|J6<|zA (zD ?_)
 refine J2<|Xm Y<|OV (zL Y Y (Ad _ (by omega)))<|Xa Y<|Xr e30<|zA (zH ?_)
 exact⟨l.length - (i+1),by omega,i+1,_,Y,(Ja Y Y Y Y Y),by omega,by omega,pI heq hx hy Ry,H3.Ag⟩
 have H3:=HO.Ap Hd
 refine OE ?_
 refine⟨fun hne=>H3.pick [] (by decide),?_⟩
 refine MO Y<|Xn Y<|OE<|⟨fun hne=>absurd Y hne,?_⟩
 refine cZ e30<|ME<|cR e30<|J3 Y<|Rq<|Xa Y<|Xr e30<|J5<|BR<|yN<|BR<|Cj Y Y<|⟨bf (kX hx hy Ry),H3.Ag⟩
 obtain rfl:i=l.length:=by omega
 refine Xr e30<|J4 Y<|J8<|zT<|zS<|Rq<|Xa Y<|Xr e30<|J5<|Cj Y Y<|⟨bt (nE heq hlm),H1.Ag⟩
theorem X5 (A B:Option Addr) (ka kb:Nat) (l m:List Vt) (ok ok2:Nat→Prop) (w0:World) (hl:Sl (Oc w0 ok) 4 w0 ok A l) (hm:Sl (Oc w0 ok2) 4 w0 ok2 B m) (hn:l.length≤1000000000000000000) (hn2:m.length≤1000000000000000000):Aj 84 #[Ac A l.length ka,Ac B m.length kb] w0 (fun r w'=>r=.bool (decide (l=m))∧Hp w0 w' [] []):=by
 refine zE Tryz.func84 Tryz.ntmps84 Y<|cR e8 ?_
 have H:=Hp.refl w0
 refine Rq<|Xa Y<|Xr e8<|Rq<|Xm Y<|Xm Y<|OX (EC gf126 Y) (UL A B ka kb l m ok ok2 _ (hl.Qi H k0) (hm.Qi H k0) hn hn2) (fun Ur w1 Hd=>?_) (fun Ur w1 Hd=>?_)
 have H1:=H.Ap Hd
 refine Xa Y<|Xr e8<|J5<|Cj Y Y<|⟨bt (Ur),H1.Ag⟩
 have H1:=H.Ap Hd
 refine Xa Y<|Xr e8<|J5<|Cj Y Y<|⟨bf (Ur),H1.Ag⟩
theorem UM (A B:Option Addr) (ka kb:Nat) (l m:List En) (ok ok2:Nat→Prop) (w0:World) (hl:Sl (Qu w0 ok) 2 w0 ok A l) (hm:Sl (Qu w0 ok2) 2 w0 ok2 B m) (hn:l.length≤1000000000000000000) (hn2:m.length≤1000000000000000000):Aj 129 #[Ac A l.length ka,Ac B m.length kb,.func (.func 130) #[] #[]] w0 (fun r w'=>r=.bool (decide (l=m))∧Hp w0 w' [] []):=by
 refine zE Tryz.func129 Tryz.ntmps129 Y<|cR e30 ?_
 have H:=Hp.refl w0
 obtain⟨ps,hp,hr,_,h2⟩:=hl
 obtain⟨qs,hq,hrb,_,h2b⟩:=hm
 refine Rq<|Xa Y<|Xr e30<|J1<|Rq<|Xm Y<|OV (ES Na Y)<|Xm Y<|OV (ES Na Y)<|Ae e30<|OT (yR Y Y) (fun Np=>?_) (fun Np=>?_)
 refine Xr e30<|J3 Y<|Rq<|Xa Y<|Xr e30<|J5<|Cj Y Y<|⟨bf (fun h=>Np (by rw[h])),H.Ag⟩
 have hlm:l.length=m.length:=by omega
 refine Xr e30<|J4 Y<|J6<|J1<|Rq<|Xa Y<|Xr e30<|J7<|zU (fun nQ lQ w=>∃ (i:Nat) (y:Int),l.length - i=nQ∧xO (Ik [(0,Ac A l.length ka),(1,Ac B m.length kb),(2,.func (.func 130) #[] #[]),(7,Aa y)] 0 30) lQ∧y=(i:Int)∧i≤l.length∧l.take i=m.take i∧Hp w0 w [] []) (l.length) ?_ ?_
 exact⟨0,_,Y,(Ja Y Y Y Y Y),Y,Am _,Y,H.Ag⟩
 rintro nQ lQ w1 ⟨i,y,rfl,hfit,rfl,hi,heq,H1⟩
 obtain⟨j,rfl⟩:=hfit.open
 refine cR e30 ?_
 clear hfit
 refine J1<|Rq<|Xm Y<|Xm Y<|OV (ES Na Y)<|OT (zR Y Y) (fun hp16=>?_) (fun hp16=>?_)
 have hil:i < l.length:=by omega
 obtain⟨x,hx⟩:=yM hil
 obtain⟨y,hy⟩:=yM (l:=m) (j:=i) (by omega)
 obtain⟨p1,hp1,hR⟩:=h2.get hx
 obtain⟨p2,hp2,hR2⟩:=h2b.get hy
 obtain⟨a1,ha1⟩:=hr.some_ (by omega)
 obtain⟨a2,ha2⟩:=hrb.some_ (by omega)
 subst ha1 ha2
 obtain⟨Ax,kx,rfl,hbx⟩:=hR
 obtain⟨Ay,ky,rfl,hby⟩:=hR2
 refine Xr e30<|J3 Y<|J6<|J1<|J7<|J1<|zQ 10 [(true,0),(true,1),(true,2),(true,3),(true,4),(true,5),(true,6),(true,7),(true,8),(false,9),(false,10)] H1 [] yF (by decide) (by kernel_rfl) ?_
 rintro w2 hw2
 have H2:=Hp.drew H1;rw[← hw2]at H2
 refine Zm Y Y<|Zm Y Y<|Zm Y Y<|MP Y<|MV (fun wz hz=>EI Na wJ Y Y (len:=l.length) (i:=i) (by omega) (by omega) Y)<|cZ e30<|MP Y<|MV (fun wz hz=>EN wJ Y (vs:=Ey x Ax kx) Y ((hr.to0 hz).elem hp hp1))<|Zm Y Y<|Zm Y Y<|MP Y<|MV (fun wz hz=>EI Na wJ Y Y (len:=m.length) (i:=i) (by omega) (by omega) Y)<|cZ e30<|MP Y<|MV (fun wz hz=>EN wJ Y (vs:=Ey y Ay ky) Y ((hrb.to0 hz).elem hq hp2))<|MO Y ?_
 have HO:=H2
 refine OX (xD V0 Y Y) (eq_en x y Ax Ay kx ky ok ok2 _ (hbx.to H2 k0) (hby.to H2 k0)) (fun Ry w3 Hd=>?_) (fun Ry w3 Hd=>?_)
 have H3:=HO.Ap Hd
 refine OE ?_
 refine⟨fun hne=>H3.pick [] (by decide),?_⟩
 refine MO Y<|Xn Y<|OE<|⟨fun hne=>absurd Y hne,?_⟩
 refine cZ e30<|ME<|cR e30<|J4 Y<|J6<|zA (zD ?_)
 refine J2<|Xm Y<|OV (zL Y Y (Ad _ (by omega)))<|Xa Y<|Xr e30<|zA (zH ?_)
 exact⟨l.length - (i+1),by omega,i+1,_,Y,(Ja Y Y Y Y Y),by omega,by omega,pI heq hx hy Ry,H3.Ag⟩
 have H3:=HO.Ap Hd
 refine OE ?_
 refine⟨fun hne=>H3.pick [] (by decide),?_⟩
 refine MO Y<|Xn Y<|OE<|⟨fun hne=>absurd Y hne,?_⟩
 refine cZ e30<|ME<|cR e30<|J3 Y<|Rq<|Xa Y<|Xr e30<|J5<|BR<|yN<|BR<|Cj Y Y<|⟨bf (kX hx hy Ry),H3.Ag⟩
 obtain rfl:i=l.length:=by omega
 refine Xr e30<|J4 Y<|J8<|zT<|zS<|Rq<|Xa Y<|Xr e30<|J5<|Cj Y Y<|⟨bt (nE heq hlm),H1.Ag⟩
theorem X8 (A B:Option Addr) (ka kb:Nat) (l m:List En) (ok ok2:Nat→Prop) (w0:World) (hl:Sl (Qu w0 ok) 2 w0 ok A l) (hm:Sl (Qu w0 ok2) 2 w0 ok2 B m) (hn:l.length≤1000000000000000000) (hn2:m.length≤1000000000000000000):Aj 86 #[Ac A l.length ka,Ac B m.length kb] w0 (fun r w'=>r=.bool (decide (l=m))∧Hp w0 w' [] []):=by
 refine zE Tryz.func86 Tryz.ntmps86 Y<|cR e8 ?_
 have H:=Hp.refl w0
 refine Rq<|Xa Y<|Xr e8<|Rq<|Xm Y<|Xm Y<|OX (EC gf129 Y) (UM A B ka kb l m ok ok2 _ (hl.Si H k0) (hm.Si H k0) hn hn2) (fun Ur w1 Hd=>?_) (fun Ur w1 Hd=>?_)
 have H1:=H.Ap Hd
 refine Xa Y<|Xr e8<|J5<|Cj Y Y<|⟨bt (Ur),H1.Ag⟩
 have H1:=H.Ap Hd
 refine Xa Y<|Xr e8<|J5<|Cj Y Y<|⟨bf (Ur),H1.Ag⟩
theorem WB (s:Sv) (A1:Option Addr) (k1:Nat) (A2:Option Addr) (k2:Nat) (A3:Option Addr) (k3:Nat) (t:Sv) (C1:Option Addr) (q1:Nat) (C2:Option Addr) (q2:Nat) (C3:Option Addr) (q3:Nat) (ok ok2:Nat→Prop) (w0:World) (h1:Sl (Oc w0 ok) 4 w0 ok A1 s.Bd) (h2:Bs w0 ok A2 s.image) (h3:Sl (Qu w0 ok) 2 w0 ok A3 s.entries) (u1:Sl (Oc w0 ok2) 4 w0 ok2 C1 t.Bd) (u2:Bs w0 ok2 C2 t.image) (u3:Sl (Qu w0 ok2) 2 w0 ok2 C3 t.entries) (hv:s.Bd.length≤1000000000000000000∧s.entries.length≤1000000000000000000) (he:t.Bd.length≤1000000000000000000∧t.entries.length≤1000000000000000000):Aj 43 #[.agg (Cb s A1 k1 A2 k2 A3 k3).toArray,.agg (Cb t C1 q1 C2 q2 C3 q3).toArray] w0 (fun r w'=>r=.bool (decide (s=t))∧Hp w0 w' [] []):=by
 refine zE Tryz.func43 Tryz.ntmps43 Y<|cR e38 ?_
 have H:=Hp.refl w0
 refine Rq<|zW Y Y H<|fun w1 g1 H1 hg1=>zW Y Y H1<|fun w2 g2 H2 hg2=>Xa Y<|Xr e38<|Rq<|Xf uZ Y<|OV (EN vC Y (vs:=Ij s) Y (H2.Ak (i:=0) Y Y))<|Xf uZ Y<|OV (EN vC Y (vs:=Ij t) Y (H2.Ak (i:=1) Y Y))<|Ae e38<|OT (mQ Y Y) (fun hp9=>?_) (fun hp9=>?_)
 refine Xm Y<|OY Y<|Xf wM Y<|Ae e38<|OY Y<|OV (EL tY Y (H2.cell (i:=0) Y Y))<|OY Y<|Xf wM Y<|Ae e38<|OY Y<|OV (EL tY Y (H2.cell (i:=1) Y Y))<|OY Y<|OX (EC gf84 Y) (X5 A1 C1 k1 q1 s.Bd t.Bd ok ok2 _ (h1.Qi H2 k0) (u1.Qi H2 k0) hv.1 he.1) (fun Iz w3 Hd=>?_) (fun Iz w3 Hd=>?_)
 have H3:=H2.Ap Hd
 refine Xt Y Y<|Xm Y<|Ae e38<|OY Y<|Xf wX Y<|OY Y<|OV (EL ty3 Y (H3.cell (i:=0) Y Y))<|Ae e38<|OY Y<|Xf wX Y<|OY Y<|OV (EL ty3 Y (H3.cell (i:=1) Y Y))<|Ae e38<|OY Y<|OT (yU Y Y) (fun Ou=>?_) (fun Ou=>?_)
 refine Xt Y Y<|Xm Y<|Ae e38<|OY Y<|Xf uY Y<|OY Y<|OV (EL xG Y (H3.cell (i:=0) Y Y))<|Ae e38<|OY Y<|Xf uY Y<|OY Y<|OV (EL xG Y (H3.cell (i:=1) Y Y))<|Ae e38<|OY Y<|OX (EC PX Y) (nP A2 C2 s.image t.image k2 q2 _ (h2.1.to0 H3) (u2.1.to0 H3) (by have:=h2.2.2;omega) (by have:=u2.2.2;omega)) (fun Y9 w4 Hd=>?_) (fun Y9 w4 Hd=>?_)
 have H4:=H3.Ap Hd
 refine Xt Y Y<|Xm Y<|Ae e38<|OY Y<|Xf wL Y<|OY Y<|OV (EL tX Y (H4.cell (i:=0) Y Y))<|Ae e38<|OY Y<|Xf wL Y<|OY Y<|OV (EL tX Y (H4.cell (i:=1) Y Y))<|Ae e38<|OY Y<|OX (EC gf86 Y) (X8 A3 C3 k3 q3 s.entries t.entries ok ok2 _ (h3.Si H4 k0) (u3.Si H4 k0) hv.2 he.2) (fun Zj w5 Hd=>?_) (fun Zj w5 Hd=>?_)
 have H5:=H4.Ap Hd
 refine Xt Y Y<|Xa Y<|Xr e38<|J5<|Cj Y Y<|⟨bt (Sv.ext_iff'.2 ⟨hp9,Iz,Ou,Y9,Zj⟩),H5.Ag⟩
 have H5:=H4.Ap Hd
 refine Xt Y Y<|Xa Y<|Xr e38<|J5<|Cj Y Y<|⟨bf (fun h=>Zj (Sv.ext_iff'.1 h).2.2.2.2),H5.Ag⟩
 have H4:=H3.Ap Hd
 refine Xt Y Y<|Xm Y<|Ae e38<|Oz 5 Y<|Ae e38<|Xu Y Y<|Xa Y<|Xr e38<|J5<|Cj Y Y<|⟨bf (fun h=>Y9 (Sv.ext_iff'.1 h).2.2.2.1),H4.Ag⟩
 refine Xt Y Y<|Xm Y<|Ae e38<|Oz 5 Y<|Ae e38<|Xu Y Y<|Xm Y<|Ae e38<|Oz 5 Y<|Ae e38<|Xu Y Y<|Xa Y<|Xr e38<|J5<|Cj Y Y<|⟨bf (fun h=>Ou (Sv.ext_iff'.1 h).2.2.1),H3.Ag⟩
 have H3:=H2.Ap Hd
 refine Xt Y Y<|Xm Y<|Ae e38<|Oz 5 Y<|Ae e38<|Xu Y Y<|Xm Y<|Ae e38<|Oz 5 Y<|Ae e38<|Xu Y Y<|Xm Y<|Ae e38<|Oz 5 Y<|Ae e38<|Xu Y Y<|Xa Y<|Xr e38<|J5<|Cj Y Y<|⟨bf (fun h=>Iz (Sv.ext_iff'.1 h).2.1),H3.Ag⟩
 refine Xm Y<|Oz 5 Y<|Ae e38<|Xu Y Y<|Xm Y<|Ae e38<|Oz 5 Y<|Ae e38<|Xu Y Y<|Xm Y<|Ae e38<|Oz 5 Y<|Ae e38<|Xu Y Y<|Xm Y<|Ae e38<|Oz 5 Y<|Ae e38<|Xu Y Y<|Xa Y ?_
 refine Xr e38<|J5<|Cj Y Y<|⟨bf (fun h=>hp9 (Sv.ext_iff'.1 h).1),H2.Ag⟩
theorem X6 (A B:Option Addr) (ka kb:Nat) (l m:List Sv) (ok ok2:Nat→Prop) (w0:World) (hl:Sl (Rl w0 ok) 6 w0 ok A l) (hm:Sl (Rl w0 ok2) 6 w0 ok2 B m) (hn:l.length≤1000000000000000000) (hn2:m.length≤1000000000000000000) (hfew:∀ x∈l,x.Bd.length≤1000000000000000000∧x.entries.length≤1000000000000000000) (hfew2:∀ x∈m,x.Bd.length≤1000000000000000000∧x.entries.length≤1000000000000000000):Aj 42 #[Ac A l.length ka,Ac B m.length kb,.func (.func 43) #[] #[]] w0 (fun r w'=>r=.bool (decide (l=m))∧Hp w0 w' [] []):=by
 refine zE Tryz.func42 Tryz.ntmps42 Y<|cR e30 ?_
 have H:=Hp.refl w0
 obtain⟨ps,hp,hr,_,h2⟩:=hl
 obtain⟨qs,hq,hrb,_,h2b⟩:=hm
 refine Rq<|Xa Y<|Xr e30<|J1<|Rq<|Xm Y<|OV (ES Ub Y)<|Xm Y<|OV (ES Ub Y)<|Ae e30<|OT (yR Y Y) (fun Np=>?_) (fun Np=>?_)
 refine Xr e30<|J3 Y<|Rq<|Xa Y<|Xr e30<|J5<|Cj Y Y<|⟨bf (fun h=>Np (by rw[h])),H.Ag⟩
 have hlm:l.length=m.length:=by omega
 refine Xr e30<|J4 Y<|J6<|J1<|Rq<|Xa Y<|Xr e30<|J7<|zU (fun nQ lQ w=>∃ (i:Nat) (y:Int),l.length - i=nQ∧xO (Ik [(0,Ac A l.length ka),(1,Ac B m.length kb),(2,.func (.func 43) #[] #[]),(7,Aa y)] 0 30) lQ∧y=(i:Int)∧i≤l.length∧l.take i=m.take i∧Hp w0 w [] []) (l.length) ?_ ?_
 exact⟨0,_,Y,(Ja Y Y Y Y Y),Y,Am _,Y,H.Ag⟩
 rintro nQ lQ w1 ⟨i,y,rfl,hfit,rfl,hi,heq,H1⟩
 obtain⟨j,rfl⟩:=hfit.open
 refine cR e30 ?_
 clear hfit
 refine J1<|Rq<|Xm Y<|Xm Y<|OV (ES Ub Y)<|OT (zR Y Y) (fun hp16=>?_) (fun hp16=>?_)
 have hil:i < l.length:=by omega
 obtain⟨x,hx⟩:=yM hil
 obtain⟨y,hy⟩:=yM (l:=m) (j:=i) (by omega)
 obtain⟨p1,hp1,hR⟩:=h2.get hx
 obtain⟨p2,hp2,hR2⟩:=h2b.get hy
 obtain⟨a1,ha1⟩:=hr.some_ (by omega)
 obtain⟨a2,ha2⟩:=hrb.some_ (by omega)
 subst ha1 ha2
 obtain⟨A1,k1,A2,k2,A3,k3,rfl,h1,h3,h4⟩:=hR
 obtain⟨C1,q1,C2,q2,C3,q3,rfl,u1,u3,u4⟩:=hR2
 have hfx:=hfew x (mem_of hx)
 have hfy:=hfew2 y (mem_of hy)
 refine Xr e30<|J3 Y<|J6<|J1<|J7<|J1<|zQ 10 [(true,0),(true,1),(true,2),(true,3),(true,4),(true,5),(true,6),(true,7),(true,8),(false,9),(false,10)] H1 [] yF (by decide) (by kernel_rfl) ?_
 rintro w2 hw2
 have H2:=Hp.drew H1;rw[← hw2]at H2
 refine Zm Y Y<|Zm Y Y<|Zm Y Y<|MP Y<|MV (fun wz hz=>EI Ub xY Y Y (len:=l.length) (i:=i) (by omega) (by omega) Y)<|cZ e30<|MP Y<|MV (fun wz hz=>EN xY Y (vs:=Cb x A1 k1 A2 k2 A3 k3) Y ((hr.to0 hz).elem hp hp1))<|Zm Y Y<|Zm Y Y<|MP Y<|MV (fun wz hz=>EI Ub xY Y Y (len:=m.length) (i:=i) (by omega) (by omega) Y)<|cZ e30<|MP Y<|MV (fun wz hz=>EN xY Y (vs:=Cb y C1 q1 C2 q2 C3 q3) Y ((hrb.to0 hz).elem hq hp2))<|MO Y ?_
 have HO:=H2
 refine OX (xD gf43 Y Y) (WB x A1 k1 A2 k2 A3 k3 y C1 q1 C2 q2 C3 q3 ok ok2 _ (h1.Qi H2 k0) (h3.to H2 k0) (h4.Si H2 k0) (u1.Qi H2 k0) (u3.to H2 k0) (u4.Si H2 k0) hfx hfy) (fun Ry w3 Hd=>?_) (fun Ry w3 Hd=>?_)
 have H3:=HO.Ap Hd
 refine OE ?_
 refine⟨fun hne=>H3.pick [] (by decide),?_⟩
 refine MO Y<|Xn Y<|OE<|⟨fun hne=>absurd Y hne,?_⟩
 refine cZ e30<|ME<|cR e30<|J4 Y<|J6<|zA (zD ?_)
 refine J2<|Xm Y<|OV (zL Y Y (Ad _ (by omega)))<|Xa Y<|Xr e30<|zA (zH ?_)
 exact⟨l.length - (i+1),by omega,i+1,_,Y,(Ja Y Y Y Y Y),by omega,by omega,pI heq hx hy Ry,H3.Ag⟩
 have H3:=HO.Ap Hd
 refine OE ?_
 refine⟨fun hne=>H3.pick [] (by decide),?_⟩
 refine MO Y<|Xn Y<|OE<|⟨fun hne=>absurd Y hne,?_⟩
 refine cZ e30<|ME<|cR e30<|J3 Y<|Rq<|Xa Y<|Xr e30<|J5<|BR<|yN<|BR<|Cj Y Y<|⟨bf (kX hx hy Ry),H3.Ag⟩
 obtain rfl:i=l.length:=by omega
 refine Xr e30<|J4 Y<|J8<|zT<|zS<|Rq<|Xa Y<|Xr e30<|J5<|Cj Y Y<|⟨bt (nE heq hlm),H1.Ag⟩
structure ZK (b:Bo):Prop where
 g:b.groups.length≤1000000000000000000
 r:b.rights.length≤1000000000000000000
 l:b.last.length≤1000000000000000000
 s:∀ x∈b.groups,x.Bd.length≤1000000000000000000∧x.entries.length≤1000000000000000000
theorem eq_bo (b:Bo) (A1:Option Addr) (k1:Nat) (A2:Option Addr) (k2:Nat) (A3:Option Addr) (k3:Nat) (c:Bo) (C1:Option Addr) (q1:Nat) (C2:Option Addr) (q2:Nat) (C3:Option Addr) (q3:Nat) (ok ok2:Nat→Prop) (w0:World) (h1:Sl (Rl w0 ok) 6 w0 ok A1 b.groups) (h2:Sl Px 4 w0 ok A2 b.rights) (h3:Sl Pq 7 w0 ok A3 b.last) (u1:Sl (Rl w0 ok2) 6 w0 ok2 C1 c.groups) (u2:Sl Px 4 w0 ok2 C2 c.rights) (u3:Sl Pq 7 w0 ok2 C3 c.last) (n1:ZK b) (n2:ZK c):Aj 13 #[.agg (Az A1 b k1 A2 k2 A3 k3).toArray,.agg (Az C1 c q1 C2 q2 C3 q3).toArray] w0 (fun r w'=>r=.bool (decide (b=c))∧Hp w0 w' [] []):=by
 refine zE Tryz.func13 Tryz.ntmps13 Y<|cR e24 ?_
 have H:=Hp.refl w0
 refine Rq<|zW Y Y H<|fun w1 g1 H1 hg1=>zW Y Y H1<|fun w2 g2 H2 hg2=>Xa Y<|Xr e24<|Rq<|Xf vW Y<|OV (EL qX Y (H2.cell (i:=0) Y Y))<|Xf vW Y<|OV (EL qX Y (H2.cell (i:=1) Y Y))<|Ae e24<|OX (EC gf42 Y) (X6 A1 C1 k1 q1 b.groups c.groups ok ok2 _ (h1.toS H2 k0) (u1.toS H2 k0) n1.g n2.g n1.s n2.s) (fun hp9 w3 Hd=>?_) (fun hp9 w3 Hd=>?_)
 have H3:=H2.Ap Hd
 refine Xm Y<|OY Y<|Xf rP Y<|Ae e24<|OY Y<|OV (EL gA Y (H3.cell (i:=0) Y Y))<|OY Y<|Xf rP Y<|Ae e24<|OY Y<|OV (EL gA Y (H3.cell (i:=1) Y Y))<|OY Y<|OX (EC gf44 Y) (eqpR A2 C2 k2 q2 b.rights c.rights ok ok2 _ (h2.toR H3 k0) (u2.toR H3 k0) n1.r n2.r) (fun Iz w4 Hd=>?_) (fun Iz w4 Hd=>?_)
 have H4:=H3.Ap Hd
 refine Xt Y Y<|Xm Y<|Ae e24<|OY Y<|Xf tP Y<|OY Y<|OV (EL mX Y (H4.cell (i:=0) Y Y))<|Ae e24<|OY Y<|Xf tP Y<|OY Y<|OV (EL mX Y (H4.cell (i:=1) Y Y))<|Ae e24<|OY Y<|OX (EC gf45 Y) (eqpM A3 C3 k3 q3 b.last c.last ok ok2 _ (h3.toM H4 k0) (u3.toM H4 k0) n1.l n2.l) (fun Ou w5 Hd=>?_) (fun Ou w5 Hd=>?_)
 have H5:=H4.Ap Hd
 refine Xt Y Y<|Xa Y<|Xr e24<|J5<|Cj Y Y<|⟨bt (Bo.ext_iff'.2 ⟨hp9,Iz,Ou⟩),H5.Ag⟩
 have H5:=H4.Ap Hd
 refine Xt Y Y<|Xa Y<|Xr e24<|J5<|Cj Y Y<|⟨bf (fun h=>Ou (Bo.ext_iff'.1 h).2.2),H5.Ag⟩
 have H4:=H3.Ap Hd
 refine Xt Y Y<|Xm Y<|Ae e24<|Oz 5 Y<|Ae e24<|Xu Y Y<|Xa Y<|Xr e24<|J5<|Cj Y Y<|⟨bf (fun h=>Iz (Bo.ext_iff'.1 h).2.1),H4.Ag⟩
 have H3:=H2.Ap Hd
 refine Xm Y<|Oz 5 Y<|Ae e24<|Xu Y Y<|Xm Y<|Ae e24<|Oz 5 Y<|Ae e24<|Xu Y Y<|Xa Y<|Xr e24<|J5<|Cj Y Y<|⟨bf (fun h=>hp9 (Bo.ext_iff'.1 h).1),H3.Ag⟩
theorem FM (b:Bo) (A1:Option Addr) (k1:Nat) (A2:Option Addr) (k2:Nat) (A3:Option Addr) (k3:Nat) (m3 m4:Nat) (c:Bo) (C1:Option Addr) (q1:Nat) (C2:Option Addr) (q2:Nat) (C3:Option Addr) (q3:Nat) (ok ok2:Nat→Prop) (w0:World) (h1:Sl (Rl w0 ok) 6 w0 ok A1 b.groups) (h2:Sl Px 4 w0 ok A2 b.rights) (u1:Sl (Rl w0 ok2) 6 w0 ok2 C1 c.groups) (u2:Sl Px 4 w0 ok2 C2 c.rights) (n1:ZK b) (n2:ZK c):Aj 20 #[.agg [Ac A1 b.groups.length k1,Ac A2 b.rights.length k2,Ac A3 m3 k3].toArray,.agg [Ac C1 c.groups.length q1,Ac C2 c.rights.length q2,Ac C3 m4 q3].toArray] w0 (fun r w'=>r=.bool (decide (b.groups=c.groups∧b.rights=c.rights))∧Hp w0 w' [] []):=by
 refine zE Tryz.func20 Tryz.ntmps20 Y<|cR e40 ?_
 have H:=Hp.refl w0
 obtain⟨ps,hp,hr,_,hx2⟩:=id h1
 obtain⟨qs,hq,hrb,_,hx2b⟩:=id u1
 have hg1:=n1.g
 have hg2:=n2.g
 refine Rq<|zW Y Y H<|fun w1 ga H1 _=>zW Y Y H1<|fun w2 gb H2 _=>Xa Y<|Xr e40<|J1<|Rq<|Xf vW Y<|OV (EL qX Y (H2.cell (i:=0) Y Y))<|OV (ES Ub Y)<|Xf vW Y<|Ae e40<|OV (EL qX Y (H2.cell (i:=1) Y Y))<|OV (ES Ub Y)<|OT (yR Y Y) (fun Np=>?_) (fun Np=>?_)
 refine Xm Y<|Ae e40<|Oz 6 Y<|Ae e40<|Xt Y Y<|Xr e40<|J3 Y<|Rq<|Xa Y<|Xr e40<|J5<|Cj Y Y<|⟨bf (fun h=>Np (by rw[h.1])),H2.Ag⟩
 have hlm:b.groups.length=c.groups.length:=by omega
 refine Xm Y<|Ae e40<|OY Y<|Xf rP Y<|OY Y<|OV (EL gA Y (H2.cell (i:=0) Y Y))<|Ae e40<|OY Y<|Xf rP Y<|OY Y<|OV (EL gA Y (H2.cell (i:=1) Y Y))<|Ae e40<|OY Y<|OX (EC gf44 Y) (eqpR A2 C2 k2 q2 b.rights c.rights ok ok2 _ (h2.toR H2 k0) (u2.toR H2 k0) n1.r n2.r) (fun hp18 w3 Hd=>?_) (fun hp18 w3 Hd=>?_)
 have H3:=H2.Ap Hd
 refine OY Y<|Xn Y<|Xu Y Y<|Xr e40<|J4 Y<|J6<|J1<|Rq<|Xa Y<|Xr e40<|J7<|zU (fun nQ lQ w=>∃ (i:Nat) (y:Int),b.groups.length - i=nQ∧xO (Ik [(2,Ah ga),(3,Ah gb),(5,Aa y)] 0 40) lQ∧y=(i:Int)∧i≤b.groups.length∧b.groups.take i=c.groups.take i∧Hp w0 w [] [((some ga,41,[Ac A1 b.groups.length k1,Ac A2 b.rights.length k2,Ac A3 m3 k3]):Ent),(some gb,41,[Ac C1 c.groups.length q1,Ac C2 c.rights.length q2,Ac C3 m4 q3])]) (b.groups.length) ?_ ?_
 exact⟨0,_,Y,(Uy Y Y Y Y),Y,Am _,Y,H3⟩
 rintro nQ lQ w4 ⟨i,y,rfl,hfit,rfl,hi,heq,H4⟩
 obtain⟨j,rfl⟩:=hfit.open
 refine cR e40 ?_
 clear hfit
 refine J1<|Rq<|Xm Y<|Xf vW Y<|OV (EL qX Y (H4.cell (i:=0) Y Y))<|OV (ES Ub Y)<|Ae e40<|OT (zR Y Y) (fun hp25=>?_) (fun hp25=>?_)
 have hil:i < b.groups.length:=by omega
 obtain⟨x,hx⟩:=yM hil
 obtain⟨y,hy⟩:=yM (l:=c.groups) (j:=i) (by omega)
 obtain⟨p1,hp1,hR⟩:=hx2.get hx
 obtain⟨p2,hp2,hR2⟩:=hx2b.get hy
 obtain⟨a1,ha1⟩:=hr.some_ (by omega)
 obtain⟨a2,ha2⟩:=hrb.some_ (by omega)
 subst ha1 ha2
 have hfx:=n1.s x (mem_of hx)
 have hfy:=n2.s y (mem_of hy)
 obtain⟨D1,e1,D2,e2,D3,e3,rfl,h3,h4,h5⟩:=hR
 obtain⟨E1,f1,E2,f2,E3,f3,rfl,u3,u4,u5⟩:=hR2
 refine Xr e40<|J3 Y<|J6<|J1<|J7<|J1<|zQ 11 [(true,0),(true,1),(true,2),(true,3),(true,4),(true,5),(true,6),(true,7),(true,8),(true,9),(false,10),(false,11)] H4 [0,1] yF (by decide) (by kernel_rfl) ?_
 rintro w5 hw5
 have H5:=Hp.drew H4;rw[← hw5]at H5
 refine Zf Y vW Y<|MP Y<|MV (fun wz hz=>EL qX Y (hz.cell (i:=0) Y Y))<|Zm Y Y<|MP Y<|MV (fun wz hz=>EI Ub xY Y Y (len:=b.groups.length) (i:=i) (by omega) (by omega) Y)<|cZ e40<|MP Y<|MV (fun wz hz=>EN xY Y (vs:=Cb x D1 e1 D2 e2 D3 e3) Y ((hr.to0 hz).elem hp hp1))<|Zf Y vW Y<|MP Y<|MV (fun wz hz=>EL qX Y (hz.cell (i:=1) Y Y))<|Zm Y Y<|cZ e40<|MP Y<|MV (fun wz hz=>EI Ub xY Y Y (len:=c.groups.length) (i:=i) (by omega) (by omega) Y)<|MP Y<|MV (fun wz hz=>EN xY Y (vs:=Cb y E1 f1 E2 f2 E3 f3) Y ((hrb.to0 hz).elem hq hp2))<|MO Y<|OX (EC gf43 Y) (WB x D1 e1 D2 e2 D3 e3 y E1 f1 E2 f2 E3 f3 ok ok2 _ (h3.Qi H5 k0) (h4.to H5 k0) (h5.Si H5 k0) (u3.Qi H5 k0) (u4.to H5 k0) (u5.Si H5 k0) hfx hfy) (fun hp38 w6 Hd=>?_) (fun hp38 w6 Hd=>?_)
 have H6:=H5.Ap Hd
 refine OE ?_
 refine⟨fun hne=>H6.pick [0,1] (by decide),?_⟩
 refine MO Y<|Xn Y<|OE<|⟨fun hne=>absurd Y hne,?_⟩
 refine cZ e40<|ME<|cR e40<|J4 Y<|J6<|zA (zD ?_)
 refine J2<|Xm Y<|OV (zL Y Y (Ad _ (by omega)))<|Xa Y<|Xr e40<|zA (zH ?_)
 exact⟨b.groups.length - (i+1),by omega,i+1,_,Y,(Uy Y Y Y Y),by omega,by omega,pI heq hx hy hp38,H6.pick [0,1] (by decide)⟩
 have H6:=H5.Ap Hd
 refine OE ?_
 refine⟨fun hne=>H6.pick [0,1] (by decide),?_⟩
 refine MO Y<|Xn Y<|OE<|⟨fun hne=>absurd Y hne,?_⟩
 refine cZ e40<|ME<|cR e40<|J3 Y<|Rq<|Xa Y<|Xr e40<|J5<|BR<|yN<|BR<|Cj Y Y<|⟨bf (fun h=>kX hx hy hp38 h.1),H6.Ag⟩
 obtain rfl:i=b.groups.length:=by omega
 refine Xr e40<|J4 Y<|J8<|zT<|zS<|Rq<|Xa Y<|Xr e40<|J5<|Cj Y Y<|⟨bt (⟨nE heq hlm,hp18⟩),H4.Ag⟩
 have H3:=H2.Ap Hd
 refine OY Y<|Xn Y<|Xu Y Y<|Xr e40<|J3 Y<|Rq<|Xa Y<|Xr e40<|J5<|Cj Y Y<|⟨bf (fun h=>hp18 h.2),H3.Ag⟩
section
variable {fd:List Fv} {n:Nat}
theorem cW (v:Nat) (w0:World) (hv:v < 2^64):Aj 214 #[.int .u64 v] w0 (fun r w'=>Own w0 w' r (enc v)):=by
 refine zE Tryz.func214 Tryz.ntmps214 Y<|cR e20 ?_
 have H:=Hp.refl w0
 refine Rq<|Xa Y<|Xr e20<|Rq<|Xa Y<|Xr e20<|J1<|J7<|zU (fun nQ lQ w=>∃ (v1:Nat) (pre:List UInt8) (x:Int) (g:Option Nat) (m cap:Nat) (xs sp:List Value),v1=nQ∧xO (Ik [(0,.int .u64 x),(2,Dj),(3,Ac (hd g) m cap)] 0 20) lQ∧x=v1∧v1≤v∧m=pre.length∧xs=u8s pre∧enc v=pre++enc v1∧m≤cap∧cap*1≤(xs++sp).length∧(g=none→cap=0)∧Hp w0 w [] [(g,5,xs++sp)]) (v) ?_ ?_
 exact⟨v,[],_,none,0,0,[],[],Y,(Uy Y Y Y Y),Y,Ai _,Y,Y,Y,Ai _,by simp,fun _=>Y,H.nil 5⟩
 rintro nQ lQ w1 ⟨v1,pre,x,g,m,cap,xs,sp,rfl,hfit,rfl,hle,rfl,rfl,henc,hmc,hcap,hg0,H1⟩
 obtain⟨j,rfl⟩:=hfit.open
 refine cR e20 ?_
 clear hfit
 have hl10:=uW hv
 have hlp:pre.length+(enc v1).length=(enc v).length:=by rw[henc];simp
 have hpos:=JY v1
 refine J1<|Rq<|Xm Y<|OT (yP Y Y) (fun hp5=>?_) (fun hp5=>?_)
 refine Xr e20<|J3 Y<|J6<|J7<|Rq<|Xm Y<|Xm Y<|OV (eO Y Y (by omega) (AI v1 128))<|OV (zL Y Y ((Et _ (by omega)).trans (show(((v1 % 128:Nat):Int)+128)=((v1 % 128+128:Nat):Int) by omega)))<|Ae e20<|OV (xJ Tryz.underlying5 Lp Y (IntWalk.u8_in _ (by omega)))<|zJ Hf ty5 H1 Y (by decide) Y<|fun w2 g2 H2 hg2=>yX Hf ty5 (by decide) H2 0 Y Y (yV pre) hcap hmc hg0 Y (H2.rd (i:=1) (o:=some g2) (xs:=[Value.int .u8 ((v1 % 128+128:Nat):Int)]) (sp:=[]) Y Y (by decide)) Y (by omega) (by omega) (by decide)<|fun w3 g3 cap3 sp3 H3 hcap3 hmc3 hg3=>Xa Y<|Xr e20<|J2<|Xm Y<|OV (CZ Y Y (by omega) (tdivN .u64 v1 128 (Et _ (by omega))))<|Xa Y<|Xr e20<|zA (zD ?_)
 refine zA (zH ?_)
 exact⟨v1 / 128,by omega,v1 / 128,pre++[UInt8.ofNat (v1 % 128+128)],_,g3,_,cap3,u8s pre++[Value.int .u8 ((v1 % 128+128:Nat):Int)],sp3,Y,(Uy Y Y Y Y),Y,by omega,by simp,by rw[vE,dP,u8n (by omega)],by rw[henc,aJ (by omega)];simp,hmc3,hcap3,hg3,H3.pick [0] (by decide)⟩
 refine Xr e20<|J4 Y<|J8<|zT<|zS<|Rq<|Xm Y<|Xm Y<|OV (xJ Tryz.underlying5 Lp Y (u8w v1))<|zJ Hf ty5 H1 Y (by decide) Y<|fun w2 g2 H2 hg2=>Ae e20<|yX Hf ty5 (by decide) H2 0 Y Y (yV pre) hcap hmc hg0 Y (H2.rd (i:=1) (o:=some g2) (xs:=[Value.int .u8 ((v1 % 256:Nat):Int)]) (sp:=[]) Y Y (by decide)) Y (by omega) (by omega) (by decide)<|fun w3 g3 cap3 sp3 H3 hcap3 hmc3 hg3=>Xa Y<|Xr e20<|J5<|Cj Y Y ?_
 have e1:enc v=pre++[UInt8.ofNat v1]:=by rw[henc,enc_lt (by omega)]
 have e2:u8s (enc v)=u8s pre++[.int .u8 ((v1 % 256:Nat):Int)]:=by rw[e1,vE,dP,u8n (by omega),Ig (by omega)]
 have e3:(enc v).length=pre.length+1:=by rw[e1];simp
 unfold Own
 rw[e2,e3]
 exact⟨g3,cap3,sp3,Y,hmc3,hcap3,hg3,H3.pick [0] (by decide)⟩
theorem NY (n:Int) (w0:World) (hlo:-9223372036854775808≤n) (hhi:n≤9223372036854775807):Aj 200 #[Aa n] w0 (fun r w'=>Own w0 w' r (uC n)):=by
 refine zE Tryz.func200 Tryz.ntmps200 Y<|cR e16 ?_
 have H:=Hp.refl w0
 refine Rq<|Xa Y<|Xr e16<|J1<|Rq<|Xm Y<|OT (wC Y Y) (fun hp4=>?_) (fun hp4=>?_)
 obtain⟨m,rfl⟩:=Kr (show 0≤n by omega)
 refine Xr e16<|J3 Y<|Rq<|Xm Y<|OV (xJ Lp Tryz.underlying3 Y (Et _ (by omega)))<|OV (aG Y Y ((Et _ (by omega)).trans (show(2*(m:Int))=((2*m:Nat):Int) by omega)))<|yW (EC PZ Y) (cW (2*m) _ (by omega))<|fun w1 g1 c1 sp1 hm1 hc1 hg1 H1=>Ae e16<|Xa Y<|Xr e16<|J5<|Cj Y Y ?_
 have e:uC (m:Int)=enc (2*m):=by rw[rH];unfold zig;rw[if_neg (by omega)];congr 1
 rw[e]
 exact⟨g1,c1,sp1,Y,hm1,hc1,hg1,H1⟩
 refine Xr e16<|J4 Y<|J6<|Rq<|Xm Y<|OV (zL Y Y (Ad _ (by omega)))<|OV (X4 Y ((Ad _ (by omega)).trans (show(0:Int) - (n+1)=(((-n - 1).toNat:Nat):Int) by omega)))<|OV (xJ Lp Tryz.underlying3 Y (Et _ (by omega)))<|Ae e16<|OV (aG Y Y ((Et _ (by omega)).trans (show(2*(((-n - 1).toNat:Nat):Int))=((2*(-n - 1).toNat:Nat):Int) by omega)))<|OV (zL Y Y ((Et _ (by omega)).trans (show(((2*(-n - 1).toNat:Nat):Int)+1)=((2*(-n - 1).toNat+1:Nat):Int) by omega)))<|yW (EC PZ Y) (cW (2*(-n - 1).toNat+1) _ (by omega))<|fun w1 g1 c1 sp1 hm1 hc1 hg1 H1=>Xa Y<|Xr e16<|J5<|Cj Y Y ?_
 have e:uC n=enc (2*(-n - 1).toNat+1):=by rw[rH];unfold zig;rw[if_pos (by omega)];congr 1;omega
 rw[e]
 exact⟨g1,c1,sp1,Y,hm1,hc1,hg1,H1⟩
theorem K7 (A:Option Addr) (b:List UInt8) (c:Nat) (w0:World) (hr:Rd w0 A b.length 1 (u8s b)) (hb:b.length≤211106232532900):Aj 203 #[Ac A b.length c] w0 (fun r w'=>Own w0 w' r (xW b)):=by
 have hl10:=uW (v:=b.length) (by omega)
 refine zE Tryz.func203 Tryz.ntmps203 Y<|cR e9 ?_
 have H:=Hp.refl w0
 refine Rq<|Xa Y<|Xr e9<|Rq<|Xm Y<|OV (ES Hf Y)<|OV (xJ Lp Tryz.underlying3 Y ((Et _ (by omega))))<|yW (EC PZ Y) (cW b.length _ (by omega))<|fun w1 g1 c1 sp1 hm1 hc1 hg1 H1=>Ae e9<|Xm Y<|yX Hf ty5 (by decide) H1 0 Y Y (yV _) hc1 hm1 hg1 Y (hr.to0 H1) (uM b) (by omega) (by omega) (by decide)<|fun w2 g3 cap3 sp3 H2 hcap3 hmc3 hg3=>Xa Y<|Xr e9<|J5<|Cj Y Y ?_
 unfold Own
 rw[rB,vE,Af]
 exact⟨g3,cap3,sp3,Y,hmc3,hcap3,hg3,H2⟩
theorem ND (gp go o:Nat) (g0:Option Nat) (cap0:Nat) (sp0:List Value) (st:WS) (T:TypeId) (cs vs:List Value) (fd:List Fv) (w0:World) (H0:Hp w0 w0 (bl (vw gp g0 cap0 sp0 st++[(some go,T,cs)])) (vw gp g0 cap0 sp0 st++[(some go,T,cs)])) (M:Nat) (hM:M+65545*fd.length≤1000000000000) (hP:POk M g0 cap0 sp0 st) (hF:FCs w0 (vw gp g0 cap0 sp0 st++[(some go,T,cs)]) fd vs) (hat:At cs o vs) (hk:fd.map Fv.kd=[.int]):Aj 177 #[Ah gp,.pointer (some ⟨go,o,none⟩)] w0 (fun r w'=>∃ g1 cap1 sp1,POk (M+65545*fd.length) g1 cap1 sp1 (qN fd st)∧Hp w0 w' (bl (vw gp g0 cap0 sp0 st++[(some go,T,cs)])) (vw gp g1 cap1 sp1 (qN fd st)++[(some go,T,cs)])):=by
 refine zE Tryz.func177 Tryz.ntmps177 Y<|cR e28 ?_
 obtain⟨nn,rfl⟩:=TI hk
 have H:=H0
 obtain⟨v,Za,hv2⟩:=hF.head
 subst Za
 have hcq:=hat 0 v rfl
 rw[Ht]at hcq
 have hfit:=lt_of_get hcq
 have Gq:=hP.most
 simp only[Bg,Ed]at hM
 obtain⟨rfl,hn1,hn2⟩:=hv2
 have hxl:=fD (f:=.int nn) ⟨hn1,hn2⟩ rfl
 rw[show rJ (.int nn)=uC nn from rfl]at hxl
 refine J1<|Rq<|Xm Y<|Xc Y<|Xf CU Y<|OV (EL NI Y (H.cell (i:=0) Y Y))<|Ae e28<|Qg (yE Tryz.underlying165 Y) (Y)<|Xr e28<|J3 Y<|J1<|zQ 12 [(true,0),(true,1),(true,2),(true,3),(true,4),(true,5),(true,6),(true,7),(false,8),(false,9),(true,10),(true,11),(false,12)] H [0,2] yF (by decide) (by kernel_rfl) ?_
 rintro w1 hw1
 have H1:=Hp.drew H;rw[← hw1]at H1
 refine Zm Y Y<|Zm Y Y<|Zc Y Y<|Zf Y jK Y<|cZ e28<|MP Y<|MV (fun wz hz=>EL xG Y (hz.cell (i:=0) Y Y))<|Zm Y Y<|Zc Y Y<|MP Y<|MV (fun wz hz=>EL ty3 Y (hz.cell (i:=1) Y hcq))<|cZ e28<|MO Y<|yW (EC gf200 Y) (NY nn _ hn1 hn2)<|fun w2 g1 c1 sp1 hm1 hc1 hg1 Hd=>have H2:=H1.call0 Hd;OE<|⟨fun hne=>H2.pick [0,2] (by decide),?_⟩
 refine cZ e28<|MO Y<|lP Hf ty5 H2 1 (L:=st.out) (M:=(uC nn)) (g:=g0) (sp:=sp0) Y Y hP.room hP.le hP.nil Y (H2.rd (i:=3) (o:=g1) (xs:=u8s (uC nn)) (sp:=sp1) Y (yV _) (by decide)) (by omega)<|fun w3 g3 cap3 sp3 H3 hmc3 hcap3 hg3=>OE<|⟨fun hne=>H3.pick [0,2] (by decide),?_⟩
 refine cZ e28<|Zc Y Y<|Zf Y jK Y<|MO Y<|OW xG H3 0 Y Y Y Y (by first|exact NL Y|simp[zG]) Y<|fun w4 H4=>OE<|⟨fun hne=>absurd Y hne,?_⟩
 refine cZ e28<|ME<|cR e28<|J5<|rQ Y<|⟨g3,cap3,sp3,⟨hmc3,hcap3,hg3,by have hll:(st.out++uC nn).length=(st.out).length+(uC nn).length:=Af;show(st.out++uC nn).length≤_;simp only[Bg,Ed]at hll ⊢;omega⟩,H4.pick [0,1,2] (by decide)⟩
theorem R9 (gp go o:Nat) (g0:Option Nat) (cap0:Nat) (sp0:List Value) (st:WS) (T:TypeId) (cs vs:List Value) (fd:List Fv) (w0:World) (H0:Hp w0 w0 (bl (vw gp g0 cap0 sp0 st++[(some go,T,cs)])) (vw gp g0 cap0 sp0 st++[(some go,T,cs)])) (M:Nat) (hM:M+65545*fd.length≤1000000000000) (hP:POk M g0 cap0 sp0 st) (hF:FCs w0 (vw gp g0 cap0 sp0 st++[(some go,T,cs)]) fd vs) (hat:At cs o vs) (A:Option Addr) (m c:Nat) (hm:m≤1000000) (hk:fd.map Fv.kd=List.replicate m .int) (hA:Rd w0 A m 1 (fZ go o m)) (hS:∀ p,A=some p→p.block∉bl (vw gp g0 cap0 sp0 st++[(some go,T,cs)])):Aj 141 #[Ah gp,Ac A m c] w0 (fun r w'=>∃ g1 cap1 sp1,POk (M+65545*fd.length) g1 cap1 sp1 (qN fd st)∧Hp w0 w' (bl (vw gp g0 cap0 sp0 st++[(some go,T,cs)])) (vw gp g1 cap1 sp1 (qN fd st)++[(some go,T,cs)])):=by
 refine zE Tryz.func141 Tryz.ntmps141 Y<|cR e17 ?_
 have H:=H0
 have hlen:fd.length=m:=by have:=congrArg List.length hk;simpa using this
 refine Rq<|Xa Y<|Xr e17<|J7<|zU (fun nQ lQ w=>∃ (q:Nat) (y:Int) (g:Option Nat) (cap:Nat) (sp:List Value),m - q=nQ∧xO (Ik [(0,Ah gp),(1,Ac A m c),(4,Aa y)] 0 17) lQ∧y=q∧q≤m∧POk (M+65545*q) g cap sp (qN (fd.take q) st)∧Hp w0 w (bl (vw gp g0 cap0 sp0 st++[(some go,T,cs)])) (vw gp g cap sp (qN (fd.take q) st)++[(some go,T,cs)])) (m) ?_ ?_
 exact⟨0,_,g0,cap0,sp0,Y,(Uy Y Y Y Y),Y,Am _,hP,H⟩
 rintro nQ lQ w1 ⟨q,y,g,cap,sp,rfl,hfit,rfl,hq,hP,H1⟩
 obtain⟨j,rfl⟩:=hfit.open
 refine cR e17 ?_
 clear hfit
 refine J1<|Rq<|Xm Y<|Xm Y<|OV (ES Oa Y)<|OT (zR Y Y) (fun hp8=>?_) (fun hp8=>?_)
 have Ib:q < m:=by omega
 have ZO:q < fd.length:=by omega
 obtain⟨v,hv1,hv2⟩:=hF.each q ZO
 have hsn:=KV ZO st
 have hcq:=hat q v hv1
 obtain⟨pa,hpa⟩:=hA.some_ (by omega)
 subst hpa
 have hkd:fd[q].kd=.int:=by
  have:=congrArg (fun l=>l[q]?) hk
  simpa[ZO,Ib]using this
 obtain⟨nn,hfq⟩:∃ x,fd[q]=.int x:=by
  generalize fd[q]=fq at hkd
  cases fq <;>first | exact⟨_,rfl⟩ | cases hkd
 rw[hfq]at hv2 hsn
 obtain⟨st1,hst⟩:∃ x,qN (fd.take q) st=x:=⟨_,rfl⟩
 rw[hst]at hsn H1 hP
 refine Xr e17<|J3 Y<|J6<|J1<|J7<|J2<|Xm Y<|Xm Y<|Xm Y<|OV (EI Oa tQ Y Y Y Ib (Bz _))<|Ae e17<|OV (EL tQ Y ((hA.to H1 hS).cells pa Y q _ (bG Ib))) ?_
 have hk1:=ND gp go (o+q) g cap sp st1 T cs [v] [.int nn] _ H1.here (M+65545*q) (by simp only[Bg,Ed];omega) hP (FPs.one (FC.to (f:=.int nn) (es:=vw gp g0 cap0 sp0 st++[(some go,T,cs)]) hv2 H1)) (fun i u hu=>by cases i with | zero=>cases hu;exact hcq | succ i=>simp at hu) rfl
 refine OQ (EC JK Y) hk1 ?_
 rintro _ w2 ⟨g,cap,sp,hP,Hd⟩
 have H2:=H1.all Hd
 refine Xr e17<|zA (zD ?_)
 refine J2<|Xm Y<|OV (zL Y Y (Ad _ (by omega)))<|Xa Y<|Xr e17<|zA (zH ?_)
 exact⟨m - (q+1),by omega,q+1,_,g,cap,sp,Y,(Uy Y Y Y Y),Y,by omega,by rw[hsn];exact hP.mono (by simp only[Bg,Ed];omega),by rw[hsn];exact H2⟩
 have hqm:q=m:=by omega
 subst hqm
 rw[Ej (by omega)]at H1 hP
 rw[← hlen]at hP
 refine Xr e17<|J4 Y<|J8<|zT<|zS<|zA<|yO Y<|⟨g,cap,sp,hP,H1⟩
theorem DI (gp go o:Nat) (g0:Option Nat) (cap0:Nat) (sp0:List Value) (st:WS) (T:TypeId) (cs vs:List Value) (fd:List Fv) (w0:World) (H0:Hp w0 w0 (bl (vw gp g0 cap0 sp0 st++[(some go,T,cs)])) (vw gp g0 cap0 sp0 st++[(some go,T,cs)])) (M:Nat) (hM:M+65545*fd.length≤1000000000000) (hP:POk M g0 cap0 sp0 st) (hF:FCs w0 (vw gp g0 cap0 sp0 st++[(some go,T,cs)]) fd vs) (hat:At cs o vs) (hk:fd.map Fv.kd=[.bytes]):Aj 178 #[Ah gp,.pointer (some ⟨go,o,none⟩)] w0 (fun r w'=>∃ g1 cap1 sp1,POk (M+65545*fd.length) g1 cap1 sp1 (qN fd st)∧Hp w0 w' (bl (vw gp g0 cap0 sp0 st++[(some go,T,cs)])) (vw gp g1 cap1 sp1 (qN fd st)++[(some go,T,cs)])):=by
 refine zE Tryz.func178 Tryz.ntmps178 Y<|cR e47 ?_
 obtain⟨x,rfl⟩:=BC hk
 have H:=H0
 obtain⟨Nb,Vb⟩:=st
 obtain⟨v,Za,hv2⟩:=hF.head
 subst Za
 have hcq:=hat 0 v rfl
 rw[Ht]at hcq
 have hfit:=lt_of_get hcq
 have Gq:=hP.most
 simp only[Bg,Ed]at hM
 simp only at Gq
 obtain⟨B,c,Za,hrd,hap⟩:=hv2
 subst Za
 refine J1<|Rq<|Xm Y<|Xc Y<|Xf CU Y<|OV (EL NI Y (H.cell (i:=0) Y Y))<|Ae e47<|Jt (uB Tryz.underlying165 Y) (by simp)<|Xr e47<|J4 Y<|J6<|J1 ?_
 cases Vb
 refine J2<|Xm Y<|Xm Y<|Xc Y<|Xf uD Y<|Ae e47<|OV (EL ty4 Y (H.cell (i:=0) Y Y))<|Xm Y<|Ae e47<|OY Y<|Xm Y<|OY Y<|Xc Y<|Ae e47<|OY Y<|OV (EL xG Y (H.cell (i:=2) Y hcq))<|OY Y<|OV (ES Hf Y)<|Ae e47<|OY Y<|OT (yP Y Y) (fun Qw=>?_) (fun Qw=>?_)
 refine Xu Y Y<|Xc Y<|Xf uD Y<|OW ty4 H 0 Y Y Y Y (by first|exact NL Y|simp[zG]) Y<|fun w1 H1=>Xr e47<|Rq<|Xm Y<|Xc Y<|Xf uD Y<|OV (EL ty4 Y (H1.cell (i:=0) Y Y))<|Ae e47<|Xn Y<|Xr e47<|J4 Y<|J6<|zA<|yO Y ?_
 rw[mW (st:=⟨Nb,false⟩) (.inr (by simp[wK];omega))]
 exact⟨g0,cap0,sp0,⟨hP.1,hP.2,hP.3,by have:=hP.4;simp only at this ⊢;omega⟩,H1.pick [0,1,2] (by decide)⟩
 refine Xu Y Y<|Xc Y<|Xf uD Y<|OW ty4 H 0 Y Y Y Y (by first|exact NL Y|simp[zG]) Y<|fun w1 H1=>Xr e47<|Rq<|Xm Y<|Xc Y<|Xf uD Y<|OV (EL ty4 Y (H1.cell (i:=0) Y Y))<|Ae e47<|Xn Y<|Xr e47<|J3 Y<|zQ 12 [(true,0),(true,1),(true,2),(true,3),(true,4),(true,5),(true,6),(true,7),(false,8),(false,9),(true,10),(true,11),(false,12)] H1 [0,2] yF (by decide) (by kernel_rfl) ?_
 rintro w2 hw2
 have H2:=Hp.drew H1;rw[← hw2]at H2
 refine Zm Y Y<|Zm Y Y<|Zc Y Y<|Zf Y jK Y<|cZ e47<|MP Y<|MV (fun wz hz=>EL xG Y (hz.cell (i:=0) Y Y))<|Zm Y Y<|Zc Y Y<|MP Y<|MV (fun wz hz=>EL xG Y (hz.cell (i:=1) Y hcq))<|cZ e47<|MO Y ?_
 have hxl:=fD (f:=.bytes x) trivial (by simp[wK];omega)
 rw[show rJ (.bytes x)=xW x from rfl]at hxl
 refine yW (EC gf203 Y) (K7 B x c _ (hrd.fc H2 hap) (by omega))<|fun w3 g1 c1 sp1 hm1 hc1 hg1 Hd=>have H3:=H2.call0 Hd;OE<|⟨fun hne=>H3.pick [0,2] (by decide),?_⟩
 refine cZ e47<|MO Y<|lP Hf ty5 H3 1 (L:=Nb) (M:=(xW x)) (g:=g0) (sp:=sp0) Y Y hP.room hP.le hP.nil Y (H3.rd (i:=3) (o:=g1) (xs:=u8s (xW x)) (sp:=sp1) Y (yV _) (by decide)) (by omega)<|fun w4 g3 cap3 sp3 H4 hmc3 hcap3 hg3=>OE<|⟨fun hne=>H4.pick [0,2] (by decide),?_⟩
 refine cZ e47<|Zc Y Y<|Zf Y jK Y<|MO Y<|OW xG H4 0 Y Y Y Y (by first|exact NL Y|simp[zG]) Y<|fun w5 H5=>OE<|⟨fun hne=>absurd Y hne,?_⟩
 refine cZ e47<|ME<|cR e47<|zA<|yO Y ?_
 rw[cK (st:=⟨Nb,false⟩) rfl (by simp[wK];omega)]
 exact⟨g3,cap3,sp3,⟨hmc3,hcap3,hg3,by have hll:(Nb++xW x).length=(Nb).length+(xW x).length:=Af;show(Nb++xW x).length≤_;simp only[Bg,Ed]at hll ⊢;omega⟩,H5.pick [0,1,2] (by decide)⟩
 refine J2<|Xm Y<|Xm Y<|Xc Y<|Xf uD Y<|Ae e47<|OV (EL ty4 Y (H.cell (i:=0) Y Y))<|Xm Y<|Ae e47<|Oz 5 Y<|Ae e47<|Xt Y Y<|Xc Y<|Xf uD Y<|Ae e47<|OW ty4 H 0 Y Y Y Y (by first|exact NL Y|simp[zG]) Y<|fun w1 H1=>Xr e47<|Rq<|Xm Y<|Xc Y<|Xf uD Y<|OV (EL ty4 Y (H1.cell (i:=0) Y Y))<|Ae e47<|Xn Y<|Xr e47<|J4 Y<|J6<|zA<|yO Y ?_
 rw[mW (st:=⟨Nb,true⟩) (.inl rfl)]
 exact⟨g0,cap0,sp0,⟨hP.1,hP.2,hP.3,by have:=hP.4;simp only at this ⊢;omega⟩,H1.pick [0,1,2] (by decide)⟩
theorem R5 (gp go o:Nat) (g0:Option Nat) (cap0:Nat) (sp0:List Value) (st:WS) (T:TypeId) (cs vs:List Value) (fd:List Fv) (w0:World) (H0:Hp w0 w0 (bl (vw gp g0 cap0 sp0 st++[(some go,T,cs)])) (vw gp g0 cap0 sp0 st++[(some go,T,cs)])) (M:Nat) (hM:M+65545*fd.length≤1000000000000) (hP:POk M g0 cap0 sp0 st) (hF:FCs w0 (vw gp g0 cap0 sp0 st++[(some go,T,cs)]) fd vs) (hat:At cs o vs) (hk:fd.map Fv.kd=[.text]):Aj 179 #[Ah gp,.pointer (some ⟨go,o,none⟩)] w0 (fun r w'=>∃ g1 cap1 sp1,POk (M+65545*fd.length) g1 cap1 sp1 (qN fd st)∧Hp w0 w' (bl (vw gp g0 cap0 sp0 st++[(some go,T,cs)])) (vw gp g1 cap1 sp1 (qN fd st)++[(some go,T,cs)])):=by
 refine zE Tryz.func179 Tryz.ntmps179 Y<|cR e38 ?_
 obtain⟨x,rfl⟩:=OP hk
 have H:=H0
 obtain⟨Nb,Vb⟩:=st
 obtain⟨v,Za,hv2⟩:=hF.head
 subst Za
 have hcq:=hat 0 v rfl
 rw[Ht]at hcq
 have hfit:=lt_of_get hcq
 have Gq:=hP.most
 simp only[Bg,Ed]at hM
 simp only at Gq
 obtain rfl:v=yI x:=hv2
 refine Rq<|OA xG H<|fun w1 gv H1 hgv=>OW xG H1 3 Y Y Y Y (by decide) Y<|fun w2 H2=>Xr e38<|J1<|Rq<|Xm Y<|Xc Y<|Xf CU Y<|OV (EL NI Y (H2.cell (i:=0) Y Y))<|Ae e38<|Qg (yE Tryz.underlying165 Y) (Y)<|Xr e38<|J3 Y<|J1 ?_
 cases Vb
 refine J2<|Xm Y<|Xm Y<|Xc Y<|Xf uD Y<|Ae e38<|OV (EL ty4 Y (H2.cell (i:=0) Y Y))<|Xm Y<|Ae e38<|OY Y<|Xm Y<|OY Y<|Xc Y<|Ae e38<|OY Y<|OV (EL ty9 Y (H2.cell (i:=2) Y hcq))<|OY Y<|OV (oX Tryz.underlying9 Y) ?_
 rw[fU]
 refine Ae e38<|OY Y<|OT (yP Y Y) (fun hp20=>?_) (fun hp20=>?_)
 refine Xu Y Y<|Xc Y<|Xf uD Y<|OW ty4 H2 0 Y Y Y Y (by first|exact NL Y|simp[zG]) Y<|fun w3 H3=>Xr e38<|J1<|Rq<|Xm Y<|Xc Y<|Xf uD Y<|OV (EL ty4 Y (H3.cell (i:=0) Y Y))<|Xr e38<|J3 Y<|J5<|rQ Y ?_
 rw[lD (st:=⟨Nb,false⟩) (.inr (by simp[wK];omega))]
 exact⟨g0,cap0,sp0,⟨hP.1,hP.2,hP.3,by have:=hP.4;simp only at this ⊢;omega⟩,H3.pick [0,1,2] (by decide)⟩
 refine Xu Y Y<|Xc Y<|Xf uD Y<|OW ty4 H2 0 Y Y Y Y (by first|exact NL Y|simp[zG]) Y<|fun w3 H3=>Xr e38<|J1<|Rq<|Xm Y<|Xc Y<|Xf uD Y<|OV (EL ty4 Y (H3.cell (i:=0) Y Y))<|Xr e38<|J4 Y<|J6<|J2<|Xm Y<|Xc Y<|OV (EL ty9 Y (H3.cell (i:=2) Y hcq)) ?_
 have hgn:=eM H3 (g:=w3.heap.size) (Ai _)
 refine mB Tryz.underlying9 Hf Tryz.underlying5 H3 (s:=x) Y<|fun w4 gs cs1 HB hrs hgs hsz=>?_
 rw[← hgs]at hgn
 have H4:=HB.here
 refine Ae e38<|OW xG H4 3 Y Y Y Y (by decide) Y<|fun w5 H5=>Xr e38<|Rq<|Xm Y ?_
 have HQ:Hp _ w5 _ ((vw gp g0 cap0 sp0 ⟨Nb,false⟩++[(some gv,73,[Ac (some ⟨gs,0,none⟩) x.length cs1])])++[(some go,T,cs)]):=H5.pick [0,1,3,2] (by decide)
 have hk1:=DI gp gv 0 g0 cap0 sp0 ⟨Nb,false⟩ 73 [Ac (some ⟨gs,0,none⟩) x.length cs1] [Ac (some ⟨gs,0,none⟩) x.length cs1] [.bytes x] _ HQ.less.here M hM hP (FPs.one ⟨_,_,rfl,hrs.fc HQ.less (fun _ p hp=>by cases hp;exact hgn),fun h0=>aM hrs h0 (fun p hp=>by cases hp;exact hgn) HQ.less⟩) (fun i u hu=>by rw[Au];exact hu) rfl
 have hrs2:=hrs.fc HQ.less (fun _ p hp=>by cases hp;exact hgn)
 refine OQ (EC P3 Y) hk1 ?_
 rintro _ w6 ⟨g,cap,sp,hP,Hd⟩
 have hrs3:=hrs2.fc Hd (fun h0=>aM hrs h0 (fun p hp=>by cases hp;exact hgn) HQ.less)
 have H6:=(HB.all (HQ.front Hd)).pick [0,1,3,2] (by decide)
 refine Xr e38<|J2<|Xm Y<|OV (EL xG Y (H6.cell (i:=3) Y Y))<|OV (dH Hf Tryz.underlying5 Tryz.underlying9 Y hrs3)<|Xc Y<|Ae e38<|OW ty9 H6 2 Y Y Y Y hfit Y<|fun w7 H7=>Xr e38<|zA<|yO Y ?_
 have hsame:cs.set o (.string ⟨x.toArray⟩)=cs:=by
  apply Oi
  intro i
  rw[Kt]
  split
  · rename_i hi
    subst hi
    first
    | (rw[if_pos hfit,hcq];rfl)
    | (rw[hcq];rfl)
  rfl
 have HN:=(show ∀ (wa wb:World) (SS:List Nat),Hp wa wb SS (vw gp g cap sp (qN [.bytes x] ⟨Nb,false⟩)++[(some go,T,cs.set o (.string ⟨x.toArray⟩))])→Hp wa wb SS (vw gp g cap sp (qN [.bytes x] ⟨Nb,false⟩)++[(some go,T,cs)]) from fun wa wb SS h=>by rw[hsame]at h;exact h) _ _ _ (H7.pick [0,1,2] (by decide))
 exact⟨g,cap,sp,hP,HN⟩
 refine J2<|Xm Y<|Xm Y<|Xc Y<|Xf uD Y<|Ae e38<|OV (EL ty4 Y (H2.cell (i:=0) Y Y))<|Xm Y<|Ae e38<|Oz 5 Y<|Ae e38<|Xt Y Y<|Xc Y<|Xf uD Y<|Ae e38<|OW ty4 H2 0 Y Y Y Y (by first|exact NL Y|simp[zG]) Y<|fun w3 H3=>Xr e38<|J1<|Rq<|Xm Y<|Xc Y<|Xf uD Y<|OV (EL ty4 Y (H3.cell (i:=0) Y Y))<|Xr e38<|J3 Y<|J5<|rQ Y ?_
 rw[lD (st:=⟨Nb,true⟩) (.inl rfl)]
 exact⟨g0,cap0,sp0,⟨hP.1,hP.2,hP.3,by have:=hP.4;simp only at this ⊢;omega⟩,H3.pick [0,1,2] (by decide)⟩
theorem iZ {gp go:Nat} {T:TypeId} {cs:List Value} {a st:WS} {m:Nat} {w0 w':World} {S:List Nat} (ha:rW a st) (hn:fd.length=n) (h:∃ g1 cap1 sp1,POk (m+65545*fd.length) g1 cap1 sp1 (qN fd st)∧Hp w0 w' S (vw gp g1 cap1 sp1 (qN fd st)++[(some go,T,cs)])):fM (m+65545*n) gp (xV fd a) go T cs w0 S w':=by
 subst hn
 obtain⟨g1,cap1,sp1,hP,H⟩:=h
 exact⟨_,g1,cap1,sp1,MW fd ha,hP,H⟩
theorem mH {ks:List Kd} (h:fd.map Fv.kd=ks):fd.length=ks.length:=by rw[← h];simp
theorem JE {k:Kd} (h:fd.map Fv.kd=List.replicate n k):fd.length=n:=by rw[mH h];simp
theorem dN :RO Tryz.prog 141 .int:=fun gp go o n c g cap sp st T cs x vs w0 m a A hn H0 hm hP ha hM hat hA hS=>(R9 gp go o g cap sp st T cs vs x w0 H0 m (by rw[JE hM.1];omega) hP hM.2 hat A n c hn hM.1 hA hS).mono fun _ _ h=>iZ ha (JE hM.1) h
theorem GF :fL Tryz.prog 177 (Th.flat [.int]):=fun gp go o g cap sp st T cs x vs w0 m a H0 hm hP ha hM hat=>(ND gp go o g cap sp st T cs vs x w0 H0 m (by rw[mH hM.1];change m+65545≤_ at hm;show m+65545*1≤_;omega) hP hM.2 hat hM.1).mono fun _ _ h=>iZ ha (mH hM.1) h
theorem DJ :fL Tryz.prog 178 (Th.flat [.bytes]):=fun gp go o g cap sp st T cs x vs w0 m a H0 hm hP ha hM hat=>(DI gp go o g cap sp st T cs vs x w0 H0 m (by rw[mH hM.1];change m+65545≤_ at hm;show m+65545*1≤_;omega) hP hM.2 hat hM.1).mono fun _ _ h=>iZ ha (mH hM.1) h
theorem R6 :fL Tryz.prog 179 (Th.flat [.text]):=fun gp go o g cap sp st T cs x vs w0 m a H0 hm hP ha hM hat=>(R5 gp go o g cap sp st T cs vs x w0 H0 m (by rw[mH hM.1];change m+65545≤_ at hm;show m+65545*1≤_;omega) hP hM.2 hat hM.1).mono fun _ _ h=>iZ ha (mH hM.1) h
end

theorem KR (gp go o:Nat) (g:Option Nat) (cap:Nat) (sp:List Value) (st:WS) (U:TypeId) (cs:List Value) (x:nD.X) (vs:List Value) (w0:World) (m:Nat) (a:WS) (H0:Hp w0 w0 (bl (vwo gp g cap sp st go U cs)) (vwo gp g cap sp st go U cs)) (hm:m+nD.mx≤1000000000) (hP:POk m g cap sp st) (ha:rW a st) (hM:nD.M w0 (fun b=>b∉bl (vwo gp g cap sp st go U cs)) x vs) (hat:At cs o vs):Aj 142 #[Ah gp,.pointer (some ⟨go,o,none⟩)] w0 (fun _ w'=>fM (m+nD.mx) gp (xV (nD.fl x) a) go U cs w0 (bl (vwo gp g cap sp st go U cs)) w'):=by
 refine zE Tryz.func142 Tryz.ntmps142 Y<|cR e13 ?_
 change m+131090≤1000000000 at hm
 have HS:Ri gp go o w0 (bl (vwo gp g cap sp st go U cs)) w0 (m+0) a st nD x vs U cs g cap sp:=⟨H0,hP,ha,hM,hat⟩
 have H:=HS.H.here
 refine zQ 8 [(true,0),(true,1),(true,2),(true,3),(true,4),(true,5),(true,6),(false,7),(false,8)] H [0,1,2] yF (by decide) (by kernel_rfl) ?_
 rintro w1 hw1
 have H1:=Hp.drew H;rw[← hw1]at H1
 refine Zm Y Y<|Zm Y Y<|Zc Y Y<|cZ e13<|Zf Y sW Y<|Zm Y Y<|Zc Y Y<|cZ e13<|Zf Y qC Y<|MO Y<|zJ Oa tQ H1 Y (by decide) Y<|fun w2 g2 H2 hg2=>OE<|⟨fun hne=>H2.pick [0,1,2] (by decide),?_⟩
 refine cZ e13<|MO Y<|OQ (EC JN Y) (HS.grp (p:=0) dN H2 (by decide) (show m+0+131090≤_ by omega) (fun _ _ hM=>(Th.part hM 0 2)) (At.cast (At.trans (At.self _) (At.sub _ 0 2)) (by decide))) ?_
 rintro _ w3 ⟨st,g,cap,sp,Ue⟩
 have HS:=Ri.re Ue (m2:=m+131090) (by show m+0+131090=m+131090;omega)
 have H3:=HS.H.here
 refine OE ?_
 refine⟨fun hne=>absurd Y hne,?_⟩
 refine cZ e13<|ME<|cR e13<|zA<|yO Y ?_
 have hw0:List.take 2 x=x:=Th.whole hM
 refine HS.Z4 ?_ Y
 show _=xV (x) a
 simp only[Ei,tJ,wV,Nat.reduceAdd,hw0]
theorem AE :fL Tryz.prog 142 nD:=KR
theorem R3 (gp go o:Nat) (g:Option Nat) (cap:Nat) (sp:List Value) (st:WS) (U:TypeId) (cs:List Value) (x:fT.X) (vs:List Value) (w0:World) (m:Nat) (a:WS) (H0:Hp w0 w0 (bl (vwo gp g cap sp st go U cs)) (vwo gp g cap sp st go U cs)) (hm:m+fT.mx≤1000000000) (hP:POk m g cap sp st) (ha:rW a st) (hM:fT.M w0 (fun b=>b∉bl (vwo gp g cap sp st go U cs)) x vs) (hat:At cs o vs):Aj 143 #[Ah gp,.pointer (some ⟨go,o,none⟩)] w0 (fun _ w'=>fM (m+fT.mx) gp (xV (fT.fl x) a) go U cs w0 (bl (vwo gp g cap sp st go U cs)) w'):=by
 refine zE Tryz.func143 Tryz.ntmps143 Y<|cR e19 ?_
 change m+262180≤1000000000 at hm
 have HS:Ri gp go o w0 (bl (vwo gp g cap sp st go U cs)) w0 (m+0) a st fT x vs U cs g cap sp:=⟨H0,hP,ha,hM,hat⟩
 have H:=HS.H.here
 refine Rq<|Xm Y<|Xm Y<|Xc Y<|Ae e19<|Xf wY Y<|OQ (EC JK Y) (HS.one (p:=0) GF (show m+0+65545≤_ by omega) (fun _ _ hM=>(Th.part hM 0 1)) (At.cast (At.trans (At.self _) (At.sub _ 0 1)) (by decide))) ?_
 rintro _ w1 ⟨st,g,cap,sp,Ue⟩
 have HS:=Ri.re Ue (m2:=m+65545) (by show m+0+65545=m+65545;omega)
 have H1:=HS.H.here
 refine Xr e19<|Rq<|Xm Y<|Xm Y<|Xc Y<|Ae e19<|Xf tA Y<|OQ (EC VV Y) (HS.one (p:=1) AE (show m+65545+131090≤_ by omega) (fun _ _ hM=>(Th.part hM 1 2)) (At.cast (At.trans (At.self _) (At.sub _ 1 2)) (by decide))) ?_
 rintro _ w2 ⟨st,g,cap,sp,Ue⟩
 have HS:=Ri.re Ue (m2:=m+196635) (by show m+65545+131090=m+196635;omega)
 have H2:=HS.H.here
 refine Xr e19<|J2<|Xm Y<|Xm Y<|Xc Y<|Ae e19<|Xf tO Y<|OQ (EC P3 Y) (HS.one (p:=3) DJ (show m+196635+65545≤_ by omega) (fun _ _ hM=>(Th.part hM 3 1)) (At.cast (At.trans (At.self _) (At.sub _ 3 1)) (by decide))) ?_
 rintro _ w3 ⟨st,g,cap,sp,Ue⟩
 have HS:=Ri.re Ue (m2:=m+262180) (by show m+196635+65545=m+262180;omega)
 have H3:=HS.H.here
 refine Xr e19<|zA<|yO Y ?_
 have hw0:List.take 4 x=x:=Th.whole hM
 refine HS.Z4 ?_ Y
 show _=xV (x) a
 simp only[Ei,tJ,wV,Nat.reduceAdd,hw0]
theorem R4 :fL Tryz.prog 143 fT:=R3
theorem NF (gp go o:Nat) (g:Option Nat) (cap:Nat) (sp:List Value) (st:WS) (U:TypeId) (cs:List Value) (x:kU.X) (vs:List Value) (w0:World) (m:Nat) (a:WS) (H0:Hp w0 w0 (bl (vwo gp g cap sp st go U cs)) (vwo gp g cap sp st go U cs)) (hm:m+kU.mx≤1000000000) (hP:POk m g cap sp st) (ha:rW a st) (hM:kU.M w0 (fun b=>b∉bl (vwo gp g cap sp st go U cs)) x vs) (hat:At cs o vs):Aj 144 #[Ah gp,.pointer (some ⟨go,o,none⟩)] w0 (fun _ w'=>fM (m+kU.mx) gp (xV (kU.fl x) a) go U cs w0 (bl (vwo gp g cap sp st go U cs)) w'):=by
 refine zE Tryz.func144 Tryz.ntmps144 Y<|cR e14 ?_
 change m+131090≤1000000000 at hm
 have HS:Ri gp go o w0 (bl (vwo gp g cap sp st go U cs)) w0 (m+0) a st kU x vs U cs g cap sp:=⟨H0,hP,ha,hM,hat⟩
 have H:=HS.H.here
 refine Rq<|Xm Y<|Xm Y<|Xc Y<|Ae e14<|Xf xX Y<|OQ (EC JK Y) (HS.one (p:=0) GF (show m+0+65545≤_ by omega) (fun _ _ hM=>(Th.part hM 0 1)) (At.cast (At.trans (At.self _) (At.sub _ 0 1)) (by decide))) ?_
 rintro _ w1 ⟨st,g,cap,sp,Ue⟩
 have HS:=Ri.re Ue (m2:=m+65545) (by show m+0+65545=m+65545;omega)
 have H1:=HS.H.here
 refine Xr e14<|J2<|Xm Y<|Xm Y<|Xc Y<|Ae e14<|Xf uH Y<|OQ (EC P3 Y) (HS.one (p:=1) DJ (show m+65545+65545≤_ by omega) (fun _ _ hM=>(Th.part hM 1 1)) (At.cast (At.trans (At.self _) (At.sub _ 1 1)) (by decide))) ?_
 rintro _ w2 ⟨st,g,cap,sp,Ue⟩
 have HS:=Ri.re Ue (m2:=m+131090) (by show m+65545+65545=m+131090;omega)
 have H2:=HS.H.here
 refine Xr e14<|zA<|yO Y ?_
 have hw0:List.take 2 x=x:=Th.whole hM
 refine HS.Z4 ?_ Y
 show _=xV (x) a
 simp only[Ei,tJ,wV,Nat.reduceAdd,hw0]
theorem NG :fL Tryz.prog 144 kU:=NF
theorem NA (gp go o:Nat) (g:Option Nat) (cap:Nat) (sp:List Value) (st:WS) (U:TypeId) (cs:List Value) (x:kS.X) (vs:List Value) (w0:World) (m:Nat) (a:WS) (H0:Hp w0 w0 (bl (vwo gp g cap sp st go U cs)) (vwo gp g cap sp st go U cs)) (hm:m+kS.mx≤1000000000) (hP:POk m g cap sp st) (ha:rW a st) (hM:kS.M w0 (fun b=>b∉bl (vwo gp g cap sp st go U cs)) x vs) (hat:At cs o vs):Aj 145 #[Ah gp,.pointer (some ⟨go,o,none⟩)] w0 (fun _ w'=>fM (m+kS.mx) gp (xV (kS.fl x) a) go U cs w0 (bl (vwo gp g cap sp st go U cs)) w'):=by
 refine zE Tryz.func145 Tryz.ntmps145 Y<|cR e23 ?_
 change m+262180≤1000000000 at hm
 have HS:Ri gp go o w0 (bl (vwo gp g cap sp st go U cs)) w0 (m+0) a st kS x vs U cs g cap sp:=⟨H0,hP,ha,hM,hat⟩
 have H:=HS.H.here
 refine Rq<|Xm Y<|Xm Y<|Xc Y<|Ae e23<|Xf qD Y<|OQ (EC JK Y) (HS.one (p:=0) GF (show m+0+65545≤_ by omega) (fun _ _ hM=>(Th.part hM 0 1)) (At.cast (At.trans (At.self _) (At.sub _ 0 1)) (by decide))) ?_
 rintro _ w1 ⟨st,g,cap,sp,Ue⟩
 have HS:=Ri.re Ue (m2:=m+65545) (by show m+0+65545=m+65545;omega)
 have H1:=HS.H.here
 refine Xr e23<|Rq<|Xm Y<|Xm Y<|Xc Y<|Ae e23<|Xf oV Y<|OQ (EC gf179 Y) (HS.one (p:=1) R6 (show m+65545+65545≤_ by omega) (fun _ _ hM=>(Th.part hM 1 1)) (At.cast (At.trans (At.self _) (At.sub _ 1 1)) (by decide))) ?_
 rintro _ w2 ⟨st,g,cap,sp,Ue⟩
 have HS:=Ri.re Ue (m2:=m+131090) (by show m+65545+65545=m+131090;omega)
 have H2:=HS.H.here
 refine Xr e23<|zQ 8 [(true,0),(true,1),(true,2),(true,3),(true,4),(true,5),(true,6),(false,7),(false,8)] H2 [0,1,2] yF (by decide) (by kernel_rfl) ?_
 rintro w3 hw3
 have H3:=Hp.drew H2;rw[← hw3]at H3
 refine Zm Y Y<|Zm Y Y<|Zc Y Y<|cZ e23<|Zf Y aC Y<|Zm Y Y<|Zc Y Y<|cZ e23<|Zf Y G7 Y<|MO Y<|zJ Oa tQ H3 Y (by decide) Y<|fun w4 g4 H4 hg4=>OE<|⟨fun hne=>H4.pick [0,1,2] (by decide),?_⟩
 refine cZ e23<|MO Y<|OQ (EC JN Y) (HS.grp (p:=2) dN H4 (by decide) (show m+131090+131090≤_ by omega) (fun _ _ hM=>(Th.part hM 2 2)) (At.cast (At.trans (At.self _) (At.sub _ 2 2)) (by decide))) ?_
 rintro _ w5 ⟨st,g,cap,sp,Ue⟩
 have HS:=Ri.re Ue (m2:=m+262180) (by show m+131090+131090=m+262180;omega)
 have H5:=HS.H.here
 refine OE ?_
 refine⟨fun hne=>absurd Y hne,?_⟩
 refine cZ e23<|ME<|cR e23<|zA<|yO Y ?_
 have hw0:List.take 4 x=x:=Th.whole hM
 refine HS.Z4 ?_ Y
 show _=xV (x) a
 simp only[Ei,tJ,wV,Nat.reduceAdd,hw0]
theorem NC :fL Tryz.prog 145 kS:=NA
theorem SA (gp go o:Nat) (g:Option Nat) (cap:Nat) (sp:List Value) (st:WS) (U:TypeId) (cs:List Value) (x:rM.X) (vs:List Value) (w0:World) (m:Nat) (a:WS) (H0:Hp w0 w0 (bl (vwo gp g cap sp st go U cs)) (vwo gp g cap sp st go U cs)) (hm:m+rM.mx≤1000000000) (hP:POk m g cap sp st) (ha:rW a st) (hM:rM.M w0 (fun b=>b∉bl (vwo gp g cap sp st go U cs)) x vs) (hat:At cs o vs):Aj 97 #[Ah gp,.pointer (some ⟨go,o,none⟩)] w0 (fun _ w'=>fM (m+rM.mx) gp (xV (rM.fl x) a) go U cs w0 (bl (vwo gp g cap sp st go U cs)) w'):=by
 refine zE Tryz.func97 Tryz.ntmps97 Y<|cR e42 ?_
 change m+1048720≤1000000000 at hm
 have HS:Ri gp go o w0 (bl (vwo gp g cap sp st go U cs)) w0 (m+0) a st rM x vs U cs g cap sp:=⟨H0,hP,ha,hM,hat⟩
 have H:=HS.H.here
 refine J1<|zQ 8 [(true,0),(true,1),(true,2),(true,3),(true,4),(true,5),(true,6),(false,7),(false,8)] H [0,1,2] yF (by decide) (by kernel_rfl) ?_
 rintro w1 hw1
 have H1:=Hp.drew H;rw[← hw1]at H1
 refine Zm Y Y<|Zm Y Y<|Zc Y Y<|cZ e42<|Zf Y qP Y<|Zm Y Y<|Zc Y Y<|cZ e42<|Zf Y fl81_1 Y<|MO Y<|zJ Oa tQ H1 Y (by decide) Y<|fun w2 g2 H2 hg2=>OE<|⟨fun hne=>H2.pick [0,1,2] (by decide),?_⟩
 refine cZ e42<|MO Y<|OQ (EC JN Y) (HS.grp (p:=0) dN H2 (by decide) (show m+0+131090≤_ by omega) (fun _ _ hM=>(Th.part hM 0 2)) (At.cast (At.trans (At.self _) (At.sub _ 0 2)) (by decide))) ?_
 rintro _ w3 ⟨st,g,cap,sp,Ue⟩
 have HS:=Ri.re Ue (m2:=m+131090) (by show m+0+131090=m+131090;omega)
 have H3:=HS.H.here
 refine OE ?_
 refine⟨fun hne=>absurd Y hne,?_⟩
 refine cZ e42<|ME<|cR e42<|Rq<|Xm Y<|Xm Y<|Xc Y<|Ae e42<|Xf mM Y<|OQ (EC VV Y) (HS.one (p:=2) AE (show m+131090+131090≤_ by omega) (fun _ _ hM=>(Th.part hM 2 2)) (At.cast (At.trans (At.self _) (At.sub _ 2 2)) (by decide))) ?_
 rintro _ w4 ⟨st,g,cap,sp,Ue⟩
 have HS:=Ri.re Ue (m2:=m+262180) (by show m+131090+131090=m+262180;omega)
 have H4:=HS.H.here
 refine Xr e42<|Rq<|Xm Y<|Xm Y<|Xc Y<|Ae e42<|Xf qO Y<|OQ (EC gf143 Y) (HS.one (p:=4) R4 (show m+262180+262180≤_ by omega) (fun _ _ hM=>(Th.part hM 4 4)) (At.cast (At.trans (At.self _) (At.sub _ 4 4)) (by decide))) ?_
 rintro _ w5 ⟨st,g,cap,sp,Ue⟩
 have HS:=Ri.re Ue (m2:=m+524360) (by show m+262180+262180=m+524360;omega)
 have H5:=HS.H.here
 refine Xr e42<|Rq<|Xm Y<|Xm Y<|Xc Y<|Ae e42<|Xf vV Y<|OQ (EC gf144 Y) (HS.one (p:=8) NG (show m+524360+131090≤_ by omega) (fun _ _ hM=>(Th.part hM 8 2)) (At.cast (At.trans (At.self _) (At.sub _ 8 2)) (by decide))) ?_
 rintro _ w6 ⟨st,g,cap,sp,Ue⟩
 have HS:=Ri.re Ue (m2:=m+655450) (by show m+524360+131090=m+655450;omega)
 have H6:=HS.H.here
 refine Xr e42<|Rq<|Xm Y<|Xm Y<|Xc Y<|Ae e42<|Xf kB Y<|OQ (EC gf145 Y) (HS.one (p:=10) NC (show m+655450+262180≤_ by omega) (fun _ _ hM=>(Th.part hM 10 4)) (At.cast (At.trans (At.self _) (At.sub _ 10 4)) (by decide))) ?_
 rintro _ w7 ⟨st,g,cap,sp,Ue⟩
 have HS:=Ri.re Ue (m2:=m+917630) (by show m+655450+262180=m+917630;omega)
 have H7:=HS.H.here
 refine Xr e42<|zQ 8 [(true,0),(true,1),(true,2),(true,3),(true,4),(true,5),(true,6),(false,7),(false,8)] H7 [0,1,2] yF (by decide) (by kernel_rfl) ?_
 rintro w8 hw8
 have H8:=Hp.drew H7;rw[← hw8]at H8
 refine Zm Y Y<|Zm Y Y<|Zc Y Y<|cZ e42<|Zf Y uQ Y<|Zm Y Y<|Zc Y Y<|cZ e42<|Zf Y tN Y<|MO Y<|zJ Oa tQ H8 Y (by decide) Y<|fun w9 g9 H9 hg9=>OE<|⟨fun hne=>H9.pick [0,1,2] (by decide),?_⟩
 refine cZ e42<|MO Y<|OQ (EC JN Y) (HS.grp (p:=14) dN H9 (by decide) (show m+917630+131090≤_ by omega) (fun _ _ hM=>(Th.part hM 14 2)) (At.cast (At.trans (At.self _) (At.sub _ 14 2)) (by decide))) ?_
 rintro _ w10 ⟨st,g,cap,sp,Ue⟩
 have HS:=Ri.re Ue (m2:=m+1048720) (by show m+917630+131090=m+1048720;omega)
 have Df:=HS.H.here
 refine OE ?_
 refine⟨fun hne=>absurd Y hne,?_⟩
 refine cZ e42<|ME<|cR e42<|zA<|yO Y ?_
 have hw0:List.take 16 x=x:=Th.whole hM
 refine HS.Z4 ?_ Y
 show _=xV (x) a
 simp only[Ei,tJ,wV,Nat.reduceAdd,hw0]
theorem SB :fL Tryz.prog 97 rM:=SA
theorem Q3 (gp:Nat) (g:Option Nat) (cap:Nat) (sp:List Value) (st:WS) (go:Nat) (U:TypeId) (cs:List Value) (w0:World) (H0:Hp w0 w0 (bl (vwo gp g cap sp st go U cs)) (vwo gp g cap sp st go U cs)) (m:Nat) (hP:POk m g cap sp st) (a:WS) (hL:rW a st):Aj 98 #[Ah gp] w0 (fun r w'=>∃ g2 cap2 sp2,r=.tuple #[Ac (hd g2) (sZ a).length cap2,Aa (errOf a:Int)]∧(sZ a).length≤cap2∧cap2*1≤(u8s (sZ a)++sp2).length∧(g2=none→cap2=0)∧(sZ a).length≤65536∧Hp w0 w' (bl (vwo gp g cap sp st go U cs)) [(g2,5,u8s (sZ a)++sp2)]):=by
 refine zE Tryz.func98 Tryz.ntmps98 Y<|cR e20 ?_
 have H:=H0
 obtain⟨Nb,Vb⟩:=st
 obtain⟨q1,q2⟩:=MT hL
 refine Rq<|Xa Y<|Xa Y<|Xr e20<|J1<|J1 ?_
 cases Vb
 refine J2<|Xm Y<|Xc Y<|Xf uD Y<|OV (EL ty4 Y (H.cell (i:=0) Y Y))<|Ae e20<|Xm Y<|OY Y<|Xm Y<|Ae e20<|OY Y<|Xc Y<|OY Y<|Xf jK Y<|Ae e20<|OY Y<|OV (EL xG Y (H.cell (i:=0) Y Y))<|OY Y<|OV (ES Hf Y)<|Ae e20<|OY Y<|OT (yP Y Y) (fun hp14=>?_) (fun hp14=>?_)
 have hl:=q1 (.inr (by dsimp only at hp14 ⊢;omega))
 refine Xu Y Y<|Xr e20<|J3 Y<|Rq<|Xa Y<|Xa Y<|Xr e20<|J5<|Kw Y Y Y ?_
 obtain⟨r1,r2⟩:=mT hl
 exact⟨none,0,[],by rw[r1,r2];rfl,by rw[r1];exact Ai 0,Am _,fun _=>Y,by rw[r1];decide,by rw[r1];exact Hp.nil (H.pick [] (by decide)) 5⟩
 obtain⟨hl,ho⟩:=q2 (by rintro(h | h);cases h;dsimp only at h hp14;omega)
 refine Xu Y Y<|Xr e20<|J4 Y<|J6<|Rq<|Xm Y<|Xc Y<|Xf jK Y<|OV (EL xG Y (H.cell (i:=0) Y Y))<|Ae e20<|Xa Y<|Xa Y<|Xr e20<|J5<|Kw Y Y Y ?_
 obtain⟨r1,r2⟩:=fB hl
 simp only at ho
 exact⟨g,cap,sp,by rw[r1,r2,ho];rfl,by rw[r1,ho];exact hP.le,by rw[r1,ho];exact hP.room,hP.nil,by rw[r1,ho];dsimp only at hp14;omega,by rw[r1,ho];exact H.pick [1] (by decide)⟩
 refine J2<|Xm Y<|Xc Y<|Xf uD Y<|OV (EL ty4 Y (H.cell (i:=0) Y Y))<|Ae e20<|Xm Y<|Oz 6 Y<|Ae e20<|Xt Y Y<|Xr e20<|J3 Y<|Rq<|Xa Y<|Xa Y<|Xr e20<|J5<|Kw Y Y Y ?_
 have hl:=q1 (.inl rfl)
 obtain⟨r1,r2⟩:=mT hl
 exact⟨none,0,[],by rw[r1,r2];rfl,by rw[r1];exact Ai 0,Am _,fun _=>Y,by rw[r1];decide,by rw[r1];exact Hp.nil (H.pick [] (by decide)) 5⟩
theorem O3 (x:rM.X) (cells:List Value) (w0:World) (hM:rM.M w0 (fun _=>True) x cells):Aj 50 #[.agg cells.toArray] w0 (fun r w'=>KI w0 w' r (xV (rM.fl x) W0)):=by
 refine zE Tryz.func50 Tryz.ntmps50 Y<|cR e13 ?_
 have hlen:cells.length=16:=rM.len hM
 have H:=Hp.refl w0
 refine Rq<|zW Y Y H<|fun w1 g1 H1 hg1=>Xa Y<|Xa Y<|Xr e13<|Rq<|OV (EB ty167 WU Y Y)<|zW Y Y H1<|fun w2 gk H2 hgk=>Xa Y<|Xr e13<|Rq<|Xm Y ?_
 have hM1:=rM.to hM H2 (fun _ _=>by simp)
 have HP:Hp w0 w2 [] (vwo gk none 0 [] W0 g1 81 cells):=(H2.nil 5).pick [1,2,0] (by decide)
 have hM2:=rM.to hM HP (fun _ _=>by simp)
 refine OQ (EC gf97 Y) (SB gk g1 0 none 0 [] W0 81 cells x cells _ 0 W0 HP.here (by decide) ⟨Ai _,Ai _,fun _=>Y,Ai _⟩ (.inr ⟨Y,Y,Y,Am _⟩) (rM.mono hM2 fun _ h=>h.2) (At.self _)) ?_
 rintro _ w3 ⟨st,g,cap,sp,hL,hPk,Hd⟩
 have H3:=HP.all Hd
 refine Xr e13<|Rq<|Xm Y<|OQ (EC gf98 Y) (Q3 gk g cap sp st g1 81 cells _ H3.here 1000000000 (hPk.mono (by decide)) _ hL) ?_
 rintro _ w4 ⟨g2,cap2,sp2,rfl,q1,q2,q3,q4,Hd⟩
 have H4:=H3.all Hd
 refine Xe Y Y<|Xe Y Y<|Ae e13<|Xa Y<|Xa Y<|Xr e13<|J5<|Kw Y Y Y<|⟨g2,cap2,sp2,Y,q1,q2,q3,q4,H4⟩
theorem U1 (w0:World):Aj 10 #[] w0 (fun r w'=>r=.bool (decide (True))∧Hp w0 w' [] []):=by
 refine zE Tryz.func10 Tryz.ntmps10 Y<|cR e27 ?_
 have H:=Hp.refl w0
 refine Rq<|Xa Y<|Xr e27<|Rq<|OV (EB vC GU Y Y)<|OV (EB xT eB Y Y)<|zJ Ns xT H (cs:=[Aa 1,Aa 1,Aa 2,Aa 1,Aa 0,Aa 0,Aa 0,Dj,Aa 0,Dj,Aa 0,.string ⟨#[]⟩,Aa 0,Aa 0,Aa 0,Aa 0]) Y (by decide) Y<|fun w1 g1 H1 hg1=>?_
 have hl:=Sl.row (R:=NtR w1 (fun _=>True)) (xs:=[awN]) (ok:=fun _=>True) H1 (i:=0) (sp:=[]) (ps:=[[Aa 1,Aa 1,Aa 2,Aa 1,Aa 0,Aa 0,Aa 0,Dj,Aa 0,Dj,Aa 0,.string ⟨#[]⟩,Aa 0,Aa 0,Aa 0,Aa 0]]) rfl (Pl.one rfl) (by decide) (wT.one ⟨none,0,none,0,rfl,Bs.none _ _,Bs.none _ _⟩) (fun _ _=>trivial)
 refine OQ (EC gf33 Y) (NZ _ 1 [awN] _ _ hl (by decide)) ?_
 rintro _ w2 ⟨cs,e,b9,rfl,hbo,hrep,Hd⟩
 obtain⟨hb9,rfl⟩:b9=awB∧e=0:=by
  rcases hrep with ⟨h1,h2,_⟩ | ⟨h1,_⟩
  · rw[RK]at h1;cases h1;exact⟨rfl,h2⟩
  rw[RK]at h1;cases h1
 subst hb9
 obtain⟨A1,k1,A2,k2,A3,k3,rfl,hv1,hv2,hv3⟩:=hbo
 have H2:=H1.Ap Hd
 obtain⟨ps,hp,hr,ha,h2⟩:=id hv1
 obtain⟨a1,ha1⟩:=hr.some_ (by decide)
 subst ha1
 obtain⟨p1,hp1,hR⟩:=h2.get (i:=1) (b:=awS) rfl
 obtain⟨C1,q1,C2,q2,C3,q3,rfl,_,_,_⟩:=hR
 have HR:=H2.Ag
 replace H2:=HR.here
 refine Ae e27<|Xm Y<|Xe Y Y<|Xe Y Y<|OA xH H2<|fun w3 g3 H3 hg3=>Ae e27<|OS xH H3 0 Y Y Y Y Y (by first|exact NL Y|simp[zG]) Y<|fun w4 H4=>Xa Y<|Xr e27<|Rq<|Xm Y<|Qg (yU Y Y) (Y)<|Xm Y<|Ae e27<|OY Y<|Xf vW Y<|OY Y<|OV (EL qX Y (H4.cell (i:=0) Y Y))<|Ae e27<|OY Y<|OV (ES Ub Y)<|OY Y<|Qg (yU Y Y) (Y)<|Xt Y Y<|Xm Y<|Ae e27<|OY Y<|Xf vW Y<|OY Y<|OV (EL qX Y (H4.cell (i:=0) Y Y))<|Ae e27<|OY Y<|OV (EI Ub xY Y Y (len:=8) (i:=1) Y (by decide) Y)<|OY Y<|OV (yJ uZ Y)<|Ae e27 ?_
 refine OY Y<|OV (aY sW Y)<|OY Y<|OV (EL ty3 Y (((hr.to0 H4).elem hp hp1) 0 _ Y))<|Ae e27<|OY Y<|Qg (yU Y Y) (Y)<|Xt Y Y<|Xa Y<|Xr e27<|J5<|Cj Y Y<|⟨bt trivial,(HR.all H4).Ag⟩
set_option maxHeartbeats 16000000
theorem SY (A:Option Addr) (k:Nat) (l:List Rt) (ok:Nat→Prop) (w0:World) (hl:Sl Px 4 w0 ok A l) (hn:l.length≤1000000000000) (hso:qK l):Aj 131 #[Ac A l.length k] w0 (fun r w'=>r=.bool true∧Hp w0 w' [] []):=by
 refine zE Tryz.func131 Tryz.ntmps131 Y<|cR e33 ?_
 have H:=Hp.refl w0
 obtain⟨ps,hp,hr,ha,h2⟩:=id hl
 have hlen:=h2.len
 obtain⟨Wi,hrise⟩:=sA hso
 refine Rq<|Xa Y<|Xr e33<|J1<|Rq<|Xa Y<|Xr e33<|J7<|zU (fun nQ lQ w=>∃ (i:Nat) (y:Int),l.length - i=nQ∧xO (Ik [(0,Ac A l.length k),(3,Aa y)] 0 33) lQ∧y=(i:Int)∧i≤l.length∧Hp w0 w [] []) (l.length) ?_ ?_
 exact⟨0,_,Y,(ft2 Y Y Y),Y,Am _,H⟩
 rintro nQ lQ w1 ⟨i,y,rfl,hfit,rfl,hi,H1⟩
 obtain⟨j,rfl⟩:=hfit.open
 refine cR e33 ?_
 clear hfit
 refine J1<|Rq<|Xm Y<|Xm Y<|OV (ES Kv Y)<|OT (zR Y Y) (fun Ur=>?_) (fun Ur=>?_)
 have hil:i < l.length:=by omega
 obtain⟨x,hx⟩:=yM hil
 obtain⟨p1,hp1,hR⟩:=h2.get hx
 unfold Px at hR
 subst hR
 obtain⟨a1,ha1⟩:=hr.some_ (by omega)
 subst ha1
 have hmay:=Wi x (mem_of hx)
 refine Xr e33<|J3 Y<|J6<|J1<|J7<|J1<|zQ 22 [(true,0),(true,1),(true,2),(true,3),(false,4),(true,5),(true,6),(true,7),(true,8),(true,9),(true,10),(true,11),(true,12),(true,13),(true,14),(true,15),(true,16),(true,17),(true,18),(false,19),(true,20),(true,21),(false,22)] H1 [] yF (by decide) (by kernel_rfl) ?_
 rintro w2 hw2
 have H2:=Hp.drew H1;rw[← hw2]at H2
 refine Zm Y Y<|Zm Y Y<|MP Y<|MV (fun wz hz=>EI Kv xR Y Y (len:=l.length) (i:=i) (by omega) (by omega) Y)<|MP Y<|MV (fun wz hz=>EN xR Y (vs:=Dc x) Y ((hr.to0 hz).elem hp hp1))<|cZ e33<|MO Y<|oR (EC VZ Y) (VK _ _) (hmay)<|fun w3 Hd=>have H3:=H2.Ap Hd;OE<|⟨fun hne=>H3.pick [] (by decide),?_⟩
 refine cZ e33<|MP Y<|MV (fun wz hz=>aF Y)<|Zm Y Y<|MP Y<|MY Y<|MV (fun wz hz=>zK Y)<|MP Y<|MY Y<|vZ (fun wz hz=>yP Y Y) (fun hp18=>?_) (fun hp18=>?_)
 obtain⟨y,hy⟩:=yM (l:=l) (j:=i - 1) (by omega)
 obtain⟨p2,hp2,hR2⟩:=h2.get hy
 unfold Px at hR2
 subst hR2
 have hlt:=hrise (i - 1) i y x (by omega) hy hx
 refine MP Y<|MY Y<|MV (fun wz hz=>zK Y)<|cZ e33<|MP Y<|MY Y<|MV (fun wz hz=>zK Y)<|MP Y<|MY Y<|MV (fun wz hz=>zK Y)<|MP Y<|MY Y<|MV (fun wz hz=>uI Y Y (Ad _ (by omega)))<|MP Y<|MY Y<|MV (fun wz hz=>EI Kv xR Y Y (len:=l.length) (i:=i - 1) (by omega) (by omega) Y)<|cZ e33<|MP Y<|MY Y<|MV (fun wz hz=>EN xR Y (vs:=Dc y) Y ((hr.to0 hz).elem hp hp2))<|MP Y<|MY Y<|MV (fun wz hz=>zK Y)<|MP Y<|MY Y<|MV (fun wz hz=>zK Y)<|MP Y<|MY Y<|MV (fun wz hz=>EI Kv xR Y Y (len:=l.length) (i:=i) (by omega) (by omega) Y)<|cZ e33<|MP Y<|MY Y<|MV (fun wz hz=>EN xR Y (vs:=Dc x) Y ((hr.to0 hz).elem hp hp1))<|MO Y<|OY Y<|oR (EC JO Y) (cF _ _ _) (hlt)<|fun w4 Hd=>have H4:=H3.Ap Hd;OE<|⟨fun hne=>H4.pick [] (by decide),?_⟩
 refine cZ e33<|MP Y<|MY Y<|MV (fun wz hz=>aF Y)<|MP Y<|MY Y<|MV (fun wz hz=>xS Y Y)<|MO Y<|Xu Y Y<|OE<|⟨fun hne=>absurd Y hne,?_⟩
 refine cZ e33<|ME<|cR e33<|J4 Y<|J6<|zA (zD ?_)
 refine J2<|Xm Y<|OV (zL Y Y (Ad _ (by omega)))<|Xa Y<|Xr e33<|zA (zH ?_)
 exact⟨l.length - (i+1),by omega,i+1,_,Y,(ft2 Y Y Y),by omega,by omega,H4.Ag⟩
 refine MP Y<|MY Y<|MV (fun wz hz=>zK Y)<|cZ e33<|MP Y<|MZ Y<|MP Y<|MZ Y<|cZ e33<|MP Y<|MZ Y<|MP Y<|MZ Y<|cZ e33<|MP Y<|MZ Y<|MP Y<|MZ Y<|cZ e33<|MP Y<|MZ Y<|MP Y<|MZ Y<|cZ e33<|MP Y<|MZ Y<|MO Y<|OZ Y<|OE<|⟨fun hne=>H3.pick [] (by decide),?_⟩
 refine cZ e33<|MP Y<|MZ Y<|MP Y<|MY Y<|MV (fun wz hz=>vL Y Y)<|MO Y<|Xu Y Y<|OE<|⟨fun hne=>absurd Y hne,?_⟩
 refine cZ e33<|ME<|cR e33<|J4 Y<|J6<|zA (zD ?_)
 refine J2<|Xm Y<|OV (zL Y Y (Ad _ (by omega)))<|Xa Y<|Xr e33<|zA (zH ?_)
 exact⟨l.length - (i+1),by omega,i+1,_,Y,(ft2 Y Y Y),by omega,by omega,H3.Ag⟩
 refine Xr e33<|J4 Y<|J8<|zT<|zS<|Rq<|Xa Y<|Xr e33<|J5<|Cj Y Y<|⟨Y,H1.Ag⟩
theorem put16 (x0:Rt) (A:Option Addr) (k:Nat) (l:List Rt) (ok:Nat→Prop) (w0:World) (hl:Sl Px 4 w0 ok A l) (hn:l.length≤1000000000000) (hso:qK l):Aj 90 #[Ac A l.length k,.agg (Dc x0).toArray] w0 (fun r w'=>(nK x0→∃ A' k',r=.tuple #[Ac A' (Hg l x0).length k',Aa 0]∧Sl Px 4 w' (fun b=>w0.heap.size≤b) A' (Hg l x0)∧(Hg l x0).length≤k')∧(¬nK x0→r=.tuple #[Dj,Aa 1])∧Hp w0 w' [] []):=by
 refine zE Tryz.func90 Tryz.ntmps90 Y<|cR e53 ?_
 have H:=Hp.refl w0
 obtain⟨ps,hp,hr,ha,h2⟩:=id hl
 have hlen:=h2.len
 obtain⟨Wi,hrise⟩:=sA hso
 refine Rq<|zW Y Y H<|fun w1 gx H1 _=>Xa Y<|Xa Y<|Xr e53<|J1<|Rq<|Xm Y<|OC (EC gf131 Y) (SY A k l ok _ (hl.toR H1 k0) hn hso)<|fun w2 Hd=>have H2:=H1.Ap Hd;Xn Y<|Xr e53<|J4 Y<|J6<|J1<|Rq<|OV (EN xR Y (vs:=Dc x0) Y (H2.Ak (i:=0) Y Y))<|OX (EC VZ Y) (VK _ _) (fun Qp w3 Hd=>?_) (fun Qp w3 Hd=>?_)
 have H3:=H2.Ap Hd
 refine Xn Y<|Xr e53<|J4 Y<|J6<|Rq<|Xa Y<|Xa Y<|Xr e53<|J1<|Rq<|Xa Y<|Xr e53<|J7<|zU (fun nQ lQ w=>∃ (i:Nat) (y:Int) (g:Option Nat) (cap:Nat) (us:List Rt) (sp:List Value) (g6:Option Nat) (cap6:Nat) (vs:List Rt) (sp6:List Value),l.length - i=nQ∧xO (Ik [(0,Ac A l.length k),(3,Ah gx),(6,Ac (hd g) (us.map Nz).length cap),(7,Ac (hd g6) (vs.map Nz).length cap6),(8,Aa y)] 0 53) lQ∧y=(i:Int)∧i≤l.length∧us=(l.take i).filter (fun z=>Ox z x0)∧vs=(l.take i).filter (fun z=>Ox x0 z)∧Gw 4 g cap (us.map Nz) sp∧Gw 4 g6 cap6 (vs.map Nz) sp6∧Hp w0 w [] [((some gx,35,Dc x0):Ent),((g,35,(us.map Nz).flatten++sp):Ent),((g6,35,(vs.map Nz).flatten++sp6):Ent)]) (l.length) ?_ ?_
 exact⟨0,_,none,0,[],[],none,0,[],[],Y,(Qr Y Y Y Y Y Y),Y,Am _,Y,Y,Gw.nil 4,Gw.nil 4,(H3.nil 35).nil 35⟩
 rintro nQ lQ w4 ⟨i,y,g,cap,us,sp,g6,cap6,vs,sp6,rfl,hfit,rfl,hi,hus,hvs,hG,hG6,H4⟩
 obtain⟨j,rfl⟩:=hfit.open
 refine cR e53 ?_
 clear hfit
 refine J1<|Rq<|Xm Y<|Xm Y<|OV (ES Kv Y)<|OT (zR Y Y) (fun hp18=>?_) (fun hp18=>?_)
 have hil:i < l.length:=by omega
 obtain⟨x,hx⟩:=yM hil
 obtain⟨p1,hp1,hR⟩:=h2.get hx
 unfold Px at hR
 subst hR
 obtain⟨a1,ha1⟩:=hr.some_ (by omega)
 subst ha1
 have hmay:=Wi x (mem_of hx)
 have ZN:us.length≤i:=by rw[hus];exact iF
 have hvl:vs.length≤i:=by rw[hvs];exact iF
 refine Xr e53<|J3 Y<|J6<|J1<|J7<|J1<|J1<|zQ 5 [(true,0),(true,1),(true,2),(true,3),(true,4),(false,5)] H4 [0,1,2] yF (by decide) (by kernel_rfl) ?_
 rintro w5 hw5
 have H5:=Hp.drew H4;rw[← hw5]at H5
 refine Zm Y Y<|Zm Y Y<|MP Y<|MV (fun wz hz=>EI Kv xR Y Y (len:=l.length) (i:=i) (by omega) (by omega) Y)<|MP Y<|MV (fun wz hz=>EN xR Y (vs:=Dc x) Y ((hr.to0 hz).elem hp hp1))<|cZ e53<|MP Y<|MV (fun wz hz=>EN xR Y (vs:=Dc x0) Y (hz.Ak (i:=0) Y Y))<|MO Y<|OX (EC JO Y) (cF _ _ _) (fun Qw w6 Hd=>?_) (fun Qw w6 Hd=>?_)
 have H6:=H5.Ap Hd
 refine OE ?_
 refine⟨fun hne=>absurd Y hne,?_⟩
 refine ME<|cR e53<|J3 Y<|J2<|Xm Y<|Xm Y<|Xm Y<|OV (EI Kv xR Y Y (len:=l.length) (i:=i) (by omega) (by omega) Y)<|Ae e53<|OV (EN xR Y (vs:=Dc x) Y ((hr.to0 H6).elem hp hp1))<|zJ Kv xR H6 (cs:=Dc x) Y (by decide) Y<|fun w7 gk H7 _=>xU Kv xR (by decide) H7 1 (qs:=us.map Nz) hG Y Y (rs:=[Dc x]) (m:=1) Y Y (H7.rd (i:=3) (o:=some _) (xs:=Dc x) (sp:=[]) Y Y (by decide)) (Pl.one Y) (fun p hp=>by rw[Bc.1 hp];rfl) (by rw[Bl];omega) (by rw[Bl];omega) (by decide)<|fun w8 g2 cap2 sp2 H8 hG2=>?_
 have hm2:us.map Nz++[Dc x]=(us++[x]).map Nz:=by rw[Ez];rfl
 rw[hm2]at H8 hG2 ⊢
 refine Xa Y<|Xr e53<|J1<|zQ 5 [(true,0),(true,1),(true,2),(true,3),(true,4),(false,5)] H8 [0,1,2,3] yF (by decide) (by kernel_rfl) ?_
 rintro w9 hw9
 have H9:=Hp.drew H8;rw[← hw9]at H9
 refine MP Y<|MV (fun wz hz=>EN xR Y (vs:=Dc x0) Y (hz.Ak (i:=0) Y Y))<|Zm Y Y<|Zm Y Y<|MP Y<|MV (fun wz hz=>EI Kv xR Y Y (len:=l.length) (i:=i) (by omega) (by omega) Y)<|cZ e53<|MP Y<|MV (fun wz hz=>EN xR Y (vs:=Dc x) Y ((hr.to0 hz).elem hp hp1))<|MO Y<|OX (EC JO Y) (cF _ _ _) (fun Qo w10 Hd=>?_) (fun Qo w10 Hd=>?_)
 have Df:=H9.Ap Hd
 refine OE ?_
 refine⟨fun hne=>absurd Y hne,?_⟩
 refine ME<|cR e53<|J3 Y<|J2<|Xm Y<|Xm Y<|Xm Y<|OV (EI Kv xR Y Y (len:=l.length) (i:=i) (by omega) (by omega) Y)<|Ae e53<|OV (EN xR Y (vs:=Dc x) Y ((hr.to0 Df).elem hp hp1))<|zJ Kv xR Df (cs:=Dc x) Y (by decide) Y<|fun Nu gq Eh _=>xU Kv xR (by decide) Eh 2 (qs:=vs.map Nz) hG6 Y Y (rs:=[Dc x]) (m:=1) Y Y (Eh.rd (i:=4) (o:=some _) (xs:=Dc x) (sp:=[]) Y Y (by decide)) (Pl.one Y) (fun p hp=>by rw[Bc.1 hp];rfl) (by rw[Bl];omega) (by rw[Bl];omega) (by decide)<|fun w12 g5 cap5 Qj Gi hG5=>?_
 have hm5:vs.map Nz++[Dc x]=(vs++[x]).map Nz:=by rw[Ez];rfl
 rw[hm5]at Gi hG5 ⊢
 refine Xa Y<|Xr e53<|zA (zD ?_)
 refine J2<|Xm Y<|OV (zL Y Y (Ad _ (by omega)))<|Xa Y<|Xr e53<|zA (zH ?_)
 exact⟨l.length - (i+1),by omega,i+1,_,g2,cap2,us++[x],sp2,g5,cap5,vs++[x],Qj,Y,(Qr Y Y Y Y Y Y),by omega,by omega,by rw[hus,GI hx Qw],by rw[hvs,GI hx Qo],hG2,hG5,Gi.pick [0,1,2] (by decide)⟩
 have Df:=H9.Ap Hd
 refine OE ?_
 refine⟨fun hne=>absurd Y hne,?_⟩
 refine ME<|cR e53<|J4 Y<|J6<|zA (zD ?_)
 refine J2<|Xm Y<|OV (zL Y Y (Ad _ (by omega)))<|Xa Y<|Xr e53<|zA (zH ?_)
 exact⟨l.length - (i+1),by omega,i+1,_,g2,cap2,us++[x],sp2,g6,cap6,vs,sp6,Y,(Qr Y Y Y Y Y Y),by omega,by omega,by rw[hus,GI hx Qw],by rw[hvs,GJ hx (by simpa using Qo)],hG2,hG6,Df.pick [0,1,2] (by decide)⟩
 have H6:=H5.Ap Hd
 refine OE ?_
 refine⟨fun hne=>absurd Y hne,?_⟩
 refine ME<|cR e53<|J4 Y<|J6<|J1<|zQ 5 [(true,0),(true,1),(true,2),(true,3),(true,4),(false,5)] H6 [0,1,2] yF (by decide) (by kernel_rfl) ?_
 rintro w7 hw7
 have H7:=Hp.drew H6;rw[← hw7]at H7
 refine MP Y<|MV (fun wz hz=>EN xR Y (vs:=Dc x0) Y (hz.Ak (i:=0) Y Y))<|Zm Y Y<|Zm Y Y<|MP Y<|MV (fun wz hz=>EI Kv xR Y Y (len:=l.length) (i:=i) (by omega) (by omega) Y)<|cZ e53<|MP Y<|MV (fun wz hz=>EN xR Y (vs:=Dc x) Y ((hr.to0 hz).elem hp hp1))<|MO Y<|OX (EC JO Y) (cF _ _ _) (fun Qo w8 Hd=>?_) (fun Qo w8 Hd=>?_)
 have H8:=H7.Ap Hd
 refine OE ?_
 refine⟨fun hne=>absurd Y hne,?_⟩
 refine ME<|cR e53<|J3 Y<|J2<|Xm Y<|Xm Y<|Xm Y<|OV (EI Kv xR Y Y (len:=l.length) (i:=i) (by omega) (by omega) Y)<|Ae e53<|OV (EN xR Y (vs:=Dc x) Y ((hr.to0 H8).elem hp hp1))<|zJ Kv xR H8 (cs:=Dc x) Y (by decide) Y<|fun w9 gq H9 _=>xU Kv xR (by decide) H9 2 (qs:=vs.map Nz) hG6 Y Y (rs:=[Dc x]) (m:=1) Y Y (H9.rd (i:=3) (o:=some _) (xs:=Dc x) (sp:=[]) Y Y (by decide)) (Pl.one Y) (fun p hp=>by rw[Bc.1 hp];rfl) (by rw[Bl];omega) (by rw[Bl];omega) (by decide)<|fun w10 g5 cap5 Qj Df hG5=>?_
 have hm5:vs.map Nz++[Dc x]=(vs++[x]).map Nz:=by rw[Ez];rfl
 rw[hm5]at Df hG5 ⊢
 refine Xa Y<|Xr e53<|zA (zD ?_)
 refine J2<|Xm Y<|OV (zL Y Y (Ad _ (by omega)))<|Xa Y<|Xr e53<|zA (zH ?_)
 exact⟨l.length - (i+1),by omega,i+1,_,g,cap,us,sp,g5,cap5,vs++[x],Qj,Y,(Qr Y Y Y Y Y Y),by omega,by omega,by rw[hus,GJ hx (by simpa using Qw)],by rw[hvs,GI hx Qo],hG,hG5,Df.pick [0,1,2] (by decide)⟩
 have H8:=H7.Ap Hd
 refine OE ?_
 refine⟨fun hne=>absurd Y hne,?_⟩
 refine ME<|cR e53<|J4 Y<|J6<|zA (zD ?_)
 refine J2<|Xm Y<|OV (zL Y Y (Ad _ (by omega)))<|Xa Y<|Xr e53<|zA (zH ?_)
 exact⟨l.length - (i+1),by omega,i+1,_,g,cap,us,sp,g6,cap6,vs,sp6,Y,(Qr Y Y Y Y Y Y),by omega,by omega,by rw[hus,GJ hx (by simpa using Qw)],by rw[hvs,GJ hx (by simpa using Qo)],hG,hG6,H8.pick [0,1,2] (by decide)⟩
 obtain rfl:i=l.length:=by omega
 have ZN:us.length≤l.length:=by rw[hus];exact iF
 have hvl:vs.length≤l.length:=by rw[hvs];exact iF
 rw[Cc]at hus hvs
 refine Xr e53<|J4 Y<|J8<|zT<|zS<|Rq<|Xm Y<|OV (EN xR Y (vs:=Dc x0) Y (H4.Ak (i:=0) Y Y))<|zJ Kv xR H4 (cs:=Dc x0) Y (by decide) Y<|fun w5 gk H5 _=>xU Kv xR (by decide) H5 1 (qs:=us.map Nz) hG Y Y (rs:=[Dc x0]) (m:=1) Y Y (H5.rd (i:=3) (o:=some _) (xs:=Dc x0) (sp:=[]) Y Y (by decide)) (Pl.one Y) (fun p hp=>by rw[Bc.1 hp];rfl) (by rw[Bl];omega) (by rw[Bl];omega) (by decide)<|fun w6 g2 cap2 sp2 H6 hG2=>?_
 have hm2:us.map Nz++[Dc x0]=(us++[x0]).map Nz:=by rw[Ez];rfl
 rw[hm2]at H6 hG2 ⊢
 refine Ae e53<|Xm Y<|xU Kv xR (by decide) H6 1 (qs:=(us++[x0]).map Nz) hG2 Y Y (rs:=(vs.map Nz)) Y Y (H6.rd (i:=2) (xs:=(vs.map Nz).flatten) (sp:=sp6) Y hG6.2.2.2.len (by decide)) hG6.2.2.2 (SR vs) (by simp only[Bl,Af,Bg,Ed];omega) (by simp only[Bl,Af,Bg,Ed];omega) (by decide)<|fun w7 g5 cap5 Qj H7 hG5=>Xa Y<|Xa Y<|Xr e53<|J5<|Kw Y Y Y ?_
 have hq:(us++[x0]).map Nz++vs.map Nz=(Hg l x0).map Nz:=by rw[← GS,hus,hvs,Ez];rfl
 rw[hq]at H7 hG5 ⊢
 rw[Bl]
 refine⟨fun _=>⟨hd g5,cap5,Y,Sl.row H7 (i:=1) Y (rt_pl _) (by decide) (IV _) (fun b hb=>?_),(by have h9:=hG5.2.1;rw[Bl]at h9;exact h9)⟩,fun h=>absurd Qp h,H7.Ag⟩
 rcases H7.place (i:=1) (g:=b) (by rw[hb];rfl)with h | h
 cases h
 exact h
 have H3:=H2.Ap Hd
 refine Xn Y<|Xr e53<|J3 Y<|Rq<|Xa Y<|Xa Y<|Xr e53<|J5<|Kw Y Y Y<|⟨fun h=>absurd h Qp,fun _=>Y,H3.Ag⟩
theorem SZ (A:Option Addr) (k:Nat) (l:List Mk) (ok:Nat→Prop) (w0:World) (hl:Sl Pq 7 w0 ok A l) (hso:sC 0 l):Aj 134 #[Ac A l.length k] w0 (fun r w'=>r=.bool true∧Hp w0 w' [] []):=by
 refine zE Tryz.func134 Tryz.ntmps134 Y<|cR e52 ?_
 have H:=Hp.refl w0
 obtain⟨ps,hp,hr,ha,h2⟩:=id hl
 have hlen:=h2.len
 have hn:=mF hso
 obtain⟨Zu,hrise⟩:=uA hso
 refine Rq<|Xa Y<|Xr e52<|Rq<|Xa Y<|Xr e52<|J1<|Rq<|Xa Y<|Xr e52<|J7<|zU (fun nQ lQ w=>∃ (i:Nat) (y m:Int),l.length - i=nQ∧xO (Ik [(0,Ac A l.length k),(3,Aa m),(4,Aa y)] 0 52) lQ∧y=(i:Int)∧i≤l.length∧sC m (l.drop i)∧Hp w0 w [] []) (l.length) ?_ ?_
 exact⟨0,_,0,Y,(Uy Y Y Y Y),Y,Am _,hso,H⟩
 rintro nQ lQ w1 ⟨i,y,m,rfl,hfit,rfl,hi,hinv,H1⟩
 obtain⟨j,rfl⟩:=hfit.open
 refine cR e52 ?_
 clear hfit
 refine J1<|Rq<|Xm Y<|Xm Y<|OV (ES La Y)<|OT (zR Y Y) (fun hp9=>?_) (fun hp9=>?_)
 have hil:i < l.length:=by omega
 obtain⟨x,hx⟩:=yM hil
 obtain⟨p1,hp1,hR⟩:=h2.get hx
 unfold Pq at hR
 subst hR
 obtain⟨a1,ha1⟩:=hr.some_ (by omega)
 subst ha1
 rw[uX hx]at hinv
 obtain⟨hm1,hm2,hm3,hm4,hm5⟩:=hinv
 refine Xr e52<|J3 Y<|J6<|J1<|J7<|Rq<|Xm Y<|Xm Y<|OV (EI La yQ Y Y Y hil Y)<|OV (EN yQ Y (vs:=[Aa x.client,Aa x.seq,.bool false,Aa 0,Aa 0,Aa 0,Aa 0]) Y ((hr.to0 H1).elem hp hp1))<|Ae e52<|OA yQ H1<|fun w2 g2 H2 hg2=>OS yQ H2 0 Y Y Y Y Y (by first|exact NL Y|simp[zG]) Y<|fun w3 H3=>Xr e52<|J1<|Rq<|Xf tT Y<|OV (EL ty3 Y (H3.cell (i:=0) Y Y))<|Xm Y<|Jt (uV Y Y) (by omega)<|Ae e52<|Xm Y<|OY Y<|Xf tT Y<|Ae e52<|OY Y<|OV (EL ty3 Y (H3.cell (i:=0) Y Y))<|OY Y<|Jt (yP Y Y) (by omega)<|Xu Y Y<|Xm Y<|Ae e52<|OY Y<|Xf jM Y ?_
 refine OY Y<|OV (EL ty3 Y (H3.cell (i:=0) Y Y))<|Ae e52<|OY Y<|Jt (zR Y Y) (by omega)<|Xu Y Y<|Xm Y<|Ae e52<|OY Y<|Xf jM Y<|OY Y<|OV (EL ty3 Y (H3.cell (i:=0) Y Y))<|Ae e52<|OY Y<|Jt (yP Y Y) (by omega)<|Xu Y Y<|Xm Y<|Ae e52<|OY Y<|Xf JU Y<|OY Y<|OV (EL ty4 Y (H3.cell (i:=0) Y Y))<|Ae e52<|OY Y<|Xm Y<|Oz 9 Y<|Ae e52<|OY Y ?_
 refine Xu Y Y<|Xu Y Y<|Xr e52<|J4 Y<|J6<|J2<|Xf tT Y<|OV (EL ty3 Y (H3.cell (i:=0) Y Y))<|Xa Y<|Xr e52<|zA (zD ?_)
 refine J2<|Xm Y<|OV (zL Y Y (Ad _ (by omega)))<|Xa Y<|Xr e52<|zA (zH ?_)
 exact⟨l.length - (i+1),by omega,i+1,_,x.client,Y,(Uy Y Y Y Y),by omega,by omega,hm5,H3.Ag⟩
 refine Xr e52<|J4 Y<|J8<|zT<|zS<|Rq<|Xa Y<|Xr e52<|J5<|Cj Y Y<|⟨Y,H1.Ag⟩
theorem QM (A:Option Addr) (k:Nat) (l:List Mk) (c:Int) (ok:Nat→Prop) (w0:World) (hl:Sl Pq 7 w0 ok A l) (hso:sC 0 l):Aj 91 #[Ac A l.length k,Aa c] w0 (fun r w'=>(∀ m,Fj l c=some m→r=.tuple #[.agg (Uo m).toArray,.bool true])∧(Fj l c=none→r=.tuple #[.agg (Uo ⟨0,0⟩).toArray,.bool false])∧Hp w0 w' [] []):=by
 refine zE Tryz.func91 Tryz.ntmps91 Y<|cR e29 ?_
 have H:=Hp.refl w0
 obtain⟨ps,hp,hr,ha,h2⟩:=id hl
 have hlen:=h2.len
 have hn:=mF hso
 obtain⟨Zu,hrise⟩:=uA hso
 refine Rq<|OA yQ H<|fun w1 gm H1 _=>Xa Y<|Xr e29<|J1<|Rq<|Xa Y<|Xr e29<|J7<|zU (fun nQ lQ w=>∃ (i:Nat) (y:Int),l.length - i=nQ∧xO (Ik [(0,Ac A l.length k),(1,Aa c),(4,Ah gm),(6,Aa y)] 0 29) lQ∧y=(i:Int)∧i≤l.length∧(∀ z∈l.take i,z.client≠c)∧Hp w0 w [] [((some gm,110,Tv):Ent)]) (l.length) ?_ ?_
 exact⟨0,_,Y,(Ja Y Y Y Y Y),Y,Am _,(fun z hz=>by cases hz),H1⟩
 rintro nQ lQ w2 ⟨i,y,rfl,hfit,rfl,hi,hno,H2⟩
 obtain⟨j,rfl⟩:=hfit.open
 refine cR e29 ?_
 clear hfit
 refine J1<|Rq<|Xm Y<|OC (EC gf134 Y) (SZ A k l ok _ (hl.toM H2 k0) hso)<|fun w3 Hd=>have H3:=H2.Ap Hd;Xm Y<|Ae e29<|OY Y<|Xm Y<|OY Y<|Xm Y<|Ae e29<|OY Y<|OV (ES La Y)<|OY Y<|OT (zR Y Y) (fun Qp=>?_) (fun Qp=>?_)
 have hil:i < l.length:=by omega
 obtain⟨x,hx⟩:=yM hil
 obtain⟨p1,hp1,hR⟩:=h2.get hx
 unfold Pq at hR
 subst hR
 obtain⟨a1,ha1⟩:=hr.some_ (by omega)
 subst ha1
 refine Xt Y Y<|Xr e29<|J3 Y<|J6<|J1<|J7<|Rq<|Xm Y<|Xm Y<|OV (EI La yQ Y Y Y hil Y)<|OV (yJ tT Y)<|Ae e29<|OV (EL ty3 Y (((hr.to0 H3).elem hp hp1) 0 _ Y))<|Xm Y<|OT (yU Y Y) (fun hp23=>?_) (fun hp23=>?_)
 refine Xr e29<|J3 Y<|Rq<|Xm Y<|Xm Y<|OV (EI La yQ Y Y Y hil Y)<|OV (EN yQ Y (vs:=[Aa x.client,Aa x.seq,.bool false,Aa 0,Aa 0,Aa 0,Aa 0]) Y ((hr.to0 H3).elem hp hp1))<|Ae e29<|OS yQ H3 0 Y Y Y Y Y (by first|exact NL Y|simp[zG]) Y<|fun w4 H4=>Xa Y<|Xr e29<|J5<|BR<|yN<|BR<|xN Y yQ (cs:=[Aa x.client,Aa x.seq,.bool false,Aa 0,Aa 0,Aa 0,Aa 0]) Y Y Y (H4.Ak (i:=0) Y Y) ?_
 have hf:=UH hx hp23 hno
 exact⟨(fun m hm=>by rw[hf]at hm;cases hm;rfl),(fun hm=>by rw[hf]at hm;cases hm),H4.Ag⟩
 refine Xr e29<|J4 Y<|J6<|zA (zD ?_)
 refine J2<|Xm Y<|OV (zL Y Y (Ad _ (by omega)))<|Xa Y<|Xr e29<|zA (zH ?_)
 exact⟨l.length - (i+1),by omega,i+1,_,Y,(Ja Y Y Y Y Y),by omega,by omega,(fun z hz=>by
  rw[Jm,hx]at hz
  rcases Bj.1 hz with h | h
  · exact hno z h
  rw[show z=x by simpa using h];exact hp23),H3.pick [0] (by decide)⟩
 obtain rfl:i=l.length:=by omega
 have hnone:=QK hno
 refine Xt Y Y<|Xr e29<|J4 Y<|J8<|zT<|zS<|Rq<|OV (EB yQ dD Y Y)<|OS yQ H3 0 Y Y Y Y Y (by first|exact NL Y|simp[zG]) Y<|fun w4 H4=>Xa Y<|Xr e29<|J5<|xN Y yQ (cs:=Tv) Y Y Y (H4.Ak (i:=0) Y Y)<|⟨(fun m hm=>by rw[hnone]at hm;cases hm),(fun _=>Y),H4.Ag⟩
theorem M8 (A:Option Addr) (k:Nat) (l:List Mk) (v:Mk) (ok:Nat→Prop) (w0:World) (hl:Sl Pq 7 w0 ok A l) (hso:sC 0 l) (hv1:1≤v.client∧v.client≤8) (hv2:1≤v.seq∧v.seq≤4611686018427387904):Aj 94 #[Ac A l.length k,.agg [Aa v.client,Aa v.seq,.bool false,Aa 0,Aa 0,Aa 0,Aa 0].toArray] w0 (fun r w'=>∃ A' k',r=Ac A' (uN l v).length k'∧Sl Pq 7 w' (fun b=>w0.heap.size≤b) A' (uN l v)∧Hp w0 w' [] []):=by
 refine zE Tryz.func94 Tryz.ntmps94 Y<|cR e35 ?_
 have H:=Hp.refl w0
 obtain⟨ps,hp,hr,ha,h2⟩:=id hl
 have hlen:=h2.len
 have hn:=mF hso
 obtain⟨Zu,hrise⟩:=uA hso
 have hput:=CM hso hv1 hv2
 have hpl:=mF hput
 refine Rq<|zW Y Y H<|fun w1 gv H1 _=>Xa Y<|Xr e35<|Rq<|Xa Y<|Xr e35<|J1<|Rq<|Xa Y<|Xr e35<|J7<|zU (fun nQ lQ w=>∃ (y:Int) (g:Option Nat) (cap:Nat) (ms:List Mk) (sp:List Value),(9 - y).toNat=nQ∧xO (Ik [(0,Ac A l.length k),(3,Ah gv),(5,Ac (hd g) (ms.map Uo).length cap),(6,Aa y)] 0 35) lQ∧1≤y∧y≤9∧ms=((uN l v).filter fun z=>decide (z.client < y))∧Gw 7 g cap (ms.map Uo) sp∧Hp w0 w [] [((some gv,110,[Aa v.client,Aa v.seq,.bool false,Aa 0,Aa 0,Aa 0,Aa 0]):Ent),((g,110,(ms.map Uo).flatten++sp):Ent)]) (8) ?_ ?_
 exact⟨1,none,0,[],[],Y,(Ja Y Y Y Y Y),by decide,by decide,(O5 hput).symm,Gw.nil 7,H1.nil 110⟩
 rintro nQ lQ w2 ⟨y,g,cap,ms,sp,rfl,hfit,hy1,hy9,hms,hG,H2⟩
 obtain⟨j,rfl⟩:=hfit.open
 refine cR e35 ?_
 clear hfit
 refine J1<|Rq<|Xm Y<|OT (uV Y Y) (fun hp10=>?_) (fun hp10=>?_)
 have hml:ms.length≤(uN l v).length:=by rw[hms];exact Nh _ _
 have hst:=B7 (c:=y) hput
 rw[← hms,QJ]at hst
 refine Xr e35<|J3 Y<|J6<|J1<|J7<|Rq<|Xm Y<|Xm Y<|OQ (EC gf91 Y) (QM A k l y ok _ (hl.toM H2 k0) hso) ?_
 rintro r w3 ⟨hyes,hno,Hd⟩
 have H3:=H2.Ap Hd
 cases hfm:Fj l y
 obtain rfl:=hno hfm
 refine Xm Y<|Xe Y Y<|Ae e35<|Xe Y Y<|OA yQ H3<|fun w4 gz H4 _=>OS yQ H4 2 (vs:=[Aa (⟨0,0⟩:Mk).client,Aa (⟨0,0⟩:Mk).seq,.bool false,Aa 0,Aa 0,Aa 0,Aa 0]) Y Y Y Y Y (Ai 7) Y<|fun w5 H5=>Xa Y<|Xr e35<|J7<|Rq<|Xm Y<|Xf tT Y<|OV (EL ty3 Y (H5.cell (i:=0) Y Y))<|OT (yU Y Y) (fun hp23=>?_) (fun hp23=>?_)
 have m1:=()
 rotate_left 1
 refine Xa Y<|Xr e35<|J4 Y<|Rq<|Xm Y<|Xa Y<|Xr e35<|J4 Y<|J6<|zA (zD ?_)
 refine zA (zD ?_)
 refine J2<|Xm Y<|OV (zL Y Y (Ad _ (by omega)))<|Xa Y<|Xr e35<|zA (zH ?_)
 exact⟨(9 - (y+1)).toNat,by omega,y+1,g,cap,ms,sp,Y,(Ja Y Y Y Y Y),by omega,by omega,by rw[hst,if_neg hp23,hfm];exact(Dt _).symm,hG,H5.pick [0,1] (by decide)⟩
 rename_i o
 obtain rfl:=hyes o hfm
 refine Xm Y<|Xe Y Y<|Ae e35<|Xe Y Y<|OA yQ H3<|fun w4 gz H4 _=>OS yQ H4 2 (vs:=[Aa o.client,Aa o.seq,.bool false,Aa 0,Aa 0,Aa 0,Aa 0]) Y Y Y Y Y (Ai 7) Y<|fun w5 H5=>Xa Y<|Xr e35<|J7<|Rq<|Xm Y<|Xf tT Y<|OV (EL ty3 Y (H5.cell (i:=0) Y Y))<|OT (yU Y Y) (fun hp23=>?_) (fun hp23=>?_)
 have m1:=()
 rotate_left 1
 refine Xa Y<|Xr e35<|J4 Y<|Rq<|Xm Y<|Xa Y<|Xr e35<|J3 Y<|J2<|Xm Y<|OV (EN yQ Y (vs:=[Aa o.client,Aa o.seq,.bool false,Aa 0,Aa 0,Aa 0,Aa 0]) Y (H5.Ak (i:=2) Y Y))<|zJ La yQ H5 (cs:=[Aa o.client,Aa o.seq,.bool false,Aa 0,Aa 0,Aa 0,Aa 0]) Y (by decide) Y<|fun w6 gk H6 _=>xU La yQ (by decide) H6 1 (qs:=ms.map Uo) hG Y Y (rs:=[[Aa o.client,Aa o.seq,.bool false,Aa 0,Aa 0,Aa 0,Aa 0]]) (m:=1) Y Y (H6.rd (i:=3) (o:=some _) (xs:=[Aa o.client,Aa o.seq,.bool false,Aa 0,Aa 0,Aa 0,Aa 0]) (sp:=[]) Y Y (by decide)) (Pl.one Y) (fun p hp=>by rw[Bc.1 hp];rfl) (by rw[Bl];omega) (by rw[Bl];omega) (by decide)<|fun w7 g2 cap2 sp2 H7 hG2=>?_
 have hm2:ms.map Uo++[[Aa o.client,Aa o.seq,.bool false,Aa 0,Aa 0,Aa 0,Aa 0]]=(ms++[o]).map Uo:=by rw[Ez];rfl
 rw[hm2]at H7 hG2 ⊢
 refine Ae e35<|Xa Y<|Xr e35<|zA (zD ?_)
 refine zA (zD ?_)
 refine J2<|Xm Y<|OV (zL Y Y (Ad _ (by omega)))<|Xa Y<|Xr e35<|zA (zH ?_)
 exact⟨(9 - (y+1)).toNat,by omega,y+1,g2,cap2,ms++[o],sp2,Y,(Ja Y Y Y Y Y),by omega,by omega,by rw[hst,if_neg hp23,hfm];rfl,hG2,H7.pick [0,1] (by decide)⟩
 obtain rfl:y=9:=by omega
 rw[U6 hput]at hms
 subst hms
 refine Xr e35<|J4 Y<|J8<|zT<|zS<|Rq<|Xm Y<|Xa Y<|Xr e35<|J5<|Cj Y Y ?_
 rw[Bl]
 refine⟨hd g,cap,Y,Sl.row H2 (i:=1) Y (mk_pl _) (by decide) (I7 _) (fun b hb=>?_),H2.Ag⟩
 rcases H2.place (i:=1) (g:=b) (by rw[hb];rfl)with h | h
 cases h
 exact h
 any_goals
  clear m1
  refine Xa Y<|Xr e35<|J3 Y<|J2<|Xm Y<|OV (EN yQ Y (vs:=[Aa v.client,Aa v.seq,.bool false,Aa 0,Aa 0,Aa 0,Aa 0]) Y (H5.Ak (i:=0) Y Y))<|zJ La yQ H5 (cs:=[Aa v.client,Aa v.seq,.bool false,Aa 0,Aa 0,Aa 0,Aa 0]) Y (by decide) Y<|fun w6 gk H6 _=>xU La yQ (by decide) H6 1 (qs:=ms.map Uo) hG Y Y (rs:=[[Aa v.client,Aa v.seq,.bool false,Aa 0,Aa 0,Aa 0,Aa 0]]) (m:=1) Y Y (H6.rd (i:=3) (o:=some _) (xs:=[Aa v.client,Aa v.seq,.bool false,Aa 0,Aa 0,Aa 0,Aa 0]) (sp:=[]) Y Y (by decide)) (Pl.one Y) (fun p hp=>by rw[Bc.1 hp];rfl) (by rw[Bl];omega) (by rw[Bl];omega) (by decide)<|fun w7 g2 cap2 sp2 H7 hG2=>?_
  have hm2:ms.map Uo++[[Aa v.client,Aa v.seq,.bool false,Aa 0,Aa 0,Aa 0,Aa 0]]=(ms++[v]).map Uo:=by rw[Ez];rfl
  rw[hm2]at H7 hG2 ⊢
  refine Ae e35<|Xa Y<|Xr e35<|zA (zD ?_)
  refine zA (zD ?_)
  refine J2<|Xm Y<|OV (zL Y Y (Ad _ (by omega)))<|Xa Y<|Xr e35<|zA (zH ?_)
  exact⟨(9 - (y+1)).toNat,by omega,y+1,g2,cap2,ms++[v],sp2,Y,(Ja Y Y Y Y Y),by omega,by omega,by rw[hst,if_pos hp23];rfl,hG2,H7.pick [0,1] (by decide)⟩
theorem PK (s:Sv) (A1:Option Addr) (k1:Nat) (A2:Option Addr) (k2:Nat) (A3:Option Addr) (k3:Nat) (w0:World) (hx:-1000000000000000000≤s.index∧s.index≤1000000000000000000) (hm:s.entries.length≤1000000000000000000):Aj 136 #[.agg (Cb s A1 k1 A2 k2 A3 k3).toArray] w0 (fun r w'=>r=Aa (s.index+s.entries.length)∧Hp w0 w' [] []):=by
 refine zE Tryz.func136 Tryz.ntmps136 Y<|cR e9 ?_
 have H:=Hp.refl w0
 refine Rq<|zW Y Y H<|fun w1 g1 H1 hg1=>Xa Y<|Xr e9<|Rq<|Xf wX Y<|OV (EL ty3 Y (H1.cell (i:=0) Y Y))<|Xf wL Y<|OV (EL tX Y (H1.cell (i:=0) Y Y))<|Ae e9<|OV (ES Na Y)<|OV (zL Y Y (Ad _ (by omega)))<|Xa Y<|Xr e9<|J5<|Cj Y Y<|⟨Y,H1.Ag⟩
theorem IZ (gs:Nat) (p b:Bal) (c2 c3 c4 c5:Value) (w0:World) (hrow:w0.heap[gs]? =some (.cells [Aa p.r,Aa p.n,c2,c3,c4,c5].toArray 97 (0,0))):Aj 135 #[Ah gs,.agg [Aa b.r,Aa b.n].toArray] w0 (fun _ w'=>Hp w0 w' [gs] [((some gs,97,[Aa (rz p b).r,Aa (rz p b).n,c2,c3,c4,c5]):Ent)]):=by
 refine zE Tryz.func135 Tryz.ntmps135 Y<|cR e14 ?_
 have H:=Hp.old hrow
 refine Rq<|zW Y Y H<|fun w1 g1 H1 hg1=>Xr e14<|J1<|zQ 5 [(true,0),(true,1),(true,2),(true,3),(true,4),(false,5)] H1 [0,1] yF (by decide) (by kernel_rfl) ?_
 rintro w2 hw2
 have H2:=Hp.drew H1;rw[← hw2]at H2
 refine Zm Y Y<|Zc Y Y<|Zf Y uZ Y<|MP Y<|MV (fun wz hz=>EN vC Y (vs:=[Aa p.r,Aa p.n]) Y (hz.Ak (i:=0) Y Y))<|cZ e14<|MP Y<|MV (fun wz hz=>EN vC Y (vs:=[Aa b.r,Aa b.n]) Y (hz.Ak (i:=1) Y Y))<|MO Y<|OX (EC P5 Y) (PH _ _ _) (fun hp9 w3 Hd=>?_) (fun hp9 w3 Hd=>?_)
 have H3:=H2.Ap Hd
 refine OE ?_
 refine⟨fun hne=>absurd Y hne,?_⟩
 refine ME<|cR e14<|J3 Y<|J2<|Xm Y<|OV (EN vC Y (vs:=[Aa b.r,Aa b.n]) Y (H3.Ak (i:=1) Y Y))<|Xc Y<|Xf uZ Y<|Ae e14<|OS vC H3 0 Y Y Y Y Y (by first|exact NL Y|simp[zG]) Y<|fun w4 H4=>Xr e14<|zA<|yO Y ?_
 unfold rz
 rw[if_pos hp9]
 exact H4.pick [0] (by decide)
 have H3:=H2.Ap Hd
 refine OE ?_
 refine⟨fun hne=>absurd Y hne,?_⟩
 refine ME<|cR e14<|J4 Y<|J6<|zA<|yO Y ?_
 unfold rz
 rw[if_neg hp9]
 exact H3.pick [0] (by decide)
theorem kJ (A:Option Addr) (k:Nat) (ps:List (List Value)) (l:List Vt) (n:Int) (ok:Nat→Prop) (w0:World) (hp:Pl 4 ps) (hr:Rd w0 A l.length 4 ps.flatten) (h2:wT (Oc w0 ok) ps l) (hn:l.length≤1000000000000):Aj 138 #[Ac A l.length k,Aa n] w0 (fun r w'=>∃ g cap sp,r=Ac (hd g) (ps.filter fun p=>!Ji n p).length cap∧Gw 4 g cap (ps.filter fun p=>!Ji n p) sp∧Hp w0 w' [] [((g,77,(ps.filter fun p=>!Ji n p).flatten++sp):Ent)]):=by
 refine zE Tryz.func138 Tryz.ntmps138 Y<|cR e28 ?_
 have H:=Hp.refl w0
 have hlen:=h2.len
 refine Rq<|Xa Y<|Xr e28<|Rq<|Xa Y<|Xr e28<|J1<|Rq<|Xa Y<|Xr e28<|J7<|zU (fun nQ lQ w=>∃ (i:Nat) (y:Int) (g:Option Nat) (cap:Nat) (qs:List (List Value)) (sp:List Value),l.length - i=nQ∧xO (Ik [(0,Ac A l.length k),(1,Aa n),(5,Ac (hd g) qs.length cap),(6,Aa y)] 0 28) lQ∧y=(i:Int)∧i≤l.length∧qs=(ps.take i).filter (fun p=>!Ji n p)∧Gw 4 g cap qs sp∧Hp w0 w [] [((g,77,qs.flatten++sp):Ent)]) (l.length) ?_ ?_
 exact⟨0,_,none,0,[],[],Y,(Ja Y Y Y Y Y),Y,Am _,Y,Gw.nil 4,H.nil 77⟩
 rintro nQ lQ w1 ⟨i,y,g,cap,qs,sp,rfl,hfit,rfl,hi,Xl,hG,H1⟩
 obtain⟨j,rfl⟩:=hfit.open
 refine cR e28 ?_
 clear hfit
 refine J1<|Rq<|Xm Y<|Xm Y<|OV (ES Jj Y)<|OT (zR Y Y) (fun hp10=>?_) (fun hp10=>?_)
 have hil:i < l.length:=by omega
 obtain⟨x,hx⟩:=yM hil
 obtain⟨p1,hp1,hR⟩:=h2.get hx
 obtain⟨Ax,kx,rfl,hbx⟩:=hR
 obtain⟨a1,ha1⟩:=hr.some_ (by omega)
 subst ha1
 have Ib:qs.length≤i:=by rw[Xl];exact iF
 refine Xr e28<|J3 Y<|J6<|J1<|J7<|Rq<|Xm Y<|Xm Y<|OV (EI Jj xC Y Y Y hil Y)<|OV (yJ wY Y)<|Ae e28<|OV (EL ty3 Y (((hr.to0 H1).elem hp hp1) 0 _ Y))<|Xm Y<|OT (yP Y Y) (fun hp19=>?_) (fun hp19=>?_)
 have hf1:(!Ji n (Dl x Ax kx))=true:=by show(!decide (x.slot≤n))=true;rw[decide_eq_false (by omega)];rfl
 refine Xr e28<|J3 Y<|J2<|Xm Y<|Xm Y<|Xm Y<|OV (EI Jj xC Y Y Y hil Y)<|Ae e28<|OV (EN xC Y (vs:=Dl x Ax kx) Y ((hr.to0 H1).elem hp hp1))<|zJ Jj xC H1 (cs:=Dl x Ax kx) Y (by decide) Y<|fun w2 gk H2 _=>xU Jj xC (by decide) H2 0 hG Y Y (rs:=[Dl x Ax kx]) (m:=1) Y Y (H2.rd (i:=1) (o:=some _) (xs:=Dl x Ax kx) (sp:=[]) Y Y (by decide)) (Pl.one Y) (fun p hp=>by rw[Bc.1 hp];rfl) (by omega) (by omega) (by decide)<|fun w3 g2 cap2 sp2 H3 hG2=>Xa Y<|Xr e28<|zA (zD ?_)
 refine J2<|Xm Y<|OV (zL Y Y (Ad _ (by omega)))<|Xa Y<|Xr e28<|zA (zH ?_)
 exact⟨l.length - (i+1),by omega,i+1,_,g2,cap2,_,sp2,Y,(Ja Y Y Y Y Y),by omega,by omega,by rw[Xl,GI hp1 hf1],hG2,H3.pick [0] (by decide)⟩
 have hf1:(!Ji n (Dl x Ax kx))=false:=by show(!decide (x.slot≤n))=false;rw[decide_eq_true (by omega)];rfl
 refine Xr e28<|J4 Y<|J6<|zA (zD ?_)
 refine J2<|Xm Y<|OV (zL Y Y (Ad _ (by omega)))<|Xa Y<|Xr e28<|zA (zH ?_)
 exact⟨l.length - (i+1),by omega,i+1,_,g,cap,qs,sp,Y,(Ja Y Y Y Y Y),by omega,by omega,by rw[Xl,GJ hp1 hf1],hG,H1.pick [0] (by decide)⟩
 obtain rfl:i=l.length:=by omega
 rw[← hlen,Cc]at Xl
 subst Xl
 refine Xr e28<|J4 Y<|J8<|zT<|zS<|Rq<|Xm Y<|Xa Y<|Xr e28<|J5<|Cj Y Y<|⟨g,cap,sp,Y,hG,H1.pick [0] (by decide)⟩
theorem WL (A:Option Addr) (k:Nat) (ps:List (List Value)) (l:List Vt) (v:Vt) (C:Option Addr) (kc:Nat) (ok:Nat→Prop) (w0:World) (hp:Pl 4 ps) (hr:Rd w0 A l.length 4 ps.flatten) (h2:wT (Oc w0 ok) ps l) (hn:l.length≤1000000000000):Aj 137 #[Ac A l.length k,.agg (Dl v C kc).toArray] w0 (fun r w'=>∃ g cap sp,r=Ac (hd g) (ps.filter (B4 v.slot)++([Dl v C kc]:List (List Value))++ps.filter fun p=>!Ji v.slot p).length cap∧Gw 4 g cap (ps.filter (B4 v.slot)++([Dl v C kc]:List (List Value))++ps.filter fun p=>!Ji v.slot p) sp∧Hp w0 w' [] [((g,77,(ps.filter (B4 v.slot)++([Dl v C kc]:List (List Value))++ps.filter fun p=>!Ji v.slot p).flatten++sp):Ent)]):=by
 refine zE Tryz.func137 Tryz.ntmps137 Y<|cR e37 ?_
 have H:=Hp.refl w0
 have hlen:=h2.len
 have hon:=h2.ones fun _ _ h=>h.ones
 refine Rq<|zW Y Y H<|fun w1 gv H1 _=>Xa Y<|Xr e37<|Rq<|Xa Y<|Xr e37<|J1<|Rq<|Xa Y<|Xr e37<|J7<|zU (fun nQ lQ w=>∃ (i:Nat) (y:Int) (g:Option Nat) (cap:Nat) (qs:List (List Value)) (sp:List Value),l.length - i=nQ∧xO (Ik [(0,Ac A l.length k),(3,Ah gv),(5,Ac (hd g) qs.length cap),(6,Aa y)] 0 37) lQ∧y=(i:Int)∧i≤l.length∧qs=(ps.take i).filter (B4 v.slot)∧Gw 4 g cap qs sp∧Hp w0 w [] [((some gv,77,Dl v C kc):Ent),((g,77,qs.flatten++sp):Ent)]) (l.length) ?_ ?_
 exact⟨0,_,none,0,[],[],Y,(Ja Y Y Y Y Y),Y,Am _,Y,Gw.nil 4,H1.nil 77⟩
 rintro nQ lQ w2 ⟨i,y,g,cap,qs,sp,rfl,hfit,rfl,hi,Xl,hG,H2⟩
 obtain⟨j,rfl⟩:=hfit.open
 refine cR e37 ?_
 clear hfit
 refine J1<|Rq<|Xm Y<|Xm Y<|OV (ES Jj Y)<|OT (zR Y Y) (fun hp10=>?_) (fun hp10=>?_)
 have hil:i < l.length:=by omega
 obtain⟨x,hx⟩:=yM hil
 obtain⟨p1,hp1,hR⟩:=h2.get hx
 obtain⟨Ax,kx,rfl,hbx⟩:=hR
 obtain⟨a1,ha1⟩:=hr.some_ (by omega)
 subst ha1
 have Ib:qs.length≤i:=by rw[Xl];exact iF
 refine Xr e37<|J3 Y<|J6<|J1<|J7<|J1<|uU yF (by kernel_rfl) ?_
 rintro w3 hw3
 have H3:=Hp.drew H2;rw[← hw3]at H3
 refine SV (zK Y)<|SV (zK Y)<|SV (EI Jj xC Y Y Y hil Y)<|SV (yJ wY Y)<|vN e37<|SV (EL ty3 Y (((hr.to0 H3).elem hp hp1) 0 _ Y))<|SV (EF wY Y)<|SV (EL ty3 Y (H3.cell (i:=0) Y Y))<|vG (zR Y Y) (fun hp20=>?_) (fun hp20=>?_)
 have hf1:B4 v.slot (Dl x Ax kx)=true:=decide_eq_true hp20
 refine xP<|cR e37<|J3 Y<|J2<|Xm Y<|Xm Y<|Xm Y<|OV (EI Jj xC Y Y Y hil Y)<|Ae e37<|OV (EN xC Y (vs:=Dl x Ax kx) Y ((hr.to0 H3).elem hp hp1))<|zJ Jj xC H3 (cs:=Dl x Ax kx) Y (by decide) Y<|fun w4 gk H4 _=>xU Jj xC (by decide) H4 1 hG Y Y (rs:=[Dl x Ax kx]) (m:=1) Y Y (H4.rd (i:=2) (o:=some _) (xs:=Dl x Ax kx) (sp:=[]) Y Y (by decide)) (Pl.one Y) (fun p hp=>by rw[Bc.1 hp];rfl) (by omega) (by omega) (by decide)<|fun w5 g2 cap2 sp2 H5 hG2=>Xa Y<|Xr e37<|zA (zD ?_)
 refine J2<|Xm Y<|OV (zL Y Y (Ad _ (by omega)))<|Xa Y<|Xr e37<|zA (zH ?_)
 exact⟨l.length - (i+1),by omega,i+1,_,g2,cap2,_,sp2,Y,(Ja Y Y Y Y Y),by omega,by omega,by rw[Xl,GI hp1 hf1],hG2,H5.pick [0,1] (by decide)⟩
 have hf1:B4 v.slot (Dl x Ax kx)=false:=decide_eq_false hp20
 refine xP<|cR e37<|J4 Y<|J6<|zA (zD ?_)
 refine J2<|Xm Y<|OV (zL Y Y (Ad _ (by omega)))<|Xa Y<|Xr e37<|zA (zH ?_)
 exact⟨l.length - (i+1),by omega,i+1,_,g,cap,qs,sp,Y,(Ja Y Y Y Y Y),by omega,by omega,by rw[Xl,GJ hp1 hf1],hG,H3.pick [0,1] (by decide)⟩
 obtain rfl:i=l.length:=by omega
 rw[← hlen,Cc]at Xl
 have Ib:qs.length≤l.length:=by rw[Xl,← hlen];exact Nh _ _
 have hbl:(ps.filter fun p=>!Ji v.slot p).length≤l.length:=by rw[← hlen];exact Nh _ _
 refine Xr e37<|J4 Y<|J8<|zT<|zS<|J1<|qJ 9 (.p 0 (.p 1 (.p 4 (.p 5 (.p 6 (.o 2 (.o 3 (.o 7 (.o 8 (.o 9 .nil)))))))))) H2 [0] yF (by decide) (by kernel_rfl) ?_
 rintro w3 hw3
 have H3:=Hp.drew H2;rw[← hw3]at H3
 refine Tm Y Y<|TP Y<|MV (fun wz hz=>EN xC Y (vs:=Dl v C kc) Y (hz.Ak (i:=0) Y Y))<|Tm Y Y<|Tf Y wY Y<|cT e37<|TP Y<|MV (fun wz hz=>EL ty3 Y (hz.cell (i:=0) Y Y))<|TQ Y<|zJ Jj xC H3 (cs:=Dl v C kc) Y (by decide) Y<|fun w4 gk H4 _=>OE<|⟨fun hne=>H4.pick [0] (by decide),?_⟩
 refine cT e37<|TQ Y<|xU Jj xC (by decide) H4 1 hG Y Y (rs:=[Dl v C kc]) (m:=1) Y Y (H4.rd (i:=2) (o:=some _) (xs:=Dl v C kc) (sp:=[]) Y Y (by decide)) (Pl.one Y) (fun p hp=>by rw[Bc.1 hp];rfl) (by omega) (by omega) (by decide)<|fun w5 g4 cap4 sp4 H5 hG4=>OE<|⟨fun hne=>H5.pick [0] (by decide),?_⟩
 refine cT e37<|TQ Y<|OQ (EC FB Y) (kJ A k ps l v.slot ok _ hp (hr.to0 H5) (h2.imp fun p x h=>h.to H5 k0) hn) ?_
 rintro _ w6 ⟨g3,cap3,sp3,rfl,hG3,Hc⟩
 have H6:=H5.call0 Hc
 refine OE ?_
 refine⟨fun hne=>H6.pick [0] (by decide),?_⟩
 refine cT e37<|TQ Y<|xU Jj xC (by decide) H6 1 hG4 Y Y (rs:=(ps.filter fun p=>!Ji v.slot p)) Y Y (H6.rd (i:=3) (xs:=(ps.filter fun p=>!Ji v.slot p).flatten) (sp:=sp3) Y hG3.2.2.2.len (by decide)) hG3.2.2.2 (fun p hp=>hon p (Dy.1 hp).1) (by simp only[Af,Bg,Ed];omega) (by simp only[Af,Bg,Ed];omega) (by decide)<|fun w7 g5 cap5 Qj H7 hG5=>OE<|⟨fun hne=>H7.pick [0] (by decide),?_⟩
 refine cT e37<|TQ Y<|Xa Y<|OE<|⟨fun hne=>absurd Y hne,?_⟩
 refine cT e37<|rA<|cR e37<|J5<|Cj Y Y ?_
 subst Xl
 exact⟨g5,cap5,Qj,Y,hG5,H7.pick [1] (by decide)⟩
set_option maxHeartbeats 32000000
theorem PW (s:Sv) (A1:Option Addr) (k1:Nat) (A2:Option Addr) (k2:Nat) (A3:Option Addr) (k3:Nat) (n:Nt) (B1:Option Addr) (j1:Nat) (B2:Option Addr) (j2:Nat) (ok:Nat→Prop) (w0:World) (hv1:Sl (Oc w0 ok) 4 w0 ok A1 s.Bd) (hv2:Bs w0 ok A2 s.image) (hv3:Sl (Qu w0 ok) 2 w0 ok A3 s.entries) (hbv:Bs w0 ok B1 n.Eb.val) (hbe:Bs w0 ok B2 n.entry.val) (hk:1≤n.kind∧n.kind≤4) (hi:0≤s.index∧s.index≤1099511627776) (he:s.entries.length≤1099511627776) (hvl:s.Bd.length≤1000) (hes:∀ x∈s.entries,x.slot≤1099511627776):Aj 95 #[.agg (Cb s A1 k1 A2 k2 A3 k3).toArray,.agg (Dv n B1 j1 B2 j2).toArray] w0 (fun r w'=>∃ cs',r=.agg cs'.toArray∧Rl w' (up ok w0.heap.size) cs' (s.goes n)∧Hp w0 w' [] []):=by
 refine zE Tryz.func95 Tryz.ntmps95 Y<|cR Dx ?_
 have H:=Hp.refl w0
 obtain⟨pv,hpv,Ym,_,Rk⟩:=id hv1
 obtain⟨pe,hpe,hre,_,he2⟩:=id hv3
 have hvl2:=Rk.len
 have hel:=he2.len
 have hone:=he2.ones fun _ _ h=>h.ones
 refine Rq<|zW Y Y H<|fun w1 gs H1 _=>zW Y Y H1<|fun w2 gn H2 _=>OA xY H2<|fun w3 gr H3 _=>Xr Dx<|J1<|Rq<|Xf qP Y<|OV (EL ty3 Y (H3.cell (i:=1) Y Y))<|Xr Dx<|J7<|Rq<|OT (yU Y Y) (fun hp10=>?_) (fun hp10=>?_)
 refine Xa Y<|Xr Dx<|J3 Y<|J2<|Xf mM Y<|OV (EN vC Y (vs:=[Aa n.b.r,Aa n.b.n]) Y (H3.Ak (i:=1) Y Y))<|OQ (EC VY Y) (IZ gs s.p n.b _ _ _ _ _ (H3.at (i:=0) Y)) ?_
 rintro _ w4 Hd
 have H4:=(H3.Dq [0] rfl Hd).pick [3,1,2] (by decide)
 refine Xr Dx<|zA (zD ?_)
 refine Rq<|OV (EN xY Y (vs:=[Aa (rz s.p n.b).r,Aa (rz s.p n.b).n,Ac A1 s.Bd.length k1,Aa s.index,Ac A2 s.image.length k2,Ac A3 s.entries.length k3]) Y (H4.Ak (i:=0) Y Y))<|OS xY H4 2 Y Y Y Y Y (by first|exact NL Y|simp[zG]) Y<|fun w5 H5=>Xr Dx<|J5<|uO Y xY (cs:=[Aa (rz s.p n.b).r,Aa (rz s.p n.b).n,Ac A1 s.Bd.length k1,Aa s.index,Ac A2 s.image.length k2,Ac A3 s.entries.length k3]) Y Y (H5.Ak (i:=2) Y Y)<|⟨_,Y,?_,H5.Ag⟩
 rw[JI hp10,nF]
 exact⟨A1,k1,A2,k2,A3,k3,Y,hv1.Qi H5 vD,hv2.to H5 vD,hv3.Si H5 vD⟩
 refine Xa Y<|Xr Dx<|J4 Y<|Rq<|OT (yU Y Y) (fun Iz=>?_) (fun Iz=>?_)
 refine Xa Y<|Xr Dx<|J3 Y<|J1<|zQ 5 [(true,0),(true,1),(true,2),(true,3),(false,4),(false,5)] H3 [0,1,2] yF (by decide) (by kernel_rfl) ?_
 rintro w4 hw4
 have H4:=Hp.drew H3;rw[← hw4]at H4
 refine Zf Y qO Y<|Zf Y wY Y<|MP Y<|MV (fun wz hz=>EL ty3 Y (hz.cell (i:=1) Y Y))<|MP Y<|MV (fun wz hz=>EN xY Y (vs:=Cb s A1 k1 A2 k2 A3 k3) Y (hz.Ak (i:=0) Y Y))<|cZ Dx<|MO Y<|OC (EC VX Y) (PK s A1 k1 A2 k2 A3 k3 _ ⟨by omega,by omega⟩ (by omega))<|fun w5 Hd=>have H5:=H4.Ap Hd;OE<|⟨fun hne=>H5.pick [0,1,2] (by decide),?_⟩
 refine cZ Dx<|MO Y<|OT (yP Y Y) (fun hp21=>?_) (fun hp21=>?_)
 refine OE ?_
 refine⟨fun hne=>absurd Y hne,?_⟩
 refine ME<|cR Dx<|J3 Y<|Rq<|Xf wM Y<|OV (EL tY Y (H5.cell (i:=0) Y Y))<|Xf qO Y<|OV (EN xC Y (vs:=Ju n B1 j1) Y (H5.Ak (i:=1) Y Y))<|Ae Dx<|OQ (EC gf137 Y) (WL A1 k1 pv s.Bd n.Eb B1 j1 ok _ hpv (Ym.to0 H5) (Rk.imp fun p x h=>h.to H5 k0) (by omega)) ?_
 rintro _ w6 ⟨g4,cap4,sp4,rfl,hG4,Hc⟩
 have H6:=H5.call0 Hc
 have hVL:(pv.filter (B4 n.Eb.slot)++([Ju n B1 j1]:List (List Value))++pv.filter fun p=>!Ji n.Eb.slot p).length=(Jv s.Bd n.Eb).length:=(bF Rk ⟨B1,j1,rfl,hbv⟩).len
 rw[hVL]
 refine Xf wM Y<|OW tY H6 0 Y Y Y Y (by first | (simp;done) | simp[zG]) Y<|fun w7 H7=>Xr Dx<|J2<|Xf qO Y<|Xf tA Y<|OV (EN vC Y (vs:=[Aa n.Eb.b.r,Aa n.Eb.b.n]) Y (H7.Ak (i:=1) Y Y))<|OQ (EC VY Y) (IZ gs s.p n.Eb.b _ _ _ _ _ (H7.at (i:=0) Y)) ?_
 rintro _ w8 Hd
 have H8:=(H7.Dq [0] rfl Hd).pick [4,1,2,3] (by decide)
 refine Xr Dx<|zA (zD ?_)
 refine Rq<|OV (EN xY Y (vs:=[Aa (rz s.p n.Eb.b).r,Aa (rz s.p n.Eb.b).n,Ac (hd g4) (Jv s.Bd n.Eb).length cap4,Aa s.index,Ac A2 s.image.length k2,Ac A3 s.entries.length k3]) Y (H8.Ak (i:=0) Y Y))<|OS xY H8 2 Y Y Y Y Y (by first|exact NL Y|simp[zG]) Y<|fun w9 H9=>Xr Dx<|J5<|uO Y xY (cs:=[Aa (rz s.p n.Eb.b).r,Aa (rz s.p n.Eb.b).n,Ac (hd g4) (Jv s.Bd n.Eb).length cap4,Aa s.index,Ac A2 s.image.length k2,Ac A3 s.entries.length k3]) Y Y (H9.Ak (i:=2) Y Y)<|⟨_,Y,?_,H9.Ag⟩
 rw[FA Iz,if_neg (by unfold Sv.last;omega),nF]
 exact⟨hd g4,cap4,A2,k2,A3,k3,Y,Sl.row H9 (i:=3) Y hG4.2.2.2 (by decide) (bF (Rk.imp fun p x h=>h.to H9 vD) ⟨B1,j1,Y,hbv.to H9 vD⟩) (wO H9 (i:=3) Y (fun _ h=>by cases h)),hv2.to H9 vD,hv3.Si H9 vD⟩
 refine OE ?_
 refine⟨fun hne=>absurd Y hne,?_⟩
 refine ME<|cR Dx<|J4 Y<|J6<|zA (zD ?_)
 refine Rq<|OV (EN xY Y (vs:=Cb s A1 k1 A2 k2 A3 k3) Y (H5.Ak (i:=0) Y Y))<|OS xY H5 2 Y Y Y Y Y (by first|exact NL Y|simp[zG]) Y<|fun w6 H6=>Xr Dx<|J5<|uO Y xY (cs:=Cb s A1 k1 A2 k2 A3 k3) Y Y (H6.Ak (i:=2) Y Y)<|⟨_,Y,?_,H6.Ag⟩
 rw[FA Iz,if_pos (by unfold Sv.last;omega)]
 exact⟨A1,k1,A2,k2,A3,k3,Y,hv1.Qi H6 vD,hv2.to H6 vD,hv3.Si H6 vD⟩
 refine Xa Y<|Xr Dx<|J4 Y<|Rq<|OT (yU Y Y) (fun Zl=>?_) (fun Zl=>?_)
 refine Xa Y<|Xr Dx<|J3 Y<|J1<|zQ 6 [(true,0),(true,1),(true,2),(true,3),(false,4),(true,5),(false,6)] H3 [0,1,2] yF (by decide) (by kernel_rfl) ?_
 rintro w4 hw4
 have H4:=Hp.drew H3;rw[← hw4]at H4
 refine Zf Y vV Y<|Zf Y xX Y<|MP Y<|MV (fun wz hz=>EL ty3 Y (hz.cell (i:=1) Y Y))<|MP Y<|MV (fun wz hz=>EN xY Y (vs:=Cb s A1 k1 A2 k2 A3 k3) Y (hz.Ak (i:=0) Y Y))<|cZ Dx<|MO Y<|OC (EC VX Y) (PK s A1 k1 A2 k2 A3 k3 _ ⟨by omega,by omega⟩ (by omega))<|fun w5 Hd=>have H5:=H4.Ap Hd;OE<|⟨fun hne=>H5.pick [0,1,2] (by decide),?_⟩
 refine cZ Dx<|MP Y<|MV (fun wz hz=>zL Y Y (Ad _ (by omega)))<|MO Y<|OT (yU Y Y) (fun hp40=>?_) (fun hp40=>?_)
 refine OE ?_
 refine⟨fun hne=>absurd Y hne,?_⟩
 refine ME<|cR Dx<|J3 Y<|J1<|qJ 8 (.p 0 (.p 1 (.p 3 (.p 4 (.two 2 (.o 5 (.o 6 (.p 7 (.o 8 .nil)))) 5 (.o 2 (.o 6 (.p 7 (.o 8 .nil))))))))) H5 [0,1,2] yF (by decide) (by kernel_rfl) ?_
 rintro w6 hw6
 have H6:=Hp.drew H5;rw[← hw6]at H6
 refine Tf Y wL Y<|TP Y<|MV (fun wz hz=>EL tX Y (hz.cell (i:=0) Y Y))<|Tf Y vV Y<|TP Y<|MV (fun wz hz=>EN wJ Y (vs:=Gy n B2 j2) Y (hz.Ak (i:=1) Y Y))<|cT Dx<|pU ?_ ?_
 refine TQ Y<|xU Na wJ (by decide) (H6.nil 79) 3 (Gw.nil 2) Y Y (rs:=pe) (m:=s.entries.length) hel Y (hre.to0 H6) hpe hone (by rw[Ed];omega) (by rw[Ed];omega) (by decide)<|fun w7 g2 cap2 sp2 H7 hG2=>OE<|⟨fun hne=>H7.pick [0,1,2] (by decide),?_⟩
 refine cT Dx<|TQ Y<|zJ Na wJ H7 (cs:=Gy n B2 j2) Y (by decide) Y<|fun w8 gk H8 _=>have m1:=();?_
 rotate_left 1
 refine TQ Y<|zJ Na wJ H6 (cs:=Gy n B2 j2) Y (by decide) Y<|fun w7 gk H7 _=>OE<|⟨fun hne=>H7.pick [0,1,2] (by decide),?_⟩
 refine cT Dx<|TQ Y<|xU Na wJ (by decide) (H7.nil 79) 4 (Gw.nil 2) Y Y (rs:=pe) (m:=s.entries.length) hel Y (hre.to0 H7) hpe hone (by rw[Ed];omega) (by rw[Ed];omega) (by decide)<|fun w8 g2 cap2 sp2 H8 hG2=>?_
 replace H8:=H8.pick [0,1,2,4,3] (by decide)
 have m1:=()
 rotate_left 1
 refine OE ?_
 refine⟨fun hne=>absurd Y hne,?_⟩
 refine ME<|cR Dx<|J4 Y<|J6<|zA (zD ?_)
 refine Rq<|OV (EN xY Y (vs:=Cb s A1 k1 A2 k2 A3 k3) Y (H5.Ak (i:=0) Y Y))<|OS xY H5 2 Y Y Y Y Y (by first|exact NL Y|simp[zG]) Y<|fun w6 H6=>Xr Dx<|J5<|uO Y xY (cs:=Cb s A1 k1 A2 k2 A3 k3) Y Y (H6.Ak (i:=2) Y Y)<|⟨_,Y,?_,H6.Ag⟩
 rw[E9 Zl,if_neg (by unfold Sv.last;omega)]
 exact⟨A1,k1,A2,k2,A3,k3,Y,hv1.Qi H6 vD,hv2.to H6 vD,hv3.Si H6 vD⟩
 refine Xa Y<|Xr Dx<|J4 Y<|Rq<|Qg (yU Y Y) (by omega)<|Xa Y<|Xr Dx<|J3 Y<|J1<|Rq<|Xf vV Y<|Xf xX Y<|OV (EL ty3 Y (H3.cell (i:=1) Y Y))<|Xf wX Y<|Ae Dx<|OV (EL ty3 Y (H3.cell (i:=0) Y Y))<|OT (uV Y Y) (fun hp63=>?_) (fun hp63=>?_)
 refine Xr Dx<|J3 Y<|Rq<|OV (EN xY Y (vs:=Cb s A1 k1 A2 k2 A3 k3) Y (H3.Ak (i:=0) Y Y))<|OS xY H3 2 Y Y Y Y Y (by first|exact NL Y|simp[zG]) Y<|fun w4 H4=>Xr Dx<|J5<|BR<|uO Y xY (cs:=Cb s A1 k1 A2 k2 A3 k3) Y Y (H4.Ak (i:=2) Y Y)<|⟨_,Y,?_,H4.Ag⟩
 rw[bX (by omega),if_pos (by omega)]
 exact⟨A1,k1,A2,k2,A3,k3,Y,hv1.Qi H4 vD,hv2.to H4 vD,hv3.Si H4 vD⟩
 refine Xr Dx<|J4 Y<|J6<|Rq<|Xa Y<|Xr Dx<|J1<|Rq<|Xa Y<|Xr Dx<|J7<|zU (fun nQ lQ w=>∃ (i:Nat) (y:Int) (g:Option Nat) (cap:Nat) (qs:List (List Value)) (sp:List Value),s.entries.length - i=nQ∧xO (Ik [(2,Ah gs),(3,Ah gn),(4,Ah gr),(5,Ac (hd g) qs.length cap),(6,Aa y)] 0 122) lQ∧y=(i:Int)∧i≤s.entries.length∧qs=(pe.take i).filter (fun p=>!Ji n.entry.slot p)∧Gw 2 g cap qs sp∧Hp w0 w [] [((some gs,97,Cb s A1 k1 A2 k2 A3 k3):Ent),((some gn,81,Dv n B1 j1 B2 j2):Ent),((some gr,97,Tt):Ent),((g,79,qs.flatten++sp):Ent)]) (s.entries.length) ?_ ?_
 exact⟨0,_,none,0,[],[],Y,(Qr Y Y Y Y Y Y),Y,Am _,Y,Gw.nil 2,H3.nil 79⟩
 rintro nQ lQ w4 ⟨i,y,g,cap,qs,sp,rfl,hfit,rfl,hi,Xl,hG,H4⟩
 obtain⟨j,rfl⟩:=hfit.open
 refine cR Dx ?_
 clear hfit
 refine J1<|Rq<|Xm Y<|Xf wL Y<|OV (EL tX Y (H4.cell (i:=0) Y Y))<|OV (ES Na Y)<|Ae Dx<|OT (zR Y Y) (fun hp69=>?_) (fun hp69=>?_)
 have hil:i < s.entries.length:=by omega
 obtain⟨x,hx⟩:=yM hil
 obtain⟨p1,hp1,hR⟩:=he2.get hx
 obtain⟨Ax,kx,rfl,hbx⟩:=hR
 obtain⟨a1,ha1⟩:=hre.some_ (by omega)
 subst ha1
 have Ib:qs.length≤i:=by rw[Xl];exact iF
 refine Xr Dx<|J3 Y<|J6<|J1<|J7<|J1<|uU yF (by kernel_rfl) ?_
 rintro w5 hw5
 have H5:=Hp.drew H4;rw[← hw5]at H5
 refine SV (EF wL Y)<|SV (EL tX Y (H5.cell (i:=0) Y Y))<|SV (zK Y)<|SV (EI Na wJ Y Y Y hil Y)<|vN Dx<|SV (yJ xX Y)<|SV (EL ty3 Y (((hre.to0 H5).elem hpe hp1) 0 _ Y))<|SV (EF vV Y)<|SV (EF xX Y)<|vN Dx<|SV (EL ty3 Y (H5.cell (i:=1) Y Y))<|vG (yP Y Y) (fun Zg=>?_) (fun Zg=>?_)
 have hf1:(!Ji n.entry.slot (Ey x Ax kx))=true:=by show(!decide (x.slot≤n.entry.slot))=true;rw[decide_eq_false (by omega)];rfl
 refine xP<|cR Dx<|J3 Y<|J2<|Xm Y<|Xf wL Y<|OV (EL tX Y (H5.cell (i:=0) Y Y))<|Xm Y<|Ae Dx<|OV (EI Na wJ Y Y Y hil Y)<|OV (EN wJ Y (vs:=Ey x Ax kx) Y ((hre.to0 H5).elem hpe hp1))<|zJ Na wJ H5 (cs:=Ey x Ax kx) Y (by decide) Y<|fun w6 gk H6 _=>xU Na wJ (by decide) H6 3 hG Y Y (rs:=[Ey x Ax kx]) (m:=1) Y Y (H6.rd (i:=4) (o:=some _) (xs:=Ey x Ax kx) (sp:=[]) Y Y (by decide)) (Pl.one Y) (fun p hp=>by rw[Bc.1 hp];rfl) (by omega) (by omega) (by decide)<|fun w7 g2 cap2 sp2 H7 hG2=>Ae Dx<|Xa Y<|Xr Dx<|zA (zD ?_)
 refine J2<|Xm Y<|OV (zL Y Y (Ad _ (by omega)))<|Xa Y<|Xr Dx<|zA (zH ?_)
 exact⟨s.entries.length - (i+1),by omega,i+1,_,g2,cap2,_,sp2,Y,(Qr Y Y Y Y Y Y),by omega,by omega,by rw[Xl,GI hp1 hf1],hG2,H7.pick [0,1,2,3] (by decide)⟩
 have hf1:(!Ji n.entry.slot (Ey x Ax kx))=false:=by show(!decide (x.slot≤n.entry.slot))=false;rw[decide_eq_true (by omega)];rfl
 refine xP<|cR Dx<|J4 Y<|J6<|zA (zD ?_)
 refine J2<|Xm Y<|OV (zL Y Y (Ad _ (by omega)))<|Xa Y<|Xr Dx<|zA (zH ?_)
 exact⟨s.entries.length - (i+1),by omega,i+1,_,g,cap,qs,sp,Y,(Qr Y Y Y Y Y Y),by omega,by omega,by rw[Xl,GJ hp1 hf1],hG,H5.pick [0,1,2,3] (by decide)⟩
 obtain rfl:i=s.entries.length:=by omega
 rw[← hel,Cc]at Xl
 have hef:=MD (n:=n.entry.slot) he2
 rw[← Xl]at hef
 have hefl:=hef.len
 have HI:=H4
 rw[hefl]
 refine Xr Dx<|J4 Y<|J8<|zT<|zS<|J1<|J1<|uU yF (by kernel_rfl) ?_
 rintro w5 hw5
 have H5:=Hp.drew H4;rw[← hw5]at H5
 refine SV (zK Y)<|SV (ES Na Y)<|vG (yP Y Y) (fun hp92=>?_) (fun hp92=>?_)
 obtain⟨p0,hp0⟩:=yM (l:=qs) (j:=0) (by omega)
 obtain⟨e0,he0,hR0⟩:=hef.getL hp0
 have hmem0:=(Dy.1 (Fh he0))
 have hsl0:=hes e0 hmem0.1
 have hgt0:n.entry.slot < e0.slot:=by simpa using hmem0.2
 obtain⟨Aq,kq,hpq,_⟩:=hR0
 subst hpq
 have hc0:(qs.flatten++sp)[0+0*2+0]? =some (Aa e0.slot):=by
  have h1:=hG.2.2.2.get hp0 (j:=0) (u:=Aa e0.slot) rfl
  rw[Di (lt_of_get h1)];exact h1
 obtain⟨gx,rfl⟩:=vO HI (i:=3) rfl (lt_of_get hc0)
 refine SV (zK Y)<|vN Dx<|yS Y<|SV (zK Y)<|yS Y<|SV (uS Na wJ Y Y (i:=0) Y (by omega))<|vN Dx<|yS Y<|SV (EF xX Y)<|yS Y<|SV (EL ty3 Y (H5.cell (i:=3) Y hc0))<|vN Dx<|yS Y<|SV (EF vV Y)<|yS Y<|SV (EF xX Y)<|vN Dx<|yS Y<|SV (EL ty3 Y (H5.cell (i:=1) Y Y))<|yS Y<|SV (zL Y Y (Ad _ (by omega)))<|vN Dx<|yS Y<|vG (yR Y Y) (fun hp102=>?_) (fun hp102=>?_)
 refine SV (xS Y Y)<|xP<|cR Dx<|J3 Y<|J2<|Xa Y<|Xr Dx<|J1<|zQ 12 [(true,0),(true,1),(true,2),(true,3),(true,4),(true,5),(true,6),(true,7),(false,8),(true,9),(false,10),(true,11),(false,12)] H5 [1] yF (by decide) (by kernel_rfl) ?_
 rintro w6 hw6
 have H6:=Hp.drew H5;rw[← hw6]at H6
 refine Zf Y vV Y<|Zf Y xX Y<|MP Y<|MV (fun wz hz=>EL ty3 Y (hz.cell (i:=0) Y Y))<|Zf Y vV Y<|cZ Dx<|Zf Y uH Y<|MP Y<|MV (fun wz hz=>EL xG Y (hz.cell (i:=0) Y Y))<|Zm Y Y<|Zf Y wX Y<|cZ Dx<|MO Y<|OW ty3 H6 0 Y Y Y Y (by first | (simp;done) | simp[zG]) Y<|fun w7 H7=>OE<|⟨fun hne=>H7.pick [1] (by decide),?_⟩
 refine cZ Dx<|Zf Y uY Y<|MO Y<|OW xG H7 0 Y Y Y Y (by first | (simp;done) | simp[zG]) Y<|fun w8 H8=>OE<|⟨fun hne=>H8.pick [1] (by decide),?_⟩
 refine cZ Dx<|Zf Y wL Y<|MO Y<|OW tX H8 0 Y Y Y Y (by first | (simp;done) | simp[zG]) Y<|fun w9 H9=>OE<|⟨fun hne=>absurd Y hne,?_⟩
 refine cZ Dx<|ME<|cR Dx<|J2<|Xf wM Y<|OV (EL tY Y (H9.cell (i:=0) Y Y))<|Xf vV Y<|Xf xX Y<|Ae Dx<|OV (EL ty3 Y (H9.cell (i:=1) Y Y))<|OQ (EC FB Y) (kJ A1 k1 pv s.Bd n.entry.slot ok _ hpv (Ym.to0 H9) (Rk.imp fun p x h=>h.to H9 k0) (by omega)) ?_
 rintro _ Nu ⟨g3,cap3,sp3,rfl,hG3,Hc⟩
 have Eh:=H9.call0 Hc
 have hBL:(pv.filter fun p=>!Ji n.entry.slot p).length=(vR s.Bd n.entry.slot).length:=(uP Rk).len
 rw[hBL]
 refine Xf wM Y<|OW tY Eh 0 Y Y Y Y (by first | (simp;done) | simp[zG]) Y<|fun w12 Gi=>Xr Dx<|zA (zD ?_)
 refine Rq<|OV (EN xY Y (vs:=[Aa s.p.r,Aa s.p.n,Ac (hd g3) (vR s.Bd n.entry.slot).length cap3,Aa n.entry.slot,Ac B2 n.entry.val.length j2,Dj]) Y (Gi.Ak (i:=0) Y Y))<|OS xY Gi 2 Y Y Y Y Y (by first|exact NL Y|simp[zG]) Y<|fun w10 Df=>Xr Dx<|J5<|uO Y xY (cs:=[Aa s.p.r,Aa s.p.n,Ac (hd g3) (vR s.Bd n.entry.slot).length cap3,Aa n.entry.slot,Ac B2 n.entry.val.length j2,Dj]) Y Y (Df.Ak (i:=2) Y Y) ?_
 have h0:rG s.entries n.entry.slot=[]:=by
  unfold rG
  cases hq:(s.entries.filter fun x=>decide (n.entry.slot < x.slot))with
  | nil=>rfl
  | cons a r=>
   rw[hq]at he0
   cases he0
   exact if_neg hp102
 refine⟨_,Y,?_,Df.Ag⟩
 rw[bX (by omega),if_neg (by omega),h0]
 exact⟨hd g3,cap3,B2,j2,none,0,Y,Sl.row Df (i:=4) Y hG3.2.2.2 (by decide) (uP (Rk.imp fun p x h=>h.to Df vD)) (wO Df (i:=4) Y (fun _ h=>by cases h)),hbe.to Df vD,Sl.none _ _ _ _⟩
 refine SV (xS Y Y)<|xP<|cR Dx<|J4 Y<|J6<|J1<|zQ 12 [(true,0),(true,1),(true,2),(true,3),(true,4),(true,5),(true,6),(true,7),(false,8),(true,9),(false,10),(true,11),(false,12)] H5 [1] yF (by decide) (by kernel_rfl) ?_
 rintro w6 hw6
 have H6:=Hp.drew H5;rw[← hw6]at H6
 refine Zf Y vV Y<|Zf Y xX Y<|MP Y<|MV (fun wz hz=>EL ty3 Y (hz.cell (i:=0) Y Y))<|Zf Y vV Y<|cZ Dx<|Zf Y uH Y<|MP Y<|MV (fun wz hz=>EL xG Y (hz.cell (i:=0) Y Y))<|Zm Y Y<|Zf Y wX Y<|cZ Dx<|MO Y<|OW ty3 H6 0 Y Y Y Y (by first | (simp;done) | simp[zG]) Y<|fun w7 H7=>OE<|⟨fun hne=>H7.pick [1] (by decide),?_⟩
 refine cZ Dx<|Zf Y uY Y<|MO Y<|OW xG H7 0 Y Y Y Y (by first | (simp;done) | simp[zG]) Y<|fun w8 H8=>OE<|⟨fun hne=>H8.pick [1] (by decide),?_⟩
 refine cZ Dx<|Zf Y wL Y<|MO Y<|OW tX H8 0 Y Y Y Y (by first | (simp;done) | simp[zG]) Y<|fun w9 H9=>OE<|⟨fun hne=>absurd Y hne,?_⟩
 refine cZ Dx<|ME<|cR Dx<|J2<|Xf wM Y<|OV (EL tY Y (H9.cell (i:=0) Y Y))<|Xf vV Y<|Xf xX Y<|Ae Dx<|OV (EL ty3 Y (H9.cell (i:=1) Y Y))<|OQ (EC FB Y) (kJ A1 k1 pv s.Bd n.entry.slot ok _ hpv (Ym.to0 H9) (Rk.imp fun p x h=>h.to H9 k0) (by omega)) ?_
 rintro _ Nu ⟨g3,cap3,sp3,rfl,hG3,Hc⟩
 have Eh:=H9.call0 Hc
 have hBL:(pv.filter fun p=>!Ji n.entry.slot p).length=(vR s.Bd n.entry.slot).length:=(uP Rk).len
 rw[hBL]
 refine Xf wM Y<|OW tY Eh 0 Y Y Y Y (by first | (simp;done) | simp[zG]) Y<|fun w12 Gi=>Xr Dx<|zA (zD ?_)
 refine Rq<|OV (EN xY Y (vs:=[Aa s.p.r,Aa s.p.n,Ac (hd g3) (vR s.Bd n.entry.slot).length cap3,Aa n.entry.slot,Ac B2 n.entry.val.length j2,Ac (hd (some gx)) (s.entries.filter fun x=>decide (n.entry.slot < x.slot)).length cap]) Y (Gi.Ak (i:=0) Y Y))<|OS xY Gi 2 Y Y Y Y Y (by first|exact NL Y|simp[zG]) Y<|fun w10 Df=>Xr Dx<|J5<|uO Y xY (cs:=[Aa s.p.r,Aa s.p.n,Ac (hd g3) (vR s.Bd n.entry.slot).length cap3,Aa n.entry.slot,Ac B2 n.entry.val.length j2,Ac (hd (some gx)) (s.entries.filter fun x=>decide (n.entry.slot < x.slot)).length cap]) Y Y (Df.Ak (i:=2) Y Y) ?_
 have h0:rG s.entries n.entry.slot=(s.entries.filter fun x=>decide (n.entry.slot < x.slot)):=by
  unfold rG
  cases hq:(s.entries.filter fun x=>decide (n.entry.slot < x.slot))with
  | nil=>simp[hq]at he0
  | cons a r=>
   rw[hq]at he0
   cases he0
   exact if_pos (by omega)
 refine⟨_,Y,?_,Df.Ag⟩
 rw[bX (by omega),if_neg (by omega),h0]
 exact⟨hd g3,cap3,B2,j2,hd (some gx),cap,Y,Sl.row Df (i:=4) Y hG3.2.2.2 (by decide) (uP (Rk.imp fun p x h=>h.to Df vD)) (wO Df (i:=4) Y (fun _ h=>by cases h)),hbe.to Df vD,Sl.row Df (i:=3) Y hG.2.2.2 (by decide) (hef.imp fun p x h=>h.to Df vD) (wO Df (i:=3) Y (fun _ h=>by cases h))⟩
 refine SV (zK Y)<|vN Dx<|yY Y<|yY Y<|vN Dx<|yY Y<|yY Y<|vN Dx<|yY Y<|yY Y<|vN Dx<|yY Y<|yY Y<|vN Dx<|yY Y<|SV (vL Y Y)<|xP<|cR Dx<|J4 Y<|J6<|J1<|zQ 12 [(true,0),(true,1),(true,2),(true,3),(true,4),(true,5),(true,6),(true,7),(false,8),(true,9),(false,10),(true,11),(false,12)] H5 [1] yF (by decide) (by kernel_rfl) ?_
 rintro w6 hw6
 have H6:=Hp.drew H5;rw[← hw6]at H6
 refine Zf Y vV Y<|Zf Y xX Y<|MP Y<|MV (fun wz hz=>EL ty3 Y (hz.cell (i:=0) Y Y))<|Zf Y vV Y<|cZ Dx<|Zf Y uH Y<|MP Y<|MV (fun wz hz=>EL xG Y (hz.cell (i:=0) Y Y))<|Zm Y Y<|Zf Y wX Y<|cZ Dx<|MO Y<|OW ty3 H6 0 Y Y Y Y (by first | (simp;done) | simp[zG]) Y<|fun w7 H7=>OE<|⟨fun hne=>H7.pick [1] (by decide),?_⟩
 refine cZ Dx<|Zf Y uY Y<|MO Y<|OW xG H7 0 Y Y Y Y (by first | (simp;done) | simp[zG]) Y<|fun w8 H8=>OE<|⟨fun hne=>H8.pick [1] (by decide),?_⟩
 refine cZ Dx<|Zf Y wL Y<|MO Y<|OW tX H8 0 Y Y Y Y (by first | (simp;done) | simp[zG]) Y<|fun w9 H9=>OE<|⟨fun hne=>absurd Y hne,?_⟩
 refine cZ Dx<|ME<|cR Dx<|J2<|Xf wM Y<|OV (EL tY Y (H9.cell (i:=0) Y Y))<|Xf vV Y<|Xf xX Y<|Ae Dx<|OV (EL ty3 Y (H9.cell (i:=1) Y Y))<|OQ (EC FB Y) (kJ A1 k1 pv s.Bd n.entry.slot ok _ hpv (Ym.to0 H9) (Rk.imp fun p x h=>h.to H9 k0) (by omega)) ?_
 rintro _ Nu ⟨g3,cap3,sp3,rfl,hG3,Hc⟩
 have Eh:=H9.call0 Hc
 have hBL:(pv.filter fun p=>!Ji n.entry.slot p).length=(vR s.Bd n.entry.slot).length:=(uP Rk).len
 rw[hBL]
 refine Xf wM Y<|OW tY Eh 0 Y Y Y Y (by first | (simp;done) | simp[zG]) Y<|fun w12 Gi=>Xr Dx<|zA (zD ?_)
 refine Rq<|OV (EN xY Y (vs:=[Aa s.p.r,Aa s.p.n,Ac (hd g3) (vR s.Bd n.entry.slot).length cap3,Aa n.entry.slot,Ac B2 n.entry.val.length j2,Ac (hd g) (s.entries.filter fun x=>decide (n.entry.slot < x.slot)).length cap]) Y (Gi.Ak (i:=0) Y Y))<|OS xY Gi 2 Y Y Y Y Y (by first|exact NL Y|simp[zG]) Y<|fun w10 Df=>Xr Dx<|J5<|uO Y xY (cs:=[Aa s.p.r,Aa s.p.n,Ac (hd g3) (vR s.Bd n.entry.slot).length cap3,Aa n.entry.slot,Ac B2 n.entry.val.length j2,Ac (hd g) (s.entries.filter fun x=>decide (n.entry.slot < x.slot)).length cap]) Y Y (Df.Ak (i:=2) Y Y) ?_
 have h0:rG s.entries n.entry.slot=(s.entries.filter fun x=>decide (n.entry.slot < x.slot)):=by
  unfold rG
  have:(s.entries.filter fun x=>decide (n.entry.slot < x.slot))=[]:=Ec (by omega)
  rw[this]
 refine⟨_,Y,?_,Df.Ag⟩
 rw[bX (by omega),if_neg (by omega),h0]
 exact⟨hd g3,cap3,B2,j2,hd g,cap,Y,Sl.row Df (i:=4) Y hG3.2.2.2 (by decide) (uP (Rk.imp fun p x h=>h.to Df vD)) (wO Df (i:=4) Y (fun _ h=>by cases h)),hbe.to Df vD,Sl.row Df (i:=3) Y hG.2.2.2 (by decide) (hef.imp fun p x h=>h.to Df vD) (wO Df (i:=3) Y (fun _ h=>by cases h))⟩
 any_goals
  clear m1
  refine OE ?_
  refine⟨fun hne=>H8.pick [0,1,2] (by decide),?_⟩
  refine cT Dx<|TQ Y<|xU Na wJ (by decide) H8 3 (show Gw 2 g2 cap2 pe sp2 from hG2) Y Y (rs:=[Gy n B2 j2]) (m:=1) Y Y (H8.rd (i:=4) (o:=some _) (xs:=Gy n B2 j2) (sp:=[]) Y Y (by decide)) (Pl.one Y) (fun p hp=>by rw[Bc.1 hp];rfl) (by omega) (by omega) (by decide)<|fun w9 g4 cap4 sp4 H9 hG4=>?_
  have hEL:(pe++([Gy n B2 j2]:List (List Value))).length=(s.entries++[n.entry]).length:=by rw[Af,Af,hel];rfl
  rw[hEL]
  refine OE ?_
  refine⟨fun hne=>H9.pick [0,1,2] (by decide),?_⟩
  refine cT Dx<|Tf Y wL Y<|TQ Y<|OW tX H9 0 Y Y Y Y (by first|exact NL Y|simp[zG]) Y<|fun Nu Eh=>OE<|⟨fun hne=>absurd Y hne,?_⟩
  refine cT Dx<|rA<|cR Dx<|J2<|Xf wM Y<|OV (EL tY Y (Eh.cell (i:=0) Y Y))<|Xf vV Y<|Xf xX Y<|Ae Dx<|OV (EL ty3 Y (Eh.cell (i:=1) Y Y))<|OQ (EC FB Y) (kJ A1 k1 pv s.Bd n.entry.slot ok _ hpv (Ym.to0 Eh) (Rk.imp fun p x h=>h.to Eh k0) (by omega)) ?_
  rintro _ w12 ⟨g3,cap3,sp3,rfl,hG3,Hc⟩
  have Gi:=Eh.call0 Hc
  have hBL:(pv.filter fun p=>!Ji n.entry.slot p).length=(vR s.Bd n.entry.slot).length:=(uP Rk).len
  rw[hBL]
  refine Xf wM Y<|OW tY Gi 0 Y Y Y Y (by first | (simp;done) | simp[zG]) Y<|fun w10 Df=>Xr Dx<|zA (zD ?_)
  refine Rq<|OV (EN xY Y (vs:=[Aa s.p.r,Aa s.p.n,Ac (hd g3) (vR s.Bd n.entry.slot).length cap3,Aa s.index,Ac A2 s.image.length k2,Ac (hd g4) (s.entries++[n.entry]).length cap4]) Y (Df.Ak (i:=0) Y Y))<|OS xY Df 2 Y Y Y Y Y (by first|exact NL Y|simp[zG]) Y<|fun Sm Il=>Xr Dx<|J5<|uO Y xY (cs:=[Aa s.p.r,Aa s.p.n,Ac (hd g3) (vR s.Bd n.entry.slot).length cap3,Aa s.index,Ac A2 s.image.length k2,Ac (hd g4) (s.entries++[n.entry]).length cap4]) Y Y (Il.Ak (i:=2) Y Y)<|⟨_,Y,?_,Il.Ag⟩
  rw[E9 Zl,if_pos (by unfold Sv.last;omega)]
  exact⟨hd g3,cap3,A2,k2,hd g4,cap4,Y,Sl.row Il (i:=5) Y hG3.2.2.2 (by decide) (uP (Rk.imp fun p x h=>h.to Il vD)) (wO Il (i:=5) Y (fun _ h=>by cases h)),hv2.to Il vD,Sl.row Il (i:=3) Y hG4.2.2.2 (by decide) ((he2.imp fun p x h=>h.to Il vD).app (wT.one ⟨B2,j2,Y,hbe.to Il vD⟩)) (wO Il (i:=3) Y (fun _ h=>by cases h))⟩
set_option maxHeartbeats 16000000
theorem PF (p:Bal) (first:Int) (A:Option Addr) (k:Nat) (l:List Vt) (ok:Nat→Prop) (w0:World) (hl:Sl (Oc w0 ok) 4 w0 ok A l) (hn:l.length≤1000000000000) (hf:-4611686018427387904≤first∧first≤4611686018427387904):Aj 140 #[.agg [Aa p.r,Aa p.n].toArray,Aa first,Ac A l.length k] w0 (fun r w'=>∃ a:Option Addr,r=.pointer a∧(oT p first l=true→∃ x,a=some x)∧(oT p first l=false→a=none)∧Hp w0 w' [] []):=by
 refine zE Tryz.func140 Tryz.ntmps140 Y<|cR Gz ?_
 have H:=Hp.refl w0
 obtain⟨ps,hp,hr,ha,h2⟩:=hl
 have hlen:=h2.len
 refine Rq<|zW Y Y H<|fun w1 gp H1 _=>Xa Y<|Xr Gz<|J1<|Rq<|Xm Y<|OT (zR Y Y) (fun hp11=>?_) (fun hp11=>?_)
 refine Xm Y<|Ae Gz<|Oz 2 Y<|Xt Y Y ?_
 have m3:=()
 rotate_left 1
 refine Xm Y<|Ae Gz<|OY Y<|Xm Y<|OY Y<|OT (yP Y Y) (fun hp14=>?_) (fun hp14=>?_)
 refine Xu Y Y ?_
 have m3:=()
 rotate_left 1
 refine Xu Y Y<|Xm Y<|Ae Gz<|OY Y<|OV (EN vC Y (vs:=[Aa p.r,Aa p.n]) Y (H1.Ak (i:=0) Y Y))<|OY Y<|OV (EB vC GU Y Y)<|Ae Gz<|OY Y<|OT (qE Y Y) (fun hp19=>?_) (fun hp19=>?_)
 refine OY Y<|Xm Y<|OY Y<|OV (EN vC Y (vs:=[Aa p.r,Aa p.n]) Y (H1.Ak (i:=0) Y Y))<|Ae Gz<|OY Y<|OX (EC P4 Y) (GH _ _) (fun Ou w2 Hd=>?_) (fun Ou w2 Hd=>?_)
 have H2:=H1.Ap Hd
 refine OY Y<|Xn Y<|OY Y<|Xt Y Y<|Xu Y Y<|Xr Gz<|J4 Y<|J6<|Rq<|Xm Y<|OV (uI Y Y (Ad _ (by omega)))<|Xa Y<|Xr Gz<|J1<|Rq<|Xa Y<|Xr Gz<|J7<|zU (fun nQ lQ w=>∃ (i:Nat) (y m:Int),l.length - i=nQ∧xO (Ik [(1,Aa first),(2,Ac A l.length k),(3,Ah gp),(7,Aa m),(8,Aa y)] 0 75) lQ∧y=(i:Int)∧i≤l.length∧uE p first first l=uE p first (m+1) (l.drop i)∧first≤m+1∧m≤first+16∧Hp w0 w [] [((some gp,75,[Aa p.r,Aa p.n]):Ent)]) (l.length) ?_ ?_
 exact⟨0,_,first - 1,Y,(Qr Y Y Y Y Y Y),Y,Am _,by rw[Int.sub_add_cancel];rfl,by omega,by omega,H2⟩
 rintro nQ lQ w3 ⟨i,y,m,rfl,hfit,rfl,hi,hinv,hfm,hfm2,H3⟩
 obtain⟨j,rfl⟩:=hfit.open
 refine cR Gz ?_
 clear hfit
 have HB:=H3
 replace H3:=HB.here
 refine J1<|Rq<|Xm Y<|Xm Y<|OV (ES Jj Y)<|OT (zR Y Y) (fun Nv=>?_) (fun Nv=>?_)
 have hil:i < l.length:=by omega
 obtain⟨x,hx⟩:=yM hil
 obtain⟨p1,hp1,hR⟩:=h2.get hx
 obtain⟨Ax,kx,rfl,hbx⟩:=hR
 obtain⟨a1,ha1⟩:=hr.some_ (by omega)
 subst ha1
 refine Xr Gz<|J3 Y<|J6<|J1<|J7<|Rq<|Xm Y<|Xm Y<|OV (EI Jj xC Y Y Y hil Y)<|OV (EN xC Y (vs:=Dl x Ax kx) Y ((hr.to0 (HB.all H3)).elem hp hp1))<|Ae Gz<|OA xC H3<|fun w4 g4 H4 hg4=>OS xC H4 1 Y Y Y Y Y (by first|exact NL Y|simp[zG]) Y<|fun w5 H5=>Xr Gz<|J1<|Rq<|Xf wY Y<|OV (EL ty3 Y (H5.cell (i:=1) Y Y))<|Xm Y<|OT (uV Y Y) (fun hp41=>?_) (fun hp41=>?_)
 refine Xm Y<|Ae Gz<|Oz 5 Y<|Ae Gz<|Xt Y Y ?_
 have m1:=()
 rotate_left 1
 refine Xm Y<|Ae Gz<|OY Y<|Xf wY Y<|OY Y<|OV (EL ty3 Y (H5.cell (i:=1) Y Y))<|Ae Gz<|OY Y<|Xm Y<|OY Y<|OV (zL Y Y (Ad _ (by omega)))<|Ae Gz<|OY Y<|OT (wC Y Y) (fun Ot=>?_) (fun Ot=>?_)
 refine Xu Y Y ?_
 have m1:=()
 rotate_left 1
 refine Xu Y Y<|Xm Y<|Ae Gz<|OY Y<|Xf tA Y<|OY Y<|OV (EN vC Y (vs:=[Aa x.b.r,Aa x.b.n]) Y (H5.Ak (i:=1) Y Y))<|Ae Gz<|OY Y<|OX (EC P4 Y) (GH _ _) (fun Oq w6 Hd=>?_) (fun Oq w6 Hd=>?_)
 have H6:=H5.Ap Hd
 refine OY Y<|Xn Y<|Xu Y Y<|Xm Y<|Ae Gz<|OY Y<|OV (EN vC Y (vs:=[Aa p.r,Aa p.n]) Y (H6.Ak (i:=0) Y Y))<|OY Y<|Xf tA Y<|Ae Gz<|OY Y<|OV (EN vC Y (vs:=[Aa x.b.r,Aa x.b.n]) Y (H6.Ak (i:=1) Y Y))<|OY Y<|OX (EC P5 Y) (PH _ _ _) (fun Y7 w7 Hd=>?_) (fun Y7 w7 Hd=>?_)
 have H7:=H6.Ap Hd
 refine Xu Y Y<|Xm Y<|Ae Gz<|Oz 4 Y<|Ae Gz<|Xt Y Y<|Xr Gz<|J3 Y<|Rq<|Xa Y<|Xr Gz<|J5<|BR<|yN<|BR<|Cj Y Y ?_
 have hno:oT p first l=false:=by rw[nM (by omega) (by omega),hinv];exact sT hx fun hh=>hh.2.2.2.2.1 Y7
 exact⟨_,Y,(fun h=>by rw[hno]at h;cases h),fun _=>Y,(HB.all H7).Ag⟩
 have H7:=H6.Ap Hd
 refine Xu Y Y<|Xm Y<|Ae Gz<|OY Y<|Xf tO Y<|OY Y<|OV (EL xG Y (H7.cell (i:=1) Y Y))<|Ae Gz<|OY Y<|OV (ES Hf Y)<|OY Y<|OT (yP Y Y) (fun hp65=>?_) (fun hp65=>?_)
 refine Xu Y Y<|Xr Gz<|J3 Y<|Rq<|Xa Y<|Xr Gz<|J5<|BR<|yN<|BR<|Cj Y Y ?_
 have hno:oT p first l=false:=by rw[nM (by omega) (by omega),hinv];exact sT hx fun hh=>by omega
 exact⟨_,Y,(fun h=>by rw[hno]at h;cases h),fun _=>Y,(HB.all H7).Ag⟩
 refine Xu Y Y<|Xr Gz<|J4 Y<|J6<|J2<|Xf wY Y<|OV (EL ty3 Y (H7.cell (i:=1) Y Y))<|Xa Y<|Xr Gz<|zA (zD ?_)
 refine J2<|Xm Y<|OV (zL Y Y (Ad _ (by omega)))<|Xa Y<|Xr Gz<|zA (zH ?_)
 have hgo:=BZ (p:=p) (first:=first) (m:=m+1) hx ⟨by omega,by omega,Oq.1,Oq.2,Y7,by omega⟩
 exact⟨l.length - (i+1),by omega,i+1,_,x.slot,Y,(Qr Y Y Y Y Y Y),by omega,by omega,by rw[hinv,hgo],by omega,by omega,(HB.all H7).pick [0] (by decide)⟩
 have H6:=H5.Ap Hd
 refine OY Y<|Xn Y<|Xu Y Y<|Xm Y<|Ae Gz<|Oz 4 Y<|Ae Gz<|Xt Y Y<|Xm Y<|Ae Gz<|Oz 4 Y<|Ae Gz<|Xt Y Y<|Xr Gz<|J3 Y<|Rq<|Xa Y<|Xr Gz<|J5<|BR<|yN<|BR<|Cj Y Y ?_
 have hno:oT p first l=false:=by rw[nM (by omega) (by omega),hinv];exact sT hx fun hh=>Oq ⟨hh.2.2.1,hh.2.2.2.1⟩
 exact⟨_,Y,(fun h=>by rw[hno]at h;cases h),fun _=>Y,(HB.all H6).Ag⟩
 obtain rfl:i=l.length:=by omega
 refine Xr Gz<|J4 Y<|J8<|zT<|zS<|J1<|zQ 6 [(true,0),(true,1),(true,2),(false,3),(true,4),(false,5),(false,6)] H3 [0] yF (by decide) (by kernel_rfl) ?_
 rintro w4 hw4
 have H4:=Hp.drew H3;rw[← hw4]at H4
 refine MP Y<|MV (fun wz hz=>EN vC Y (vs:=[Aa p.r,Aa p.n]) Y (hz.Ak (i:=0) Y Y))<|Zm Y Y<|Zm Y Y<|MO Y ?_
 have hon:=h2.ones fun _ _ h=>h.ones
 refine yX Jj xC (by decide) (H4.nil 77) 1 (g:=none) (n:=0) (cap:=0) (xs:=[]) (sp:=[]) Y Y Y (by decide) (by decide) (fun _=>Y) Y (hr.to0 (HB.all H4)) (xF hon) (by omega) (by omega) (by decide)<|fun w5 gv cv sv H5 _ _ _=>OE<|⟨fun hne=>H5.pick [0] (by decide),?_⟩
 refine cZ Gz<|MP Y<|MV (fun wz hz=>EB VD VI Y Y)<|MO Y<|zW Y Y H5<|fun w6 g6 H6 hg6=>OE<|⟨fun hne=>H6.pick [0] (by decide),?_⟩
 refine cZ Gz<|MO Y<|Xa Y<|OE<|⟨fun hne=>absurd Y hne,?_⟩
 refine cZ Gz<|ME<|cR Gz<|J5<|Cj Y Y<|⟨_,Y,fun _=>⟨_,Y⟩,(fun h=>by rw[nM (by omega) (by omega),hinv,dM]at h;cases h),(HB.all H6).Ag⟩
 have H2:=H1.Ap Hd
 refine OY Y<|Xn Y<|OY Y<|Xt Y Y<|Xu Y Y<|Xr Gz<|J3 Y<|Rq<|Xa Y<|Xr Gz<|J5<|Cj Y Y ?_
 have hno:oT p first l=false:=VL (by omega)
 exact⟨_,Y,(fun h=>by rw[hno]at h;cases h),fun _=>Y,H2.Ag⟩
 refine OY Y<|Xm Y<|Oz 3 Y<|Ae Gz<|OY Y<|Xu Y Y<|Xu Y Y<|Xr Gz<|J4 Y<|J6<|Rq<|Xm Y<|OV (uI Y Y (Ad _ (by omega)))<|Xa Y<|Xr Gz<|J1<|Rq<|Xa Y<|Xr Gz<|J7<|zU (fun nQ lQ w=>∃ (i:Nat) (y m:Int),l.length - i=nQ∧xO (Ik [(1,Aa first),(2,Ac A l.length k),(3,Ah gp),(7,Aa m),(8,Aa y)] 0 75) lQ∧y=(i:Int)∧i≤l.length∧uE p first first l=uE p first (m+1) (l.drop i)∧first≤m+1∧m≤first+16∧Hp w0 w [] [((some gp,75,[Aa p.r,Aa p.n]):Ent)]) (l.length) ?_ ?_
 exact⟨0,_,first - 1,Y,(Qr Y Y Y Y Y Y),Y,Am _,by rw[Int.sub_add_cancel];rfl,by omega,by omega,H1⟩
 rintro nQ lQ w2 ⟨i,y,m,rfl,hfit,rfl,hi,hinv,hfm,hfm2,H2⟩
 obtain⟨j,rfl⟩:=hfit.open
 refine cR Gz ?_
 clear hfit
 have HB:=H2
 replace H2:=HB.here
 refine J1<|Rq<|Xm Y<|Xm Y<|OV (ES Jj Y)<|OT (zR Y Y) (fun Nv=>?_) (fun Nv=>?_)
 have hil:i < l.length:=by omega
 obtain⟨x,hx⟩:=yM hil
 obtain⟨p1,hp1,hR⟩:=h2.get hx
 obtain⟨Ax,kx,rfl,hbx⟩:=hR
 obtain⟨a1,ha1⟩:=hr.some_ (by omega)
 subst ha1
 refine Xr Gz<|J3 Y<|J6<|J1<|J7<|Rq<|Xm Y<|Xm Y<|OV (EI Jj xC Y Y Y hil Y)<|OV (EN xC Y (vs:=Dl x Ax kx) Y ((hr.to0 (HB.all H2)).elem hp hp1))<|Ae Gz<|OA xC H2<|fun w3 g3 H3 hg3=>OS xC H3 1 Y Y Y Y Y (by first|exact NL Y|simp[zG]) Y<|fun w4 H4=>Xr Gz<|J1<|Rq<|Xf wY Y<|OV (EL ty3 Y (H4.cell (i:=1) Y Y))<|Xm Y<|OT (uV Y Y) (fun hp41=>?_) (fun hp41=>?_)
 refine Xm Y<|Ae Gz<|Oz 5 Y<|Ae Gz<|Xt Y Y ?_
 have m2:=()
 rotate_left 1
 refine Xm Y<|Ae Gz<|OY Y<|Xf wY Y<|OY Y<|OV (EL ty3 Y (H4.cell (i:=1) Y Y))<|Ae Gz<|OY Y<|Xm Y<|OY Y<|OV (zL Y Y (Ad _ (by omega)))<|Ae Gz<|OY Y<|OT (wC Y Y) (fun Ot=>?_) (fun Ot=>?_)
 refine Xu Y Y ?_
 have m2:=()
 rotate_left 1
 refine Xu Y Y<|Xm Y<|Ae Gz<|OY Y<|Xf tA Y<|OY Y<|OV (EN vC Y (vs:=[Aa x.b.r,Aa x.b.n]) Y (H4.Ak (i:=1) Y Y))<|Ae Gz<|OY Y<|OX (EC P4 Y) (GH _ _) (fun Oq w5 Hd=>?_) (fun Oq w5 Hd=>?_)
 have H5:=H4.Ap Hd
 refine OY Y<|Xn Y<|Xu Y Y<|Xm Y<|Ae Gz<|OY Y<|OV (EN vC Y (vs:=[Aa p.r,Aa p.n]) Y (H5.Ak (i:=0) Y Y))<|OY Y<|Xf tA Y<|Ae Gz<|OY Y<|OV (EN vC Y (vs:=[Aa x.b.r,Aa x.b.n]) Y (H5.Ak (i:=1) Y Y))<|OY Y<|OX (EC P5 Y) (PH _ _ _) (fun Y7 w6 Hd=>?_) (fun Y7 w6 Hd=>?_)
 have H6:=H5.Ap Hd
 refine Xu Y Y<|Xm Y<|Ae Gz<|Oz 4 Y<|Ae Gz<|Xt Y Y<|Xr Gz<|J3 Y<|Rq<|Xa Y<|Xr Gz<|J5<|BR<|yN<|BR<|Cj Y Y ?_
 have hno:oT p first l=false:=by rw[nM (by omega) (by omega),hinv];exact sT hx fun hh=>hh.2.2.2.2.1 Y7
 exact⟨_,Y,(fun h=>by rw[hno]at h;cases h),fun _=>Y,(HB.all H6).Ag⟩
 have H6:=H5.Ap Hd
 refine Xu Y Y<|Xm Y<|Ae Gz<|OY Y<|Xf tO Y<|OY Y<|OV (EL xG Y (H6.cell (i:=1) Y Y))<|Ae Gz<|OY Y<|OV (ES Hf Y)<|OY Y<|OT (yP Y Y) (fun hp65=>?_) (fun hp65=>?_)
 refine Xu Y Y<|Xr Gz<|J3 Y<|Rq<|Xa Y<|Xr Gz<|J5<|BR<|yN<|BR<|Cj Y Y ?_
 have hno:oT p first l=false:=by rw[nM (by omega) (by omega),hinv];exact sT hx fun hh=>by omega
 exact⟨_,Y,(fun h=>by rw[hno]at h;cases h),fun _=>Y,(HB.all H6).Ag⟩
 refine Xu Y Y<|Xr Gz<|J4 Y<|J6<|J2<|Xf wY Y<|OV (EL ty3 Y (H6.cell (i:=1) Y Y))<|Xa Y<|Xr Gz<|zA (zD ?_)
 refine J2<|Xm Y<|OV (zL Y Y (Ad _ (by omega)))<|Xa Y<|Xr Gz<|zA (zH ?_)
 have hgo:=BZ (p:=p) (first:=first) (m:=m+1) hx ⟨by omega,by omega,Oq.1,Oq.2,Y7,by omega⟩
 exact⟨l.length - (i+1),by omega,i+1,_,x.slot,Y,(Qr Y Y Y Y Y Y),by omega,by omega,by rw[hinv,hgo],by omega,by omega,(HB.all H6).pick [0] (by decide)⟩
 have H5:=H4.Ap Hd
 refine OY Y<|Xn Y<|Xu Y Y<|Xm Y<|Ae Gz<|Oz 4 Y<|Ae Gz<|Xt Y Y<|Xm Y<|Ae Gz<|Oz 4 Y<|Ae Gz<|Xt Y Y<|Xr Gz<|J3 Y<|Rq<|Xa Y<|Xr Gz<|J5<|BR<|yN<|BR<|Cj Y Y ?_
 have hno:oT p first l=false:=by rw[nM (by omega) (by omega),hinv];exact sT hx fun hh=>Oq ⟨hh.2.2.1,hh.2.2.2.1⟩
 exact⟨_,Y,(fun h=>by rw[hno]at h;cases h),fun _=>Y,(HB.all H5).Ag⟩
 obtain rfl:i=l.length:=by omega
 refine Xr Gz<|J4 Y<|J8<|zT<|zS<|J1<|zQ 6 [(true,0),(true,1),(true,2),(false,3),(true,4),(false,5),(false,6)] H2 [0] yF (by decide) (by kernel_rfl) ?_
 rintro w3 hw3
 have H3:=Hp.drew H2;rw[← hw3]at H3
 refine MP Y<|MV (fun wz hz=>EN vC Y (vs:=[Aa p.r,Aa p.n]) Y (hz.Ak (i:=0) Y Y))<|Zm Y Y<|Zm Y Y<|MO Y ?_
 have hon:=h2.ones fun _ _ h=>h.ones
 refine yX Jj xC (by decide) (H3.nil 77) 1 (g:=none) (n:=0) (cap:=0) (xs:=[]) (sp:=[]) Y Y Y (by decide) (by decide) (fun _=>Y) Y (hr.to0 (HB.all H3)) (xF hon) (by omega) (by omega) (by decide)<|fun w4 gv cv sv H4 _ _ _=>OE<|⟨fun hne=>H4.pick [0] (by decide),?_⟩
 refine cZ Gz<|MP Y<|MV (fun wz hz=>EB VD VI Y Y)<|MO Y<|zW Y Y H4<|fun w5 g5 H5 hg5=>OE<|⟨fun hne=>H5.pick [0] (by decide),?_⟩
 refine cZ Gz<|MO Y<|Xa Y<|OE<|⟨fun hne=>absurd Y hne,?_⟩
 refine cZ Gz<|ME<|cR Gz<|J5<|Cj Y Y<|⟨_,Y,fun _=>⟨_,Y⟩,(fun h=>by rw[nM (by omega) (by omega),hinv,dM]at h;cases h),(HB.all H5).Ag⟩
 any_goals
  clear m3
  refine Xm Y<|Ae Gz<|Oz 8 Y<|Ae Gz<|Xt Y Y<|Xr Gz<|J3 Y<|Rq<|Xa Y<|Xr Gz<|J5<|Cj Y Y ?_
  have hno:oT p first l=false:=VM (by omega)
  exact⟨_,Y,(fun h=>by rw[hno]at h;cases h),fun _=>Y,H1.Ag⟩
 any_goals
  clear m2
  refine Xm Y<|Ae Gz<|Oz 4 Y<|Ae Gz<|Xt Y Y<|Xm Y<|Ae Gz<|Oz 4 Y<|Ae Gz<|Xt Y Y<|Xm Y<|Ae Gz<|Oz 4 Y<|Ae Gz<|Xt Y Y<|Xr Gz<|J3 Y<|Rq<|Xa Y<|Xr Gz<|J5<|BR<|yN<|BR<|Cj Y Y ?_
  have hno:oT p first l=false:=by rw[nM (by omega) (by omega),hinv];exact sT hx fun hh=>by omega
  exact⟨_,Y,(fun h=>by rw[hno]at h;cases h),fun _=>Y,(HB.all H4).Ag⟩
 any_goals
  clear m1
  refine Xm Y<|Ae Gz<|Oz 4 Y<|Ae Gz<|Xt Y Y<|Xm Y<|Ae Gz<|Oz 4 Y<|Ae Gz<|Xt Y Y<|Xm Y<|Ae Gz<|Oz 4 Y<|Ae Gz<|Xt Y Y<|Xr Gz<|J3 Y<|Rq<|Xa Y<|Xr Gz<|J5<|BR<|yN<|BR<|Cj Y Y ?_
  have hno:oT p first l=false:=by rw[nM (by omega) (by omega),hinv];exact sT hx fun hh=>by omega
  exact⟨_,Y,(fun h=>by rw[hno]at h;cases h),fun _=>Y,(HB.all H5).Ag⟩
theorem UV (s:Sv) (A1:Option Addr) (k1:Nat) (A2:Option Addr) (k2:Nat) (A3:Option Addr) (k3:Nat) (ok:Nat→Prop) (w0:World) (hv1:Sl (Oc w0 ok) 4 w0 ok A1 s.Bd) (hv2:Bs w0 ok A2 s.image) (hv3:Sl (Qu w0 ok) 2 w0 ok A3 s.entries) (hvl:s.Bd.length≤1000000000000) (hel2:s.entries.length≤2000000000000):Aj 96 #[Aa 1,Aa 5,.agg (Cb s A1 k1 A2 k2 A3 k3).toArray] w0 (fun r w'=>∃ e:Int,r=Aa e∧Ans (chk s) e∧Hp w0 w' [] []):=by
 refine zE Tryz.func96 Tryz.ntmps96 Y<|cR e109 ?_
 have H:=Hp.refl w0
 obtain⟨pe,hpe,hre,hae,he2⟩:=id hv3
 have hel:=he2.len
 refine Rq<|zW Y Y H<|fun w1 gs H1 _=>Xa Y<|Xr e109<|J1<|Rq<|Xm Y<|Qg (yR Y Y) (by decide)<|Xm Y<|Ae e109<|OY Y<|Xm Y<|OY Y<|Qg (yR Y Y) (by decide)<|Xt Y Y<|Xm Y<|Ae e109<|OY Y<|Xm Y<|OY Y<|Jt (yR Y Y) (by decide)<|Xt Y Y<|Xm Y<|Ae e109<|OY Y<|Xm Y<|OY Y<|Jt (zR Y Y) (by decide)<|Xu Y Y<|Xm Y<|Ae e109<|OY Y<|Xm Y<|OY Y<|Xm Y<|Ae e109 ?_
 refine OY Y<|Jt (yP Y Y) (by decide)<|Xu Y Y<|Xr e109<|J4 Y<|J6<|J1<|Rq<|Xf uZ Y<|OV (EN vC Y (vs:=Ij s) Y (H1.Ak (i:=0) Y Y))<|OV (EB vC GU Y Y)<|OT (qE Y Y) (fun Nv=>?_) (fun Nv=>?_)
 refine Xm Y<|Ae e109<|OY Y<|Xf uZ Y<|OY Y<|OV (EN vC Y (vs:=Ij s) Y (H1.Ak (i:=0) Y Y))<|Ae e109<|OY Y<|Xm Y<|OY Y<|OX (EC gf139 Y) (may9 _ _ _) (fun Zj w2 Hd=>?_) (fun Zj w2 Hd=>?_)
 have H2:=H1.Ap Hd
 refine OY Y<|Xn Y<|Xt Y Y<|Xm Y<|Ae e109<|OY Y<|Xf wX Y<|OY Y<|OV (EL ty3 Y (H2.cell (i:=0) Y Y))<|Ae e109<|OY Y<|OT (zR Y Y) (fun hp42=>?_) (fun hp42=>?_)
 refine Xu Y Y<|Xm Y<|Ae e109<|Oz 3 Y<|Ae e109<|Xt Y Y ?_
 have m5:=()
 rotate_left 1
 refine Xu Y Y<|Xm Y<|Ae e109<|OY Y<|Xf wX Y<|OY Y<|OV (EL ty3 Y (H2.cell (i:=0) Y Y))<|Ae e109<|OY Y<|OT (yP Y Y) (fun Ot=>?_) (fun Ot=>?_)
 refine Xu Y Y ?_
 have m5:=()
 rotate_left 1
 refine Xu Y Y<|Xm Y<|Ae e109<|OY Y<|Xf wX Y<|OY Y<|OV (EL ty3 Y (H2.cell (i:=0) Y Y))<|Ae e109<|OY Y<|OT (yU Y Y) (fun Oq=>?_) (fun Oq=>?_)
 refine OY Y<|Xm Y<|OY Y<|Xf uY Y<|Ae e109<|OY Y<|OV (EL xG Y (H2.cell (i:=0) Y Y))<|OY Y<|OV (ES Hf Y)<|Ae e109<|OY Y<|OT (yP Y Y) (fun hp57=>?_) (fun hp57=>?_)
 refine OY Y<|Xt Y Y<|Xu Y Y ?_
 have m3:=()
 rotate_left 1
 refine OY Y<|Xt Y Y ?_
 have m1:=()
 rotate_left 1
 refine OY Y<|Xm Y<|Oz 4 Y<|Ae e109<|OY Y<|Xu Y Y ?_
 have m1:=()
 rotate_left 1
 have H2:=H1.Ap Hd
 refine OY Y<|Xn Y<|Xt Y Y<|Xm Y<|Ae e109<|Oz 3 Y<|Ae e109<|Xt Y Y<|Xm Y<|Ae e109<|Oz 3 Y<|Ae e109<|Xt Y Y<|Xm Y<|Ae e109<|Oz 9 Y<|Ae e109<|Xt Y Y<|Xm Y<|Ae e109<|Oz 4 Y<|Ae e109 ?_
 refine Xt Y Y<|Xr e109<|J3 Y<|Rq<|Xa Y<|Xr e109<|J5<|Cj Y Y<|⟨_,Y,Ans.no (RA (by omega)),H2.Ag⟩
 refine Xm Y<|Ae e109<|Oz 5 Y<|Ae e109<|Xu Y Y<|Xm Y<|Ae e109<|OY Y<|Xf wX Y<|OY Y<|OV (EL ty3 Y (H1.cell (i:=0) Y Y))<|Ae e109<|OY Y<|OT (zR Y Y) (fun hp42=>?_) (fun hp42=>?_)
 refine Xu Y Y<|Xm Y<|Ae e109<|Oz 3 Y<|Ae e109<|Xt Y Y ?_
 have m6:=()
 rotate_left 1
 refine Xu Y Y<|Xm Y<|Ae e109<|OY Y<|Xf wX Y<|OY Y<|OV (EL ty3 Y (H1.cell (i:=0) Y Y))<|Ae e109<|OY Y<|OT (yP Y Y) (fun Ot=>?_) (fun Ot=>?_)
 refine Xu Y Y ?_
 have m6:=()
 rotate_left 1
 refine Xu Y Y<|Xm Y<|Ae e109<|OY Y<|Xf wX Y<|OY Y<|OV (EL ty3 Y (H1.cell (i:=0) Y Y))<|Ae e109<|OY Y<|OT (yU Y Y) (fun Oq=>?_) (fun Oq=>?_)
 refine OY Y<|Xm Y<|OY Y<|Xf uY Y<|Ae e109<|OY Y<|OV (EL xG Y (H1.cell (i:=0) Y Y))<|OY Y<|OV (ES Hf Y)<|Ae e109<|OY Y<|OT (yP Y Y) (fun hp57=>?_) (fun hp57=>?_)
 refine OY Y<|Xt Y Y<|Xu Y Y ?_
 have m4:=()
 rotate_left 1
 refine OY Y<|Xt Y Y ?_
 have m2:=()
 rotate_left 1
 refine OY Y<|Xm Y<|Oz 4 Y<|Ae e109<|OY Y<|Xu Y Y ?_
 have m2:=()
 rotate_left 1
 any_goals
  clear m6
  refine Xm Y<|Ae e109<|Oz 9 Y<|Ae e109<|Xt Y Y ?_
  have m4:=()
  rotate_left 1
 any_goals
  clear m5
  refine Xm Y<|Ae e109<|Oz 9 Y<|Ae e109<|Xt Y Y ?_
  have m3:=()
  rotate_left 1
 any_goals
  clear m4
  refine Xm Y<|Ae e109<|Oz 4 Y<|Ae e109<|Xt Y Y<|Xr e109<|J3 Y<|Rq<|Xa Y<|Xr e109<|J5<|Cj Y Y<|⟨_,Y,Ans.no (kI (by omega)),H1.Ag⟩
 any_goals
  clear m3
  refine Xm Y<|Ae e109<|Oz 4 Y<|Ae e109<|Xt Y Y<|Xr e109<|J3 Y<|Rq<|Xa Y<|Xr e109<|J5<|Cj Y Y<|⟨_,Y,Ans.no (kI (by omega)),H2.Ag⟩
 any_goals
  clear m2
  refine Xu Y Y<|Xm Y<|Ae e109<|OY Y<|Xf uY Y<|OY Y<|OV (EL xG Y (H1.cell (i:=0) Y Y))<|Ae e109<|OY Y<|OV (ES Hf Y)<|OY Y<|OT (yP Y Y) (fun Wx=>?_) (fun Wx=>?_)
  refine Xu Y Y<|Xr e109<|J3 Y<|Rq<|Xa Y<|Xr e109<|J5<|Cj Y Y<|⟨_,Y,Ans.no (kI (by omega)),H1.Ag⟩
  refine Xu Y Y<|Xr e109<|J4 Y<|J6<|Rq<|Xf wX Y<|OV (EL ty3 Y (H1.cell (i:=0) Y Y))<|Xa Y<|Xr e109<|J1<|Rq<|Xa Y<|Xr e109<|J7<|zU (fun nQ lQ w=>∃ (i:Nat) (y m:Int),s.entries.length - i=nQ∧xO (Ik [(1,Aa 5),(5,Ah gs),(7,Aa m),(8,Aa y)] 0 109) lQ∧y=(i:Int)∧m=s.index+i∧i≤s.entries.length∧tI s.index s.entries=tI (s.index+i) (s.entries.drop i)∧Hp w0 w [] [((some gs,97,Cb s A1 k1 A2 k2 A3 k3):Ent)]) (s.entries.length) ?_ ?_
  exact⟨0,_,_,Y,(Ja Y Y Y Y Y),Y,by simp,Am _,by simp,H1⟩
  rintro nQ lQ w2 ⟨i,y,m,rfl,hfit,rfl,hm,hi,hinv,H2⟩
  obtain⟨j,rfl⟩:=hfit.open
  refine cR e109 ?_
  clear hfit
  refine J1<|Rq<|Xm Y<|Xf wL Y<|OV (EL tX Y (H2.cell (i:=0) Y Y))<|OV (ES Na Y)<|Ae e109<|OT (zR Y Y) (fun hp72=>?_) (fun hp72=>?_)
  have hil:i < s.entries.length:=by omega
  obtain⟨x,hx⟩:=yM hil
  obtain⟨p1,hp1,hR⟩:=he2.get hx
  obtain⟨Ax,kx,rfl,hbx⟩:=hR
  obtain⟨a1,ha1⟩:=hre.some_ (by omega)
  subst ha1
  refine Xr e109<|J3 Y<|J6<|J1<|J7<|J1<|Rq<|Xf wL Y<|OV (EL tX Y (H2.cell (i:=0) Y Y))<|Xm Y<|OV (EI Na wJ Y Y Y hil Y)<|Ae e109<|OV (yJ xX Y)<|OV (EL ty3 Y (((hre.to0 H2).elem hpe hp1) 0 _ Y))<|Xm Y<|OV (zL Y Y (Ad _ (by omega)))<|Ae e109<|OT (yR Y Y) (fun hp83=>?_) (fun hp83=>?_)
  refine Xm Y<|Oz 3 Y<|Ae e109<|Xt Y Y<|Xm Y<|Ae e109<|Oz 8 Y<|Ae e109<|Xt Y Y<|Xr e109<|J3 Y<|Rq<|Xa Y<|Xr e109<|J5<|BR<|yN<|BR<|Cj Y Y<|⟨_,Y,Ans.no (qS (by rw[hinv];exact qR hx fun hh=>by omega)),H2.Ag⟩
  refine Xm Y<|OY Y<|Xm Y<|Ae e109<|OY Y<|OV (zL Y Y (Ad _ (by omega)))<|OY Y<|OT (yP Y Y) (fun hp87=>?_) (fun hp87=>?_)
  refine Xu Y Y<|Xm Y<|Ae e109<|Oz 8 Y<|Ae e109<|Xt Y Y<|Xr e109<|J3 Y<|Rq<|Xa Y<|Xr e109<|J5<|BR<|yN<|BR<|Cj Y Y<|⟨_,Y,Ans.no (qS (by rw[hinv];exact qR hx fun hh=>by omega)),H2.Ag⟩
  refine Xu Y Y<|Xm Y<|Ae e109<|OY Y<|Xf wL Y<|OY Y<|OV (EL tX Y (H2.cell (i:=0) Y Y))<|Ae e109<|OY Y<|Xm Y<|OY Y<|OV (EI Na wJ Y Y Y hil Y)<|Ae e109<|OY Y<|OV (yJ uH Y)<|OY Y<|OV (EL xG Y (((hre.to0 H2).elem hpe hp1) 1 _ Y))<|Ae e109<|OY Y<|OV (ES Hf Y)<|OY Y<|OT (yP Y Y) (fun hp97=>?_) (fun hp97=>?_)
  refine Xu Y Y<|Xr e109<|J3 Y<|Rq<|Xa Y<|Xr e109<|J5<|BR<|yN<|BR<|Cj Y Y<|⟨_,Y,Ans.no (qS (by rw[hinv];exact qR hx fun hh=>by omega)),H2.Ag⟩
  refine Xu Y Y<|Xr e109<|J4 Y<|J6<|J2<|Xm Y<|OV (zL Y Y (Ad _ (by omega)))<|Xa Y<|Xr e109<|zA (zD ?_)
  refine J2<|Xm Y<|OV (zL Y Y (Ad _ (by omega)))<|Xa Y<|Xr e109<|zA (zH ?_)
  have hgo:=C5 (m:=s.index+i) hx ⟨by omega,by omega,by omega⟩
  exact⟨s.entries.length - (i+1),by omega,i+1,_,_,Y,(Ja Y Y Y Y Y),by omega,by omega,by omega,by rw[hinv,hgo];congr 1;omega,H2.pick [0] (by decide)⟩
  obtain rfl:i=s.entries.length:=by omega
  have hent:=hinv.trans cC
  subst hm
  refine Xr e109<|J4 Y<|J8<|zT<|zS<|J1<|Rq<|Xf uZ Y<|OV (EN vC Y (vs:=Ij s) Y (H2.Ak (i:=0) Y Y))<|Xm Y<|OV (zL Y Y (Ad _ (by omega)))<|Ae e109<|Xf wM Y<|OV (EL tY Y (H2.cell (i:=0) Y Y))<|OQ (EC VW Y) (PF s.p (s.index+s.entries.length+1) A1 k1 s.Bd ok _ (hv1.Qi H2 k0) (by omega) (by omega)) ?_
  rintro _ w3 ⟨a,rfl,hyes,hno,Hd⟩
  have H3:=H2.Ap Hd
  rw[← C8 (by omega) (by omega) hent]at hyes hno
  refine OT (yE Tryz.underlying212 Y) (fun Ti=>?_) (fun Ti=>?_)
  refine Xr e109<|J3 rfl<|Rq<|Xa rfl<|Xr e109<|J5<|Cj rfl rfl<|⟨_,rfl,Ans.no (by cases hc:chk s with | false=>rfl | true=>obtain⟨x,hx⟩:=hyes hc;rw[hx]at Ti;cases Ti),H3.Ag⟩
  refine Xr e109<|J4 rfl<|J6<|Rq<|Xa rfl<|Xr e109<|J5<|Cj rfl rfl<|⟨_,rfl,Ans.ok (by cases hc:chk s with | true=>rfl | false=>exact absurd (hno hc) Ti),H3.Ag⟩
 any_goals
  clear m1
  refine Xu Y Y<|Xm Y<|Ae e109<|OY Y<|Xf uY Y<|OY Y<|OV (EL xG Y (H2.cell (i:=0) Y Y))<|Ae e109<|OY Y<|OV (ES Hf Y)<|OY Y<|OT (yP Y Y) (fun Wx=>?_) (fun Wx=>?_)
  refine Xu Y Y<|Xr e109<|J3 Y<|Rq<|Xa Y<|Xr e109<|J5<|Cj Y Y<|⟨_,Y,Ans.no (kI (by omega)),H2.Ag⟩
  refine Xu Y Y<|Xr e109<|J4 Y<|J6<|Rq<|Xf wX Y<|OV (EL ty3 Y (H2.cell (i:=0) Y Y))<|Xa Y<|Xr e109<|J1<|Rq<|Xa Y<|Xr e109<|J7<|zU (fun nQ lQ w=>∃ (i:Nat) (y m:Int),s.entries.length - i=nQ∧xO (Ik [(1,Aa 5),(5,Ah gs),(7,Aa m),(8,Aa y)] 0 109) lQ∧y=(i:Int)∧m=s.index+i∧i≤s.entries.length∧tI s.index s.entries=tI (s.index+i) (s.entries.drop i)∧Hp w0 w [] [((some gs,97,Cb s A1 k1 A2 k2 A3 k3):Ent)]) (s.entries.length) ?_ ?_
  exact⟨0,_,_,Y,(Ja Y Y Y Y Y),Y,by simp,Am _,by simp,H2⟩
  rintro nQ lQ w3 ⟨i,y,m,rfl,hfit,rfl,hm,hi,hinv,H3⟩
  obtain⟨j,rfl⟩:=hfit.open
  refine cR e109 ?_
  clear hfit
  refine J1<|Rq<|Xm Y<|Xf wL Y<|OV (EL tX Y (H3.cell (i:=0) Y Y))<|OV (ES Na Y)<|Ae e109<|OT (zR Y Y) (fun hp72=>?_) (fun hp72=>?_)
  have hil:i < s.entries.length:=by omega
  obtain⟨x,hx⟩:=yM hil
  obtain⟨p1,hp1,hR⟩:=he2.get hx
  obtain⟨Ax,kx,rfl,hbx⟩:=hR
  obtain⟨a1,ha1⟩:=hre.some_ (by omega)
  subst ha1
  refine Xr e109<|J3 Y<|J6<|J1<|J7<|J1<|Rq<|Xf wL Y<|OV (EL tX Y (H3.cell (i:=0) Y Y))<|Xm Y<|OV (EI Na wJ Y Y Y hil Y)<|Ae e109<|OV (yJ xX Y)<|OV (EL ty3 Y (((hre.to0 H3).elem hpe hp1) 0 _ Y))<|Xm Y<|OV (zL Y Y (Ad _ (by omega)))<|Ae e109<|OT (yR Y Y) (fun hp83=>?_) (fun hp83=>?_)
  refine Xm Y<|Oz 3 Y<|Ae e109<|Xt Y Y<|Xm Y<|Ae e109<|Oz 8 Y<|Ae e109<|Xt Y Y<|Xr e109<|J3 Y<|Rq<|Xa Y<|Xr e109<|J5<|BR<|yN<|BR<|Cj Y Y<|⟨_,Y,Ans.no (qS (by rw[hinv];exact qR hx fun hh=>by omega)),H3.Ag⟩
  refine Xm Y<|OY Y<|Xm Y<|Ae e109<|OY Y<|OV (zL Y Y (Ad _ (by omega)))<|OY Y<|OT (yP Y Y) (fun hp87=>?_) (fun hp87=>?_)
  refine Xu Y Y<|Xm Y<|Ae e109<|Oz 8 Y<|Ae e109<|Xt Y Y<|Xr e109<|J3 Y<|Rq<|Xa Y<|Xr e109<|J5<|BR<|yN<|BR<|Cj Y Y<|⟨_,Y,Ans.no (qS (by rw[hinv];exact qR hx fun hh=>by omega)),H3.Ag⟩
  refine Xu Y Y<|Xm Y<|Ae e109<|OY Y<|Xf wL Y<|OY Y<|OV (EL tX Y (H3.cell (i:=0) Y Y))<|Ae e109<|OY Y<|Xm Y<|OY Y<|OV (EI Na wJ Y Y Y hil Y)<|Ae e109<|OY Y<|OV (yJ uH Y)<|OY Y<|OV (EL xG Y (((hre.to0 H3).elem hpe hp1) 1 _ Y))<|Ae e109<|OY Y<|OV (ES Hf Y)<|OY Y<|OT (yP Y Y) (fun hp97=>?_) (fun hp97=>?_)
  refine Xu Y Y<|Xr e109<|J3 Y<|Rq<|Xa Y<|Xr e109<|J5<|BR<|yN<|BR<|Cj Y Y<|⟨_,Y,Ans.no (qS (by rw[hinv];exact qR hx fun hh=>by omega)),H3.Ag⟩
  refine Xu Y Y<|Xr e109<|J4 Y<|J6<|J2<|Xm Y<|OV (zL Y Y (Ad _ (by omega)))<|Xa Y<|Xr e109<|zA (zD ?_)
  refine J2<|Xm Y<|OV (zL Y Y (Ad _ (by omega)))<|Xa Y<|Xr e109<|zA (zH ?_)
  have hgo:=C5 (m:=s.index+i) hx ⟨by omega,by omega,by omega⟩
  exact⟨s.entries.length - (i+1),by omega,i+1,_,_,Y,(Ja Y Y Y Y Y),by omega,by omega,by omega,by rw[hinv,hgo];congr 1;omega,H3.pick [0] (by decide)⟩
  obtain rfl:i=s.entries.length:=by omega
  have hent:=hinv.trans cC
  subst hm
  refine Xr e109<|J4 Y<|J8<|zT<|zS<|J1<|Rq<|Xf uZ Y<|OV (EN vC Y (vs:=Ij s) Y (H3.Ak (i:=0) Y Y))<|Xm Y<|OV (zL Y Y (Ad _ (by omega)))<|Ae e109<|Xf wM Y<|OV (EL tY Y (H3.cell (i:=0) Y Y))<|OQ (EC VW Y) (PF s.p (s.index+s.entries.length+1) A1 k1 s.Bd ok _ (hv1.Qi H3 k0) (by omega) (by omega)) ?_
  rintro _ w4 ⟨a,rfl,hyes,hno,Hd⟩
  have H4:=H3.Ap Hd
  rw[← C8 (by omega) (by omega) hent]at hyes hno
  refine OT (yE Tryz.underlying212 Y) (fun Ti=>?_) (fun Ti=>?_)
  refine Xr e109<|J3 rfl<|Rq<|Xa rfl<|Xr e109<|J5<|Cj rfl rfl<|⟨_,rfl,Ans.no (by cases hc:chk s with | false=>rfl | true=>obtain⟨x,hx⟩:=hyes hc;rw[hx]at Ti;cases Ti),H4.Ag⟩
  refine Xr e109<|J4 rfl<|J6<|Rq<|Xa rfl<|Xr e109<|J5<|Cj rfl rfl<|⟨_,rfl,Ans.ok (by cases hc:chk s with | true=>rfl | false=>exact absurd (hno hc) Ti),H4.Ag⟩
set_option maxHeartbeats 32000000
theorem PM (b:Bo) (A1:Option Addr) (k1:Nat) (A2:Option Addr) (k2:Nat) (A3:Option Addr) (k3:Nat) (n:Nt) (B1:Option Addr) (j1:Nat) (B2:Option Addr) (j2:Nat) (ok:Nat→Prop) (N:Nat) (w0:World) (hb1:Sl (Rl w0 ok) 6 w0 ok A1 b.groups) (hb2:Sl Px 4 w0 ok A2 b.rights) (hb3:Sl Pq 7 w0 ok A3 b.last) (hbv:Bs w0 ok B1 n.Eb.val) (hbe:Bs w0 ok B2 n.entry.val) (hg:rU b N) (hN:N≤900000000000) (hc2:b.rights.length≤k2):Aj 48 #[.agg (Az A1 b k1 A2 k2 A3 k3).toArray,.agg (Dv n B1 j1 B2 j2).toArray] w0 (fun r w'=>∃ X1 m1 x1 X2 m2 x2 X3 m3 x3 f,r=.tuple #[.agg [Ac X1 m1 x1,Ac X2 m2 x2,Ac X3 m3 x3].toArray,.bool f]∧(∀ b',b.into n=some b'→f=true∧Sj w' (up ok w0.heap.size) [Ac X1 m1 x1,Ac X2 m2 x2,Ac X3 m3 x3] b'∧m2≤x2)∧(b.into n=none→f=false)∧Hp w0 w' [] []):=by
 refine zE Tryz.func48 Tryz.ntmps48 Y<|cR Ee ?_
 have H:=Hp.refl w0
 obtain⟨pg,hpg,hrg,hag,h2g⟩:=id hb1
 have hgl:=h2g.len
 have h8:=hg.eight
 have hong:=h2g.ones fun _ _ h=>h.ones
 refine Rq<|zW Y Y H<|fun w1 gb H1 _=>zW Y Y H1<|fun w2 gn H2 _=>OA xH H2<|fun w3 gr H3 _=>Xa Y<|Xr Ee<|J1<|Rq<|Xf qP Y<|OV (EL ty3 Y (H3.cell (i:=1) Y Y))<|OT (yU Y Y) (fun hp14=>?_) (fun hp14=>?_)
 refine Xr Ee<|J3 Y<|Rq<|Xf rP Y<|OV (EL gA Y (H3.cell (i:=0) Y Y))<|Xf kB Y<|OV (EN xR Y (vs:=Qy n) Y (H3.Ak (i:=1) Y Y))<|Ae Ee ?_
 have Zo:=Hp.fresh H3
 have hsz9:=H3.size
 refine OQ (EC gf90 Y) (put16 n.right A2 k2 b.rights ok _ (hb2.toR H3 k0) (by have:=hg.few;omega) hg.rts) ?_
 rintro r w4 ⟨hyes,hno,Hd⟩
 have HP:=H3.Ap Hd
 have H4:=HP.here
 have hszP:=HP.size
 by_cases hmay:nK n.right
 obtain⟨A9,k9,rfl,hA9,YH⟩:=hyes hmay
 refine Xm Y<|Xe Y Y<|Xe Y Y<|Xa Y<|Ae Ee<|Xa Y<|Xr Ee<|J1<|Rq<|Xm Y<|Jt (yR Y Y) (by decide)<|Xr Ee<|J4 Y<|J6<|Rq<|Xm Y<|Xf rP Y<|OW gA H4 0 Y Y Y Y (by first | (simp;done) | simp[zG]) Y<|fun w5 H5=>Xr Ee<|Rq<|Xf tP Y<|OV (EL mX Y (H5.cell (i:=0) Y Y))<|Xf uQ Y<|OV (EL ty3 Y (H5.cell (i:=1) Y Y))<|Ae Ee<|OQ (EC gf91 Y) (QM A3 k3 b.last n.client ok _ (hb3.toM (HP.all H5) k0) hg.Yk) ?_
 rintro r w6 ⟨hyes2,hno2,Hd⟩
 have H6:=H5.Ap Hd
 cases hfm:Fj b.last n.client
 obtain rfl:=hno2 hfm
 refine Xm Y<|Xe Y Y<|Xe Y Y<|OA yQ H6<|fun w7 gz H7 _=>Ae Ee<|OS yQ H7 3 (vs:=[Aa (⟨0,0⟩:Mk).client,Aa (⟨0,0⟩:Mk).seq,.bool false,Aa 0,Aa 0,Aa 0,Aa 0]) Y Y Y Y Y (Ai 7) Y<|fun w8 H8=>Xa Y<|Xr Ee<|J1<|Rq<|Xf uQ Y<|OV (EL ty3 Y (H8.cell (i:=1) Y Y))<|OX (EC gf92 Y) (FW _ _) (fun hp38 w9 Hd=>?_) (fun hp38 w9 Hd=>?_)
 have H9:=H8.Ap Hd
 refine Xm Y<|Ae Ee<|OY Y<|Xf tN Y<|OY Y<|OV (EL ty3 Y (H9.cell (i:=1) Y Y))<|Ae Ee<|OY Y<|OX (EC gf93 Y) (VG _ _) (fun hp42 w10 Hd=>?_) (fun hp42 w10 Hd=>?_)
 have Df:=H9.Ap Hd
 refine Xt Y Y<|Xm Y<|Ae Ee<|OY Y<|Xm Y<|OY Y<|Xn Y<|Ae Ee<|OY Y<|Xm Y<|Oz 5 Y<|Ae Ee<|OY Y<|Xt Y Y<|Xt Y Y<|Xr Ee<|J3 Y<|J2<|Xf tP Y<|OV (EL mX Y (Df.cell (i:=0) Y Y))<|Xf uQ Y<|OV (EL ty3 Y (Df.cell (i:=1) Y Y))<|Ae Ee<|Xf tN Y<|OV (EL ty3 Y (Df.cell (i:=1) Y Y))<|OV (EB yQ dD Y Y) ?_
 have hnp8:=Hp.fresh Df
 have hsz8:=Df.size
 refine OQ (EC gf94 Y) (M8 A3 k3 b.last (⟨n.client,n.seq⟩:Mk) ok _ (hb3.toM (HP.all Df) k0) hg.Yk hp38 hp42) ?_
 rintro _ Nu ⟨A8,k8,rfl,hA8,Hd⟩
 have HX:=Df.Ap Hd
 have Eh:=HX.here
 refine Ae Ee<|Xf tP Y<|OW mX Eh 0 Y Y Y Y (by first | (simp;done) | simp[zG]) Y<|fun w12 Gi=>Xr Ee<|Rq<|OV (EN xH Y (vs:=Tz A1 b k1 A9 (Hg b.rights n.right).length k9 A8 (uN b.last ⟨n.client,n.seq⟩).length k8) Y (Gi.Ak (i:=0) Y Y))<|OS xH Gi 2 Y Y Y Y Y (by first|exact NL Y|simp[zG]) Y<|fun Sm Il=>Xa Y<|Xr Ee<|J5<|xN Y xH (cs:=Tz A1 b k1 A9 (Hg b.rights n.right).length k9 A8 (uN b.last ⟨n.client,n.seq⟩).length k8) Y Y Y (Il.Ak (i:=2) Y Y) ?_
 have HW:=HP.all (HX.all Il)
 refine⟨A1,_,k1,A9,_,k9,_,_,_,true,Y,(fun b' hb'=>?_),(fun hb'=>by rw[vI hp14 hmay]at hb';cases hb'),HW.Ag⟩
 rw[vI hp14 hmay]at hb'
 simp only[Option.some.injEq]at hb'
 subst hb'
 refine⟨Y,⟨A1,k1,A9,k9,A8,k8,?_,hb1.toS HW vD,hA9.toR (HX.all Il) (fun x hx _=>⟨Zo x hx,.inr (by have:=hx;omega)⟩),?_⟩,YH⟩
 show _=[_,_,Ac _ (uT b.last n.client n.seq).length _]
 rw[kV (by omega) hfm]
 show Sl Pq 7 _ _ _ (uT b.last n.client n.seq)
 rw[kV (by omega) hfm]
 exact hA8.toM Il (fun x hx _=>⟨hnp8 x hx,.inr (by have:=hx;omega)⟩)
 have m4:=()
 rotate_left 1
 have m3:=()
 rotate_left 1
 rename_i o
 obtain rfl:=hyes2 o hfm
 refine Xm Y<|Xe Y Y<|Xe Y Y<|OA yQ H6<|fun w7 gz H7 _=>Ae Ee<|OS yQ H7 3 (vs:=[Aa o.client,Aa o.seq,.bool false,Aa 0,Aa 0,Aa 0,Aa 0]) Y Y Y Y Y (Ai 7) Y<|fun w8 H8=>Xa Y<|Xr Ee<|J1<|Rq<|Xf uQ Y<|OV (EL ty3 Y (H8.cell (i:=1) Y Y))<|OX (EC gf92 Y) (FW _ _) (fun hp38 w9 Hd=>?_) (fun hp38 w9 Hd=>?_)
 have H9:=H8.Ap Hd
 refine Xm Y<|Ae Ee<|OY Y<|Xf tN Y<|OY Y<|OV (EL ty3 Y (H9.cell (i:=1) Y Y))<|Ae Ee<|OY Y<|OX (EC gf93 Y) (VG _ _) (fun hp42 w10 Hd=>?_) (fun hp42 w10 Hd=>?_)
 have Df:=H9.Ap Hd
 refine Xt Y Y<|Xm Y<|Ae Ee<|OY Y<|Xm Y<|OY Y<|Xn Y<|Ae Ee<|OY Y<|Xm Y<|OY Y<|Xf tN Y<|Ae Ee<|OY Y<|OV (EL ty3 Y (Df.cell (i:=1) Y Y))<|OY Y<|Xf jM Y<|Ae Ee<|OY Y<|OV (EL ty3 Y (Df.cell (i:=3) Y Y))<|OY Y<|OT (yP Y Y) (fun Oq=>?_) (fun Oq=>?_)
 refine OY Y<|Xu Y Y<|Xt Y Y<|Xr Ee<|J3 Y<|J2<|Xf tP Y<|OV (EL mX Y (Df.cell (i:=0) Y Y))<|Xf uQ Y<|OV (EL ty3 Y (Df.cell (i:=1) Y Y))<|Ae Ee<|Xf tN Y<|OV (EL ty3 Y (Df.cell (i:=1) Y Y))<|OV (EB yQ dD Y Y) ?_
 have hnp8:=Hp.fresh Df
 have hsz8:=Df.size
 refine OQ (EC gf94 Y) (M8 A3 k3 b.last (⟨n.client,n.seq⟩:Mk) ok _ (hb3.toM (HP.all Df) k0) hg.Yk hp38 hp42) ?_
 rintro _ Nu ⟨A8,k8,rfl,hA8,Hd⟩
 have HX:=Df.Ap Hd
 have Eh:=HX.here
 refine Ae Ee<|Xf tP Y<|OW mX Eh 0 Y Y Y Y (by first | (simp;done) | simp[zG]) Y<|fun w12 Gi=>Xr Ee<|Rq<|OV (EN xH Y (vs:=Tz A1 b k1 A9 (Hg b.rights n.right).length k9 A8 (uN b.last ⟨n.client,n.seq⟩).length k8) Y (Gi.Ak (i:=0) Y Y))<|OS xH Gi 2 Y Y Y Y Y (by first|exact NL Y|simp[zG]) Y<|fun Sm Il=>Xa Y<|Xr Ee<|J5<|xN Y xH (cs:=Tz A1 b k1 A9 (Hg b.rights n.right).length k9 A8 (uN b.last ⟨n.client,n.seq⟩).length k8) Y Y Y (Il.Ak (i:=2) Y Y) ?_
 have HW:=HP.all (HX.all Il)
 refine⟨A1,_,k1,A9,_,k9,_,_,_,true,Y,(fun b' hb'=>?_),(fun hb'=>by rw[vI hp14 hmay]at hb';cases hb'),HW.Ag⟩
 rw[vI hp14 hmay]at hb'
 simp only[Option.some.injEq]at hb'
 subst hb'
 refine⟨Y,⟨A1,k1,A9,k9,A8,k8,?_,hb1.toS HW vD,hA9.toR (HX.all Il) (fun x hx _=>⟨Zo x hx,.inr (by have:=hx;omega)⟩),?_⟩,YH⟩
 show _=[_,_,Ac _ (uT b.last n.client n.seq).length _]
 rw[nW (by omega) hfm (by omega)]
 show Sl Pq 7 _ _ _ (uT b.last n.client n.seq)
 rw[nW (by omega) hfm (by omega)]
 exact hA8.toM Il (fun x hx _=>⟨hnp8 x hx,.inr (by have:=hx;omega)⟩)
 refine OY Y<|Xu Y Y<|Xt Y Y<|Xr Ee<|J4 Y<|J6<|Rq<|OV (EN xH Y (vs:=Qd A1 b k1 A9 (Hg b.rights n.right).length k9 A3 k3) Y (Df.Ak (i:=0) Y Y))<|OS xH Df 2 Y Y Y Y Y (by first|exact NL Y|simp[zG]) Y<|fun Nu Eh=>Xa Y<|Xr Ee<|J5<|xN Y xH (cs:=Qd A1 b k1 A9 (Hg b.rights n.right).length k9 A3 k3) Y Y Y (Eh.Ak (i:=2) Y Y) ?_
 have HW:=HP.all Eh
 refine⟨A1,_,k1,A9,_,k9,_,_,_,true,Y,(fun b' hb'=>?_),(fun hb'=>by rw[vI hp14 hmay]at hb';cases hb'),HW.Ag⟩
 rw[vI hp14 hmay]at hb'
 simp only[Option.some.injEq]at hb'
 subst hb'
 refine⟨Y,⟨A1,k1,A9,k9,A3,k3,?_,hb1.toS HW vD,hA9.toR Eh (fun x hx _=>⟨Zo x hx,.inr (by have:=hx;omega)⟩),?_⟩,YH⟩
 show _=[_,_,Ac _ (uT b.last n.client n.seq).length _]
 rw[kW hfm (by omega)]
 show Sl Pq 7 _ _ _ (uT b.last n.client n.seq)
 rw[kW hfm (by omega)]
 exact hb3.toM HW vD
 have m4:=()
 rotate_left 1
 have m3:=()
 rotate_left 1
 obtain rfl:=hno hmay
 refine Xm Y<|Xe Y Y<|Xe Y Y<|Xa Y<|Ae Ee<|Xa Y<|Xr Ee<|J1<|Rq<|Xm Y<|Qg (yR Y Y) (by decide)<|Xr Ee<|J3 Y<|Rq<|OV (EN xH Y (vs:=Az A1 b k1 A2 k2 A3 k3) Y (H4.Ak (i:=0) Y Y))<|OS xH H4 2 Y Y Y Y Y (by first|exact NL Y|simp[zG]) Y<|fun w5 H5=>Xa Y<|Xr Ee<|J5<|xN Y xH (cs:=Az A1 b k1 A2 k2 A3 k3) Y Y Y (H5.Ak (i:=2) Y Y)<|⟨_,_,_,_,_,_,_,_,_,false,Y,(fun b' hb'=>by rw[bT hp14 hmay]at hb';cases hb'),fun _=>Y,(HP.all H5).Ag⟩
 refine Xr Ee<|J4 Y<|J6<|J1<|Rq<|Xf qP Y<|OV (EL ty3 Y (H3.cell (i:=1) Y Y))<|OT (zR Y Y) (fun Wv=>?_) (fun Wv=>?_)
 refine Xm Y<|Ae Ee<|Oz 3 Y<|Ae Ee<|Xt Y Y ?_
 have m5:=()
 rotate_left 1
 refine Xm Y<|Ae Ee<|OY Y<|Xf qP Y<|OY Y<|OV (EL ty3 Y (H3.cell (i:=1) Y Y))<|Ae Ee<|OY Y<|OT (yP Y Y) (fun hp71=>?_) (fun hp71=>?_)
 refine Xu Y Y ?_
 have m5:=()
 rotate_left 1
 refine Xu Y Y<|Xm Y<|Ae Ee<|OY Y<|Xf fl81_1 Y<|OY Y<|OV (EL ty3 Y (H3.cell (i:=1) Y Y))<|Ae Ee<|OY Y<|OT (zR Y Y) (fun hp76=>?_) (fun hp76=>?_)
 refine Xu Y Y<|Xm Y<|Ae Ee<|Oz 3 Y<|Ae Ee<|Xt Y Y ?_
 have m2:=()
 rotate_left 1
 refine Xu Y Y<|Xm Y<|Ae Ee<|OY Y<|Xf fl81_1 Y<|OY Y<|OV (EL ty3 Y (H3.cell (i:=1) Y Y))<|Ae Ee<|OY Y<|OT (wC Y Y) (fun Zg=>?_) (fun Zg=>?_)
 refine Xu Y Y ?_
 have m2:=()
 rotate_left 1
 obtain⟨s,hs⟩:=yM (l:=b.groups) (j:=n.group.toNat) (by omega)
 have hsl:=lt_of_get hs
 obtain⟨p1,hp1,hR⟩:=h2g.get hs
 obtain⟨C1,q1,C2,q2,C3,q3,rfl,hv1,hv2,hv3⟩:=hR
 obtain⟨a1,ha1⟩:=hrg.some_ (by omega)
 subst ha1
 have hce:=(tC s).1 (hg.chk s (mem_of hs))
 have Yl:=oC hce
 have Tn:=pY hce
 have Yn:=nO s n
 refine Xu Y Y<|Xr Ee<|J4 Y<|J6<|J1<|qJ 9 (.p 0 (.p 1 (.p 2 (.p 3 (.p 4 (.p 5 (.p 6 (.two 7 (.o 8 (.o 9 .nil)) 8 (.o 7 (.o 9 .nil)))))))))) H3 [0,1,2] yF (by decide) (by kernel_rfl) ?_
 rintro w4 hw4
 have H4:=Hp.drew H3;rw[← hw4]at H4
 refine Tf Y vW Y<|TP Y<|MV (fun wz hz=>EL qX Y (hz.cell (i:=0) Y Y))<|Tf Y fl81_1 Y<|TP Y<|MV (fun wz hz=>EL ty3 Y (hz.cell (i:=1) Y Y))<|cT Ee<|TP Y<|MV (fun wz hz=>EI Ub xY Y Y (len:=b.groups.length) (i:=n.group.toNat) (by omega) (by omega) Y)<|TP Y<|MV (fun wz hz=>EN xY Y (vs:=Cb s C1 q1 C2 q2 C3 q3) Y ((hrg.to0 hz).elem hpg hp1))<|TP Y<|MV (fun wz hz=>EN xT Y (vs:=Dv n B1 j1 B2 j2) Y (hz.Ak (i:=1) Y Y))<|pU ?_ ?_
 refine TQ Y ?_
 have hnp:=Hp.fresh H4
 have Y0:=H4.size
 have hpl:=bl_place H4
 refine OQ (EC gf95 rfl) (PW s C1 q1 C2 q2 C3 q3 n B1 j1 B2 j2 (fun x=>ok x∧x < w0.heap.size) _ (hv1.Qi H4 (fun x hx hl=>⟨by simp,hx,hl⟩)) (hv2.to H4 (fun x hx hl=>⟨by simp,hx,hl⟩)) (hv3.Si H4 (fun x hx hl=>⟨by simp,hx,hl⟩)) (hbv.to H4 (fun x hx hl=>⟨by simp,hx,hl⟩)) (hbe.to H4 (fun x hx hl=>⟨by simp,hx,hl⟩)) ⟨by omega,by omega⟩ ⟨hce.i.1,hce.i.2.1⟩ Tn (by omega) (fun x hx=>by obtain⟨i,hi⟩:=Dh hx;exact(qF hce.e i x hi).2.1)) ?_
 rintro _ w5 ⟨cs2,rfl,hsv,Hd⟩
 have HG:=H4.Ap Hd
 have HL:=HG.here
 have H5:=HG
 obtain⟨D1,e1,D2,e2,D3,e3,rfl,hw1,hw2,hw3⟩:=hsv
 have hnk:∀ x,up (fun x=>ok x∧x < w0.heap.size) w4.heap.size x→x∉bl _:=fun x hx hb=>(show False from by
  rcases hx with hx | hx
  · rcases hpl x hb with h | h
    · cases h
    have:=hx.2;omega
  exact hnp x hx hb)
 have hkk:∀ x,up (fun x=>ok x∧x < w0.heap.size) w4.heap.size x→x < w5.heap.size→x∉bl _∧up ok w0.heap.size x:=fun x hx _=>⟨hnk x hx,by
  rcases hx with hx | hx
  · exact .inl hx.1
  exact .inr (by omega)⟩
 refine OE ?_
 refine⟨fun hne=>H5.pick [0,1,2] (by decide),?_⟩
 refine cT Ee<|TQ Y<|OA xY HL<|fun w6 gs HL2 _=>have H6:=HG.all HL2;OE<|⟨fun hne=>H6.pick [0,1,2] (by decide),?_⟩
 refine cT Ee<|TQ Y<|OS xY HL2 3 (vs:=Cb (s.goes n) D1 e1 D2 e2 D3 e3) Y Y Y Y Y (Ai 6) Y ?_
 have m1:=()
 rotate_left 1
 refine TQ Y<|OA xY H4<|fun w5 gs H5 _=>OE<|⟨fun hne=>H5.pick [0,1,2] (by decide),?_⟩
 refine cT Ee<|TQ Y ?_
 have hnp:=Hp.fresh H5
 have Y0:=H5.size
 have hpl:=bl_place H5
 refine OQ (EC gf95 rfl) (PW s C1 q1 C2 q2 C3 q3 n B1 j1 B2 j2 (fun x=>ok x∧x < w0.heap.size) _ (hv1.Qi H5 (fun x hx hl=>⟨by simp,hx,hl⟩)) (hv2.to H5 (fun x hx hl=>⟨by simp,hx,hl⟩)) (hv3.Si H5 (fun x hx hl=>⟨by simp,hx,hl⟩)) (hbv.to H5 (fun x hx hl=>⟨by simp,hx,hl⟩)) (hbe.to H5 (fun x hx hl=>⟨by simp,hx,hl⟩)) ⟨by omega,by omega⟩ ⟨hce.i.1,hce.i.2.1⟩ Tn (by omega) (fun x hx=>by obtain⟨i,hi⟩:=Dh hx;exact(qF hce.e i x hi).2.1)) ?_
 rintro _ w6 ⟨cs2,rfl,hsv,Hd⟩
 have HG:=H5.Ap Hd
 have HL:=HG.here
 have H6:=HG
 obtain⟨D1,e1,D2,e2,D3,e3,rfl,hw1,hw2,hw3⟩:=hsv
 have hnk:∀ x,up (fun x=>ok x∧x < w0.heap.size) w5.heap.size x→x∉bl _:=fun x hx hb=>(show False from by
  rcases hx with hx | hx
  · rcases hpl x hb with h | h
    · cases h
    have:=hx.2;omega
  exact hnp x hx hb)
 have hkk:∀ x,up (fun x=>ok x∧x < w0.heap.size) w5.heap.size x→x < w6.heap.size→x∉bl _∧up ok w0.heap.size x:=fun x hx _=>⟨hnk x hx,by
  rcases hx with hx | hx
  · exact .inl hx.1
  exact .inr (by omega)⟩
 refine OE ?_
 refine⟨fun hne=>H6.pick [0,1,2] (by decide),?_⟩
 refine cT Ee<|TQ Y<|OS xY HL 3 (vs:=Cb (s.goes n) D1 e1 D2 e2 D3 e3) Y Y Y Y Y (Ai 6) Y ?_
 have m1:=()
 rotate_left 1
 any_goals
  clear m5
  refine Xm Y<|Ae Ee<|Oz 3 Y<|Ae Ee<|Xt Y Y<|Xm Y<|Ae Ee<|Oz 3 Y<|Ae Ee<|Xt Y Y ?_
  have m2:=()
  rotate_left 1
 any_goals
  clear m4
  have Df:=H9.Ap Hd
  refine Xt Y Y<|Xm Y<|Ae Ee<|Oz 9 Y<|Ae Ee<|Xu Y Y<|Xr Ee<|J4 Y<|J6<|Rq<|OV (EN xH Y (vs:=Qd A1 b k1 A9 (Hg b.rights n.right).length k9 A3 k3) Y (Df.Ak (i:=0) Y Y))<|OS xH Df 2 Y Y Y Y Y (by first|exact NL Y|simp[zG]) Y<|fun Nu Eh=>Xa Y<|Xr Ee<|J5<|xN Y xH (cs:=Qd A1 b k1 A9 (Hg b.rights n.right).length k9 A3 k3) Y Y Y (Eh.Ak (i:=2) Y Y) ?_
  have HW:=HP.all Eh
  refine⟨A1,_,k1,A9,_,k9,_,_,_,true,Y,(fun b' hb'=>?_),(fun hb'=>by rw[vI hp14 hmay]at hb';cases hb'),HW.Ag⟩
  rw[vI hp14 hmay]at hb'
  simp only[Option.some.injEq]at hb'
  subst hb'
  refine⟨Y,⟨A1,k1,A9,k9,A3,k3,?_,hb1.toS HW vD,hA9.toR Eh (fun x hx _=>⟨Zo x hx,.inr (by have:=hx;omega)⟩),?_⟩,YH⟩
  show _=[_,_,Ac _ (uT b.last n.client n.seq).length _]
  rw[qI (by omega)]
  show Sl Pq 7 _ _ _ (uT b.last n.client n.seq)
  rw[qI (by omega)]
  exact hb3.toM HW vD
 any_goals
  clear m3
  have H9:=H8.Ap Hd
  refine Xm Y<|Ae Ee<|Oz 3 Y<|Ae Ee<|Xu Y Y<|Xm Y<|Ae Ee<|Oz 9 Y<|Ae Ee<|Xu Y Y<|Xr Ee<|J4 Y<|J6<|Rq<|OV (EN xH Y (vs:=Qd A1 b k1 A9 (Hg b.rights n.right).length k9 A3 k3) Y (H9.Ak (i:=0) Y Y))<|OS xH H9 2 Y Y Y Y Y (by first|exact NL Y|simp[zG]) Y<|fun w10 Df=>Xa Y<|Xr Ee<|J5<|xN Y xH (cs:=Qd A1 b k1 A9 (Hg b.rights n.right).length k9 A3 k3) Y Y Y (Df.Ak (i:=2) Y Y) ?_
  have HW:=HP.all Df
  refine⟨A1,_,k1,A9,_,k9,_,_,_,true,Y,(fun b' hb'=>?_),(fun hb'=>by rw[vI hp14 hmay]at hb';cases hb'),HW.Ag⟩
  rw[vI hp14 hmay]at hb'
  simp only[Option.some.injEq]at hb'
  subst hb'
  refine⟨Y,⟨A1,k1,A9,k9,A3,k3,?_,hb1.toS HW vD,hA9.toR Df (fun x hx _=>⟨Zo x hx,.inr (by have:=hx;omega)⟩),?_⟩,YH⟩
  show _=[_,_,Ac _ (uT b.last n.client n.seq).length _]
  rw[qI (by omega)]
  show Sl Pq 7 _ _ _ (uT b.last n.client n.seq)
  rw[qI (by omega)]
  exact hb3.toM HW vD
 any_goals
  clear m2
  refine Xr Ee<|J3 Y<|Rq<|OV (EN xH Y (vs:=Az A1 b k1 A2 k2 A3 k3) Y (H3.Ak (i:=0) Y Y))<|OS xH H3 2 Y Y Y Y Y (by first|exact NL Y|simp[zG]) Y<|fun w4 H4=>Xa Y<|Xr Ee<|J5<|xN Y xH (cs:=Az A1 b k1 A2 k2 A3 k3) Y Y Y (H4.Ak (i:=2) Y Y)<|⟨_,_,_,_,_,_,_,_,_,false,Y,(fun b' hb'=>by rw[E4 hp14 (by omega)]at hb';cases hb'),fun _=>Y,H4.Ag⟩
 any_goals
  clear m1
  intro w7 H7
  refine OE ?_
  refine⟨fun hne=>absurd Y hne,?_⟩
  refine cT Ee<|rA<|cR Ee<|J1<|Rq<|OV (EN xY Y (vs:=Cb (s.goes n) D1 e1 D2 e2 D3 e3) Y (H7.Ak (i:=3) Y Y))<|OQ (EC gf96 Y) (UV (s.goes n) D1 e1 D2 e2 D3 e3 _ _ (hw1.Qi H7 hkk) (hw2.to H7 hkk) (hw3.Si H7 hkk) (by omega) (by omega)) ?_
  rintro _ w8 ⟨e,rfl,hans,Hd⟩
  have H8:=H7.Ap Hd
  refine OT (yR Y Y) (fun Yz=>?_) (fun Yz=>?_)
  refine Xr Ee<|J3 rfl<|Rq<|OV (EN xH rfl (vs:=Az (some a1) b k1 A2 k2 A3 k3) rfl (H8.Ak (i:=0) rfl rfl))<|OS xH H8 2 rfl rfl rfl rfl rfl (by first|exact NL rfl|simp[zG]) rfl<|fun w9 H9=>Xa rfl<|Xr Ee<|J5<|xN rfl xH (cs:=Az (some a1) b k1 A2 k2 A3 k3) rfl rfl rfl (H9.Ak (i:=2) rfl rfl)<|⟨_,_,_,_,_,_,_,_,_,false,rfl,(fun b' hb'=>by rw[JF hp14 hs (by cases hc:chk (s.goes n)with | false=>rfl | true=>exact absurd (hans.1 hc) Yz)]at hb';cases hb'),fun _=>rfl,(HG.all H9).Ag⟩
  have Zw:chk (s.goes n)=true:=by cases hc:chk (s.goes n)with | true=>rfl | false=>have:=hans.2 hc;omega
  refine Xr Ee<|J4 Y<|J6<|Rq<|Xf vW Y<|OV (EL qX Y (H8.cell (i:=0) Y Y))<|xU Ub xY (by decide) (H8.nil 97) 4 (Gw.nil 6) Y Y (rs:=pg) (m:=b.groups.length) hgl Y (hrg.to0 (HG.all H8)) hpg hong (by rw[Ed];omega) (by rw[Ed];omega) (by decide)<|fun w9 g2 cap2 sp2 H9 hG2=>?_
  rw[Ih pg]at H9 hG2 ⊢
  rw[hgl]
  obtain⟨gw,rfl⟩:=vO H9 (i:=4) rfl (by rw[Af,hpg.len];omega)
  refine Xa Y<|Xr Ee<|Rq<|Xm Y<|Xf fl81_1 Y<|OV (EL ty3 Y (H9.cell (i:=1) Y Y))<|OV (EN xY Y (vs:=Cb (s.goes n) D1 e1 D2 e2 D3 e3) Y (H9.Ak (i:=3) Y Y))<|Ae Ee<|OV (uS Ub xY Y Y (len:=b.groups.length) (i:=n.group.toNat) (by omega) (by omega))<|OS xY H9 4 Y Y Y Y Y (by rw[Af,hpg.len];show 0+n.group.toNat*6+6≤_;omega) Y<|fun w10 Df=>?_
  rw[nV (sz:=6) (vs:=Cb (s.goes n) D1 e1 D2 e2 D3 e3) hpg (by omega) rfl]at Df
  refine Xr Ee<|Rq<|Xm Y<|Xf vW Y<|OW qX Df 0 Y Y Y Y (by first | (simp;done) | simp[zG]) Y<|fun Nu Eh=>Xr Ee<|Rq<|OV (EN xH Y (vs:=Az (hd (some gw)) b cap2 A2 k2 A3 k3) Y (Eh.Ak (i:=0) Y Y))<|OS xH Eh 2 Y Y Y Y Y (by first|exact NL Y|simp[zG]) Y<|fun w12 Gi=>Xa Y<|Xr Ee<|J5<|xN Y xH (cs:=Az (hd (some gw)) b cap2 A2 k2 A3 k3) Y Y Y (Gi.Ak (i:=2) Y Y) ?_
  have HW:=HG.all Gi
  refine⟨_,_,_,_,_,_,_,_,_,true,Y,fun b' hb'=>?_,(fun h=>by rw[nN hp14 (by omega) hs Zw]at h;cases h),HW.Ag⟩
  rw[nN hp14 (by omega) hs Zw]at hb'
  simp only[Option.some.injEq]at hb'
  subst hb'
  refine⟨Y,⟨hd (some gw),cap2,A2,k2,A3,k3,by rw[Ko],?_,hb2.toR HW vD,hb3.toM HW vD⟩,hc2⟩
  exact Sl.row HW (i:=4) Y (hpg.Sr Y) (by decide) ((h2g.imp (R':=Rl w12 (up ok w0.heap.size)) fun p x h=>h.to HW vD).set _ ⟨D1,e1,D2,e2,D3,e3,Y,hw1.Qi Gi hkk,hw2.to Gi hkk,hw3.Si Gi hkk⟩) (wO (ok:=ok) HW (i:=4) Y (fun _ h=>by cases h))
theorem gE (A:Option Addr) (k:Nat) (l:List Nt) (Ov:Nat→Prop) (w0:World) (hl:Sl (NtR w0 Ov) 16 w0 Ov A l) (hn:l.length≤840000000000):Aj 17 #[Ac A l.length k] w0 (fun r w'=>∃ cs e b,r=.tuple #[.agg cs.toArray,Aa e]∧Sj w' (up Ov w0.heap.size) cs b∧Rep l b e∧U8 cs∧Hp w0 w' [] []):=by
 refine zE Tryz.func17 Tryz.ntmps17 Y<|cR e29 ?_
 have H:=Hp.refl w0
 obtain⟨ps,hp,hr,ha,h2⟩:=id hl
 have hlen:=h2.len
 refine Rq<|OA xH H<|fun w1 gr H1 hgr=>Xa Y<|Xr e29<|Rq ?_
 have Zp:=Hp.fresh H1
 have hszr:=H1.size
 refine OQ (EC gf15 Y) (J9 _) ?_
 rintro _ w2 ⟨cse,rfl,hbe,Hd⟩
 have H2:=H1.Ap Hd
 have hcl:∃ a b c d e f,cse=[Ac a 8 b,Ac c 0 d,Ac e 0 f]:=by
  obtain⟨_,_,_,_,_,_,rfl,_⟩:=hbe
  exact⟨_,_,_,_,_,_,Y⟩
 obtain⟨z1,y1,z2,y2,z3,y3,rfl⟩:=hcl
 have HB0:=H2
 have HL0:=HB0.here
 refine OA xH HL0<|fun w3 gb H3 hgb=>OS xH H3 1 Y Y Y Y Y (by first|exact NL Y|simp[zG]) Y<|fun w4 H4=>Xr e29<|J1<|Rq<|Xa Y<|Xr e29<|J7<|zU (fun nQ lQ w=>∃ (i:Nat) (y:Int) (b:Bo) (cs:List Value),l.length - i=nQ∧xO (Ik [(0,Ac A l.length k),(2,Ah gr),(4,Ah gb),(5,Aa y)] 0 29) lQ∧y=(i:Int)∧i≤l.length∧xZ Bo.empty (l.take i)=some b∧rU b i∧Sj w (fun x=>(Ov x∧x < w0.heap.size∨w0.heap.size≤x)∧x≠gr∧x≠gb) cs b∧U8 cs∧Hp w0 w [] [((some gr,41,[Dj,Dj,Dj]):Ent),(some gb,41,cs)]) (l.length) ?_ ?_
 exact⟨0,_,Bo.empty,_,rfl,(Ja rfl rfl rfl rfl rfl),rfl,Am _,rfl,rU.empty,hbe.to H4 (fun x hx hl=>⟨Zp x hx,.inr (by omega),fun e=>by subst e;have h1:=H4.lt (i:=0) rfl;have h2:=Zp _ hx;exact h2 (by simp[bl]),by omega⟩),(fun x A n k z e=>by simp only[List.cons.injEq,Value.slice.injEq]at e;omega),(HB0.all H4).pick [0,1] (by decide)⟩
 rintro nQ lQ w5 ⟨i,y,b,cs,rfl,hfit,rfl,hi,hrep,hgood,Zx,hcap,H5⟩
 obtain⟨j,rfl⟩:=hfit.open
 refine cR e29 ?_
 clear hfit
 have HB:=H5
 replace H5:=HB.here
 obtain⟨X1,x1,X2,x2,X3,x3,rfl,hx1,hx2,hx3⟩:=Zx
 have hgr0:w0.heap.size≤gr:=by
  rcases HB.place (i:=0) (g:=gr) rfl with h | h
  · cases h
  exact h
 have hgb0:w0.heap.size≤gb:=by
  rcases HB.place (i:=1) (g:=gb) rfl with h | h
  · cases h
  exact h
 have hszB:=HB.size
 have hgr1:=HB.lt (i:=0) rfl
 have hgb1:=HB.lt (i:=1) rfl
 obtain⟨wl,hwl⟩:∃ n,n=w5.heap.size:=⟨_,rfl⟩
 refine J1<|Rq<|Xm Y<|Xm Y<|OV (ES Ns Y)<|OT (zR Y Y) (fun Np=>?_) (fun Np=>?_)
 have hil:i < l.length:=by omega
 obtain⟨nt,hx⟩:=yM hil
 obtain⟨p1,hp1,hR⟩:=h2.get hx
 obtain⟨B1,j1,B2,j2,rfl,hbv,Rj⟩:=hR
 obtain⟨a1,ha1⟩:=hr.some_ (by omega)
 subst ha1
 have htk:=qA hrep hx
 refine Xr e29<|J3 Y<|J6<|J1<|J7<|J1<|qJ 11 (.p 0 (.p 1 (.p 2 (.p 3 (.p 4 (.two 5 (.p 6 (.p 7 (.p 8 (.o 9 (.o 10 (.o 11 .nil)))))) 9 (.o 5 (.p 6 (.p 7 (.p 8 (.o 10 (.o 11 .nil)))))))))))) H5 [0,1] yF (by decide) (by kernel_rfl) ?_
 rintro w6 hw6
 have H6:=Hp.drew H5;rw[← hw6]at H6
 refine TP Y<|MV (fun wz hz=>EN xH Y (vs:=Az X1 b x1 X2 x2 X3 x3) Y (hz.Ak (i:=1) Y Y))<|Tm Y Y<|Tm Y Y<|TP Y<|MV (fun wz hz=>EI Ns xT Y Y (len:=l.length) (i:=i) (by omega) (by omega) Y)<|cT e29<|TP Y<|MV (fun wz hz=>EN xT Y (vs:=Dv nt B1 j1 B2 j2) Y ((hr.to0 (HB.all hz)).elem hp hp1))<|pU ?_ ?_
 refine TQ Y ?_
 have hszi:=H6.size
 have hnp:=Hp.fresh H6
 have hkb:∀ x,(fun x=>(Ov x∧x < w0.heap.size∨w0.heap.size≤x)∧x≠gr∧x≠gb) x→x < wl→x∉bl [((some gr,0,[]):Ent),(some gb,0,[])]∧(fun x=>(fun x=>(Ov x∧x < w0.heap.size∨w0.heap.size≤x)∧x≠gr∧x≠gb) x∧x≠gr) x:=fun x hx hl=>⟨fun hb=>by
  have:x=gr∨x=gb:=by simpa[bl]using hb
  rcases this with h | h
  · exact hx.2.1 h
  exact hx.2.2 h,hx,hx.2.1⟩
 have hkl:∀ x,Ov x→x < w0.heap.size→x∉([]:List Nat)∧(fun x=>(fun x=>(Ov x∧x < w0.heap.size∨w0.heap.size≤x)∧x≠gr∧x≠gb) x∧x≠gr) x:=fun x hx hl=>⟨by simp,⟨.inl ⟨hx,hl⟩,by omega,by omega⟩,by omega⟩
 refine OQ (EC gf48 Y) (PM b X1 x1 X2 x2 X3 x3 nt B1 j1 B2 j2 (fun x=>(fun x=>(Ov x∧x < w0.heap.size∨w0.heap.size≤x)∧x≠gr∧x≠gb) x∧x≠gr) i _ (hx1.toS H6 fun x hx hl=>hkb x hx (by omega)) (hx2.toR H6 fun x hx hl=>hkb x hx (by omega)) (hx3.toM H6 fun x hx hl=>hkb x hx (by omega)) (hbv.to (HB.all H6) hkl) (Rj.to (HB.all H6) hkl) hgood (by omega) (hcap _ _ _ _ _ Y)) ?_
 rintro _ w7 ⟨Y1,m1,y1,Y2,m2,y2,Y3,m3,y3,fl,rfl,hyes,hno,Hd⟩
 have HG:=H6.Ap Hd
 have HL:=HG.here
 have H7:=HG
 have hszw:=Hd.size
 have hreg:∀ x,up (fun x=>(fun x=>(Ov x∧x < w0.heap.size∨w0.heap.size≤x)∧x≠gr∧x≠gb) x∧x≠gr) w6.heap.size x→x∉bl [((some gr,0,[]):Ent),((some gb,0,[]):Ent)]:=fun x hx hb=>(show False from by
  rcases hx with hx | hx
  · have h1:=hx.1.2.1;have h2:=hx.1.2.2;have h3:=hx.2;have:x=gr∨x=gb:=by simpa[bl]using hb
    omega
  exact hnp x hx hb)
 have hreg2:∀ x,up (fun x=>(fun x=>(Ov x∧x < w0.heap.size∨w0.heap.size≤x)∧x≠gr∧x≠gb) x∧x≠gr) w6.heap.size x→(fun x=>(Ov x∧x < w0.heap.size∨w0.heap.size≤x)∧x≠gr∧x≠gb) x:=fun x hx=>by
  rcases hx with hx | hx
  · exact hx.1
  exact⟨.inr (by omega),by omega,by omega⟩
 cases hin:b.into nt
 obtain rfl:=hno hin
 refine OE ?_
 refine⟨fun hne=>H7.pick [0,1] (by decide),?_⟩
 refine Tm Y Y<|TP Y<|MV (fun wz hz=>xA Y Y)<|TP Y<|MV (fun wz hz=>xA Y Y)<|cT e29<|TQ Y<|OA xH HL<|fun w8 g6 HL2 _=>have H8:=HG.all HL2;OE<|⟨fun hne=>H8.pick [0,1] (by decide),?_⟩
 refine cT e29<|TQ Y<|OS xH HL2 2 (vs:=[Ac Y1 m1 y1,Ac Y2 m2 y2,Ac Y3 m3 y3]) Y Y Y Y Y (Ai 3) Y ?_
 have m2:=()
 rotate_left 1
 rename_i bn
 obtain⟨rfl,hB',hc'⟩:=hyes bn hin
 refine OE ?_
 refine⟨fun hne=>H7.pick [0,1] (by decide),?_⟩
 refine Tm Y Y<|TP Y<|MV (fun wz hz=>xA Y Y)<|TP Y<|MV (fun wz hz=>xA Y Y)<|cT e29<|TQ Y<|OA xH HL<|fun w8 g6 HL2 _=>have H8:=HG.all HL2;OE<|⟨fun hne=>H8.pick [0,1] (by decide),?_⟩
 refine cT e29<|TQ Y<|OS xH HL2 2 (vs:=[Ac Y1 m1 y1,Ac Y2 m2 y2,Ac Y3 m3 y3]) Y Y Y Y Y (Ai 3) Y ?_
 have m1:=()
 rotate_left 1
 refine TQ Y ?_
 have hszd:=H6.size
 refine OA xH H6<|fun w7 g6 H7 hg6=>OE<|⟨fun hne=>H7.pick [0,1] (by decide),?_⟩
 refine cT e29<|TQ Y ?_
 have hszi:=H7.size
 have hnp:=Hp.fresh H7
 have hkb:∀ x,(fun x=>(Ov x∧x < w0.heap.size∨w0.heap.size≤x)∧x≠gr∧x≠gb) x→x < wl→x∉bl [((some gr,0,[]):Ent),(some gb,0,[])]∧(fun x=>(fun x=>(Ov x∧x < w0.heap.size∨w0.heap.size≤x)∧x≠gr∧x≠gb) x∧x≠g6) x:=fun x hx hl=>⟨fun hb=>by
  have:x=gr∨x=gb:=by simpa[bl]using hb
  rcases this with h | h
  · exact hx.2.1 h
  exact hx.2.2 h,hx,by omega⟩
 have hkl:∀ x,Ov x→x < w0.heap.size→x∉([]:List Nat)∧(fun x=>(fun x=>(Ov x∧x < w0.heap.size∨w0.heap.size≤x)∧x≠gr∧x≠gb) x∧x≠g6) x:=fun x hx hl=>⟨by simp,⟨.inl ⟨hx,hl⟩,by omega,by omega⟩,by omega⟩
 refine OQ (EC gf48 Y) (PM b X1 x1 X2 x2 X3 x3 nt B1 j1 B2 j2 (fun x=>(fun x=>(Ov x∧x < w0.heap.size∨w0.heap.size≤x)∧x≠gr∧x≠gb) x∧x≠g6) i _ (hx1.toS H7 fun x hx hl=>hkb x hx (by omega)) (hx2.toR H7 fun x hx hl=>hkb x hx (by omega)) (hx3.toM H7 fun x hx hl=>hkb x hx (by omega)) (hbv.to (HB.all H7) hkl) (Rj.to (HB.all H7) hkl) hgood (by omega) (hcap _ _ _ _ _ Y)) ?_
 rintro _ w8 ⟨Y1,m1,y1,Y2,m2,y2,Y3,m3,y3,fl,rfl,hyes,hno,Hd⟩
 have HG:=H7.Ap Hd
 have HL:=HG.here
 have H8:=HG
 have hszw:=Hd.size
 have hreg:∀ x,up (fun x=>(fun x=>(Ov x∧x < w0.heap.size∨w0.heap.size≤x)∧x≠gr∧x≠gb) x∧x≠g6) w7.heap.size x→x∉bl [((some gr,0,[]):Ent),((some gb,0,[]):Ent),((some g6,0,[]):Ent)]:=fun x hx hb=>(show False from by
  rcases hx with hx | hx
  · have h1:=hx.1.2.1;have h2:=hx.1.2.2;have h3:=hx.2;have:x=gr∨x=gb∨x=g6:=by simpa[bl]using hb
    omega
  exact hnp x hx hb)
 have hreg2:∀ x,up (fun x=>(fun x=>(Ov x∧x < w0.heap.size∨w0.heap.size≤x)∧x≠gr∧x≠gb) x∧x≠g6) w7.heap.size x→(fun x=>(Ov x∧x < w0.heap.size∨w0.heap.size≤x)∧x≠gr∧x≠gb) x:=fun x hx=>by
  rcases hx with hx | hx
  · exact hx.1
  exact⟨.inr (by omega),by omega,by omega⟩
 cases hin:b.into nt
 obtain rfl:=hno hin
 refine OE ?_
 refine⟨fun hne=>H8.pick [0,1] (by decide),?_⟩
 refine Tm Y Y<|TP Y<|MV (fun wz hz=>xA Y Y)<|TP Y<|MV (fun wz hz=>xA Y Y)<|TQ Y<|OS xH HL 2 (vs:=[Ac Y1 m1 y1,Ac Y2 m2 y2,Ac Y3 m3 y3]) Y Y Y Y Y (Ai 3) Y ?_
 have m2:=()
 rotate_left 1
 rename_i bn
 obtain⟨rfl,hB',hc'⟩:=hyes bn hin
 refine OE ?_
 refine⟨fun hne=>H8.pick [0,1] (by decide),?_⟩
 refine Tm Y Y<|TP Y<|MV (fun wz hz=>xA Y Y)<|TP Y<|MV (fun wz hz=>xA Y Y)<|TQ Y<|OS xH HL 2 (vs:=[Ac Y1 m1 y1,Ac Y2 m2 y2,Ac Y3 m3 y3]) Y Y Y Y Y (Ai 3) Y ?_
 have m1:=()
 rotate_left 1
 obtain rfl:i=l.length:=by omega
 refine Xr e29<|J4 Y<|J8<|zT<|zS<|Rq<|OV (EN xH Y (vs:=Az X1 b x1 X2 x2 X3 x3) Y (H5.Ak (i:=1) Y Y))<|OS xH H5 0 (vs:=Az X1 b x1 X2 x2 X3 x3) Y Y Y Y Y (Ai 3) Y<|fun w6 H6=>Xa Y<|Xr e29<|J5<|xN Y xH (cs:=Az X1 b x1 X2 x2 X3 x3) Y Y Y (H6.Ak (i:=0) Y Y) ?_
 rw[Cc]at hrep
 refine⟨_,_,b,Y,Sj.to (ok:=(fun x=>(Ov x∧x < w0.heap.size∨w0.heap.size≤x)∧x≠gr∧x≠gb)) ⟨X1,x1,X2,x2,X3,x3,Y,hx1,hx2,hx3⟩ H6 (fun x hx hl=>⟨fun hb=>?_,hx.1.imp (fun h=>h.1) id⟩),.inl ⟨hrep,Y,hgood⟩,hcap,(HB.all H6).Ag⟩
 have:x=gr∨x=gb:=by simpa[bl]using hb
 rcases this with h | h
 exact hx.2.1 h
 exact hx.2.2 h
 any_goals
  clear m2
  intro w9 HL3
  have H9:=HG.all HL3
  refine OE ?_
  refine⟨fun hne=>H9.pick [0,1] (by decide),?_⟩
  refine cT e29<|TQ Y<|Xa Y ?_
  replace H9:=HL3
  refine OE ?_
  refine⟨fun hne=>absurd Y hne,?_⟩
  refine cT e29<|rA<|cR e29<|J1<|Rq<|Xm Y<|Xn Y<|Xr e29<|J3 Y<|Rq<|OV (EB xH TD Y Y)<|OS xH H9 0 (vs:=[Dj,Dj,Dj]) Y Y Y Y Y (Ai 3) Y<|fun w10 Df=>Xa Y<|Xr e29<|J5<|BR<|yN<|BR<|xN Y xH (cs:=[Dj,Dj,Dj]) Y Y Y (Df.Ak (i:=0) Y Y)<|⟨_,_,Bo.zero,Y,Sj.zero _ _,.inr ⟨kY (htk.trans hin),Y,Y⟩,(fun x A n k z e=>by simp only[List.cons.injEq,Value.slice.injEq]at e;omega),(HB.all (HG.all Df)).Ag⟩
 any_goals
  clear m1
  intro w9 HL3
  have H9:=HG.all HL3
  refine OE ?_
  refine⟨fun hne=>H9.pick [0,1] (by decide),?_⟩
  refine cT e29<|TQ Y<|Xa Y ?_
  replace H9:=HL3
  refine OE ?_
  refine⟨fun hne=>absurd Y hne,?_⟩
  refine cT e29<|rA<|cR e29<|J1<|Rq<|Xm Y<|Xn Y<|Xr e29<|J4 Y<|J6<|J2<|OV (EN xH Y (vs:=[Ac Y1 m1 y1,Ac Y2 m2 y2,Ac Y3 m3 y3]) Y (H9.Ak (i:=2) Y Y))<|OS xH H9 1 (vs:=[Ac Y1 m1 y1,Ac Y2 m2 y2,Ac Y3 m3 y3]) Y Y Y Y Y (Ai 3) Y<|fun w10 Df=>Xr e29<|zA (zD ?_)
  refine J2<|Xm Y<|OV (zL Y Y (Ad _ (by omega)))<|Xa Y<|Xr e29<|zA (zH ?_)
  exact⟨l.length - (i+1),by omega,i+1,_,bn,[Ac Y1 m1 y1,Ac Y2 m2 y2,Ac Y3 m3 y3],Y,(Ja Y Y Y Y Y),by omega,by omega,htk.trans hin,hgood.into hin,hB'.to Df (fun x hx _=>⟨hreg x hx,hreg2 x hx⟩),(fun x A n k z e=>by simp only[List.cons.injEq,Value.slice.injEq]at e;omega),(HB.all (HG.all Df)).pick [0,1] (by decide)⟩
theorem Q6 (A:Option Addr) (k:Nat) (l:List Nt) (Ov:Nat→Prop) (w0:World) (hl:Sl (NtR w0 Ov) 16 w0 Ov A l) (hn:l.length≤840000000000):Aj 49 #[Ac A l.length k] w0 (fun r w'=>∃ g cap qs sp,r=Ac (hd g) l.length cap∧Gw 16 g cap qs sp∧wT (NtW w' w0.heap.size g) qs l∧Hp w0 w' [] [((g,81,qs.flatten++sp):Ent)]):=by
 refine zE Tryz.func49 Tryz.ntmps49 Y<|cR e56 ?_
 have H:=Hp.refl w0
 obtain⟨ps,hp,hr,ha,h2⟩:=id hl
 have hlen:=h2.len
 refine Rq<|Xa Y<|Xr e56<|Rq<|Xa Y<|Xr e56<|J1<|Rq<|Xa Y<|Xr e56<|J7<|zU (fun nQ lQ w=>∃ (i:Nat) (y:Int) (g:Option Nat) (cap:Nat) (qs:List (List Value)) (sp:List Value),l.length - i=nQ∧xO (Ik [(0,Ac A l.length k),(3,Ac (hd g) qs.length cap),(4,Aa y)] 0 56) lQ∧y=(i:Int)∧i≤l.length∧Gw 16 g cap qs sp∧wT (NtW w w0.heap.size g) qs (l.take i)∧Hp w0 w [] [((g,81,qs.flatten++sp):Ent)]) (l.length) ?_ ?_
 exact⟨0,_,none,0,[],[],Y,(Uy Y Y Y Y),Y,Am _,Gw.nil 16,trivial,H.nil 81⟩
 rintro nQ lQ w1 ⟨i,y,g,cap,qs,sp,rfl,hfit,rfl,hi,hG,hA,H1⟩
 obtain⟨j,rfl⟩:=hfit.open
 refine cR e56 ?_
 clear hfit
 have HB:=H1
 replace H1:=HB.here
 refine J1<|Rq<|Xm Y<|Xm Y<|OV (ES Ns Y)<|OT (zR Y Y) (fun hp11=>?_) (fun hp11=>?_)
 have hil:i < l.length:=by omega
 obtain⟨nt,hx⟩:=yM hil
 obtain⟨p1,hp1,hR⟩:=h2.get hx
 obtain⟨B1,j1,B2,j2,rfl,hbv,hbe⟩:=hR
 obtain⟨a1,ha1⟩:=hr.some_ (by omega)
 subst ha1
 have Ib:qs.length=i:=by rw[hA.len,Aw];omega
 refine Xr e56<|J3 Y<|J6<|J1<|J7<|Rq<|Xm Y<|Xm Y<|OV (EI Ns xT Y Y Y hil Y)<|OV (EN xT Y (vs:=Dv nt B1 j1 B2 j2) Y ((hr.to0 (HB.all H1)).elem hp hp1))<|Ae e56<|OA xT H1<|fun w2 gn H2 _=>OS xT H2 1 (vs:=Dv nt B1 j1 B2 j2) Y Y Y Y Y (Ai 16) Y<|fun w3 H3=>Xr e56<|J1<|qJ 12 (.p 0 (.p 1 (.p 2 (.p 3 (.p 4 (.p 5 (.p 6 (.p 7 (.p 8 (.two 9 (.p 10 (.o 11 (.o 12 .nil))) 11 (.o 9 (.p 10 (.o 12 .nil))))))))))))) H3 [0,1] yF (by decide) (by kernel_rfl) ?_
 rintro w4 hw4
 have H4:=Hp.drew H3;rw[← hw4]at H4
 refine Tf Y qO Y<|Tf Y wY Y<|TP Y<|MV (fun wz hz=>EL ty3 Y (hz.cell (i:=1) Y Y))<|Tf Y qO Y<|cT e56<|Tf Y tA Y<|TP Y<|MV (fun wz hz=>EN vC Y (vs:=[Aa nt.Eb.b.r,Aa nt.Eb.b.n]) Y (hz.Ak (i:=1) Y Y))<|Tf Y qO Y<|Tf Y tO Y<|cT e56<|TP Y<|MV (fun wz hz=>EL xG Y (hz.cell (i:=1) Y Y))<|pU ?_ ?_
 refine TQ Y<|yX Hf ty5 (by decide) (H4.nil 5) 2 (g:=none) (n:=0) (cap:=0) (xs:=[]) (sp:=[]) Y Y Y (by decide) (by decide) (fun _=>Y) Y (hbv.1.to0 (HB.all H4)) (uM _) (by have:=hbv.2.2;omega) (by have:=hbv.2.2;omega) (by decide)<|fun w5 gv cv sv H5 _ _ _=>?_
 rw[Au nt.Eb.val.length]
 refine OE ?_
 refine⟨fun hne=>H5.pick [0,1] (by decide),?_⟩
 refine cT e56<|TP Y<|MV (fun wz hz=>EB xC pl77 Y Y)<|TQ Y<|OA xC H5<|fun w6 g6 H6 _=>?_
 replace H6:=H6.pick [0,1,3,2] (by decide)
 refine OE ?_
 refine⟨fun hne=>H6.pick [0,1] (by decide),?_⟩
 refine cT e56 ?_
 have m2:=()
 rotate_left 1
 refine TQ Y<|OA xC H4<|fun w5 g6 H5 _=>OE<|⟨fun hne=>H5.pick [0,1] (by decide),?_⟩
 refine cT e56<|TQ Y<|yX Hf ty5 (by decide) (H5.nil 5) 3 (g:=none) (n:=0) (cap:=0) (xs:=[]) (sp:=[]) Y Y Y (by decide) (by decide) (fun _=>Y) Y (hbv.1.to0 (HB.all H5)) (uM _) (by have:=hbv.2.2;omega) (by have:=hbv.2.2;omega) (by decide)<|fun w6 gv cv sv H6 _ _ _=>?_
 rw[Au nt.Eb.val.length]
 refine OE ?_
 refine⟨fun hne=>H6.pick [0,1] (by decide),?_⟩
 refine cT e56<|TP Y<|MV (fun wz hz=>EB xC pl77 Y Y) ?_
 have m2:=()
 rotate_left 1
 obtain rfl:i=l.length:=by omega
 refine Xr e56<|J4 Y<|J8<|zT<|zS<|Rq<|Xm Y<|Xa Y<|Xr e56<|J5<|Cj Y Y ?_
 rw[Cc]at hA
 have hlq:=hA.len
 rw[hlq]
 exact⟨g,cap,qs,sp,Y,hG,hA,(HB.all H1).pick [0] (by decide)⟩
 any_goals
  clear m2
  refine TQ Y<|OS xC H6 2 (vs:=Ju nt (hd gv) cv) Y Y Y Y Y (Ai 4) Y<|fun w7 H7=>OE<|⟨fun hne=>absurd Y hne,?_⟩
  refine cT e56<|rA<|cR e56<|J1<|qJ 9 (.p 0 (.p 1 (.p 2 (.p 3 (.p 4 (.p 5 (.two 6 (.p 7 (.o 8 (.o 9 .nil))) 8 (.o 6 (.p 7 (.o 9 .nil)))))))))) H7 [0,1,2,3] yF (by decide) (by kernel_rfl) ?_
  rintro w8 hw8
  have H8:=Hp.drew H7;rw[← hw8]at H8
  refine Tf Y vV Y<|Tf Y xX Y<|TP Y<|MV (fun wz hz=>EL ty3 Y (hz.cell (i:=1) Y Y))<|Tf Y vV Y<|cT e56<|Tf Y uH Y<|TP Y<|MV (fun wz hz=>EL xG Y (hz.cell (i:=1) Y Y))<|pU ?_ ?_
  refine TQ Y<|yX Hf ty5 (by decide) (H8.nil 5) 4 (g:=none) (n:=0) (cap:=0) (xs:=[]) (sp:=[]) Y Y Y (by decide) (by decide) (fun _=>Y) Y (hbe.1.to0 (HB.all H8)) (uM _) (by have:=hbe.2.2;omega) (by have:=hbe.2.2;omega) (by decide)<|fun w9 gq cq sq H9 _ _ _=>?_
  rw[Au nt.entry.val.length]
  refine OE ?_
  refine⟨fun hne=>H9.pick [0,1,2,3] (by decide),?_⟩
  refine cT e56<|TP Y<|MV (fun wz hz=>EB wJ WW Y Y)<|TQ Y<|OA wJ H9<|fun Nu g7 Eh _=>?_
  replace Eh:=Eh.pick [0,1,2,3,5,4] (by decide)
  refine OE ?_
  refine⟨fun hne=>Eh.pick [0,1,2,3] (by decide),?_⟩
  refine cT e56 ?_
  have m1:=()
  rotate_left 1
  refine TQ Y<|OA wJ H8<|fun w9 g7 H9 _=>OE<|⟨fun hne=>H9.pick [0,1,2,3] (by decide),?_⟩
  refine cT e56<|TQ Y<|yX Hf ty5 (by decide) (H9.nil 5) 5 (g:=none) (n:=0) (cap:=0) (xs:=[]) (sp:=[]) Y Y Y (by decide) (by decide) (fun _=>Y) Y (hbe.1.to0 (HB.all H9)) (uM _) (by have:=hbe.2.2;omega) (by have:=hbe.2.2;omega) (by decide)<|fun Nu gq cq sq Eh _ _ _=>?_
  rw[Au nt.entry.val.length]
  refine OE ?_
  refine⟨fun hne=>Eh.pick [0,1,2,3] (by decide),?_⟩
  refine cT e56<|TP Y<|MV (fun wz hz=>EB wJ WW Y Y) ?_
  have m1:=()
  rotate_left 1
 any_goals
  clear m1
  refine TQ Y<|OS wJ Eh 4 (vs:=Gy nt (hd gq) cq) Y Y Y Y Y (Ai 2) Y<|fun w10 Df=>OE<|⟨fun hne=>absurd Y hne,?_⟩
  refine cT e56<|rA<|cR e56<|J2<|Xm Y<|Xf qP Y<|OV (EL ty3 Y (Df.cell (i:=1) Y Y))<|Xf fl81_1 Y<|Ae e56<|OV (EL ty3 Y (Df.cell (i:=1) Y Y))<|Xf mM Y<|OV (EN vC Y (vs:=[Aa nt.b.r,Aa nt.b.n]) Y (Df.Ak (i:=1) Y Y))<|OV (EN xC Y (vs:=Ju nt (hd gv) cv) Y (Df.Ak (i:=2) Y Y))<|Ae e56<|OV (EN wJ Y (vs:=Gy nt (hd gq) cq) Y (Df.Ak (i:=4) Y Y))<|Xf kB Y<|OV (EN xR Y (vs:=Qy nt) Y (Df.Ak (i:=1) Y Y))<|Xf uQ Y<|Ae e56<|OV (EL ty3 Y (Df.cell (i:=1) Y Y))<|Xf tN Y<|OV (EL ty3 Y (Df.cell (i:=1) Y Y))<|OV (EB xT eB Y (cs:=Dv nt (hd gv) cv (hd gq) cq) (by kernel_rfl))<|Ae e56<|zJ Ns xT Df (cs:=Dv nt (hd gv) cv (hd gq) cq) Y (by decide) (by kernel_rfl)<|fun Sm gk Il _=>xU Ns xT (by decide) Il 0 hG Y Y (rs:=[Dv nt (hd gv) cv (hd gq) cq]) (m:=1) Y Y (Il.rd (i:=6) (o:=some _) (xs:=Dv nt (hd gv) cv (hd gq) cq) (sp:=[]) Y Y (by decide)) (Pl.one Y) (fun p hp=>by rw[Bc.1 hp];rfl) (by omega) (by omega) (by decide)<|fun w12 g2 cap2 sp2 Gi hG2=>Xa Y<|Xr e56<|zA (zD ?_)
  refine J2<|Xm Y<|OV (zL Y Y (Ad _ (by omega)))<|Xa Y<|Xr e56<|zA (zH ?_)
  have HW:=HB.all Gi
  have hplB:=fun x (hb:g2=some x)=>Gi.place (i:=0) (g:=x) (by rw[← hb];rfl)
  exact⟨l.length - (i+1),by omega,i+1,_,g2,cap2,_,sp2,Y,(Uy Y Y Y Y),by omega,by omega,hG2,by
   rw[xE hx]
   refine(hA.imp fun p x h=>h.to Gi (gi':=g2) fun k hk hne hlt=>⟨fun hb=>?_,fun e=>?_⟩).app (wT.one ⟨gv,cv,gq,cq,Y,M2.row HW (i:=3) (j:=0) Y Y (by decide) (fun k hk=>by cases hk) (Ai _) hbv.2.2,M2.row HW (i:=5) (j:=0) Y Y (by decide) (fun k hk=>by cases hk) (Ai _) hbe.2.2⟩)
   · cases g with
     | none=>simp[bl]at hb
     | some q=>exact hne (by rw[show k=q by simpa[bl]using hb])
   rcases hplB k e with h | h
   · cases g with
     | none=>simp[bl]at h
     | some q=>exact hne (by rw[show k=q by simpa[bl]using h])
   omega,HW.pick [0] (by decide)⟩
theorem SJ (nt:Nt) (B1:Option Addr) (j1:Nat) (B2:Option Addr) (j2:Nat) (ok:Nat→Prop) (w0:World) (hbv:Bs w0 ok B1 nt.Eb.val) (Rj:Bs w0 ok B2 nt.entry.val) (hntb:NtB nt):Aj 99 #[.agg (Dv nt B1 j1 B2 j2).toArray] w0 (fun r w'=>r=.bool (decide (Nc nt=0∧(xM nt).length≤16384))∧Hp w0 w' [] []):=by
 refine zE Tryz.func99 Tryz.ntmps99 Y<|cR e17 ?_
 have H:=Hp.refl w0
 refine Rq<|zW Y Y H<|fun w1 g1 H1 hg1=>Xa Y<|Xr e17<|Rq<|OV (EN xT Y (vs:=Dv nt B1 j1 B2 j2) Y (H1.Ak (i:=0) Y Y))<|OQ (EC gf50 Y) (O3 (Pn nt) _ _ (W8 (ok:=fun _=>True) ⟨B1,j1,B2,j2,Y,hbv.to H1 (fun x _ _=>⟨by simp,trivial⟩),Rj.to H1 (fun x _ _=>⟨by simp,trivial⟩)⟩ hntb)) ?_
 rintro _ w2 ⟨gn,cn,sn,rfl,hn1,hn2,hn3,hn4,HdN⟩
 have H2:=H1.Ap HdN
 refine Xm Y<|Xe Y Y<|Ae e17<|Xe Y Y<|Xa Y<|Xa Y<|Xr e17<|Rq<|Xm Y<|OT (yU Y Y) (fun hp11=>?_) (fun hp11=>?_)
 refine Xm Y<|Ae e17<|OY Y<|Xm Y<|OY Y<|OV (ES Hf Y)<|Ae e17<|OY Y<|OT (uV Y Y) (fun Iz=>?_) (fun Iz=>?_)
 refine Xt Y Y<|Xa Y<|Xr e17<|J5<|Cj Y Y ?_
 exact⟨bt ((show Nc nt=0∧(xM nt).length≤16384 from by
  have h8:((Nc nt:Nat):Int)=0:=hp11
  have h9:((xM nt).length:Int)≤16384:=Iz
  exact⟨by omega,by omega⟩)),H2.Ag⟩
 refine Xt Y Y<|Xa Y<|Xr e17<|J5<|Cj Y Y<|⟨bf (fun h=>Iz (by have h9:=h.2;show((xM nt).length:Int)≤16384;omega)),H2.Ag⟩
 refine Xm Y<|Ae e17<|Oz 3 Y<|Ae e17<|Xu Y Y<|Xa Y<|Xr e17<|J5<|Cj Y Y<|⟨bf (fun h=>hp11 (by show((Nc nt:Nat):Int)=0;rw[h.1];rfl)),H2.Ag⟩
theorem dU (n0 gd gk gq c m:Nat) (ga:Option Nat) (ca:Nat) (qs:List (List Value)) (sp:List Value) (all:List Nt) (gw:Option Nat) (cw:Nat) (Qe:List Value) (D:Dk) (vp:Value) (sure:Nat) (w0:World) (H0:Hp w0 w0 (bl (Bv gd gk gw cw Qe D++[Dn ga qs sp,yZ gq gd vp ga all.length ca (sure:Int) false])) (Bv gd gk gw cw Qe D++[Dn ga qs sp,yZ gq gd vp ga all.length ca (sure:Int) false])) (hn0:∀ x∈bl (Bv gd gk gw cw Qe D++[Dn ga qs sp,yZ gq gd vp ga all.length ca (sure:Int) false]),n0≤x) (hnw:n0≤w0.heap.size) (hD:Qq D gw cw Qe) (hA:nA w0 n0 ga ca qs sp all) (hm:all.length≤m) (hm2:m≤1000) (hsu:sure≤all.length) (hF:ZU D all sure c) (hc:c≤90000000) (B:Option Addr) (keep:List Int) (kc:Nat) (hkp:Rd w0 B keep.length 1 (iO keep)) (hkB:0 < keep.length→∀ p,B=some p→p.block < n0):Aj 27 #[Ah gq,Ac B keep.length kc] w0 (fun r w'=>r=.bool true∧∃ f es',Hp w0 w' (bl (Bv gd gk gw cw Qe D++[Dn ga qs sp,yZ gq gd vp ga all.length ca (sure:Int) false])) es'∧Ud w' n0 gd gk gq c m f es'):=by
 refine zE Tryz.func27 Tryz.ntmps27 Y<|cR Ia ?_
 have H:Hp w0 w0 (bl (Bv gd gk gw cw Qe D++[Dn ga qs sp,yZ gq gd vp ga all.length ca (sure:Int) false])) (Bv gd gk gw cw Qe D++[Dn ga qs sp,yZ gq gd vp ga all.length ca (sure:Int) false]):=H0
 refine Rq<|Xa Y<|Xr Ia<|Rq<|Xm Y<|Xc Y<|Xf kC Y<|OV (EL lE Y (H.cell (i:=4) Y Y))<|Ae Ia<|Xm Y ?_
 refine OQ (EC gf9 Y) (MG gd gk gw cw Qe D _ H.less.here hD B keep kc hkp (fun h0 p hp hb=>by
  have h1:=hkB h0 p hp
  have h2:=hn0 _ (Fp hb)
  omega) (Ci hF.2.1 (by decide))) ?_
 rintro _ w1 ⟨rfl,ZB,ZF,sp1,hD1,Hd1⟩
 have H1:=H.front Hd1
 refine Xr Ia<|Rq<|Xm Y<|Xc Y<|Xf kC Y<|OV (EL lE Y (H1.cell (i:=4) Y Y))<|Ae Ia<|OQ (EC gf19 Y) (K4 gd gk ZB ZF sp1 (D.crash keep) _ H1.less.here hD1) ?_
 rintro _ w2 ⟨rfl,gw2,cw2,sp2,hD2,Hd2⟩
 obtain⟨V,sV,hbV,hV1,hV2,n1,ba,hn1,hn2,hba,L1,b1,hL1,hL2,hL3,hal⟩:=hF.2.2 keep
 obtain⟨hlgV,hupV,hwV,haV,hkV,hbV2⟩:=hbV.start hF.1
 have hfew:=hbV.few
 rw[hL1,Bl]at hfew
 have H2:=H1.front Hd2
 refine Xr Ia<|Rq<|Xm Y<|Xc Y<|Xf kC Y<|OV (EL lE Y (H2.cell (i:=4) Y Y))<|Ae Ia<|OQ (EC gf7 Y) ((Rn.Yh gd gk gw2 cw2 sp2 (D.crash keep).start _ H2.less.here hD2 hupV (by rw[hwV];exact Am _) V sV hlgV hbV.told (Ci hV2 (Ci hc (by decide))) (Ci hV1 (Ci hc (by decide))) L1 hL1 hL2 b1 hL3 (by omega)).d (fun _ _ h=>h)) ?_
 rintro _ w3 ⟨v3,W3,rfl,e1,e2,f1,f2,f3,f4,f5,hlg3,Xy,Hd3⟩
 have hv3:Qn w0 w3 (bl (Bv gd gk gw cw Qe D++[Dn ga qs sp,yZ gq gd vp ga all.length ca (sure:Int) false])) Z7 v3 v3 (D.crash keep).start W3 b1 [Dn ga qs sp,yZ gq gd vp ga all.length ca (sure:Int) false]:=Qn.opened H2 Xy Hd3
 have kl3:=Rf.opened hbV2 hupV hwV hkV hL1 hL2 hL3 hV1 hV2 f1 f2 f3 (by rw[f4,f1]) f5 hlg3
 obtain⟨nf1,nf2,nf3,nf4⟩:=Rep.size (l:=L1) (.inl ⟨hL3,rfl,kl3.Ls.good⟩) (by omega)
 have hfb:ZK b1:=⟨nf1,nf2,nf3,nf4⟩
 have hA3:=hA.to hv3.H hn0
 have H3:=hv3.H.here
 refine Xm Y<|Xe Y Y<|Xe Y Y<|Ae Ia<|Xa Y<|Xa Y<|Xr Ia<|J1<|Rq<|Xm Y<|Jt (yR Y Y) (by decide)<|Xm Y<|Ae Ia<|OY Y<|Xm Y<|OY Y<|Jt (yE U23 Y) (by simp)<|Xu Y Y<|Xr Ia<|J4 Y<|J6<|Rq<|Xm Y<|Xm Y<|Xc Y<|Xf iU Y<|Ae Ia<|OW gB H3 8 Y Y Y Y (by first|exact NL Y|simp[zG]) Y<|fun w4 H4=>Xr Ia<|Rq<|Xm Y ?_
 have hv4:=hv3.on (R':=[Dn ga qs sp,yZ gq gd (Ah v3.gx) ga all.length ca (sure:Int) false]) H4
 refine OQ (EC L6 Y) (kO v3 (D.crash keep).start W3 b1 _ _ hv4.H.less.here hv4.ok L1.length kl3.Ls.good (by omega) (fun x hx=> .inr (Fp hx))) ?_
 rintro _ w5 ⟨_,rfl,⟨Z1,z1,Z2,z2,Z3,z3,rfl,hz1,hz2,hz3⟩,_,Hd5⟩
 have Uz:=hv4.H.here.front Hd5
 have hv5:=hv4.on Uz
 have hA5:=hA3.to (H4.all Uz) (after hv3.H hn0 hnw)
 have H5:=hv5.H.here
 refine OA xH H5<|fun w6 gb H6 _=>OS xH H6 9 Y Y Y Y Y (by first|exact NL Y|simp[zG]) Y<|fun w7 H7=>Xr Ia<|J1<|Rq<|Xm Y<|Xc Y<|Xf qQ Y<|OV (EL lF Y (H7.cell (i:=8) Y Y))<|Ae Ia<|OV (ES Ns Y)<|Xa Y<|Xr Ia<|J7<|zU (fun nQ lQ w=>∃ (n:Nat) (z:Int),n=nQ∧xO (Ik [(0,Ah gq),(7,Ah gb),(8,Aa z)] 0 85) lQ∧z=(n:Int)∧n1≤n∧n≤all.length∧Qn w0 w (bl (Bv gd gk gw cw Qe D++[Dn ga qs sp,yZ gq gd vp ga all.length ca (sure:Int) false])) Z7 v3 v3 (D.crash keep).start W3 b1 [Dn ga qs sp,yZ gq gd (Ah v3.gx) ga all.length ca (sure:Int) false,((some gb,41,Az Z1 b1 z1 Z2 z2 Z3 z3):Ent)]∧nA w n0 ga ca qs sp all∧Sl (Rl w (fun x=>x∉bl (Ar v3 (D.crash keep).start W3++[Dn ga qs sp,yZ gq gd (Ah v3.gx) ga all.length ca (sure:Int) false,((some gb,41,Az Z1 b1 z1 Z2 z2 Z3 z3):Ent)]))) 6 w (fun x=>x∉bl (Ar v3 (D.crash keep).start W3++[Dn ga qs sp,yZ gq gd (Ah v3.gx) ga all.length ca (sure:Int) false,((some gb,41,Az Z1 b1 z1 Z2 z2 Z3 z3):Ent)])) Z1 b1.groups∧Sl Px 4 w (fun x=>x∉bl (Ar v3 (D.crash keep).start W3++[Dn ga qs sp,yZ gq gd (Ah v3.gx) ga all.length ca (sure:Int) false,((some gb,41,Az Z1 b1 z1 Z2 z2 Z3 z3):Ent)])) Z2 b1.rights) (all.length) ?_ ?_
 have hk6:∀ x,_→x < _→x∉bl _∧x∉bl (Ar v3 (D.crash keep).start W3++[Dn ga qs sp,yZ gq gd (Ah v3.gx) ga all.length ca (sure:Int) false,((some gb,41,Az Z1 b1 z1 Z2 z2 Z3 z3):Ent)]):=fun x (hx:_≤x∧x∉bl (Ar v3 (D.crash keep).start W3)) hl=>off H7 x (mD hv4.H (Ai _) x hx.1) hl
 exact⟨all.length,_,Y,(Uy Y Y Y Y),Y,hn2,Ai _,hv5.on H7,hA5.to H7 (after hv5.H hn0 hnw),hz1.toS H7 hk6,hz2.toR H7 hk6⟩
 rintro nQ lQ w8 ⟨n,z,rfl,hfit,rfl,hn3,hn4,hv7,hA7,hq1,hq2⟩
 obtain⟨j,rfl⟩:=hfit.open
 refine cR Ia ?_
 clear hfit
 have H8:=hv7.H.here
 refine J1<|Rq<|Xm Y<|Xm Y<|Xc Y<|Xf G6 Y<|Ae Ia<|OV (EL ty3 Y (H8.cell (i:=8) Y Y))<|Qg (wC Y Y) (by omega)<|Xr Ia<|J3 Y<|J6<|J1<|J7<|Rq<|Xm Y<|Xc Y<|Xf qQ Y<|OV (EL lF Y (H8.cell (i:=8) Y Y))<|Ae Ia<|Xm Y<|OV (pX Ns xT Y Y (by have:=hA7.cap;omega)) ?_
 have hlt:(all.take n).length=n:=by rw[Aw];omega
 have hr8:=gE (hd ga) ca (all.take n) _ _ ((hA7.sl H8 (i:=7) rfl).take hn4) (by rw[hlt];omega)
 rw[hlt]at hr8
 refine OQ (EC UF Y) hr8 ?_
 rintro _ w9 ⟨csw,ew,wb,rfl,hbw,hrep,_,Hd8⟩
 obtain⟨Y1,y1,Y2,y2,Y3,y3,rfl,hy1,hy2,hy3⟩:=hbw
 have HX8:=H8.Ap Hd8
 have hv8:=hv7.on HX8
 have hA8:=hA7.to HX8 (after hv7.H hn0 hnw)
 have hq3:=hq1.toS HX8 (off HX8)
 have hq4:=hq2.toR HX8 (off HX8)
 have H9:Hp w9 w9 [] []:=Hp.refl _
 refine Xm Y<|Ae Ia<|Xe Y Y<|Xe Y Y<|OA xH H9<|fun Sm gy Il _=>OS xH Il 0 (vs:=Az Y1 wb y1 Y2 y2 Y3 y3) Y Y Y Y Y (Ai 3) Y<|fun w10 Df=>?_
 have hy4:=hy1.toS (ok':=fun _=>True) Df (fun x _ _=>⟨by simp,trivial⟩)
 have hy5:=hy2.toR (ok':=fun _=>True) Df (fun x _ _=>⟨by simp,trivial⟩)
 have HX9:Hp _ w10 (bl (Ar v3 (D.crash keep).start W3++[Dn ga qs sp,yZ gq gd (Ah v3.gx) ga all.length ca (sure:Int) false,((some gb,41,Az Z1 b1 z1 Z2 z2 Z3 z3):Ent)])) (Ar v3 (D.crash keep).start W3++[Dn ga qs sp,yZ gq gd (Ah v3.gx) ga all.length ca (sure:Int) false,((some gb,41,Az Z1 b1 z1 Z2 z2 Z3 z3):Ent),((some gy,41,Az Y1 wb y1 Y2 y2 Y3 y3):Ent)]):=hv8.H.here.call0 Df
 have Vp:=hv8.on HX9
 have hA9:=hA8.to HX9 (after hv8.H hn0 hnw)
 have hq5:=hq3.toS HX9 (off HX9)
 have hq6:=hq4.toR HX9 (off HX9)
 replace Df:=Vp.H.here
 refine Xa Y<|Xr Ia<|Rq<|Xm Y<|OT (yU Y Y) (fun hp66=>?_) (fun hp66=>?_)
 obtain⟨hrp,_,hgw⟩:xZ Bo.empty (all.take n)=some wb∧ew=0∧rU wb (all.take n).length:=by
  rcases hrep with h | ⟨_,_,h⟩
  · exact h
  omega
 obtain⟨ng1,ng2,ng3,ng4⟩:=Rep.size (l:=all.take n) (.inl ⟨hrp,rfl,hgw⟩) (by omega)
 have hfw:ZK wb:=⟨ng1,ng2,ng3,ng4⟩
 refine Xm Y<|Ae Ia<|OY Y<|OV (EN xH Y (vs:=Az Z1 b1 z1 Z2 z2 Z3 z3) Y (Df.Ak (i:=9) Y Y))<|OY Y<|OV (EN xH Y (vs:=Az Y1 wb y1 Y2 y2 Y3 y3) Y (Df.Ak (i:=10) Y Y))<|Ae Ia<|OY Y ?_
 have HL:=Df
 refine OX (EC P0 Y) (FM b1 Z1 z1 Z2 z2 Z3 z3 b1.last.length wb.last.length wb Y1 y1 Y2 y2 Y3 y3 _ _ _ hq5 hq6 hy4 hy5 hfb hfw) (fun hp70 Nu Hd=>?_) (fun hp70 Nu Hd=>?_)
 have Eh:=HL.Ap Hd
 refine Xt Y Y<|Xr Ia<|J3 Y<|Rq<|Xm Y<|Xm Y<|Xc Y<|Xf qQ Y<|Ae Ia<|OV (EL lF Y (Eh.cell (i:=8) Y Y))<|Xm Y<|OV (pX Ns xT Y Y (by have:=hA7.cap;omega))<|Xc Y<|Ae Ia<|Xf qQ Y<|OW lF Eh 8 Y Y Y Y (by first|exact NL Y|simp[zG]) Y<|fun Vw Ob=>Xr Ia<|Rq<|Xm Y<|Xm Y<|Xc Y<|Xf G6 Y<|Ae Ia<|OW ty3 Ob 8 Y Y Y Y (by first|exact NL Y|simp[zG]) Y<|fun w12 Gi=>Xr Ia<|Rq<|Xa Y<|Xr Ia<|J5<|BR<|yN ?_
 refine BR<|Cj Y Y ?_
 have hvE:=Vp.on (R':=[Dn ga qs sp,yZ gq gd (Ah v3.gx) ga n ca (n:Int) false]) (Gi.pick [0,1,2,3,4,5,6,7,8] (by decide))
 have hAE:=(hA9.to Gi (after Vp.H hn0 hnw)).take n
 rw[← MX n,show(yZ gq gd (Ah v3.gx) ga n ca (n:Int) false)=yZ gq gd (Ah v3.gx) ga (all.take n).length ca ((all.take n).length:Int) false from by rw[hlt]]at hvE
 exact⟨Y,Ud.live hvE hAE (by rw[hlt];omega) hn0 hnw ⟨kl3,wb,hrp,hp70,L1,b1,f1.trans hL1,hL2,hL3,hp70⟩ e1 e2⟩
 have Eh:=HL.Ap Hd
 refine Xt Y Y<|Xr Ia<|J4 Y<|J6<|zA (zD ?_)
 refine J2<|Xm Y<|OV (uI Y Y (Ad _ (by omega)))<|Xa Y<|Xr Ia<|zA (zH ?_)
 have hne:n≠n1:=fun he=>by
  subst he
  obtain rfl:wb=ba:=Option.some.inj (hrp.symm.trans hba)
  exact hp70 hal
 have Xj:Hp _ Nu _ (Ar v3 (D.crash keep).start W3++[Dn ga qs sp,yZ gq gd (Ah v3.gx) ga all.length ca (sure:Int) false,((some gb,41,Az Z1 b1 z1 Z2 z2 Z3 z3):Ent)]):=Eh.pick [0,1,2,3,4,5,6,7,8,9] (by decide)
 have m1:=()
 rotate_left 1
 refine Xm Y<|Ae Ia<|Oz 3 Y<|Ae Ia<|Xu Y Y<|Xr Ia<|J4 Y<|J6<|zA (zD ?_)
 refine J2<|Xm Y<|OV (uI Y Y (Ad _ (by omega)))<|Xa Y<|Xr Ia<|zA (zH ?_)
 have hne:n≠n1:=fun he=>by
  subst he
  rcases hrep with ⟨_,h,_⟩ | ⟨h,_⟩
  · exact hp66 h
  rw[hba]at h;cases h
 have Xj:Hp _ w10 _ (Ar v3 (D.crash keep).start W3++[Dn ga qs sp,yZ gq gd (Ah v3.gx) ga all.length ca (sure:Int) false,((some gb,41,Az Z1 b1 z1 Z2 z2 Z3 z3):Ent)]):=Df.pick [0,1,2,3,4,5,6,7,8,9] (by decide)
 have m1:=()
 rotate_left 1
 any_goals
  clear m1
  have hvE:=Vp.on Xj
  exact⟨n - 1,by omega,n - 1,_,Y,(Uy Y Y Y Y),by omega,by omega,by omega,hvE,hA9.to Xj (after Vp.H hn0 hnw),hq5.toS Xj (off Xj),hq6.toR Xj (off Xj)⟩
set_option maxHeartbeats 4000000
theorem R8 (v:Vm) (D:Dk) (W:Wl) (b:Bo) (bad:Nat→Prop) (w0:World) (H0:Hp w0 w0 (bl (Ar v D W)) (Ar v D W)) (h:Wj w0 v D W b bad) (A:Option Addr) (l:List Nt) (k:Nat) (Ov:Nat→Prop) (hl:Sl (NtR w0 Ov) 16 w0 Ov A l) (ZA:∀ x,Ov x→¬bad x) (hnt:∀ n∈l,NtB n) (hv:∀ x∈bl (Ar v D W),bad x) (hn:l.length≤1000) (NB:Nat) (hg:rU b NB) (hN:NB≤800000000000) (s:Nat) (Xo:Lg D.show D.kept.length W s) (hup:D.down=false) (Ny:W.dead=false) (hwt:D.wait.length≤100000000) (hfl:W.first≤2^50) (htl:W.turn≤2^50):Aj 11 #[Ah v.gx,Ac A l.length k] w0 (fun r w'=>∃ x D' W' b',r=Aa x∧RR s D W b l x D' W' b'∧KJ w0 w' v bad (bl (Ar v D W)) D' W' b'):=by
 refine zE Tryz.func11 Tryz.ntmps11 Y<|cR Ia ?_
 have H:=H0
 have hv0:=Qn.start h H0 hv
 obtain⟨A1,k1,A2,k2,A3,k3,hcs,hb1,hb2,hb3⟩:=id h.bo
 obtain⟨ps,hp,hr,ha,h2⟩:=id hl
 have hlen:=h2.len
 have hkl:∀ x,Ov x→x < w0.heap.size→x∉bl (Ar v D W)∧(Ov x∧x < w0.heap.size):=fun x hx hl=>⟨fun hb=>ZA x hx (hv x hb),hx,hl⟩
 refine Rq<|Xa Y<|Xr Ia<|J1<|Rq<|Xm Y<|Jt (yE U23 Y) (by simp)<|Xr Ia<|J4 Y<|J6<|Rq ?_
 replace H:=H.nil 73
 refine Xa Y<|Xr Ia<|J1<|Rq<|Xm Y<|OV (ES Ns Y)<|Xm Y<|Xr Ia<|J7<|zU (fun nQ lQ w=>∃ (i:Nat) (y:Int) (gt:Option Nat) (ct:Nat) (xs sp:List Value),l.length - i=nQ∧xO (Ik [(0,Ah v.gx),(1,Ac A l.length k),(5,Ac (hd gt) i ct),(18,Ac A l.length k),(19,Aa (l.length:Int)),(20,Aa y)] 0 85) lQ∧y=(i:Int)∧i≤l.length∧xs.length=i∧i≤ct∧ct≤(xs++sp).length∧(gt=none→ct=0)∧(∀ n∈l.take i,tM n)∧Yr w0.heap.size w (Ar v D W++[((gt,73,xs++sp):Ent)]) xs ((l.take i).map xM)∧Qn w0 w (bl (Ar v D W)) bad v v D W b [((gt,73,xs++sp):Ent)]) (l.length) ?_ ?_
 exact⟨0,_,none,0,[],[],Y,(Ye Y Y Y Y Y Y Y),Y,Am _,Y,Ai _,Am _,fun _=>Y,(fun n hn=>by simp at hn),Yr.nil _ _ _,hv0.on H⟩
 rintro nQ lQ w1 ⟨i,y,gt,ct,xs,sp,rfl,hfit,rfl,hi,hxl,hct,hcs1,hcn,hsh,htx1,hv1⟩
 obtain⟨j,rfl⟩:=hfit.open
 refine cR Ia ?_
 clear hfit
 have H1:=hv1.H.here
 refine Rq<|OT (zR Y Y) (fun hp21=>?_) (fun hp21=>?_)
 have hil:i < l.length:=by omega
 obtain⟨nt,hx⟩:=yM hil
 obtain⟨p1,hp1,hR⟩:=h2.get hx
 obtain⟨B1,j1,B2,j2,rfl,hbv,Rj⟩:=hR
 obtain⟨a1,ha1⟩:=hr.some_ (by omega)
 subst ha1
 refine Xr Ia<|J1<|J3 Y<|J6<|J1<|J7<|Rq<|OV (EI Ns xT Y Y Y hil Y)<|OV (EN xT Y (vs:=Dv nt B1 j1 B2 j2) Y ((hr.to (hv1.H.all H1) (fun p e hb=>ZA _ (ha (by omega) p e) (hv _ hb))).elem hp hp1))<|OA xT H1<|fun w2 g2 H2 hg2=>OS xT H2 8 Y Y Y Y Y (by first|exact NL Y|simp[zG]) Y<|fun w3 H3=>Xr Ia<|Rq<|OV (EN xT Y (vs:=Dv nt B1 j1 B2 j2) Y (H3.Ak (i:=8) Y Y)) ?_
 have hszn:=(hv1.H.all H3).size
 have hkw:∀ x,Ov x→x < w0.heap.size→x∉bl (Ar v D W)∧True:=fun x hx hl=>⟨(hkl x hx hl).1,trivial⟩
 refine OQ (EC gf34 Y) (I4 (Pn nt) _ _ (W8 (ok:=fun _=>True) ⟨B1,j1,B2,j2,Y,hbv.to (hv1.H.all H3) hkw,Rj.to (hv1.H.all H3) hkw⟩ (hnt nt (mem_of hx)))) ?_
 rintro _ w4 ⟨gn,cn,sn,rfl,hn1,hn2,hn3,hn4,HdN⟩
 have H4:=H3.call0 HdN
 change Hp _ _ _ (_++[(gn,5,u8s (xM nt)++sn)])at H4
 refine Xm Y<|Xe Y Y<|Ae Ia<|Xe Y Y<|Xa Y<|Xa Y<|Xr Ia<|J1<|Rq<|Xm Y<|OT (yR Y Y) (fun hp30=>?_) (fun hp30=>?_)
 refine Xm Y<|Ae Ia<|Oz 3 Y<|Ae Ia<|Xt Y Y<|Xr Ia<|J3 Y<|Rq<|Xa Y<|Xr Ia<|J5<|BR<|yN<|BR<|Cj Y Y<|⟨22,D,W,b,Y,.inl ⟨⟨nt,mem_of hx,fun hs=>hp30 (by show((Nc nt:Nat):Int)=0;rw[hs.1];rfl)⟩,Y,Y,Y,Y⟩,(hv1.on (H4.pick [0,1,2,3,4,5,6] (by decide))).post⟩
 refine Xm Y<|Ae Ia<|OY Y<|Xm Y<|OY Y<|OV (ES Hf Y)<|Ae Ia<|OY Y<|OT (yP Y Y) (fun Zk=>?_) (fun Zk=>?_)
 refine Xu Y Y<|Xr Ia<|J3 Y<|Rq<|Xa Y<|Xr Ia<|J5<|BR<|yN<|BR<|Cj Y Y ?_
 exact⟨22,D,W,b,Y,.inl ⟨⟨nt,mem_of hx,fun hs=>by
  have h8:=hs.2
  have h9:16384 < ((xM nt).length:Int):=Zk
  omega⟩,rfl,rfl,rfl,rfl⟩,(hv1.on (H4.pick [0,1,2,3,4,5,6] (by decide))).post⟩
 refine Xu Y Y<|Xr Ia<|J4 Y<|J6<|J2<|Xm Y<|Xm Y<|zJ Vl xG H4 Y (by decide) Y<|fun w5 g5 H5 hg5=>yX Vl xG (by decide) H5 7 (g:=gt) (n:=i) (cap:=ct) (xs:=xs) (sp:=sp) Y Y (by rw[hxl,Bz]) (by rw[Bz];exact hcs1) hct hcn Y (H5.rd (i:=10) (o:=some _) (xs:=[Ac (hd gn) (xM nt).length cn]) (sp:=[]) Y Y (by decide)) Y (by omega) (by omega) (by decide)<|fun w6 gt2 ct2 sp2 H6 hcs2 hct2 hcn2=>?_
 rw[Bz]at hcs2
 refine Ae Ia ?_
 replace H6:=H6.nil 73
 refine Xa Y<|Xr Ia<|zA (zD ?_)
 refine J2<|OV (zL Y Y (Ad _ (by omega)))<|Xm Y<|Xr Ia<|zA (zH ?_)
 have htk:=xE hx
 have hfr:=lY HdN 0 rfl (by simp)
 have hHx:Hp _ _ _ (Ar v D W++[((gt2,73,(xs++[Ac (hd gn) (xM nt).length cn])++sp2):Ent)]):=H6.pick [0,1,2,3,4,5,6,7] (by decide)
 refine⟨l.length - (i+1),by omega,i+1,_,gt2,ct2,xs++[Ac (hd gn) (xM nt).length cn],sp2,Y,(Ye Y Y Y Y Y Y Y),by omega,by omega,by rw[Af,hxl];rfl,hct2,hcs2,hcn2,fun n hn=>?_,?_,hv1.on hHx⟩
 rw[htk]at hn
 rcases Bj.1 hn with h1 | h1
 exact hsh n h1
 rw[Bc.1 h1]
 have h8:¬(((Nc nt:Nat):Int)≠0):=hp30
 have h9:¬(16384 < ((xM nt).length:Int)):=Zk
 exact⟨by omega,by omega⟩
 rw[htk,Ez]
 exact(htx1.on hHx).snoc (H6.rd (i:=9) (o:=gn) (xs:=u8s (xM nt)) (sp:=sn) Y (yV _) (by decide)) (fun p hp=>⟨by have:=hfr p hp;omega,GM H6 9 [0,1,2,3,4,5,6,7] Y Y (by decide) p hp⟩)
 obtain rfl:i=l.length:=by omega
 rw[Cc]at hsh htx1
 refine Xr Ia<|J1<|J4 Y<|J8<|zT<|zS<|Rq<|Xm Y<|Xc Y<|Xf iS Y<|OV (EN xH Y (vs:=Az A1 b k1 A2 k2 A3 k3) Y (H1.Ak (i:=6) Y (by rw[fN,hcs];rfl)))<|Ae Ia<|OA xH H1<|fun w2 gb H2 hgb=>OS xH H2 8 Y Y Y Y Y (by first|exact NL Y|simp[zG]) Y<|fun w3 H3=>Xr Ia<|J1<|Rq<|Xm Y<|OV (ES Ns Y)<|Xm Y<|Xr Ia<|J7<|zU (fun nQ lQ w=>∃ (i:Nat) (y:Int) (b2:Bo) (cs:List Value),l.length - i=nQ∧xO (Ik [(0,Ah v.gx),(1,Ac A l.length k),(5,Ac (hd gt) l.length ct),(10,Ah gb),(45,Ac A l.length k),(46,Aa (l.length:Int)),(47,Aa y)] 0 85) lQ∧y=(i:Int)∧i≤l.length∧xZ b (l.take i)=some b2∧rU b2 (NB+i)∧Sj w (fun x=>x∉bl (Ar v D W++[((gt,73,xs++sp):Ent),((some gb,41,cs):Ent)])) cs b2∧Yr w0.heap.size w (Ar v D W++[((gt,73,xs++sp):Ent),((some gb,41,cs):Ent)]) xs (l.map xM)∧Qn w0 w (bl (Ar v D W)) bad v v D W b [((gt,73,xs++sp):Ent),((some gb,41,cs):Ent)]) (l.length) ?_ ?_
 have HA:=hv1.H.all H3
 have hkb:∀ x,¬bad x→x < w0.heap.size→x∉bl (Ar v D W)∧x∉bl (Ar v D W++[((gt,73,xs++sp):Ent),((some gb,41,[]):Ent)]):=fun x hx hl=>⟨fun hb=>hx (hv x hb),fun hb=>by
 rcases bl_place HA x hb with h1 | h1
 exact hx (hv x h1)
 omega⟩
 exact⟨0,_,b,_,Y,(ft7 Y Y Y Y Y Y Y Y),Y,Am _,Y,hg,⟨A1,k1,A2,k2,A3,k3,Y,hb1.toS HA hkb,hb2.toR HA hkb,hb3.toM HA hkb⟩,htx1.on H3,hv1.on H3⟩
 rintro nQ lQ w4 ⟨i,y,b2,cs,rfl,hfit,rfl,hi,Vf,Zt,Zx,htx2,hv2⟩
 obtain⟨j,rfl⟩:=hfit.open
 refine cR Ia ?_
 clear hfit
 have H4:=hv2.H.here
 obtain⟨X1,x1,X2,x2,X3,x3,rfl,hx1,hx2,hx3⟩:=Zx
 refine Rq<|OT (zR Y Y) (fun hp48=>?_) (fun hp48=>?_)
 have hil:i < l.length:=by omega
 obtain⟨nt,hx⟩:=yM hil
 obtain⟨p1,hp1,hR⟩:=h2.get hx
 obtain⟨B1,j1,B2,j2,rfl,hbv,Rj⟩:=hR
 obtain⟨a1,ha1⟩:=hr.some_ (by omega)
 subst ha1
 refine Xr Ia<|J1<|J3 Y<|J6<|J1<|J7<|Rq<|OV (EI Ns xT Y Y Y hil Y)<|OV (EN xT Y (vs:=Dv nt B1 j1 B2 j2) Y ((hr.to (hv2.H.all H4) (fun p e hb=>ZA _ (ha (by omega) p e) (hv _ hb))).elem hp hp1))<|OA xT H4<|fun w5 g5 H5 hg5=>OS xT H5 9 Y Y Y Y Y (by first|exact NL Y|simp[zG]) Y<|fun w6 H6=>Xr Ia<|Rq<|OV (EN xT Y (vs:=Dv nt B1 j1 B2 j2) Y (H6.Ak (i:=9) Y Y)) ?_
 have hHg:=H6
 have Rz:=hv2.H.place (i:=8) rfl
 have hszg:=H6.size
 refine OQ (EC UE Y) (CQ none gb b2 X1 x1 X2 x2 X3 x3 nt B1 j1 B2 j2 (fun x=>Ov x∧x < w0.heap.size) _ _ (H6.at (i:=8) Y) (fun x=>x∉bl (Ar v D W++[((gt,73,xs++sp):Ent),((some gb,41,[]):Ent)])) (fun hh=>hh (Pm (Fb.2 ⟨_,Es _ Gn,Y⟩))) (hx1.toS H6 fun x hx _=>⟨hx,hx⟩) (hx2.toR H6 fun x hx _=>⟨hx,hx⟩) (hx3.toM H6 fun x hx _=>⟨hx,hx⟩) (fun hh=>Rz.elim (fun h=>ZA _ hh.1 (hv _ h)) (fun h=>by have:=hh.2;omega)) (hbv.to (hv2.H.all H6) hkl) (Rj.to (hv2.H.all H6) hkl) Zt (by omega)) ?_
 rintro r w7 ⟨hyes,hno⟩
 have htk:=qA Vf hx
 cases hin:b2.into nt
 obtain⟨rfl,Hd⟩:=hno hin
 have ZT:=(hHg.Dq [8] rfl Hd).pick [0,1,2,3,4,5,6] (by decide)
 refine Xn Y<|Xr Ia<|J3 Y<|Rq<|Xa Y<|Xr Ia<|J5<|BR<|yN<|BR<|Cj Y Y<|⟨21,D,W,b,Y,.inr (.inl ⟨hsh,kY (htk.trans hin),Y,Y,Y,Y⟩),(hv2.on ZT).post⟩
 obtain⟨rfl,cs',Hd,hB'⟩:=hyes _ hin
 have ZT:=(hHg.Dq [8] rfl Hd).pick [0,1,2,3,4,5,6,7,10] (by decide)
 refine Xn Y<|Xr Ia<|J4 Y<|J6<|zA (zD ?_)
 refine J2<|OV (zL Y Y (Ad _ (by omega)))<|Xm Y<|Xr Ia<|zA (zH ?_)
 exact⟨l.length - (i+1),by omega,i+1,_,_,cs',Y,(ft7 Y Y Y Y Y Y Y Y),by omega,by omega,htk.trans hin,Zt.into hin,hB'.to (Hp.refl _) (fun x hx _=>⟨by simp,hx.elim id fun h1 hb=>by have:=pZ hv2.H hb;omega⟩),htx2.on ZT,hv2.on ZT⟩
 obtain rfl:i=l.length:=by omega
 rw[Cc]at Vf
 refine Xr Ia<|J1<|J4 Y<|J8<|zT<|zS<|J1<|Rq<|Xm Y<|OV (ES Vl Y)<|Xm Y<|Xr Ia<|J7<|zU (fun nQ lQ w=>∃ (i:Nat) (y:Int) (v1:Vm) (D1:Dk) (W1:Wl) (b1:Bo),l.length - i=nQ∧xO (Ik [(0,Ah v.gx),(1,Ac A l.length k),(55,Ac (hd gt) l.length ct),(56,Aa (l.length:Int)),(57,Aa y)] 0 85) lQ∧y=(i:Int)∧i≤l.length∧xZ b (l.take i)=some b1∧rU b1 (NB+i)∧kL s D W ((l.take i).map xM) D1 W1∧Yr w0.heap.size w (Ar v1 D1 W1++[((gt,73,xs++sp):Ent)]) xs (l.map xM)∧Qn w0 w (bl (Ar v D W)) bad v v1 D1 W1 b1 [((gt,73,xs++sp):Ent)]) (l.length) ?_ ?_
 have HP3:=H4.pick [0,1,2,3,4,5,6,7] (by decide)
 exact⟨0,_,v,D,W,b,Y,(Qr Y Y Y Y Y Y),Y,Am _,Y,hg,kL.none Xo hup Ny,htx2.on HP3,hv2.on HP3⟩
 rintro nQ lQ w5 ⟨i,y,v1,D1,W1,b1,rfl,hfit,rfl,hi,Vz,Zr,hgr,htx3,hv3⟩
 obtain⟨j,rfl⟩:=hfit.open
 refine cR Ia ?_
 clear hfit
 obtain⟨m1,gx1,cs1⟩:=v1
 obtain rfl:gx1=v.gx:=hv3.gx
 have H5:=hv3.H.here
 obtain⟨ws,hw1,hw2,_⟩:=id hgr.wait
 have Z8:D1.wait.length≤1000000000:=by
  rw[Bl,Aw]at hw2
  rw[hw1,Af];omega
 refine Rq<|OT (zR Y Y) (fun hp58=>?_) (fun hp58=>?_)
 have hil:i < l.length:=by omega
 obtain⟨nt,hx⟩:=yM hil
 obtain⟨p1,hp1,hR⟩:=h2.get hx
 obtain⟨B1,j1,B2,j2,rfl,hbv,Rj⟩:=hR
 obtain⟨a1,ha1⟩:=hr.some_ (by omega)
 subst ha1
 obtain⟨B,c,hxi,hrd,hap⟩:=htx3.get (i:=i) (t:=xM nt) (by rw[Oy,hx];rfl)
 obtain⟨gt1,hgt1⟩:=vO H5 (i:=7) rfl (by rw[Af];omega)
 subst hgt1
 refine Xr Ia<|J1<|J3 Y<|J6<|J1<|J7<|Rq<|Xm Y<|OV (EI Vl xG Y Y Y hil (Bz _)) ?_
 rw[eV]
 refine OV (EL xG Y (H5.cell (i:=7) (o:=i) Y (by rw[Di (lt_of_get hxi)];exact hxi))) ?_
 refine Xa Y<|Ae Ia<|Xa Y<|Xr Ia<|J1<|Rq<|Xm Y<|Xc Y<|Xf iT Y<|OV (EL uF Y (H5.cell (i:=6) Y Y))<|Ae Ia<|Xm Y<|OQ (EC gf35 Y) (aN m1 D1 W1 _ hv3.H.less.less.here hv3.ok.ok B (xM nt) c hrd (fun h0 p hp hb=>(hap h0 p hp).2 (qW hb)) (by have:=jF nt;omega) Z8) ?_
 rintro _ w6 ⟨x,D2,W2,rfl,hres,hwp⟩
 obtain⟨v2,hcs2,hgx2,hv5,Uz⟩:=hv3.log hwp
 obtain⟨m2,gx2,cs2⟩:=v2
 obtain rfl:gx2=v.gx:=hgx2
 have htx5:=htx3.on Uz
 have H6:=hv5.H.here
 rcases hgr.app hres (hsh nt (mem_of hx)).2 with ⟨hx0,hfit,hgr2⟩ | ⟨hx0,hfull,hD2,hW2⟩ | ⟨hx0,harm,hdn,hkp,_,ws2,hws,hwl,hfrs⟩
 refine Xa Y<|Xr Ia<|Rq<|Xm Y<|Jt (yR Y Y) (by omega)<|Xr Ia<|J4 Y<|J6<|zQ 7 [(true,0),(true,1),(true,2),(true,3),(true,4),(true,5),(true,6),(false,7)] H6 [0,1,2,3,4,5,6,7] yF (by decide) (by kernel_rfl) ?_
 rintro w7 hw7
 have H7:=Hp.drew H6;rw[← hw7]at H7
 refine Zm Y Y<|Zc Y Y<|Zf Y iS Y<|Zm Y Y<|cZ Ia<|Zm Y Y<|MP Y<|MV (fun wz hz=>EI Ns xT Y Y Y hil Y)<|MP Y<|MV (fun wz hz=>EN xT Y (vs:=Dv nt B1 j1 B2 j2) Y ((hr.to (hv5.H.all hz) (fun p e hb=>ZA _ (ha (by omega) p e) (hv _ hb))).elem hp hp1))<|MO Y ?_
 obtain⟨b3,hin⟩:∃ b3,b1.into nt=some b3:=by
  obtain⟨c,hc⟩:=eZ (i+1) Vf
  exact⟨c,(qA Vz hx).symm.trans hc⟩
 obtain⟨X1,x1,X2,x2,X3,x3,hcs3,hx1,hx2,hx3⟩:=hv5.ok.bo
 obtain rfl:cs2=(Az X1 b1 x1 X2 x2 X3 x3):=hcs3
 have hv6:=hv5.on H7
 have htx6:=htx5.on H7
 have hgx6:v.gx∈bl (Ar v D W)∨w0.heap.size≤v.gx:=hv5.H.place (i:=6) rfl
 have hin6:v.gx∈bl (Ar (⟨m2,v.gx,Az X1 b1 x1 X2 x2 X3 x3⟩:Vm) D2 W2++[((some gt1,73,xs++sp):Ent)]):=Fp (Pm (Fb.2 ⟨_,Gn,rfl⟩))
 refine OQ (EC UE Y) (CQ (some (Ah m2.gv)) v.gx b1 X1 x1 X2 x2 X3 x3 nt B1 j1 B2 j2 (fun x=>Ov x∧x < w0.heap.size) _ _ (H7.at (i:=6) Y) _ (fun hh=>hh (.inr hin6)) (hx1.toS H7 fun x hx _=>⟨fun hb=>hx (.inr hb),hx⟩) (hx2.toR H7 fun x hx _=>⟨fun hb=>hx (.inr hb),hx⟩) (hx3.toM H7 fun x hx _=>⟨fun hb=>hx (.inr hb),hx⟩) (fun hh=>hgx6.elim (fun h=>ZA _ hh.1 (hv _ h)) (fun h=>by have:=hh.2;omega)) (hbv.to (hv5.H.all H7) hkl) (Rj.to (hv5.H.all H7) hkl) Zr (by omega)) ?_
 rintro r w8 ⟨hyes,_⟩
 obtain⟨rfl,cs',Hd,hB'⟩:=hyes _ hin
 obtain⟨hv7,Wn⟩:=hv6.book Hd hB'
 have htx7:=htx6.on Wn
 have H8:=hv7.H.here
 refine OE ?_
 refine⟨fun hne=>absurd Y hne,?_⟩
 refine cZ Ia<|ME<|cR Ia<|zA (zD ?_)
 refine J2<|OV (zL Y Y (Ad _ (by omega)))<|Xm Y<|Xr Ia<|zA (zH ?_)
 exact⟨l.length - (i+1),by omega,i+1,_,_,D2,W2,b3,Y,(Qr Y Y Y Y Y Y),by omega,by omega,(qA Vz hx).trans hin,Zr.into hin,by rw[xE hx,Ez];exact hgr2,htx7.on H8,hv7.on H8⟩
 refine Xa Y<|Xr Ia<|Rq<|Xm Y<|Qg (yR Y Y) (by omega)<|Xr Ia<|J3 Y<|Rq<|Xm Y<|Xa Y<|Xr Ia<|J5<|BR<|yN<|BR<|Cj Y Y<|⟨x,D2,W2,b1,Y,.inr (.inr ⟨hsh,_,Vf,.inl ⟨i,nt,D1,W1,hx,hgr,Vz,.inl ⟨hx0,hfull,hD2,hW2⟩⟩⟩),(hv5.on H6).post⟩
 refine Xa Y<|Xr Ia<|Rq<|Xm Y<|Qg (yR Y Y) (by omega)<|Xr Ia<|J3 Y<|Rq<|Xm Y<|Xa Y<|Xr Ia<|J5<|BR<|yN<|BR<|Cj Y Y<|⟨x,D2,W2,b1,Y,.inr (.inr ⟨hsh,_,Vf,.inl ⟨i,nt,D1,W1,hx,hgr,Vz,.inr ⟨hx0,harm,hdn,hkp,ws2,hws,by rw[Bl]at hwl;have h9:=List.length_take_le i l;omega,hfrs⟩⟩⟩),(hv5.on H6).post⟩
 obtain rfl:i=l.length:=by omega
 rw[Cc]at hgr Vz
 refine Xr Ia<|J1<|J4 Y<|J8<|zT<|zS<|Rq<|Xm Y<|Xc Y<|Xf iT Y<|OV (EL uF Y (H5.cell (i:=6) Y Y))<|Ae Ia<|OQ (EC gf36 Y) (NN m1 D1 W1 _ hv3.H.less.less.here hv3.ok.ok Z8 (by rw[hgr.first];exact hfl) (by rw[hgr.turn];exact htl)) ?_
 rintro _ w6 ⟨x,D2,W2,rfl,hres,hwp⟩
 obtain⟨v2,_,_,hv5,_⟩:=hv3.log hwp
 have H6:=hv5.H.here
 refine Xa Y<|Xr Ia<|J5<|Cj Y Y<|⟨x,D2,W2,b1,Y,.inr (.inr ⟨hsh,_,Vf,.inr ⟨D1,W1,hgr,Option.some.inj (Vz.symm.trans Vf),hres⟩⟩),(hv5.on H6).post⟩
end Go.Proofs.YtjoeklkmnfaabaaGreat
namespace Go.Proofs.YtjoeklkmnfaabaaGreat
open Go Go.RowKit
set_option linter.unusedVariables false
set_option linter.unusedSimpArgs false
section
variable {P:Program} {ds:List Deferred} {Q:vQ} {l:List Value} {w:World} {x:Code} {us vs cs:List Code}
theorem DW {M:List Value→World→Prop}:∀ (xs:List Code) {l:List Value} {w:World},Run P ds xs (aU M Q) l w→(∀ l w,M l w→Run P ds cs Q l w)→Run P ds (xs++cs) Q l w
 | [],_,_,h,h2=>h2 _ _ h
 | x::xs,l,w,h,h2=>by
  refine UY (c:=x) h ?_
  intro e l w h
  cases e with
  | normal=>exact DW xs h h2
  | _=>exact h
end
end Go.Proofs.YtjoeklkmnfaabaaGreat
namespace Go.Proofs.YtjoeklkmnfaabaaGreat
open Go Go.RowKit
set_option linter.unusedVariables false
set_option linter.unusedSimpArgs false
attribute [local irreducible] yT Ops zO Cd
set_option maxRecDepth 100000
set_option maxHeartbeats 4000000
theorem SL (x:Vt) (Ax Ay:Option Addr) (kx ky:Nat) (ok ok2:Nat→Prop) (w0:World) (ha:Bs w0 ok Ax x.val) (hb:Bs w0 ok2 Ay x.val):Aj 127 #[.agg (Dl x Ax kx).toArray,.agg (Dl x Ay ky).toArray] w0 (fun r w'=>r=.bool true∧Hp w0 w' [] []):=by
 refine zE Tryz.func127 Tryz.ntmps127 Y<|cR e24 ?_
 have H:=Hp.refl w0
 refine Rq<|zW Y Y H<|fun w1 g1 H1 hg1=>zW Y Y H1<|fun w2 g2 H2 hg2=>Xa Y<|Xr e24<|Rq<|Xf wY Y<|OV (EL ty3 Y (H2.cell (i:=0) Y Y))<|Xf wY Y<|OV (EL ty3 Y (H2.cell (i:=1) Y Y))<|Ae e24<|Qg (yU Y Y) (Y)<|Xm Y<|Ae e24<|OY Y<|Xf tA Y<|OY Y<|OV (EN vC Y (vs:=[Aa x.b.r,Aa x.b.n]) Y (H2.Ak (i:=0) Y Y))<|Ae e24<|OY Y<|Xf tA Y<|OY Y<|OV (EN vC Y (vs:=[Aa x.b.r,Aa x.b.n]) Y (H2.Ak (i:=1) Y Y))<|Ae e24<|OY Y<|Qg (mQ Y Y) (⟨Y,Y⟩)<|Xt Y Y<|Xm Y<|Ae e24<|OY Y<|Xf tO Y<|OY Y<|OV (EL xG Y (H2.cell (i:=0) Y Y))<|Ae e24<|OY Y ?_
 refine Xf tO Y<|OY Y<|OV (EL xG Y (H2.cell (i:=1) Y Y))<|Ae e24<|OY Y ?_
 have hby:=nP Ax Ay x.val x.val kx ky _ (ha.1.to0 H2) (hb.1.to0 H2) (by have:=ha.2.2;omega) (by have:=hb.2.2;omega)
 rw[decide_eq_true rfl]at hby
 refine OC (EC PX Y) hby<|fun w3 Hd=>have H3:=H2.Ap Hd;Xt Y Y<|Xa Y<|Xr e24<|J5<|Cj Y Y<|⟨Y,H3.Ag⟩
theorem SN (x:En) (Ax Ay:Option Addr) (kx ky:Nat) (ok ok2:Nat→Prop) (w0:World) (ha:Bs w0 ok Ax x.val) (hb:Bs w0 ok2 Ay x.val):Aj 130 #[.agg (Ey x Ax kx).toArray,.agg (Ey x Ay ky).toArray] w0 (fun r w'=>r=.bool true∧Hp w0 w' [] []):=by
 refine zE Tryz.func130 Tryz.ntmps130 Y<|cR e17 ?_
 have H:=Hp.refl w0
 refine Rq<|zW Y Y H<|fun w1 g1 H1 hg1=>zW Y Y H1<|fun w2 g2 H2 hg2=>Xa Y<|Xr e17<|Rq<|Xf xX Y<|OV (EL ty3 Y (H2.cell (i:=0) Y Y))<|Xf xX Y<|OV (EL ty3 Y (H2.cell (i:=1) Y Y))<|Ae e17<|Qg (yU Y Y) (Y)<|Xm Y<|Ae e17<|OY Y<|Xf uH Y<|OY Y<|OV (EL xG Y (H2.cell (i:=0) Y Y))<|Ae e17<|OY Y<|Xf uH Y<|OY Y<|OV (EL xG Y (H2.cell (i:=1) Y Y))<|Ae e17<|OY Y ?_
 have hby:=nP Ax Ay x.val x.val kx ky _ (ha.1.to0 H2) (hb.1.to0 H2) (by have:=ha.2.2;omega) (by have:=hb.2.2;omega)
 rw[decide_eq_true rfl]at hby
 refine OC (EC PX Y) hby<|fun w3 Hd=>have H3:=H2.Ap Hd;Xt Y Y<|Xa Y<|Xr e17<|J5<|Cj Y Y<|⟨Y,H3.Ag⟩
theorem SM (n:Nt) (B1:Option Addr) (j1:Nat) (B2:Option Addr) (j2:Nat) (E1:Option Addr) (f1:Nat) (E2:Option Addr) (f2:Nat) (ok ok2:Nat→Prop) (w0:World) (h1:Bs w0 ok B1 n.Eb.val) (h2:Bs w0 ok B2 n.entry.val) (u1:Bs w0 ok2 E1 n.Eb.val) (u2:Bs w0 ok2 E2 n.entry.val):Aj 101 #[.agg (Dv n B1 j1 B2 j2).toArray,.agg (Dv n E1 f1 E2 f2).toArray] w0 (fun r w'=>r=.bool true∧Hp w0 w' [] []):=by
 refine zE Tryz.func101 Tryz.ntmps101 Y<|cR e59 ?_
 have H:=Hp.refl w0
 refine Rq<|zW Y Y H<|fun w1 g1 H1 hg1=>zW Y Y H1<|fun w2 g2 H2 hg2=>Xa Y<|Xr e59<|Rq<|Xf qP Y<|OV (EL ty3 Y (H2.cell (i:=0) Y Y))<|Xf qP Y<|OV (EL ty3 Y (H2.cell (i:=1) Y Y))<|Ae e59<|Qg (yU Y Y) (Y)<|Xm Y<|Ae e59<|OY Y<|Xf fl81_1 Y<|OY Y<|OV (EL ty3 Y (H2.cell (i:=0) Y Y))<|Ae e59<|OY Y<|Xf fl81_1 Y<|OY Y<|OV (EL ty3 Y (H2.cell (i:=1) Y Y))<|Ae e59<|OY Y<|Qg (yU Y Y) (Y)<|Xt Y Y<|Xm Y<|Ae e59<|OY Y<|Xf mM Y<|OY Y<|OV (EN vC Y (vs:=[Aa n.b.r,Aa n.b.n]) Y (H2.Ak (i:=0) Y Y))<|Ae e59<|OY Y ?_
 refine Xf mM Y<|OY Y<|OV (EN vC Y (vs:=[Aa n.b.r,Aa n.b.n]) Y (H2.Ak (i:=1) Y Y))<|Ae e59<|OY Y<|Qg (mQ Y Y) (⟨Y,Y⟩)<|Xt Y Y<|Xm Y<|Ae e59<|OY Y<|Xf qO Y<|OY Y<|OV (EN xC Y (vs:=Ju n B1 j1) Y (H2.Ak (i:=0) Y Y))<|Ae e59<|OY Y<|Xf qO Y<|OY Y<|OV (EN xC Y (vs:=Ju n E1 f1) Y (H2.Ak (i:=1) Y Y))<|Ae e59<|OY Y<|OC (EC V1 Y) (SL n.Eb B1 E1 j1 f1 ok ok2 _ (h1.to H2 k0) (u1.to H2 k0))<|fun w3 Hd=>have H3:=H2.Ap Hd;Xt Y Y<|Xm Y<|Ae e59<|OY Y<|Xf vV Y<|OY Y<|OV (EN wJ Y (vs:=Gy n B2 j2) Y (H3.Ak (i:=0) Y Y))<|Ae e59<|OY Y<|Xf vV Y<|OY Y<|OV (EN wJ Y (vs:=Gy n E2 f2) Y (H3.Ak (i:=1) Y Y))<|Ae e59<|OY Y<|OC (EC V0 Y) (SN n.entry B2 E2 j2 f2 ok ok2 _ (h2.to H3 k0) (u2.to H3 k0))<|fun w4 Hd=>have H4:=H3.Ap Hd;Xt Y Y ?_
 refine Xm Y<|Ae e59<|OY Y<|Xf kB Y<|OY Y<|OV (EN xR Y (vs:=Qy n) Y (H4.Ak (i:=0) Y Y))<|Ae e59<|OY Y<|Xf kB Y<|OY Y<|OV (EN xR Y (vs:=Qy n) Y (H4.Ak (i:=1) Y Y))<|Ae e59<|OY Y<|OV (MB Y Y)<|Xt Y Y<|Xm Y<|Ae e59<|OY Y<|Xf uQ Y<|OY Y<|OV (EL ty3 Y (H4.cell (i:=0) Y Y))<|Ae e59<|OY Y<|Xf uQ Y<|OY Y<|OV (EL ty3 Y (H4.cell (i:=1) Y Y))<|Ae e59<|OY Y<|Qg (yU Y Y) (Y)<|Xt Y Y<|Xm Y<|Ae e59<|OY Y<|Xf tN Y<|OY Y<|OV (EL ty3 Y (H4.cell (i:=0) Y Y))<|Ae e59<|OY Y<|Xf tN Y<|OY Y ?_
 refine OV (EL ty3 Y (H4.cell (i:=1) Y Y))<|Ae e59<|OY Y<|Qg (yU Y Y) (Y)<|Xt Y Y<|Xa Y<|Xr e59<|J5<|Cj Y Y<|⟨Y,H4.Ag⟩
theorem NU (A B:Option Addr) (k k2:Nat) (l:List Nt) (ok ok2:Nat→Prop) (w0:World) (hl:Sl (NtR w0 ok) 16 w0 ok A l) (hl2:Sl (NtR w0 ok2) 16 w0 ok2 B l) (hn:l.length≤1000000000000000000):Aj 100 #[Ac A l.length k,Ac B l.length k2,.func (.func 101) #[] #[]] w0 (fun r w'=>r=.bool true∧Hp w0 w' [] []):=by
 refine zE Tryz.func100 Tryz.ntmps100 Y<|cR e30 ?_
 have H:=Hp.refl w0
 obtain⟨ps,hp,hr,_,h2⟩:=hl
 obtain⟨qs,hq,hrb,_,h2b⟩:=hl2
 refine Rq<|Xa Y<|Xr e30<|J1<|Rq<|Xm Y<|OV (ES Ns Y)<|Xm Y<|OV (ES Ns Y)<|Ae e30<|Jt (yR Y Y) (fun h=>h Y)<|Xr e30<|J4 Y<|J6<|J1<|Rq<|Xa Y<|Xr e30<|J7<|zU (fun nQ lQ w=>∃ (i:Nat) (y:Int),l.length - i=nQ∧xO (Ik [(0,Ac A l.length k),(1,Ac B l.length k2),(2,.func (.func 101) #[] #[]),(7,Aa y)] 0 30) lQ∧y=(i:Int)∧i≤l.length∧Hp w0 w [] []) (l.length) ?_ ?_
 exact⟨0,_,Y,(Ja Y Y Y Y Y),Y,Am _,H⟩
 rintro nQ lQ w1 ⟨i,y,rfl,hfit,rfl,hi,H1⟩
 obtain⟨j,rfl⟩:=hfit.open
 refine cR e30 ?_
 clear hfit
 refine J1<|Rq<|Xm Y<|Xm Y<|OV (ES Ns Y)<|OT (zR Y Y) (fun hp16=>?_) (fun hp16=>?_)
 have hil:i < l.length:=by omega
 obtain⟨x,hx⟩:=yM hil
 obtain⟨p1,hp1,hR⟩:=h2.get hx
 obtain⟨p2,hp2,hR2⟩:=h2b.get hx
 obtain⟨a1,ha1⟩:=hr.some_ (by omega)
 obtain⟨a2,ha2⟩:=hrb.some_ (by omega)
 subst ha1 ha2
 obtain⟨B1,j1,B2,j2,rfl,h1,h3⟩:=hR
 obtain⟨E1,f1,E2,f2,rfl,u1,u3⟩:=hR2
 refine Xr e30<|J3 Y<|J6<|J1<|J7<|J1<|zQ 10 [(true,0),(true,1),(true,2),(true,3),(true,4),(true,5),(true,6),(true,7),(true,8),(false,9),(false,10)] H1 [] yF (by decide) (by kernel_rfl) ?_
 rintro w2 hw2
 have H2:=Hp.drew H1;rw[← hw2]at H2
 refine Zm Y Y<|Zm Y Y<|Zm Y Y<|MP Y<|MV (fun wz hz=>EI Ns xT Y Y (len:=l.length) (i:=i) (by omega) (by omega) Y)<|cZ e30<|MP Y<|MV (fun wz hz=>EN xT Y (vs:=Dv x B1 j1 B2 j2) Y ((hr.to0 hz).elem hp hp1))<|Zm Y Y<|Zm Y Y<|MP Y<|MV (fun wz hz=>EI Ns xT Y Y (len:=l.length) (i:=i) (by omega) (by omega) Y)<|cZ e30<|MP Y<|MV (fun wz hz=>EN xT Y (vs:=Dv x E1 f1 E2 f2) Y ((hrb.to0 hz).elem hq hp2))<|MO Y<|OC (xD gf101 Y Y) (SM x B1 j1 B2 j2 E1 f1 E2 f2 ok ok2 _ (h1.to H2 k0) (h3.to H2 k0) (u1.to H2 k0) (u3.to H2 k0))<|fun w3 Hd=>have H3:=H2.Ap Hd;OE<|⟨fun hne=>H3.pick [] (by decide),?_⟩
 refine cZ e30<|MO Y<|Xn Y<|OE<|⟨fun hne=>absurd Y hne,?_⟩
 refine cZ e30<|ME<|cR e30<|J4 Y<|J6<|zA (zD ?_)
 refine J2<|Xm Y<|OV (zL Y Y (Ad _ (by omega)))<|Xa Y<|Xr e30<|zA (zH ?_)
 exact⟨l.length - (i+1),by omega,i+1,_,Y,(Ja Y Y Y Y Y),by omega,by omega,H3.Ag⟩
 refine Xr e30<|J4 Y<|J8<|zT<|zS<|Rq<|Xa Y<|Xr e30<|J5<|Cj Y Y<|⟨Y,H1.Ag⟩
set_option maxHeartbeats 64000000
theorem JD (n0 gq c m:Nat) (ga:Option Nat) (ca:Nat) (qs:List (List Value)) (sp:List Value) (all:List Nt) (v:Vm) (D:Dk) (W:Wl) (b:Bo) (L:List Nt) (s:Nat) (W1:Wl) (w0:World) (H0:Hp w0 w0 (bl (Ar v D W++[Dn ga qs sp,yZ gq v.m.gd (Ah v.gx) ga all.length ca (all.length:Int) false])) (Ar v D W++[Dn ga qs sp,yZ gq v.m.gd (Ah v.gx) ga all.length ca (all.length:Int) false])) (hn0:∀ x∈bl (Ar v D W++[Dn ga qs sp,yZ gq v.m.gd (Ah v.gx) ga all.length ca (all.length:Int) false]),n0≤x) (hnw:n0≤w0.heap.size) (hok:Wj w0 v D W b (fun x=>x∈bl (Ar v D W++[Dn ga qs sp,yZ gq v.m.gd (Ah v.gx) ga all.length ca (all.length:Int) false]))) (hk:Vu D W b L s c W1 all) (hA:nA w0 n0 ga ca qs sp all) (hm:all.length+8≤m) (hm2:m≤1000) (hc:c≤90000000) (AL:Option Addr) (l:List Nt) (kl:Nat) (hl:Sl (NtR w0 (fun x=>x < n0)) 16 w0 (fun x=>x < n0) AL l) (hl8:l.length≤8) (hnt:∀ n∈l,NtB n):Aj 53 #[Ah gq,Ac AL l.length kl] w0 (fun r w'=>r=.bool true∧∃ f es',Hp w0 w' (bl (Ar v D W++[Dn ga qs sp,yZ gq v.m.gd (Ah v.gx) ga all.length ca (all.length:Int) false])) es'∧Ud w' n0 v.m.gd v.m.gk gq (c+1300000) m f es'):=by
 refine zE Tryz.func53 Tryz.ntmps53 Y<|cR Fe ?_
 have H:Hp w0 w0 (bl (Ar v D W++[Dn ga qs sp,yZ gq v.m.gd (Ah v.gx) ga all.length ca (all.length:Int) false])) (Ar v D W++[Dn ga qs sp,yZ gq v.m.gd (Ah v.gx) ga all.length ca (all.length:Int) false]):=H0
 have hv0:=Qn.begin hok H0
 refine Rq<|Xa Y<|Xr Fe<|Rq<|Xa Y<|Xr Fe<|J1<|Rq<|Xa Y<|Xr Fe<|J7<|zU (fun nQ lQ w=>∃ (i:Nat) (y z:Int),l.length - i=nQ∧xO (Ik [(0,Ah gq),(1,Ac AL l.length kl),(5,Aa z),(6,Aa y)] 0 147) lQ∧y=(i:Int)∧i≤l.length∧((z=0∧∀ n∈l.take i,tM n)∨(z=22∧∃ n∈l,¬tM n))∧Qn w0 w (bl (Ar v D W++[Dn ga qs sp,yZ gq v.m.gd (Ah v.gx) ga all.length ca (all.length:Int) false])) Z7 v v D W b [Dn ga qs sp,yZ gq v.m.gd (Ah v.gx) ga all.length ca (all.length:Int) false]∧Sl (NtR w (fun x=>x < n0)) 16 w (fun x=>x < n0) AL l∧nA w n0 ga ca qs sp all) (l.length) ?_ ?_
 exact⟨0,_,_,Y,(Ja Y Y Y Y Y),Y,Am _,.inl ⟨Y,fun n hn=>by simp at hn⟩,hv0,hl,hA⟩
 rintro nQ lQ w1 ⟨i,y,z,rfl,hfit,rfl,hi,hz,hv1,hl1,hA1⟩
 obtain⟨j,rfl⟩:=hfit.open
 refine cR Fe ?_
 clear hfit
 have H1:=hv1.H.here
 have hS1:=after hv1.H hn0 hnw
 have hk1:∀ N x,x < n0→x < N→x∉bl (Ar v D W++[Dn ga qs sp,yZ gq v.m.gd (Ah v.gx) ga all.length ca (all.length:Int) false])∧x < n0:=fun _ x hx _=>⟨fun hb=>by have:=hS1 x hb;omega,hx⟩
 refine J1<|Rq<|Xm Y<|Xm Y<|OV (ES Ns Y)<|OT (zR Y Y) (fun hp18=>?_) (fun hp18=>?_)
 have hil:i < l.length:=by omega
 obtain⟨nt,hx⟩:=yM hil
 obtain⟨ps,hp,hr,ha,h2⟩:=id hl1
 obtain⟨p1,hp1,hR⟩:=h2.get hx
 obtain⟨B1,j1,B2,j2,rfl,hbv,Rj⟩:=hR
 obtain⟨a1,ha1⟩:=hr.some_ (by omega)
 subst ha1
 refine Xr Fe<|J3 Y<|J6<|J1<|J7<|Rq<|Xm Y<|Xm Y<|OV (EI Ns xT Y Y Y hil Y)<|OV (EN xT Y (vs:=Dv nt B1 j1 B2 j2) Y (hr.elem hp hp1))<|Ae Fe ?_
 have HL:=H1
 refine OX (EC gf99 Y) (SJ nt B1 j1 B2 j2 _ _ hbv Rj (hnt nt (mem_of hx))) (fun hp25 w2 Hd=>?_) (fun hp25 w2 Hd=>?_)
 have H2:=HL.Ap Hd
 refine Xn Y<|Xr Fe<|J4 Y<|J6<|zA (zD ?_)
 refine J2<|Xm Y<|OV (zL Y Y (Ad _ (by omega)))<|Xa Y<|Xr Fe<|zA (zH ?_)
 exact⟨l.length - (i+1),by omega,i+1,_,_,Y,(Ja Y Y Y Y Y),by omega,by omega,hz.imp (fun h=>⟨h.1,fun n hn=>by
  rw[xE hx]at hn
  rcases Bj.1 hn with h1 | h1
  · exact h.2 n h1
  rw[Bc.1 h1];exact hp25⟩) id,hv1.on H2,hl1.toN H2 (hk1 _),hA1.to H2 hS1⟩
 have H2:=HL.Ap Hd
 refine Xn Y<|Xr Fe<|J3 Y<|J2<|Xa Y<|Xr Fe<|zA (zD ?_)
 refine J2<|Xm Y<|OV (zL Y Y (Ad _ (by omega)))<|Xa Y<|Xr Fe<|zA (zH ?_)
 exact⟨l.length - (i+1),by omega,i+1,_,_,Y,(Ja Y Y Y Y Y),by omega,by omega,.inr ⟨Y,nt,mem_of hx,hp25⟩,hv1.on H2,hl1.toN H2 (hk1 _),hA1.to H2 hS1⟩
 obtain rfl:i=l.length:=by omega
 rw[Cc]at hz
 refine Xr Fe<|J4 Y<|J8<|zT<|zS<|Rq<|Xm Y<|Xc Y<|Xf qQ Y<|OV (EL lF Y (H1.cell (i:=8) Y Y))<|Ae Fe<|OQ (EC gf49 Y) (Q6 (hd ga) ca all _ _ (hA1.sl H1 (i:=7) Y) (by omega)) ?_
 rintro _ w2 ⟨g1,c1,q1,s1,he1,hG1,hC1,Hd2⟩
 have hlq1:=hC1.len
 rw[← hlq1]at he1
 subst he1
 have HX2:Hp _ w2 (bl (Ar v D W++[Dn ga qs sp,yZ gq v.m.gd (Ah v.gx) ga all.length ca (all.length:Int) false])) (Ar v D W++[Dn ga qs sp,yZ gq v.m.gd (Ah v.gx) ga all.length ca (all.length:Int) false,((g1,81,q1.flatten++s1):Ent)]):=H1.call0 Hd2
 have hv2:=hv1.on HX2
 have hl2:=hl1.toN HX2 (hk1 _)
 have hA2:=hA1.to HX2 hS1
 obtain⟨ps,hp,hr,ha,h2⟩:=id hl2
 have H2:=hv2.H.here
 refine Xm Y ?_
 have hS2:=after hv2.H hn0 hnw
 refine xU Ns xT (by decide) H2 9 hG1 Y Y (rs:=ps) h2.len Y hr hp (wT.ones (fun _ _ h=>NtR.ones h) h2) (by omega) (by omega) (by decide)<|fun w3 g3 cap3 sp3 H3 hG3=>?_
 have e2:Ar v D W++[Dn ga qs sp,yZ gq v.m.gd (Ah v.gx) ga all.length ca (all.length:Int) false,((g1,81,q1.flatten++s1):Ent)]=(Ar v D W++[Dn ga qs sp,yZ gq v.m.gd (Ah v.gx) ga all.length ca (all.length:Int) false])++[((g1,81,q1.flatten++s1):Ent)]:=by rw[Bf];rfl
 have hE3:wT (NtR w3 (fun _=>True)) (q1++ps) (all++l):=(hC1.imp fun p x h=>NtR.to h.nt H3 fun x hx _=>⟨fun hb=>by
  rw[e2,vS]at hb
  rcases Bj.1 hb with hb | hb
  · exact mD hv1.H (Ai _) x hx.1 hb
  exact hx.2 (RF hb),trivial⟩).app (h2.imp fun p x h=>h.to H3 fun x hx _=>⟨fun hb=>by have:=hS2 x hb;omega,trivial⟩)
 have hS3:Sl (NtR w3 (fun _=>True)) 16 w3 (fun _=>True) (hd g3) (all++l):=Sl.row H3 (i:=9) rfl hG3.2.2.2 (by decide) hE3 fun _ _=>trivial
 have hlc:=hE3.len
 rw[hlc]
 have hla:(all++l).length≤1008:=by rw[Af];omega
 refine OQ (EC UF Y) (gE (hd g3) cap3 (all++l) _ _ hS3 (by omega)) ?_
 rintro _ w4 ⟨_,ew,wq,rfl,⟨X1,x1,X2,x2,X3,x3,rfl,_,_,_⟩,hrw,_,Hd⟩
 have H4:=H3.Ap Hd
 refine Ae Fe<|Xm Y<|Xe Y Y<|Xe Y Y<|OA xH H4<|fun w5 g9 H5 _=>Ae Fe<|OS xH H5 10 Y Y Y Y Y (by first|exact NL Y|simp[zG]) Y<|fun w6 H6=>Xa Y<|Xr Fe<|J1<|J1<|DW (M:=fun lQ w=>∃ (z:Int),xO (Ik [(0,Ah gq),(1,Ac AL l.length kl),(5,Aa z)] 0 147) lQ∧((z=0∧(∀ n∈l,tM n)∧∃ bz,xZ Bo.empty (all++l)=some bz)∨(z=22∧∃ n∈l,¬tM n)∨(z=21∧(∀ n∈l,tM n)∧xZ Bo.empty (all++l)=none))∧Qn w0 w (bl (Ar v D W++[Dn ga qs sp,yZ gq v.m.gd (Ah v.gx) ga all.length ca (all.length:Int) false])) Z7 v v D W b [Dn ga qs sp,yZ gq v.m.gd (Ah v.gx) ga all.length ca (all.length:Int) false]∧Sl (NtR w (fun x=>x < n0)) 16 w (fun x=>x < n0) AL l∧nA w n0 ga ca qs sp all) [_,_] ?_ ?_
 refine J2<|Xm Y<|OT (yU Y Y) (fun Qo=>?_) (fun Qo=>?_)
 refine Xm Y<|Ae Fe<|OY Y<|Xm Y<|OY Y<|OT (yR Y Y) (fun hp42=>?_) (fun hp42=>?_)
 refine Xt Y Y<|Xr Fe<|J3 Y<|J2<|Xa Y<|Xr Fe<|zA (zH ?_)
 have Xj:Hp _ w6 _ (Ar v D W++[Dn ga qs sp,yZ gq v.m.gd (Ah v.gx) ga all.length ca (all.length:Int) false]):=H6.pick [0,1,2,3,4,5,6,7,8] (by decide)
 exact⟨_,(Uy Y Y Y Y),.inr (.inr ⟨Y,(hz.elim (fun h=>h.2) (fun h=>by have:=h.1;omega)),hrw.elim (fun h=>absurd h.2.1 hp42) (fun h=>h.1)⟩),hv2.on Xj,hl2.toN Xj (fun x hx _=>⟨fun hb=>by have:=hS2 x hb;omega,hx⟩),hA2.to Xj hS2⟩
 refine Xt Y Y<|Xr Fe<|J4 Y<|J6<|zA (zH ?_)
 have Xj:Hp _ w6 _ (Ar v D W++[Dn ga qs sp,yZ gq v.m.gd (Ah v.gx) ga all.length ca (all.length:Int) false]):=H6.pick [0,1,2,3,4,5,6,7,8] (by decide)
 exact⟨_,(Uy Y Y Y Y),.inl ⟨by omega,(hz.elim (fun h=>h.2) (fun h=>by have:=h.1;omega)),hrw.elim (fun h=>⟨_,h.1⟩) (fun h=>by have:=h.2.2;omega)⟩,hv2.on Xj,hl2.toN Xj (fun x hx _=>⟨fun hb=>by have:=hS2 x hb;omega,hx⟩),hA2.to Xj hS2⟩
 refine Xm Y<|Ae Fe<|Oz 2 Y<|Xu Y Y<|Xr Fe<|J4 Y<|J6<|zA (zH ?_)
 have Xj:Hp _ w6 _ (Ar v D W++[Dn ga qs sp,yZ gq v.m.gd (Ah v.gx) ga all.length ca (all.length:Int) false]):=H6.pick [0,1,2,3,4,5,6,7,8] (by decide)
 exact⟨_,(Uy Y Y Y Y),.inr (.inl (hz.elim (fun h=>absurd h.1 Qo) id)),hv2.on Xj,hl2.toN Xj (fun x hx _=>⟨fun hb=>by have:=hS2 x hb;omega,hx⟩),hA2.to Xj hS2⟩
 rintro lQ w7 ⟨z,hfit,hz,hv3,hl3,hA3⟩
 obtain⟨j,rfl⟩:=hfit.open
 refine cR Fe ?_
 clear hfit
 have H7:=hv3.H.here
 have hS3:=after hv3.H hn0 hnw
 have hk3:∀ N x,x < n0→x < N→x∉bl (Ar v D W++[Dn ga qs sp,yZ gq v.m.gd (Ah v.gx) ga all.length ca (all.length:Int) false])∧x < n0:=fun _ x hx _=>⟨fun hb=>by have:=hS3 x hb;omega,hx⟩
 refine Rq<|Xm Y<|OQ (EC gf49 Y) (Q6 AL kl l _ _ hl3 (by omega)) ?_
 rintro _ w8 ⟨g4,c4,q4,s4,rfl,hG4,hC4,Hd4⟩
 have ZR:Hp _ w8 (bl (Ar v D W++[Dn ga qs sp,yZ gq v.m.gd (Ah v.gx) ga all.length ca (all.length:Int) false])) (Ar v D W++[Dn ga qs sp,yZ gq v.m.gd (Ah v.gx) ga all.length ca (all.length:Int) false]):=H7.Ap Hd4
 have HX4':Hp _ w8 (bl (Ar v D W++[Dn ga qs sp,yZ gq v.m.gd (Ah v.gx) ga all.length ca (all.length:Int) false])) (Ar v D W++[Dn ga qs sp,yZ gq v.m.gd (Ah v.gx) ga all.length ca (all.length:Int) false,((g4,81,q4.flatten++s4):Ent)]):=H7.call0 Hd4
 have hI4:Sl (NtR w8 (fun x=>x∉bl (Ar v D W++[Dn ga qs sp,yZ gq v.m.gd (Ah v.gx) ga all.length ca (all.length:Int) false]))) 16 w8 (fun x=>x∉bl (Ar v D W++[Dn ga qs sp,yZ gq v.m.gd (Ah v.gx) ga all.length ca (all.length:Int) false])) (hd g4) l:=Sl.row HX4' (i:=9) rfl hG4.2.2.2 (by decide) (hC4.imp fun p x h=>NtR.to h.nt (Hp.refl _) fun x hx _=>⟨by simp,mD hv3.H (Ai _) x hx.1⟩) (fun k hb=>mD hv3.H (Ai _) k (YC Hd4 (k:=k) (by subst hb;simp[bl])))
 have hv4:=hv3.on ZR
 have hl4:=hl3.toN ZR (hk3 _)
 have hA4:=hA3.to ZR hS3
 have hgb:=hk.kp.Ls.good
 have hfw:=hk.kp.Ls.few
 have H8:=hv4.H.here
 refine Xa Y<|Xr Fe<|Rq<|Xm Y<|Xc Y<|Xf iU Y<|OV (EL gB Y (H8.cell (i:=8) Y Y))<|Ae Fe<|Xm Y<|OQ (EC gf11 Y) (R8 v D W b (iW w0 Z7 (Ar v D W++[Dn ga qs sp,yZ gq v.m.gd (Ah v.gx) ga all.length ca (all.length:Int) false])) _ H8.less.here hv4.ok (hd g4) l c4 (fun x=>x∉bl (Ar v D W++[Dn ga qs sp,yZ gq v.m.gd (Ah v.gx) ga all.length ca (all.length:Int) false])) hI4 (fun x hx hb=>hb.elim (fun h=>h.1.elim) hx) hnt (fun x hx=> .inr (Fp hx)) (by omega) L.length hgb (by omega) s hk.kp.Ls.lg hk.kp.Ls.up hk.kp.Ls.dead (Ci hk.kp.Ls.wait (by omega)) (Ci hk.kp.Ls.first (Ci hc (by decide))) (Ci hk.kp.Ls.turn (Ci hc (by decide)))) ?_
 rintro _ w9 ⟨x,D5,W5,b5,rfl,hres,hpo⟩
 have hks:=hk.save (by omega) hres hnt
 obtain⟨v5,_,_,_,hv5,_,Uz⟩:=hv4.call hpo
 obtain⟨⟨gd5,gk5,Ru,Rx,Qj,Ui,Uj,Um,Uf,Ug,Uk,cp5,Uh⟩,gx5,Ul⟩:=v5
 obtain rfl:gd5=v.m.gd:=hv5.gd
 obtain rfl:gk5=v.m.gk:=hv5.gk
 obtain rfl:gx5=v.gx:=hv5.gx
 have hI5:Sl (NtR w9 (fun x=>x∉bl (Ar (⟨⟨v.m.gd,v.m.gk,Ru,Rx,Qj,Ui,Uj,Um,Uf,Ug,Uk,cp5,Uh⟩,v.gx,Ul⟩:Vm) D5 W5++[Dn ga qs sp,yZ gq v.m.gd (Ah v.gx) ga all.length ca (all.length:Int) false]))) 16 w9 (fun x=>x∉bl (Ar (⟨⟨v.m.gd,v.m.gk,Ru,Rx,Qj,Ui,Uj,Um,Uf,Ug,Uk,cp5,Uh⟩,v.gx,Ul⟩:Vm) D5 W5++[Dn ga qs sp,yZ gq v.m.gd (Ah v.gx) ga all.length ca (all.length:Int) false])) (hd g4) l:=hI4.toN Uz (off Uz)
 have hS4:=after hv4.H hn0 hnw
 have hl5:=hl4.toN Uz (fun x hx _=>⟨fun hb=>by have:=hS4 x hb;omega,hx⟩)
 have hA5:=hA4.to Uz hS4
 have hS5:=after hv5.H hn0 hnw
 have H9:=hv5.H.here
 refine Xa Y<|Xr Fe<|J1<|Rq<|Xm Y<|Xm Y<|OC (EC gf100 Y) (NU (hd g4) AL c4 kl l _ _ _ hI5 hl5 (by omega))<|fun Nu Hd6=>have Eh:=H9.Ap Hd6;have hv6:=hv5.on Eh;have Zz:=hA5.to Eh hS5;?_
 have hl6:=hl5.toN Eh (fun x hx _=>⟨fun hb=>by have:=hS5 x hb;omega,hx⟩)
 have hS6:=after hv6.H hn0 hnw
 replace Eh:=hv6.H.here
 refine Xn Y<|Xr Fe<|J4 Y<|J6<|J1<|J7<|Rq<|Xm Y<|OT (yU Y Y) (fun hp58=>?_) (fun hp58=>?_)
 obtain⟨hz0,hdn,hFa⟩:z=0∧D5.down=true∧ZU D5 (all++l) all.length (c+1):=by
  rcases hks with ⟨h,_⟩ | ⟨h,_⟩ | ⟨h1,⟨bz,h2⟩,⟨h,_⟩ | ⟨h,_⟩ | ⟨_,h3,h4⟩⟩
  · omega
  · omega
  · omega
  · omega
  refine⟨?_,h3,h4⟩
  rcases hz with ⟨h,_⟩ | ⟨_,n,hn,h⟩ | ⟨_,_,h⟩
  · exact h
  · exact absurd (h1 n hn) h
  rw[h2]at h;cases h
 refine Xa Y<|Xr Fe<|J3 Y<|J1<|Rq<|Xm Y<|Qg (yU Y Y) (by omega)<|Xr Fe<|J3 Y<|J2<|Xm Y<|Xm Y<|Xc Y<|Xf qQ Y<|Ae Fe<|OV (EL lF Y (Eh.cell (i:=8) Y Y))<|Xm Y ?_
 obtain⟨ps,hp,hr,ha,h2⟩:=id hl6
 have hlq:=Zz.len
 refine xU Ns xT (by decide) Eh 7 Zz.gw (congrArg (fun n=>some (Ac (hd ga) n ca)) hlq.symm) Y (rs:=ps) h2.len Y hr hp (wT.ones (fun _ _ h=>NtR.ones h) h2) (by omega) (by omega) (by decide)<|fun w12 g7 Vr sp7 Gi hG7=>?_
 have hlc:(qs++ps).length=(all++l).length:=by rw[Af,Af,hlq,h2.len]
 rw[hlc]
 have hla:(all++l).length≤m:=by rw[Af];omega
 refine Xc Y<|Ae Fe<|Xf qQ Y<|OW lF Gi 8 Y Y Y Y (by first|exact NL Y|simp[zG]) Y<|fun Yu Qh=>Xr Fe<|Rq<|Xm Y<|Xc Y<|Xf kC Y<|OV (EL lE Y (Qh.cell (i:=8) Y Y))<|Ae Fe ?_
 have HP7:Hp _ Yu _ (Bv v.m.gd v.m.gk Ru Rx Qj D5++[Dn g7 (qs++ps) sp7,yZ gq v.m.gd (Ah v.gx) g7 (all++l).length Vr (all.length:Int) false]):=Qh.pick [0,1,2,7,8] (by decide)
 have hd8:=fE v.m.gd v.m.gk Ru Rx Qj D5 _ HP7.less.here hv6.ok.ok.d
 rw[hdn]at hd8
 refine OC (EC L4 Y) hd8<|fun w10 Hd8=>have Df:=HP7.front Hd8;Xm Y<|Ae Fe<|OY Y<|Xm Y<|OY Y<|Qg (yU Y Y) (by omega)<|Xt Y Y<|Xa Y<|Xr Fe<|J5<|BR<|Cj Y Y<|⟨Y,Ud.down (hv6.H.all Df) (Zz.app h2 hnt Df hS6 hG7) hla hn0 hnw hv6.ok.ok.d hdn (by rw[Af];omega) (hFa.less (by omega))⟩
 refine Xa Y<|Xr Fe<|J4 Y<|Rq<|Xm Y<|OT (yR Y Y) (fun Zg=>?_) (fun Zg=>?_)
 obtain⟨hxz,rfl,rfl,rfl⟩:x=z∧D5=D∧W5=W∧b5=b:=by
  rcases hks with ⟨h,⟨n,h1,h2⟩,h3⟩ | ⟨h,h1,h2,h3⟩ | ⟨h1,⟨bz,h2⟩,_⟩
  · refine⟨?_,h3⟩
    rcases hz with ⟨h4,_⟩ | ⟨h4,_⟩ | ⟨_,h4,_⟩
    · omega
    · omega
    exact absurd (h4 n h1) h2
  · refine⟨?_,h3⟩
    rcases hz with ⟨h4,_⟩ | ⟨_,n,h4,h5⟩ | ⟨h4,_⟩
    · omega
    · exact absurd (h1 n h4) h5
    omega
  rcases hz with ⟨h4,_⟩ | ⟨_,n,h4,h5⟩ | ⟨_,_,h4⟩
  · omega
  · exact absurd (h1 n h4) h5
  rw[h2]at h4;cases h4
 obtain⟨ba,hr1,hr2,hr3⟩:=hk.rep
 have hfb:ZK b5:=by
  obtain⟨n1,n2,n3,n4⟩:=Rep.size (l:=L) (.inl ⟨hk.kp.Ls.rep,rfl,hgb⟩) (by omega)
  exact⟨n1,n2,n3,n4⟩
 refine Xa Y<|Xr Fe<|J3 Y<|Rq<|Xm Y<|Xc Y<|Xf qQ Y<|OV (EL lF Y (Eh.cell (i:=8) Y Y))<|Ae Fe ?_
 have hSr:=after hv6.H hn0 hnw
 have hof:=FZ Eh hSr
 refine OQ (EC UF Y) (gE (hd ga) ca all _ _ (Zz.sl Eh (i:=7) Y) (by omega)) ?_
 rintro _ w12 ⟨_,ew,wb,rfl,hbw,hrp,_,Hdr⟩
 obtain rfl:wb=ba:=by
  rcases hrp with ⟨h,_⟩ | ⟨h,_⟩
  · exact Option.some.inj (h.symm.trans hr1)
  rw[hr1]at h;cases h
 obtain⟨Y1,y1,Y2,y2,Y3,y3,rfl,hy1,hy2,_⟩:=hbw
 have hfw:ZK wb:=by
  obtain⟨n1,n2,n3,n4⟩:=Rep.size hrp (by omega)
  exact⟨n1,n2,n3,n4⟩
 have HXr:=Eh.Ap Hdr
 have Uu:=hv6.on HXr
 have hAr:=Zz.to HXr hSr
 have hy3:=hy1.toS (ok':=(fun x=>x∉bl (Ar (⟨⟨v.m.gd,v.m.gk,Ru,Rx,Qj,Ui,Uj,Um,Uf,Ug,Uk,cp5,Uh⟩,v.gx,Ul⟩:Vm) D5 W5))) (Hp.refl _) (fun x hx _=>⟨by simp,hof x hx⟩)
 have hy4:=hy2.toR (ok':=(fun x=>x∉bl (Ar (⟨⟨v.m.gd,v.m.gk,Ru,Rx,Qj,Ui,Uj,Um,Uf,Ug,Uk,cp5,Uh⟩,v.gx,Ul⟩:Vm) D5 W5))) (Hp.refl _) (fun x hx _=>⟨by simp,hof x hx⟩)
 have Gi:Hp w12 w12 [] []:=Hp.refl _
 refine Xm Y<|Xe Y Y<|Xe Y Y<|Ae Fe<|OA xH Gi<|fun Yu gy Qh _=>OS xH Qh 0 (vs:=Az Y1 wb y1 Y2 y2 Y3 y3) Y Y Y Y Y (Ai 3) Y<|fun w10 Df=>?_
 have hy5:=hy3.toS Df (fun x hx _=>⟨by simp,hx⟩)
 have hy6:=hy4.toR Df (fun x hx _=>⟨by simp,hx⟩)
 have HXb:Hp _ w10 (bl (Ar (⟨⟨v.m.gd,v.m.gk,Ru,Rx,Qj,Ui,Uj,Um,Uf,Ug,Uk,cp5,Uh⟩,v.gx,Ul⟩:Vm) D5 W5++[Dn ga qs sp,yZ gq v.m.gd (Ah v.gx) ga all.length ca (all.length:Int) false])) (Ar (⟨⟨v.m.gd,v.m.gk,Ru,Rx,Qj,Ui,Uj,Um,Uf,Ug,Uk,cp5,Uh⟩,v.gx,Ul⟩:Vm) D5 W5++[Dn ga qs sp,yZ gq v.m.gd (Ah v.gx) ga all.length ca (all.length:Int) false,((some gy,41,Az Y1 wb y1 Y2 y2 Y3 y3):Ent)]):=Uu.H.here.call0 Df
 have hvb:=Uu.on HXb
 have hAb:=hAr.to HXb (after Uu.H hn0 hnw)
 have hSb:=after hvb.H hn0 hnw
 replace Df:=hvb.H.here
 refine Xa Y<|Xr Fe<|J1<|zQ 12 [(true,0),(true,1),(true,2),(true,3),(true,4),(true,5),(true,6),(true,7),(true,9),(false,8),(false,10),(true,11),(false,12)] Df [8,9] yF (by decide) (by kernel_rfl) ?_
 rintro Sm hw13
 have Il:=Hp.drew Df;rw[← hw13]at Il
 have hvd:=hvb.on Il
 have hy7:=hy5.toS (Hp.drewN hw13) (fun x hx _=>⟨by simp,hx⟩)
 have hy8:=hy6.toR (Hp.drewN hw13) (fun x hx _=>⟨by simp,hx⟩)
 refine Zm Y Y<|Zm Y Y<|MP Y<|nJ (fun wz hz=>yU Y Y) (by omega)<|Zm Y Y<|cZ Fe<|MP Y<|MY Y<|MV (fun wz hz=>zK Y)<|MP Y<|MY Y<|MV (fun wz hz=>yH Y)<|MP Y<|MY Y<|MV (fun wz hz=>EF iU Y)<|MP Y<|MY Y<|MV (fun wz hz=>EL gB Y (hz.cell (i:=0) Y Y))<|cZ Fe<|MP Y<|MY Y<|MV (fun wz hz=>EN xH Y (vs:=Az Y1 wb y1 Y2 y2 Y3 y3) Y (hz.Ak (i:=1) Y Y))<|MO Y<|OY Y<|OQ (EC L6 Y) (kO (⟨⟨v.m.gd,v.m.gk,Ru,Rx,Qj,Ui,Uj,Um,Uf,Ug,Uk,cp5,Uh⟩,v.gx,Ul⟩:Vm) D5 W5 b5 _ _ hvd.H.less.here hvd.ok L.length hgb (by omega) (fun x hx=> .inr (Fp hx))) ?_
 rintro _ w17 ⟨_,rfl,⟨Z1,z1,Z2,z2,Z3,z3,rfl,hz1,hz2,_⟩,_,Hdb⟩
 have hy9:=hy7.toS (ok':=fun _=>True) Hdb (fun x hx _=>⟨hx,trivial⟩)
 have hy10:=hy8.toR (ok':=fun _=>True) Hdb (fun x hx _=>⟨hx,trivial⟩)
 have Yt:=Il.front Hdb
 refine OE ?_
 refine⟨fun hne=>Yt.pick [8,9] (by decide),?_⟩
 refine cZ Fe<|MO Y<|OY Y ?_
 have hqk:=FM b5 Z1 z1 Z2 z2 Z3 z3 b5.last.length wb.last.length wb Y1 y1 Y2 y2 Y3 y3 _ _ _ hz1 hz2 hy9 hy10 hfb hfw
 rw[decide_eq_true (show b5.groups=wb.groups∧b5.rights=wb.rights from hr2)]at hqk
 refine OC (EC P0 Y) hqk<|fun Vw Hdk=>have Ob:=Yt.Ap Hdk;OE<|⟨fun hne=>Ob.pick [8,9] (by decide),?_⟩
 refine cZ Fe<|MP Y<|MV (fun wz hz=>xS Y Y)<|MO Y<|Xa Y<|OE<|⟨fun hne=>absurd Y hne,?_⟩
 refine cZ Fe<|ME<|cR Fe<|J5<|BR<|Cj Y Y ?_
 have HXf:Hp _ Vw _ (Ar (⟨⟨v.m.gd,v.m.gk,Ru,Rx,Qj,Ui,Uj,Um,Uf,Ug,Uk,cp5,Uh⟩,v.gx,Ul⟩:Vm) D5 W5++[Dn ga qs sp,yZ gq v.m.gd (Ah v.gx) ga all.length ca (all.length:Int) false]):=Ob.pick [0,1,2,3,4,5,6,7,8] (by decide)
 have hvf:=hvb.on HXf
 have hAf:=hAb.to HXf hSb
 exact⟨Y,Ud.live hvf hAf (by omega) hn0 hnw (hk.less (by omega)) Y Y⟩
 refine Xa Y<|Xr Fe<|J4 Y<|Rq<|Xm Y<|OT (yU Y Y) (fun hp104=>?_) (fun hp104=>?_)
 have hl0:0 < l.length:=by
  rcases hks with ⟨h,_⟩ | ⟨h,_⟩ | ⟨_,_,⟨_,h⟩ | ⟨h,_⟩ | ⟨h,_⟩⟩
  · omega
  · omega
  · exact h
  · omega
  omega
 refine Xa Y<|Xr Fe<|J3 Y<|Rq<|Xm Y<|Xc Y<|Xf CT Y<|OW ty4 Eh 8 Y Y Y Y (by first|exact NL Y|simp[zG]) Y<|fun w12 Gi=>Xr Fe<|Rq<|Xm Y<|OV (ES Ns Y)<|Qg (yP Y Y) (by omega)<|Xa Y<|Xr Fe<|J5<|BR<|Cj Y Y<|⟨Y,Ud.full (hv6.H.all (Gi.pick [8,7] (by decide))) (Zz.to Gi hS6) (by omega) hn0 hnw⟩
 obtain⟨hx0,s5,hk5⟩:x=0∧∃ s5,Vu D5 W5 b5 (L++l) s5 (c+1) W5 (all++l):=by
  rcases hks with ⟨h,⟨n,h1,h2⟩,_⟩ | ⟨h,h1,h2,_⟩ | ⟨h1,⟨bz,h2⟩,⟨h,_⟩ | ⟨h,h3⟩ | ⟨h,_⟩⟩
  · rcases hz with ⟨_,h4,_⟩ | ⟨h4,_⟩ | ⟨h4,_⟩
    · exact absurd (h4 n h1) h2
    · exact absurd h4 (by omega)
    exact absurd h4 (by omega)
  · rcases hz with ⟨_,_,bz,h4⟩ | ⟨h4,_⟩ | ⟨h4,_⟩
    · rw[h2]at h4;cases h4
    · exact absurd h4 (by omega)
    exact absurd h4 (by omega)
  · omega
  · exact⟨h,h3⟩
  omega
 obtain⟨ba,hr1,hr2,hr3⟩:=hk5.rep
 have hg5:=hk5.kp.Ls.good
 have hf5:=hk5.kp.Ls.few
 have hfb:ZK b5:=by
  obtain⟨n1,n2,n3,n4⟩:=Rep.size (l:=L++l) (.inl ⟨hk5.kp.Ls.rep,rfl,hg5⟩) (by omega)
  exact⟨n1,n2,n3,n4⟩
 refine Xa Y<|Xr Fe<|J4 Y<|J6<|zA (zD ?_)
 refine Rq<|Xm Y<|Xm Y<|Xc Y<|Xf qQ Y<|Ae Fe<|OV (EL lF Y (Eh.cell (i:=8) Y Y))<|Xm Y ?_
 obtain⟨ps,hp,hr,ha,h2⟩:=id hl6
 have hlq:=Zz.len
 refine xU Ns xT (by decide) Eh 7 Zz.gw (congrArg (fun n=>some (Ac (hd ga) n ca)) hlq.symm) Y (rs:=ps) h2.len Y hr hp (wT.ones (fun _ _ h=>NtR.ones h) h2) (by omega) (by omega) (by decide)<|fun w12 g7 Vr sp7 Gi hG7=>?_
 have hlc:(qs++ps).length=(all++l).length:=by rw[Af,Af,hlq,h2.len]
 rw[hlc]
 have hla:(all++l).length≤m:=by rw[Af];omega
 refine Xc Y<|Ae Fe<|Xf qQ Y<|OW lF Gi 8 Y Y Y Y (by first|exact NL Y|simp[zG]) Y<|fun Yu Qh=>Xr Fe<|Rq<|Xm Y<|Xm Y<|Xc Y<|Xf qQ Y<|Ae Fe<|OV (EL lF Y (Qh.cell (i:=8) Y Y))<|OV (ES Ns Y)<|Xc Y<|Xf G6 Y<|Ae Fe<|OW ty3 Qh 8 Y Y Y Y (by first|exact NL Y|simp[zG]) Y<|fun w10 Df=>Xr Fe<|Rq<|Xm Y<|Xc Y<|Xf qQ Y<|OV (EL lF Y (Df.cell (i:=8) Y Y))<|Ae Fe ?_
 have Wn:Hp _ w10 _ (Ar (⟨⟨v.m.gd,v.m.gk,Ru,Rx,Qj,Ui,Uj,Um,Uf,Ug,Uk,cp5,Uh⟩,v.gx,Ul⟩:Vm) D5 W5++[Dn g7 (qs++ps) sp7,yZ gq v.m.gd (Ah v.gx) g7 (all++l).length Vr ((all++l).length:Int) false]):=Df
 have hv7:=hv6.on Wn
 have hA7:nA w10 n0 g7 Vr (qs++ps) sp7 (all++l):=Zz.app h2 hnt Wn hS6 hG7
 have hSr:=after hv7.H hn0 hnw
 have hof:=FZ hv7.H.here hSr
 refine OQ (EC UF Y) (gE (hd g7) Vr (all++l) _ _ (hA7.sl hv7.H.here (i:=7) Y) (by omega)) ?_
 rintro _ Sm ⟨_,ew,wb,rfl,hbw,hrp,_,Hdr⟩
 obtain rfl:wb=ba:=by
  rcases hrp with ⟨h,_⟩ | ⟨h,_⟩
  · exact Option.some.inj (h.symm.trans hr1)
  rw[hr1]at h;cases h
 obtain⟨Y1,y1,Y2,y2,Y3,y3,rfl,hy1,hy2,_⟩:=hbw
 have hfw:ZK wb:=by
  obtain⟨n1,n2,n3,n4⟩:=Rep.size hrp (by omega)
  exact⟨n1,n2,n3,n4⟩
 have HXr:=hv7.H.here.Ap Hdr
 have Uu:=hv7.on HXr
 have hAr:=hA7.to HXr hSr
 have hy3:=hy1.toS (ok':=(fun x=>x∉bl (Ar (⟨⟨v.m.gd,v.m.gk,Ru,Rx,Qj,Ui,Uj,Um,Uf,Ug,Uk,cp5,Uh⟩,v.gx,Ul⟩:Vm) D5 W5))) (Hp.refl _) (fun x hx _=>⟨by simp,hof x hx⟩)
 have hy4:=hy2.toR (ok':=(fun x=>x∉bl (Ar (⟨⟨v.m.gd,v.m.gk,Ru,Rx,Qj,Ui,Uj,Um,Uf,Ug,Uk,cp5,Uh⟩,v.gx,Ul⟩:Vm) D5 W5))) (Hp.refl _) (fun x hx _=>⟨by simp,hof x hx⟩)
 have Il:Hp Sm Sm [] []:=Hp.refl _
 refine Xm Y<|Xe Y Y<|Xe Y Y<|Ae Fe<|OA xH Il<|fun w17 gy Yt _=>OS xH Yt 0 (vs:=Az Y1 wb y1 Y2 y2 Y3 y3) Y Y Y Y Y (Ai 3) Y<|fun Vw Ob=>?_
 have hy5:=hy3.toS Ob (fun x hx _=>⟨by simp,hx⟩)
 have hy6:=hy4.toR Ob (fun x hx _=>⟨by simp,hx⟩)
 have HXb:Hp _ Vw (bl (Ar (⟨⟨v.m.gd,v.m.gk,Ru,Rx,Qj,Ui,Uj,Um,Uf,Ug,Uk,cp5,Uh⟩,v.gx,Ul⟩:Vm) D5 W5++[Dn g7 (qs++ps) sp7,yZ gq v.m.gd (Ah v.gx) g7 (all++l).length Vr ((all++l).length:Int) false])) (Ar (⟨⟨v.m.gd,v.m.gk,Ru,Rx,Qj,Ui,Uj,Um,Uf,Ug,Uk,cp5,Uh⟩,v.gx,Ul⟩:Vm) D5 W5++[Dn g7 (qs++ps) sp7,yZ gq v.m.gd (Ah v.gx) g7 (all++l).length Vr ((all++l).length:Int) false,((some gy,41,Az Y1 wb y1 Y2 y2 Y3 y3):Ent)]):=Uu.H.here.call0 Ob
 have hvb:=Uu.on HXb
 have hAb:=hAr.to HXb (after Uu.H hn0 hnw)
 have hSb:=after hvb.H hn0 hnw
 replace Ob:=hvb.H.here
 refine Xa Y<|Xr Fe<|J1<|zQ 11 [(true,0),(true,1),(true,2),(true,3),(true,4),(true,5),(true,6),(true,8),(false,7),(false,9),(true,10),(false,11)] Ob [8,9] yF (by decide) (by kernel_rfl) ?_
 rintro w16 hw16
 have Wp:=Hp.drew Ob;rw[← hw16]at Wp
 have hvd:=hvb.on Wp
 have hy7:=hy5.toS (Hp.drewN hw16) (fun x hx _=>⟨by simp,hx⟩)
 have hy8:=hy6.toR (Hp.drewN hw16) (fun x hx _=>⟨by simp,hx⟩)
 refine Zm Y Y<|MP Y<|nJ (fun wz hz=>yU Y Y) (by omega)<|Zm Y Y<|MP Y<|MY Y<|MV (fun wz hz=>zK Y)<|cZ Fe<|MP Y<|MY Y<|MV (fun wz hz=>yH Y)<|MP Y<|MY Y<|MV (fun wz hz=>EF iU Y)<|MP Y<|MY Y<|MV (fun wz hz=>EL gB Y (hz.cell (i:=0) Y Y))<|MP Y<|MY Y<|MV (fun wz hz=>EN xH Y (vs:=Az Y1 wb y1 Y2 y2 Y3 y3) Y (hz.Ak (i:=1) Y Y))<|cZ Fe<|MO Y<|OY Y<|OQ (EC L6 Y) (kO (⟨⟨v.m.gd,v.m.gk,Ru,Rx,Qj,Ui,Uj,Um,Uf,Ug,Uk,cp5,Uh⟩,v.gx,Ul⟩:Vm) D5 W5 b5 _ _ hvd.H.less.here hvd.ok (L++l).length hg5 (by omega) (fun x hx=> .inr (Fp hx))) ?_
 rintro _ w19 ⟨_,rfl,⟨Z1,z1,Z2,z2,Z3,z3,rfl,hz1,hz2,_⟩,_,Hdb⟩
 have hy9:=hy7.toS (ok':=fun _=>True) Hdb (fun x hx _=>⟨hx,trivial⟩)
 have hy10:=hy8.toR (ok':=fun _=>True) Hdb (fun x hx _=>⟨hx,trivial⟩)
 have H19:=Wp.front Hdb
 refine OE ?_
 refine⟨fun hne=>H19.pick [8,9] (by decide),?_⟩
 refine cZ Fe<|MO Y<|OY Y ?_
 have hqk:=FM b5 Z1 z1 Z2 z2 Z3 z3 b5.last.length wb.last.length wb Y1 y1 Y2 y2 Y3 y3 _ _ _ hz1 hz2 hy9 hy10 hfb hfw
 rw[decide_eq_true (show b5.groups=wb.groups∧b5.rights=wb.rights from hr2)]at hqk
 refine OC (EC P0 Y) hqk<|fun w18 Hdk=>have H18:=H19.Ap Hdk;OE<|⟨fun hne=>H18.pick [8,9] (by decide),?_⟩
 refine cZ Fe<|MP Y<|MV (fun wz hz=>xS Y Y)<|MO Y<|Xa Y<|OE<|⟨fun hne=>absurd Y hne,?_⟩
 refine cZ Fe<|ME<|cR Fe<|J5<|Cj Y Y ?_
 have HXf:Hp _ w18 _ (Ar (⟨⟨v.m.gd,v.m.gk,Ru,Rx,Qj,Ui,Uj,Um,Uf,Ug,Uk,cp5,Uh⟩,v.gx,Ul⟩:Vm) D5 W5++[Dn g7 (qs++ps) sp7,yZ gq v.m.gd (Ah v.gx) g7 (all++l).length Vr ((all++l).length:Int) false]):=H18.pick [0,1,2,3,4,5,6,7,8] (by decide)
 have hvf:=hvb.on HXf
 have hAf:=hAb.to HXf hSb
 exact⟨Y,Ud.live hvf hAf hla hn0 hnw (hk5.less (by omega)) Y Y⟩
set_option maxHeartbeats 4000000
theorem WP (A:Option Addr) (l:List Rt) (k:Nat) (Ov:Nat→Prop) (B:Option Addr) (q:List Rt) (c:Nat) (okq:Nat→Prop) (w0:World) (hl:Sl Px 4 w0 Ov A l) (hq:Sl Px 4 w0 okq B q) (hc:q.length≤c) (hn:l.length≤1000000000000):Aj 37 #[Ac A l.length k,Ac B q.length c] w0 (fun r w'=>r=.bool (decide (leftR l q=[]))∧Hp w0 w' [] []):=by
 refine zE Tryz.func37 Tryz.ntmps37 Y<|cR e29 ?_
 have H:=Hp.refl w0
 obtain⟨ps,hp,hr,ha,h2⟩:=id hl
 have hlen:=h2.len
 refine Rq<|Xa Y<|Xr e29<|J1<|Rq<|Xm Y<|OV (ES Kv Y)<|Xm Y<|Xr e29<|J7<|zU (fun nQ lQ w=>∃ (i:Nat) (y:Int) (B1:Option Addr) (rs:List Rt) (c1:Nat),l.length - i=nQ∧xO (Ik [(1,Ac B1 rs.length c1),(7,Ac A l.length k),(8,Aa (l.length:Int)),(9,Aa y)] 0 29) lQ∧y=(i:Int)∧i≤l.length∧rs=leftR (l.take i) q∧rs.length≤c1∧Sl Px 4 w0 (fun _=>True) B1 rs∧Hp w0 w [] []) (l.length) ?_ ?_
 exact⟨0,_,B,q,c,Y,(Ja Y Y Y Y Y),Y,Am _,Y,hc,hq.to (by decide) (Hp.refl _) kT (fun _ _ h=>h),Hp.refl _⟩
 rintro nQ lQ w1 ⟨i,y,B1,rs,c1,rfl,hfit,rfl,hi,hrs,hc1,hq1,H1⟩
 obtain⟨j,rfl⟩:=hfit.open
 refine cR e29 ?_
 clear hfit
 refine Rq<|OT (zR Y Y) (fun hp10=>?_) (fun hp10=>?_)
 have hil:i < l.length:=by omega
 obtain⟨r,hx⟩:=yM hil
 obtain⟨p1,hp1,hR⟩:=h2.get hx
 unfold Px at hR
 subst hR
 obtain⟨a1,ha1⟩:=hr.some_ (by omega)
 subst ha1
 refine Xr e29<|J1<|J3 Y<|J6<|J1<|J7<|Rq<|OV (EI Kv xR Y Y Y hil Y)<|OV (EN xR Y (vs:=Dc r) Y ((hr.to0 H1).elem hp hp1))<|OA xR H1<|fun w2 g2 H2 hg2=>OS xR H2 0 Y Y Y Y Y (by first|exact NL Y|simp[zG]) Y<|fun w3 H3=>Xr e29<|J1<|uU yF (by kernel_rfl) ?_
 rintro w4 hw4
 have H4:=Hp.drew H3;rw[← hw4]at H4
 refine SV (zK Y)<|SV (ES Kv Y)<|vG (yP Y Y) (fun Iz=>?_) (fun Iz=>?_)
 obtain⟨z,rs,rfl⟩:∃ z rs2,rs=z::rs2:=by
  cases rs with
  | nil=>exact absurd Iz (by simp)
  | cons z r2=>exact⟨z,r2,rfl⟩
 obtain⟨qs,hqp,hqr,hqa,hq2⟩:=id hq1
 obtain⟨p2,hp2,hR2⟩:=hq2.get (i:=0) (b:=z) rfl
 unfold Px at hR2
 subst hR2
 obtain⟨a2,ha2⟩:=hqr.some_ (by simp)
 subst ha2
 refine SV (zK Y)<|vN e29<|yS Y<|SV (zK Y)<|yS Y<|SV (EI Kv xR Y Y (len:=(z::rs).length) (i:=0) Y (by simp) Y)<|vN e29<|yS Y<|SV (EN xR Y (vs:=Dc z) Y ((hqr.to0 H4).elem hqp hp2))<|yS Y<|SV (EN xR Y (vs:=Dc r) Y (H4.Ak (i:=0) Y Y))<|vN e29<|yS Y<|SV (HV (r:=z) (q:=r) Y Y)<|SV (xS Y Y)<|xP<|cR e29<|wP Y (fun hb22=>?_) (fun hb22=>?_)
 have hzr:z=r:=by simpa using hb22
 refine J2<|Xm Y<|OV (vB Kv xR Y Y ⟨by decide,by omega⟩)<|Xa Y<|Xr e29<|zA (zD ?_)
 refine J2<|OV (zL Y Y (Ad _ (by omega)))<|Xm Y<|Xr e29<|zA (zH ?_)
 have htk:=xE hx
 have hls:=mG (l.take i) r q
 rw[← htk,← hrs]at hls
 exact⟨l.length - (i+1),by omega,i+1,_,_,rs,_,Y,(Ja Y Y Y Y Y),by omega,by omega,by rw[hls];exact(if_pos hzr).symm,by have:=hc1;simp only[Bg]at this;show _≤c1 - 1;omega,hq1.tail hc1,H4.Ag⟩
 have hzr:¬z=r:=by simpa using hb22
 refine J6<|zA (zD ?_)
 refine J2<|OV (zL Y Y (Ad _ (by omega)))<|Xm Y<|Xr e29<|zA (zH ?_)
 have htk:=xE hx
 have hls:=mG (l.take i) r q
 rw[← htk,← hrs]at hls
 exact⟨l.length - (i+1),by omega,i+1,_,_,z::rs,_,Y,(Ja Y Y Y Y Y),by omega,by omega,by rw[hls];exact(if_neg hzr).symm,hc1,hq1,H4.Ag⟩
 refine SV (zK Y)<|vN e29<|yY Y<|yY Y<|vN e29<|yY Y<|yY Y<|vN e29<|yY Y<|SV (vL Y Y)<|xP<|cR e29<|J4 Y<|J6<|zA (zD ?_)
 refine J2<|OV (zL Y Y (Ad _ (by omega)))<|Xm Y<|Xr e29<|zA (zH ?_)
 have htk:=xE hx
 have hls:=mG (l.take i) r q
 rw[← htk,← hrs]at hls
 exact⟨l.length - (i+1),by omega,i+1,_,_,rs,_,Y,(Ja Y Y Y Y Y),by omega,by omega,by rw[hls,Ec (show rs.length=0 by omega)],hc1,hq1,H4.Ag⟩
 obtain rfl:i=l.length:=by omega
 refine Xr e29<|J1<|J4 Y<|J8<|zT<|zS<|Rq<|Xm Y<|OV (ES Kv Y)<|OT (yU Y Y) (fun Ry=>?_) (fun Ry=>?_)
 refine Xa Y<|Xr e29<|J5<|Cj Y Y ?_
 rw[Cc]at hrs
 subst hrs
 exact⟨by rw[decide_eq_true (Ec (by omega))],H1.Ag⟩
 refine Xa Y<|Xr e29<|J5<|Cj Y Y ?_
 rw[Cc]at hrs
 subst hrs
 exact⟨by rw[decide_eq_false (fun e=>by rw[e]at Ry;exact Ry Y)],H1.Ag⟩
set_option maxHeartbeats 32000000
theorem TK (b:Bo) (A1:Option Addr) (k1:Nat) (A2:Option Addr) (k2:Nat) (A3:Option Addr) (k3:Nat) (N:Nat) (ok:Nat→Prop) (w0:World) (hb1:Sl (Rl w0 ok) 6 w0 ok A1 b.groups) (hb2:Sl Px 4 w0 ok A2 b.rights) (hb3:Sl Pq 7 w0 ok A3 b.last) (hg:rU b N) (hN:N≤900000000000) (hnn:b.notes.length≤1200000000000):Aj 40 #[.agg (Az A1 b k1 A2 k2 A3 k3).toArray] w0 (fun r w'=>∃ A k,r=Ac A b.notes.length k∧Sl (NtR w' (fun x=>w0.heap.size≤x)) 16 w' (fun x=>w0.heap.size≤x) A b.notes∧Hp w0 w' [] []):=by
 refine zE Tryz.func40 Tryz.ntmps40 Y<|cR Jf ?_
 have H:=Hp.refl w0
 refine Rq<|zW Y Y H<|fun w1 gb H1 _=>Xa Y<|Xr Jf<|Rq<|Xa Y<|Xr Jf<|Rq<|OV (EN xH Y (vs:=Az A1 b k1 A2 k2 A3 k3) Y (H1.Ak (i:=0) Y Y)) ?_
 obtain⟨n1,hn1⟩:∃ n,n=w1.heap.size:=⟨_,rfl⟩
 have hgb:=H1.lt (i:=0) rfl
 have hgb0:=H1.new (i:=0) rfl
 have hsz0:=H1.size
 refine OQ (EC gf46 Y) (FT b A1 k1 A2 k2 A3 k3 N ok _ (hb1.toS H1 k0) (hb2.toR H1 k0) (hb3.toM H1 k0) hg hN) ?_
 rintro _ w2 ⟨_,rfl,⟨B1,j1,B2,j2,B3,j3,rfl,hc1,hc2,hc3⟩,_,Hd⟩
 have HC:=H1.Ap Hd
 obtain⟨n2,hn2⟩:∃ n,n=w2.heap.size:=⟨_,rfl⟩
 have H2:=HC.here
 refine OS xH H2 0 (vs:=Az B1 b j1 B2 j2 B3 j3) Y Y Y Y Y (Ai 3) Y<|fun w3 H3=>Xr Jf<|J1<|Rq ?_
 have hz8:=hg.eight
 have HSz:=H3.size
 have HS:=HC.all H3
 have hk9:∀ (T:TypeId) (cs:List Value) (x:Nat),n1≤x→x∉bl [((some gb,T,cs):Ent)]:=fun T cs x hx hb=>by
  have:gb=x:=by simpa using RF hb
  omega
 have hd1:=hc1.toS (ok':=(fun x=>n1≤x∧x < n2)) H3 fun x hx hl=>⟨hk9 _ _ x (by omega),by omega,by omega⟩
 have hd2:=hc2.toR (ok':=(fun x=>n1≤x∧x < n2)) H3 fun x hx hl=>⟨hk9 _ _ x (by omega),by omega,by omega⟩
 obtain⟨ps,hp,hr,ha,h2⟩:=id hd1
 obtain⟨pr,hpr,hrr,har,h2r⟩:=id hd2
 obtain⟨a1,rfl⟩:=hr.some_ (by omega)
 replace H3:=HS.here
 have hsS:=HS.size
 have hsS2:n2≤w3.heap.size:=by rw[hn2];exact HSz
 have YR:∀ x,(fun x=>n1≤x∧x < n2) x→x < w3.heap.size→x∉bl [((some gb,41,Az (some a1) b j1 B2 j2 B3 j3):Ent)]∧(fun x=>n1≤x∧x < n2) x:=fun x hx _=>⟨hk9 _ _ x hx.1,hx⟩
 refine Xf vW Y<|OV (EL qX Y (H3.cell (i:=0) Y Y))<|OV (ES Ub Y)<|Xm Y<|Xr Jf<|J7<|zU (fun nQ lQ w=>∃ (i:Nat) (y:Int) (g:Option Nat) (cap:Nat) (qs:List (List Value)) (sp:List Value),b.groups.length - i=nQ∧xO (Ik [(1,Ah gb),(3,Ac (hd g) qs.length cap),(15,Ac (some a1) b.groups.length j1),(16,Aa (b.groups.length:Int)),(17,Aa y)] 0 89) lQ∧y=(i:Int)∧i≤b.groups.length∧Gw 16 g cap qs sp∧wT (NtR w3 (fun x=>n1≤x∧x < n2)) qs (gN (b.groups.take i))∧Hp w3 w (bl [((some gb,41,Az (some a1) b j1 B2 j2 B3 j3):Ent)]) [((some gb,41,Az (some a1) b j1 B2 j2 B3 j3):Ent),(g,81,qs.flatten++sp)]) (b.groups.length) ?_ ?_
 exact⟨0,_,none,0,[],[],Y,(Qr Y Y Y Y Y Y),Y,Am _,Gw.nil 16,trivial,H3.nil 81⟩
 rintro nQ lQ w4 ⟨i,y,g,cap,qs,sp,rfl,hfit,rfl,hi,hG,hA,H4⟩
 obtain⟨j,rfl⟩:=hfit.open
 refine cR Jf ?_
 clear hfit
 refine Rq<|OT (zR Y Y) (fun hp18=>?_) (fun hp18=>?_)
 have hil:i < b.groups.length:=by omega
 obtain⟨s,hx⟩:=yM hil
 obtain⟨p1,hp1,hR⟩:=h2.get hx
 obtain⟨D1,e1,D2,e2,D3,e3,rfl,hv,hm,he⟩:=hR
 obtain⟨R,hRr⟩:=gN_at hx
 have hnl:b.notes.length=(gN (b.groups.take i)).length+(oB i s).length+s.entries.length+(oQ i s).length+s.Bd.length+R.length+b.rights.length:=by
  unfold Bo.notes
  rw[hRr]
  unfold Xk
  simp only[Af,Bl]
  omega
 obtain⟨vs,hpv,Ym,hav,h2v⟩:=id hv
 obtain⟨en,hpe,hre,hae,h2e⟩:=id he
 have Ib:=hA.len
 try simp only[Af,Bl,Aw]at Ib
 refine Xr Jf<|J1<|J3 Y<|J6<|J1<|J7<|Rq<|Xm Y<|OV (EI Ub xY Y Y Y hil Y)<|OV (EN xY Y (vs:=Cb s D1 e1 D2 e2 D3 e3) Y (((hr.move (by decide) ha H4 YR).1).elem hp hp1))<|OA xY H4<|fun w5 g5 H5 _=>Ae Jf<|Xa Y<|OS xY H5 2 (vs:=Cb s D1 e1 D2 e2 D3 e3) Y Y Y Y Y (Ai 6) Y<|fun w6 H6=>Xr Jf<|J1<|Rq<|Xf wX Y<|OV (EL ty3 Y (H6.cell (i:=2) Y Y))<|OT (yR Y Y) (fun hp24=>?_) (fun hp24=>?_)
 have him:oB i s=[ntI i s]:=if_pos hp24
 have hil1:(oB i s).length=1:=by rw[him];rfl
 refine Xr Jf<|J3 Y<|J2<|Xm Y<|Xm Y<|Xf wX Y<|OV (EL ty3 Y (H6.cell (i:=2) Y Y))<|Ae Jf<|Xf uY Y<|OV (EL xG Y (H6.cell (i:=2) Y Y))<|OV (EB wJ WW Y Y)<|OV (EB xT eB Y (cs:=Qz i s D2 e2) (by kernel_rfl))<|Ae Jf<|zJ Ns xT H6 (cs:=Qz i s D2 e2) Y (by decide) (by kernel_rfl)<|fun w7 gk H7 _=>xU Ns xT (by decide) H7 1 hG Y Y (rs:=[Qz i s D2 e2]) (m:=1) Y Y (H7.rd (i:=3) (o:=some _) (xs:=Qz i s D2 e2) (sp:=[]) Y Y (by decide)) (Pl.one Y) (fun p hp=>by rw[Bc.1 hp];rfl) (by omega) (by omega) (by decide)<|fun w8 g cap sp H8 hG=>?_
 obtain⟨qs,Wh⟩:∃ q,q=qs++[Qz i s D2 e2]:=⟨_,rfl⟩
 rw[← Wh]at hG H8 ⊢
 replace hA:wT (NtR w3 (fun x=>n1≤x∧x < n2)) qs (gN (b.groups.take i)++oB i s):=by
  rw[Wh,him]
  exact hA.app (wT.one ⟨none,0,D2,e2,Y,Bs.none _ _,hm⟩)
 clear Wh
 refine Xa Y<|Xr Jf<|J1<|Rq<|Xf wL Y<|OV (EL tX Y (H8.cell (i:=2) Y Y))<|OV (ES Na Y)<|Xm Y<|Xr Jf<|J7<|zU (fun nQ lQ w=>∃ (q:Nat) (z:Int) (g:Option Nat) (cap:Nat) (qs:List (List Value)) (sp:List Value),s.entries.length - q=nQ∧xO (Ik [(1,Ah gb),(3,Ac (hd g) qs.length cap),(4,Aa (i:Int)),(5,Ah g5),(15,Ac (some a1) b.groups.length j1),(16,Aa (b.groups.length:Int)),(17,Aa (i:Int)),(36,Ac D3 s.entries.length e3),(37,Aa (s.entries.length:Int)),(38,Aa z)] 0 89) lQ∧z=(q:Int)∧q≤s.entries.length∧Gw 16 g cap qs sp∧wT (NtR w3 (fun x=>n1≤x∧x < n2)) qs (gN (b.groups.take i)++oB i s++(s.entries.take q).map (Yj i))∧Hp w3 w (bl [((some gb,41,Az (some a1) b j1 B2 j2 B3 j3):Ent)]) [((some gb,41,Az (some a1) b j1 B2 j2 B3 j3):Ent),(g,81,qs.flatten++sp),(some g5,97,Cb s D1 e1 D2 e2 D3 e3)]) (s.entries.length) ?_ ?_
 exact⟨0,_,g,cap,qs,sp,Y,(aW Y Y Y Y Y Y Y Y Y Y Y),Y,Am _,hG,by simpa using hA,H8.pick [0,1,2] (by decide)⟩
 rintro nQ lQ w9 ⟨q,z,g,cap,qs,sp,rfl,hfit,rfl,hqi,hG,hA,H9⟩
 obtain⟨j,rfl⟩:=hfit.open
 refine cR Jf ?_
 clear hfit
 refine Rq<|OT (zR Y Y) (fun Qo=>?_) (fun Qo=>?_)
 have Uw:q < s.entries.length:=by omega
 obtain⟨v,hxv⟩:=yM Uw
 obtain⟨pv,hpv1,hRv⟩:=h2e.get hxv
 obtain⟨G1,f1,rfl,hbv⟩:=hRv
 obtain⟨a3,Zy⟩:=hre.some_ (by omega)
 subst Zy
 have Ib:=hA.len
 try simp only[Af,Bl,Aw]at Ib
 refine Xr Jf<|J1<|J3 Y<|J6<|J1<|J7<|Rq<|OV (EI Na wJ Y Y Y Uw Y)<|OV (EN wJ Y (vs:=Ey v G1 f1) Y (((hre.move (by decide) hae H9 YR).1).elem hpe hpv1))<|OA wJ H9<|fun w10 g7 Df _=>OS wJ Df 3 (vs:=Ey v G1 f1) Y Y Y Y Y (Ai 2) Y<|fun Nu Eh=>Xr Jf<|J2<|Xm Y<|Xm Y<|OV (EN wJ Y (vs:=Ey v G1 f1) Y (Eh.Ak (i:=3) Y Y))<|OV (EB xT eB Y (cs:=Pj i v G1 f1) (by kernel_rfl))<|Ae Jf<|zJ Ns xT Eh (cs:=Pj i v G1 f1) Y (by decide) (by kernel_rfl)<|fun w12 gk Gi _=>xU Ns xT (by decide) Gi 1 hG Y Y (rs:=[Pj i v G1 f1]) (m:=1) Y Y (Gi.rd (i:=4) (o:=some _) (xs:=Pj i v G1 f1) (sp:=[]) Y Y (by decide)) (Pl.one Y) (fun p hp=>by rw[Bc.1 hp];rfl) (by omega) (by omega) (by decide)<|fun Sm g cap sp Il hG=>Xa Y<|Xr Jf<|zA (zD ?_)
 refine J2<|OV (zL Y Y (Ad _ (by omega)))<|Xm Y<|Xr Jf<|zA (zH ?_)
 exact⟨s.entries.length - (q+1),by omega,q+1,_,g,cap,_,sp,Y,(aW Y Y Y Y Y Y Y Y Y Y Y),by omega,by omega,hG,by rw[xE hxv,Ez,← Bf];exact hA.app (wT.one ⟨none,0,_,_,Y,Bs.none _ _,hbv⟩),Il.pick [0,1,2] (by decide)⟩
 obtain rfl:q=s.entries.length:=by omega
 rw[Cc]at hA
 refine Xr Jf<|J1<|J4 Y<|J8<|zT<|zS<|J1<|Rq<|Xf uZ Y<|OV (EN vC Y (vs:=Ij s) Y (H9.Ak (i:=2) Y Y))<|OV (EB vC GU Y Y)<|OT (qE Y Y) (fun Oq=>?_) (fun Oq=>?_)
 have hpm:oQ i s=[ntP i s.p]:=if_pos Oq
 have hil2:(oQ i s).length=1:=by rw[hpm];rfl
 have Ib:=hA.len
 try simp only[Af,Bl,Aw]at Ib
 refine Xr Jf<|J3 Y<|J2<|Xm Y<|Xm Y<|Xf uZ Y<|OV (EN vC Y (vs:=Ij s) Y (H9.Ak (i:=2) Y Y))<|Ae Jf<|OV (EB xT eB Y (cs:=Me i s) (by kernel_rfl))<|zJ Ns xT H9 (cs:=Me i s) Y (by decide) (by kernel_rfl)<|fun w10 gk Df _=>xU Ns xT (by decide) Df 1 hG Y Y (rs:=[Me i s]) (m:=1) Y Y (Df.rd (i:=3) (o:=some _) (xs:=Me i s) (sp:=[]) Y Y (by decide)) (Pl.one Y) (fun p hp=>by rw[Bc.1 hp];rfl) (by omega) (by omega) (by decide)<|fun Nu g cap sp Eh hG=>?_
 obtain⟨qs,Wh⟩:∃ q,q=qs++[Me i s]:=⟨_,rfl⟩
 rw[← Wh]at hG Eh ⊢
 replace hA:wT (NtR w3 (fun x=>n1≤x∧x < n2)) qs (gN (b.groups.take i)++oB i s++s.entries.map (Yj i)++oQ i s):=by
  rw[Wh,hpm]
  exact hA.app (wT.one ⟨none,0,none,0,Y,Bs.none _ _,Bs.none _ _⟩)
 clear Wh
 refine Xa Y<|Xr Jf<|Rq<|Xf wM Y<|OV (EL tY Y (Eh.cell (i:=2) Y Y))<|OV (ES Jj Y)<|Xm Y<|Xr Jf<|J7<|zU (fun nQ lQ w=>∃ (q:Nat) (z:Int) (g:Option Nat) (cap:Nat) (qs:List (List Value)) (sp:List Value),s.Bd.length - q=nQ∧xO (Ik [(1,Ah gb),(3,Ac (hd g) qs.length cap),(4,Aa (i:Int)),(5,Ah g5),(15,Ac (some a1) b.groups.length j1),(16,Aa (b.groups.length:Int)),(17,Aa (i:Int)),(61,Ac D1 s.Bd.length e1),(62,Aa (s.Bd.length:Int)),(63,Aa z)] 0 89) lQ∧z=(q:Int)∧q≤s.Bd.length∧Gw 16 g cap qs sp∧wT (NtR w3 (fun x=>n1≤x∧x < n2)) qs (gN (b.groups.take i)++oB i s++s.entries.map (Yj i)++oQ i s++(s.Bd.take q).map (ntV i))∧Hp w3 w (bl [((some gb,41,Az (some a1) b j1 B2 j2 B3 j3):Ent)]) [((some gb,41,Az (some a1) b j1 B2 j2 B3 j3):Ent),(g,81,qs.flatten++sp),(some g5,97,Cb s D1 e1 D2 e2 D3 e3)]) (s.Bd.length) ?_ ?_
 exact⟨0,_,g,cap,qs,sp,Y,(aW Y Y Y Y Y Y Y Y Y Y Y),Y,Am _,hG,by simpa using hA,Eh.pick [0,1,2] (by decide)⟩
 rintro nQ lQ w12 ⟨q,z,g,cap,qs,sp,rfl,hfit,rfl,hqi,hG,hA,Gi⟩
 obtain⟨j,rfl⟩:=hfit.open
 refine cR Jf ?_
 clear hfit
 refine Rq<|OT (zR Y Y) (fun Wx=>?_) (fun Wx=>?_)
 have Uw:q < s.Bd.length:=by omega
 obtain⟨v,hxv⟩:=yM Uw
 obtain⟨pv,hpv1,hRv⟩:=h2v.get hxv
 obtain⟨G1,f1,rfl,hbv⟩:=hRv
 obtain⟨a3,Zy⟩:=Ym.some_ (by omega)
 subst Zy
 have Ib:=hA.len
 try simp only[Af,Bl,Aw]at Ib
 refine Xr Jf<|J1<|J3 Y<|J6<|J1<|J7<|Rq<|OV (EI Jj xC Y Y Y Uw Y)<|OV (EN xC Y (vs:=Dl v G1 f1) Y (((Ym.move (by decide) hav Gi YR).1).elem hpv hpv1))<|OA xC Gi<|fun Sm g7 Il _=>OS xC Il 3 (vs:=Dl v G1 f1) Y Y Y Y Y (Ai 4) Y<|fun Vw Ob=>Xr Jf<|J2<|Xm Y<|Xm Y<|OV (EN xC Y (vs:=Dl v G1 f1) Y (Ob.Ak (i:=3) Y Y))<|OV (EB xT eB Y (cs:=Ku i v G1 f1) (by kernel_rfl))<|Ae Jf<|zJ Ns xT Ob (cs:=Ku i v G1 f1) Y (by decide) (by kernel_rfl)<|fun Yu gk Qh _=>xU Ns xT (by decide) Qh 1 hG Y Y (rs:=[Ku i v G1 f1]) (m:=1) Y Y (Qh.rd (i:=4) (o:=some _) (xs:=Ku i v G1 f1) (sp:=[]) Y Y (by decide)) (Pl.one Y) (fun p hp=>by rw[Bc.1 hp];rfl) (by omega) (by omega) (by decide)<|fun w16 g cap sp Wp hG=>Xa Y<|Xr Jf<|zA (zD ?_)
 refine J2<|OV (zL Y Y (Ad _ (by omega)))<|Xm Y<|Xr Jf<|zA (zH ?_)
 exact⟨s.Bd.length - (q+1),by omega,q+1,_,g,cap,_,sp,Y,(aW Y Y Y Y Y Y Y Y Y Y Y),by omega,by omega,hG,by rw[xE hxv,Ez,← Bf];exact hA.app (wT.one ⟨_,_,none,0,Y,hbv,Bs.none _ _⟩),Wp.pick [0,1,2] (by decide)⟩
 obtain rfl:q=s.Bd.length:=by omega
 rw[Cc]at hA
 refine Xr Jf<|J1<|J4 Y<|J8<|zT<|zS<|zA (zD ?_)
 refine J2<|OV (zL Y Y (Ad _ (by omega)))<|Xm Y<|Xr Jf<|zA (zH ?_)
 have hti:(b.groups.take i).length=i:=by rw[Aw];omega
 exact⟨b.groups.length - (i+1),by omega,i+1,_,g,cap,qs,sp,Y,(Qr Y Y Y Y Y Y),by omega,by omega,hG,by rw[xE hx,gU,hti];unfold Xk;simpa only[Bf]using hA,Gi.pick [0,1] (by decide)⟩
 have hpm:oQ i s=[]:=if_neg Oq
 replace hA:wT (NtR w3 (fun x=>n1≤x∧x < n2)) qs (gN (b.groups.take i)++oB i s++s.entries.map (Yj i)++oQ i s):=by rw[hpm,Dt];exact hA
 refine Xr Jf<|J4 Y<|J6 ?_
 have m1:=()
 rotate_left 1
 have him:oB i s=[]:=if_neg hp24
 replace hA:wT (NtR w3 (fun x=>n1≤x∧x < n2)) qs (gN (b.groups.take i)++oB i s):=by rw[him,Dt];exact hA
 refine Xr Jf<|J4 Y<|J6<|J1<|Rq<|Xf wL Y<|OV (EL tX Y (H6.cell (i:=2) Y Y))<|OV (ES Na Y)<|Xm Y<|Xr Jf<|J7<|zU (fun nQ lQ w=>∃ (q:Nat) (z:Int) (g:Option Nat) (cap:Nat) (qs:List (List Value)) (sp:List Value),s.entries.length - q=nQ∧xO (Ik [(1,Ah gb),(3,Ac (hd g) qs.length cap),(4,Aa (i:Int)),(5,Ah g5),(15,Ac (some a1) b.groups.length j1),(16,Aa (b.groups.length:Int)),(17,Aa (i:Int)),(36,Ac D3 s.entries.length e3),(37,Aa (s.entries.length:Int)),(38,Aa z)] 0 89) lQ∧z=(q:Int)∧q≤s.entries.length∧Gw 16 g cap qs sp∧wT (NtR w3 (fun x=>n1≤x∧x < n2)) qs (gN (b.groups.take i)++oB i s++(s.entries.take q).map (Yj i))∧Hp w3 w (bl [((some gb,41,Az (some a1) b j1 B2 j2 B3 j3):Ent)]) [((some gb,41,Az (some a1) b j1 B2 j2 B3 j3):Ent),(g,81,qs.flatten++sp),(some g5,97,Cb s D1 e1 D2 e2 D3 e3)]) (s.entries.length) ?_ ?_
 exact⟨0,_,g,cap,qs,sp,Y,(aW Y Y Y Y Y Y Y Y Y Y Y),Y,Am _,hG,by simpa using hA,H6.pick [0,1,2] (by decide)⟩
 rintro nQ lQ w7 ⟨q,z,g,cap,qs,sp,rfl,hfit,rfl,hqi,hG,hA,H7⟩
 obtain⟨j,rfl⟩:=hfit.open
 refine cR Jf ?_
 clear hfit
 refine Rq<|OT (zR Y Y) (fun Qo=>?_) (fun Qo=>?_)
 have Uw:q < s.entries.length:=by omega
 obtain⟨v,hxv⟩:=yM Uw
 obtain⟨pv,hpv1,hRv⟩:=h2e.get hxv
 obtain⟨G1,f1,rfl,hbv⟩:=hRv
 obtain⟨a3,Zy⟩:=hre.some_ (by omega)
 subst Zy
 have Ib:=hA.len
 try simp only[Af,Bl,Aw]at Ib
 refine Xr Jf<|J1<|J3 Y<|J6<|J1<|J7<|Rq<|OV (EI Na wJ Y Y Y Uw Y)<|OV (EN wJ Y (vs:=Ey v G1 f1) Y (((hre.move (by decide) hae H7 YR).1).elem hpe hpv1))<|OA wJ H7<|fun w8 g7 H8 _=>OS wJ H8 3 (vs:=Ey v G1 f1) Y Y Y Y Y (Ai 2) Y<|fun w9 H9=>Xr Jf<|J2<|Xm Y<|Xm Y<|OV (EN wJ Y (vs:=Ey v G1 f1) Y (H9.Ak (i:=3) Y Y))<|OV (EB xT eB Y (cs:=Pj i v G1 f1) (by kernel_rfl))<|Ae Jf<|zJ Ns xT H9 (cs:=Pj i v G1 f1) Y (by decide) (by kernel_rfl)<|fun w10 gk Df _=>xU Ns xT (by decide) Df 1 hG Y Y (rs:=[Pj i v G1 f1]) (m:=1) Y Y (Df.rd (i:=4) (o:=some _) (xs:=Pj i v G1 f1) (sp:=[]) Y Y (by decide)) (Pl.one Y) (fun p hp=>by rw[Bc.1 hp];rfl) (by omega) (by omega) (by decide)<|fun Nu g cap sp Eh hG=>Xa Y<|Xr Jf<|zA (zD ?_)
 refine J2<|OV (zL Y Y (Ad _ (by omega)))<|Xm Y<|Xr Jf<|zA (zH ?_)
 exact⟨s.entries.length - (q+1),by omega,q+1,_,g,cap,_,sp,Y,(aW Y Y Y Y Y Y Y Y Y Y Y),by omega,by omega,hG,by rw[xE hxv,Ez,← Bf];exact hA.app (wT.one ⟨none,0,_,_,Y,Bs.none _ _,hbv⟩),Eh.pick [0,1,2] (by decide)⟩
 obtain rfl:q=s.entries.length:=by omega
 rw[Cc]at hA
 refine Xr Jf<|J1<|J4 Y<|J8<|zT<|zS<|J1<|Rq<|Xf uZ Y<|OV (EN vC Y (vs:=Ij s) Y (H7.Ak (i:=2) Y Y))<|OV (EB vC GU Y Y)<|OT (qE Y Y) (fun Oq=>?_) (fun Oq=>?_)
 have hpm:oQ i s=[ntP i s.p]:=if_pos Oq
 have hil2:(oQ i s).length=1:=by rw[hpm];rfl
 have Ib:=hA.len
 try simp only[Af,Bl,Aw]at Ib
 refine Xr Jf<|J3 Y<|J2<|Xm Y<|Xm Y<|Xf uZ Y<|OV (EN vC Y (vs:=Ij s) Y (H7.Ak (i:=2) Y Y))<|Ae Jf<|OV (EB xT eB Y (cs:=Me i s) (by kernel_rfl))<|zJ Ns xT H7 (cs:=Me i s) Y (by decide) (by kernel_rfl)<|fun w8 gk H8 _=>xU Ns xT (by decide) H8 1 hG Y Y (rs:=[Me i s]) (m:=1) Y Y (H8.rd (i:=3) (o:=some _) (xs:=Me i s) (sp:=[]) Y Y (by decide)) (Pl.one Y) (fun p hp=>by rw[Bc.1 hp];rfl) (by omega) (by omega) (by decide)<|fun w9 g cap sp H9 hG=>?_
 obtain⟨qs,Wh⟩:∃ q,q=qs++[Me i s]:=⟨_,rfl⟩
 rw[← Wh]at hG H9 ⊢
 replace hA:wT (NtR w3 (fun x=>n1≤x∧x < n2)) qs (gN (b.groups.take i)++oB i s++s.entries.map (Yj i)++oQ i s):=by
  rw[Wh,hpm]
  exact hA.app (wT.one ⟨none,0,none,0,Y,Bs.none _ _,Bs.none _ _⟩)
 clear Wh
 refine Xa Y<|Xr Jf ?_
 have m1:=()
 rotate_left 1
 have hpm:oQ i s=[]:=if_neg Oq
 replace hA:wT (NtR w3 (fun x=>n1≤x∧x < n2)) qs (gN (b.groups.take i)++oB i s++s.entries.map (Yj i)++oQ i s):=by rw[hpm,Dt];exact hA
 refine Xr Jf<|J4 Y<|J6<|Rq<|Xf wM Y<|OV (EL tY Y (H7.cell (i:=2) Y Y))<|OV (ES Jj Y)<|Xm Y<|Xr Jf<|J7<|zU (fun nQ lQ w=>∃ (q:Nat) (z:Int) (g:Option Nat) (cap:Nat) (qs:List (List Value)) (sp:List Value),s.Bd.length - q=nQ∧xO (Ik [(1,Ah gb),(3,Ac (hd g) qs.length cap),(4,Aa (i:Int)),(5,Ah g5),(15,Ac (some a1) b.groups.length j1),(16,Aa (b.groups.length:Int)),(17,Aa (i:Int)),(61,Ac D1 s.Bd.length e1),(62,Aa (s.Bd.length:Int)),(63,Aa z)] 0 89) lQ∧z=(q:Int)∧q≤s.Bd.length∧Gw 16 g cap qs sp∧wT (NtR w3 (fun x=>n1≤x∧x < n2)) qs (gN (b.groups.take i)++oB i s++s.entries.map (Yj i)++oQ i s++(s.Bd.take q).map (ntV i))∧Hp w3 w (bl [((some gb,41,Az (some a1) b j1 B2 j2 B3 j3):Ent)]) [((some gb,41,Az (some a1) b j1 B2 j2 B3 j3):Ent),(g,81,qs.flatten++sp),(some g5,97,Cb s D1 e1 D2 e2 D3 e3)]) (s.Bd.length) ?_ ?_
 exact⟨0,_,g,cap,qs,sp,Y,(aW Y Y Y Y Y Y Y Y Y Y Y),Y,Am _,hG,by simpa using hA,H7.pick [0,1,2] (by decide)⟩
 rintro nQ lQ w8 ⟨q,z,g,cap,qs,sp,rfl,hfit,rfl,hqi,hG,hA,H8⟩
 obtain⟨j,rfl⟩:=hfit.open
 refine cR Jf ?_
 clear hfit
 refine Rq<|OT (zR Y Y) (fun Wx=>?_) (fun Wx=>?_)
 have Uw:q < s.Bd.length:=by omega
 obtain⟨v,hxv⟩:=yM Uw
 obtain⟨pv,hpv1,hRv⟩:=h2v.get hxv
 obtain⟨G1,f1,rfl,hbv⟩:=hRv
 obtain⟨a3,Zy⟩:=Ym.some_ (by omega)
 subst Zy
 have Ib:=hA.len
 try simp only[Af,Bl,Aw]at Ib
 refine Xr Jf<|J1<|J3 Y<|J6<|J1<|J7<|Rq<|OV (EI Jj xC Y Y Y Uw Y)<|OV (EN xC Y (vs:=Dl v G1 f1) Y (((Ym.move (by decide) hav H8 YR).1).elem hpv hpv1))<|OA xC H8<|fun w9 g7 H9 _=>OS xC H9 3 (vs:=Dl v G1 f1) Y Y Y Y Y (Ai 4) Y<|fun w10 Df=>Xr Jf<|J2<|Xm Y<|Xm Y<|OV (EN xC Y (vs:=Dl v G1 f1) Y (Df.Ak (i:=3) Y Y))<|OV (EB xT eB Y (cs:=Ku i v G1 f1) (by kernel_rfl))<|Ae Jf<|zJ Ns xT Df (cs:=Ku i v G1 f1) Y (by decide) (by kernel_rfl)<|fun Nu gk Eh _=>xU Ns xT (by decide) Eh 1 hG Y Y (rs:=[Ku i v G1 f1]) (m:=1) Y Y (Eh.rd (i:=4) (o:=some _) (xs:=Ku i v G1 f1) (sp:=[]) Y Y (by decide)) (Pl.one Y) (fun p hp=>by rw[Bc.1 hp];rfl) (by omega) (by omega) (by decide)<|fun w12 g cap sp Gi hG=>Xa Y<|Xr Jf<|zA (zD ?_)
 refine J2<|OV (zL Y Y (Ad _ (by omega)))<|Xm Y<|Xr Jf<|zA (zH ?_)
 exact⟨s.Bd.length - (q+1),by omega,q+1,_,g,cap,_,sp,Y,(aW Y Y Y Y Y Y Y Y Y Y Y),by omega,by omega,hG,by rw[xE hxv,Ez,← Bf];exact hA.app (wT.one ⟨_,_,none,0,Y,hbv,Bs.none _ _⟩),Gi.pick [0,1,2] (by decide)⟩
 obtain rfl:q=s.Bd.length:=by omega
 rw[Cc]at hA
 refine Xr Jf<|J1<|J4 Y<|J8<|zT<|zS<|zA (zD ?_)
 refine J2<|OV (zL Y Y (Ad _ (by omega)))<|Xm Y<|Xr Jf<|zA (zH ?_)
 have hti:(b.groups.take i).length=i:=by rw[Aw];omega
 exact⟨b.groups.length - (i+1),by omega,i+1,_,g,cap,qs,sp,Y,(Qr Y Y Y Y Y Y),by omega,by omega,hG,by rw[xE hx,gU,hti];unfold Xk;simpa only[Bf]using hA,H8.pick [0,1] (by decide)⟩
 obtain rfl:i=b.groups.length:=by omega
 rw[Cc]at hA
 refine Xr Jf<|J1<|J4 Y<|J8<|zT<|zS<|J1<|Rq<|Xf rP Y<|OV (EL gA Y (H4.cell (i:=0) Y Y))<|OV (ES Kv Y)<|Xm Y<|Xr Jf<|J7<|zU (fun nQ lQ w=>∃ (q:Nat) (z:Int) (g:Option Nat) (cap:Nat) (qs:List (List Value)) (sp:List Value),b.rights.length - q=nQ∧xO (Ik [(1,Ah gb),(3,Ac (hd g) qs.length cap),(76,Ac B2 b.rights.length j2),(77,Aa (b.rights.length:Int)),(78,Aa z)] 0 89) lQ∧z=(q:Int)∧q≤b.rights.length∧Gw 16 g cap qs sp∧wT (NtR w3 (fun x=>n1≤x∧x < n2)) qs (gN b.groups++(b.rights.take q).map ntF)∧Hp w3 w (bl [((some gb,41,Az (some a1) b j1 B2 j2 B3 j3):Ent)]) [((some gb,41,Az (some a1) b j1 B2 j2 B3 j3):Ent),(g,81,qs.flatten++sp)]) (b.rights.length) ?_ ?_
 exact⟨0,_,g,cap,qs,sp,Y,(Qr Y Y Y Y Y Y),Y,Am _,hG,by simpa using hA,H4⟩
 rintro nQ lQ w5 ⟨q,z,g,cap,qs,sp,rfl,hfit,rfl,hqi,hG,hA,H5⟩
 obtain⟨j,rfl⟩:=hfit.open
 refine cR Jf ?_
 clear hfit
 refine Rq<|OT (zR Y Y) (fun hp79=>?_) (fun hp79=>?_)
 have Uw:q < b.rights.length:=by omega
 obtain⟨v,hxv⟩:=yM Uw
 obtain⟨pv,hpv1,hRv⟩:=h2r.get hxv
 unfold Px at hRv
 subst hRv
 obtain⟨a3,Zy⟩:=hrr.some_ (by omega)
 subst Zy
 have hnl:b.notes.length=(gN b.groups).length+b.rights.length:=by unfold Bo.notes;simp only[Af,Bl]
 have Ib:=hA.len
 try simp only[Af,Bl,Aw]at Ib
 refine Xr Jf<|J1<|J3 Y<|J6<|J1<|J7<|Rq<|OV (EI Kv xR Y Y Y Uw Y)<|OV (EN xR Y (vs:=Dc v) Y (((hrr.move (by decide) har H5 YR).1).elem hpr hpv1))<|OA xR H5<|fun w6 g7 H6 _=>OS xR H6 2 (vs:=Dc v) Y Y Y Y Y (Ai 4) Y<|fun w7 H7=>Xr Jf<|J2<|Xm Y<|OV (EN xR Y (vs:=Dc v) Y (H7.Ak (i:=2) Y Y))<|OV (EB xT eB Y (cs:=Ua v) (by kernel_rfl))<|zJ Ns xT H7 (cs:=Ua v) Y (by decide) (by kernel_rfl)<|fun w8 gk H8 _=>Ae Jf<|xU Ns xT (by decide) H8 1 hG Y Y (rs:=[Ua v]) (m:=1) Y Y (H8.rd (i:=3) (o:=some _) (xs:=Ua v) (sp:=[]) Y Y (by decide)) (Pl.one Y) (fun p hp=>by rw[Bc.1 hp];rfl) (by omega) (by omega) (by decide)<|fun w9 g cap sp H9 hG=>Xa Y<|Xr Jf<|zA (zD ?_)
 refine J2<|OV (zL Y Y (Ad _ (by omega)))<|Xm Y<|Xr Jf<|zA (zH ?_)
 exact⟨b.rights.length - (q+1),by omega,q+1,_,g,cap,_,sp,Y,(Qr Y Y Y Y Y Y),by omega,by omega,hG,by rw[xE hxv,Ez,← Bf];exact hA.app (wT.one ⟨none,0,none,0,Y,Bs.none _ _,Bs.none _ _⟩),H9.pick [0,1] (by decide)⟩
 obtain rfl:q=b.rights.length:=by omega
 rw[Cc]at hA
 refine Xr Jf<|J1<|J4 Y<|J8<|zT<|zS<|Rq<|Xm Y<|Xa Y<|Xr Jf<|J5<|Cj Y Y ?_
 have hlq:qs.length=b.notes.length:=hA.len
 have HW:=HS.all H5
 rw[hlq]
 exact⟨hd g,cap,rfl,Sl.row HW (i:=1) rfl hG.2.2.2 (by decide) (hA.imp fun p x h=>NtR.to h H5 fun x hx _=>⟨(YR x hx (by omega)).1,by omega⟩) (fun k hk=>by subst hk;exact HW.new (i:=1) rfl),HW.Ag⟩
 any_goals
  clear m1
  refine Rq<|Xf wM Y<|OV (EL tY Y (H9.cell (i:=2) Y Y))<|OV (ES Jj Y)<|Xm Y<|Xr Jf<|J7<|zU (fun nQ lQ w=>∃ (q:Nat) (z:Int) (g:Option Nat) (cap:Nat) (qs:List (List Value)) (sp:List Value),s.Bd.length - q=nQ∧xO (Ik [(1,Ah gb),(3,Ac (hd g) qs.length cap),(4,Aa (i:Int)),(5,Ah g5),(15,Ac (some a1) b.groups.length j1),(16,Aa (b.groups.length:Int)),(17,Aa (i:Int)),(61,Ac D1 s.Bd.length e1),(62,Aa (s.Bd.length:Int)),(63,Aa z)] 0 89) lQ∧z=(q:Int)∧q≤s.Bd.length∧Gw 16 g cap qs sp∧wT (NtR w3 (fun x=>n1≤x∧x < n2)) qs (gN (b.groups.take i)++oB i s++s.entries.map (Yj i)++oQ i s++(s.Bd.take q).map (ntV i))∧Hp w3 w (bl [((some gb,41,Az (some a1) b j1 B2 j2 B3 j3):Ent)]) [((some gb,41,Az (some a1) b j1 B2 j2 B3 j3):Ent),(g,81,qs.flatten++sp),(some g5,97,Cb s D1 e1 D2 e2 D3 e3)]) (s.Bd.length) ?_ ?_
  exact⟨0,_,g,cap,qs,sp,Y,(aW Y Y Y Y Y Y Y Y Y Y Y),Y,Am _,hG,by simpa using hA,H9.pick [0,1,2] (by decide)⟩
  rintro nQ lQ w10 ⟨q,z,g,cap,qs,sp,rfl,hfit,rfl,hqi,hG,hA,Df⟩
  obtain⟨j,rfl⟩:=hfit.open
  refine cR Jf ?_
  clear hfit
  refine Rq<|OT (zR Y Y) (fun Wx=>?_) (fun Wx=>?_)
  have Uw:q < s.Bd.length:=by omega
  obtain⟨v,hxv⟩:=yM Uw
  obtain⟨pv,hpv1,hRv⟩:=h2v.get hxv
  obtain⟨G1,f1,rfl,hbv⟩:=hRv
  obtain⟨a3,Zy⟩:=Ym.some_ (by omega)
  subst Zy
  have Ib:=hA.len
  try simp only[Af,Bl,Aw]at Ib
  refine Xr Jf<|J1<|J3 Y<|J6<|J1<|J7<|Rq<|OV (EI Jj xC Y Y Y Uw Y)<|OV (EN xC Y (vs:=Dl v G1 f1) Y (((Ym.move (by decide) hav Df YR).1).elem hpv hpv1))<|OA xC Df<|fun Nu g7 Eh _=>OS xC Eh 3 (vs:=Dl v G1 f1) Y Y Y Y Y (Ai 4) Y<|fun w12 Gi=>Xr Jf<|J2<|Xm Y<|Xm Y<|OV (EN xC Y (vs:=Dl v G1 f1) Y (Gi.Ak (i:=3) Y Y))<|OV (EB xT eB Y (cs:=Ku i v G1 f1) (by kernel_rfl))<|Ae Jf<|zJ Ns xT Gi (cs:=Ku i v G1 f1) Y (by decide) (by kernel_rfl)<|fun Sm gk Il _=>xU Ns xT (by decide) Il 1 hG Y Y (rs:=[Ku i v G1 f1]) (m:=1) Y Y (Il.rd (i:=4) (o:=some _) (xs:=Ku i v G1 f1) (sp:=[]) Y Y (by decide)) (Pl.one Y) (fun p hp=>by rw[Bc.1 hp];rfl) (by omega) (by omega) (by decide)<|fun Vw g cap sp Ob hG=>Xa Y<|Xr Jf<|zA (zD ?_)
  refine J2<|OV (zL Y Y (Ad _ (by omega)))<|Xm Y<|Xr Jf<|zA (zH ?_)
  exact⟨s.Bd.length - (q+1),by omega,q+1,_,g,cap,_,sp,Y,(aW Y Y Y Y Y Y Y Y Y Y Y),by omega,by omega,hG,by rw[xE hxv,Ez,← Bf];exact hA.app (wT.one ⟨_,_,none,0,Y,hbv,Bs.none _ _⟩),Ob.pick [0,1,2] (by decide)⟩
  obtain rfl:q=s.Bd.length:=by omega
  rw[Cc]at hA
  refine Xr Jf<|J1<|J4 Y<|J8<|zT<|zS<|zA (zD ?_)
  refine J2<|OV (zL Y Y (Ad _ (by omega)))<|Xm Y<|Xr Jf<|zA (zH ?_)
  have hti:(b.groups.take i).length=i:=by rw[Aw];omega
  exact⟨b.groups.length - (i+1),by omega,i+1,_,g,cap,qs,sp,Y,(Qr Y Y Y Y Y Y),by omega,by omega,hG,by rw[xE hx,gU,hti];unfold Xk;simpa only[Bf]using hA,Df.pick [0,1] (by decide)⟩
set_option maxHeartbeats 4000000
theorem SC (v:Vm) (D:Dk) (W:Wl) (b:Bo) (bad:Nat→Prop) (w0:World) (H0:Hp w0 w0 (bl (Ar v D W)) (Ar v D W)) (h:Wj w0 v D W b bad) (hv:∀ x∈bl (Ar v D W),bad x) (B:Option Addr) (q:List Rt) (c:Nat) (okq:Nat→Prop) (hq:Sl Px 4 w0 okq B q) (hc:q.length≤c) (hokq:∀ x,okq x→¬bad x) (NB:Nat) (hg:rU b NB) (hbb:BoB b) (hN:NB≤800000000000) (hnn:b.notes.length≤1000000000000) (s:Nat) (Xo:Lg D.show D.kept.length W s) (hup:D.down=false) (Ny:W.dead=false) (hwt:D.wait.length≤100000000) (hfl:W.first≤2^50) (htl:W.turn≤2^50):Aj 12 #[Ah v.gx,Ac B q.length c] w0 (fun r w'=>∃ x D' W' b',r=Aa x∧RV s D W b q x D' W' b'∧KJ w0 w' v bad (bl (Ar v D W)) D' W' b'):=by
 refine zE Tryz.func12 Tryz.ntmps12 Y<|cR Qm ?_
 have H:=H0
 have hv0:=Qn.start h H0 hv
 have hmo:=h.ok.most
 have hfi:=h.ok.first
 obtain⟨A1,k1,A2,k2,A3,k3,hcs,hb1,hb2,hb3⟩:=id h.bo
 obtain⟨pq,hpq,hrq,haq,h2q⟩:=id hq
 refine Rq<|Xa Y<|Xr Qm<|J1<|Rq<|Xm Y<|Jt (yE U23 Y) (by simp)<|Xr Qm<|J4 Y<|J6<|J1<|Rq<|Xm Y<|Xc Y<|Xf iS Y<|Xf rP Y<|Ae Qm<|OV (EL gA Y (H.cell (i:=6) (o:=2) Y (by rw[fN,hcs];rfl)))<|Xm Y<|OX (EC gf37 Y) (WP A2 b.rights k2 _ B q c _ _ hb2 hq hc (by have:=hg.few;omega)) (fun hp21 w1 Hd=>?_) (fun hp21 w1 Hd=>?_)
 have H1:=H.Ap Hd
 have hsub:=gP hp21
 have Ib:=hsub.length_le
 have hgf:=hg.few
 have hgn:=hg.fold hsub
 have hown:=eC hgn (hbb.fold hsub)
 have hnl:=QC hsub
 refine Xn Y<|Xr Qm<|J4 Y<|J6<|Rq<|Xm Y<|Xc Y<|Xf iS Y<|OV (EN xH Y (vs:=Az A1 b k1 A2 k2 A3 k3) Y (H1.Ak (i:=6) Y (by rw[fN,hcs];rfl)))<|Ae Qm<|OA xH H1<|fun w2 gb H2 hgb=>OS xH H2 7 Y Y Y Y Y (by first|exact NL Y|simp[zG]) Y<|fun w3 H3=>Xr Qm<|Rq<|Xm Y ?_
 have hkq:∀ x,okq x→x < w0.heap.size→x∉bl (Ar v D W)∧True:=fun x hx _=>⟨fun hb=>hokq x hx (hv x hb),trivial⟩
 refine OQ (EC XV Y) (IB B q.length c pq.flatten _ (hrq.move (ok':=fun _=>True) (by decide) haq H3 hkq).1 (xF (h2q.ones fun _ _ h=>h.ones)) (by omega)) ?_
 rintro _ w4 ⟨gv,cv,sv,rfl,hmv,hcv,Tj,Hc⟩
 have hszc:=H3.size
 have hfrv:=lY Hc 0 rfl (by simp)
 have H4:=H3.call0 Hc
 refine Xf rP Y<|OW gA H4 7 Y Y Y Y (by first|exact NL Y|simp[zG]) Y<|fun w5 H5=>Xf tP Y<|Ae Qm<|OW mX H5 7 Y Y Y Y (by first|exact NL Y|simp[zG]) Y<|fun w6 H6=>Xr Qm<|Rq<|Xm Y<|Xc Y<|Xf iT Y<|OV (EL uF Y (H6.cell (i:=6) Y Y))<|Ae Qm<|OC (EC PY Y) (lR v.m.gv W.first W.recs.length v.m.cr (hd v.m.gr) _ (H6.cell (i:=3) Y Y) (H6.cell (i:=3) Y Y) (by omega))<|fun w7 Hc2=>have H7:=H6.Ap Hc2;Xa Y<|Xr Qm<|J1<|Rq<|OV (EN xH Y (vs:=Iu A1 b k1 (hd gv) q.length cv) Y (H7.Ak (i:=7) Y Y)) ?_
 have HA:=H7
 have hv1:=hv0.on (R':=[((some gb,41,Iu A1 b k1 (hd gv) q.length cv):Ent)]) (HA.pick [0,1,2,3,4,5,6,7] (by decide))
 have hkb:∀ x,¬bad x→x < w0.heap.size→x∉bl (Ar v D W)∧¬iW w0 bad (Ar v D W++[((some gb,41,Iu A1 b k1 (hd gv) q.length cv):Ent)]) x:=fun x hx hl=>⟨fun hb=>hx (hv x hb),fun hb=>by
  rcases hb with hb | hb
  · exact hx hb.1
  rcases bl_place (HA.pick [0,1,2,3,4,5,6,7] (by decide)) x hb with h1 | h1
  · exact hx (hv x h1)
  omega⟩
 have hq1:=hb1.toS HA hkb
 have hq2:Sl Px 4 w7 (fun x=>¬iW w0 bad (Ar v D W++[((some gb,41,Iu A1 b k1 (hd gv) q.length cv):Ent)]) x) (hd gv) q:=Sl.row HA (i:=8) rfl hpq (by decide) h2q (fun k hk hb=>by
  have h1:=hfrv ⟨k,0,none⟩ (by rw[hk];rfl)
  rcases hb with hb | hb
  · have h2:=hb.2
    simp only at h1
    omega
  exact GM HA 8 [0,1,2,3,4,5,6,7] Y Y (by decide) ⟨k,0,none⟩ (by rw[hk];rfl) hb)
 have hbn1:Sj w7 (fun x=>¬iW w0 bad (Ar v D W++[((some gb,41,Iu A1 b k1 (hd gv) q.length cv):Ent)]) x) (Iu A1 b k1 (hd gv) q.length cv) (b.fold q):=⟨A1,k1,hd gv,cv,none,0,rfl,hq1,hq2,Sl.none _ _ _ _⟩
 have HZ:=hv1.H.here
 refine OQ (EC gf40 Y) (TK (b.fold q) A1 k1 (hd gv) cv none 0 NB _ _ hq1 hq2 (Sl.none _ _ _ _) hgn (by omega) (by omega)) ?_
 rintro _ w8 ⟨A9,k9,rfl,hns,Hd⟩
 have H8:=HZ.Ap Hd
 refine OV (ES Ns Y)<|Xm Y<|Xr Qm<|J7<|zU (fun nQ lQ w=>∃ (i:Nat) (y:Int) (v1:Vm) (D1:Dk) (W1:Wl),(b.fold q).notes.length - i=nQ∧xO (Ik [(0,Ah v.gx),(1,Ac B q.length c),(5,Ah gb),(6,Aa ((W.first+W.recs.length:Nat):Int)),(37,Ac A9 (b.fold q).notes.length k9),(38,Aa ((b.fold q).notes.length:Int)),(39,Aa y)] 0 74) lQ∧y=(i:Int)∧i≤(b.fold q).notes.length∧kL s D W (((b.fold q).notes.take i).map xM) D1 W1∧Sj w (fun x=>¬iW w0 bad (Ar v1 D1 W1++[((some gb,41,Iu A1 b k1 (hd gv) q.length cv):Ent)]) x) (Iu A1 b k1 (hd gv) q.length cv) (b.fold q)∧Sl (NtR w (fun x=>¬iW w0 bad (Ar v1 D1 W1++[((some gb,41,Iu A1 b k1 (hd gv) q.length cv):Ent)]) x)) 16 w (fun x=>¬iW w0 bad (Ar v1 D1 W1++[((some gb,41,Iu A1 b k1 (hd gv) q.length cv):Ent)]) x) A9 (b.fold q).notes∧Qn w0 w (bl (Ar v D W)) bad v v1 D1 W1 b [((some gb,41,Iu A1 b k1 (hd gv) q.length cv):Ent)]) ((b.fold q).notes.length) ?_ ?_
 exact⟨0,_,v,D,W,Y,(ft7 Y Y Y Y Y Y Y Y),Y,Am _,kL.none Xo hup Ny,hbn1.to H8 (nR H8),hns.toN (Hp.refl _) (fun x hx _=>⟨by simp,RJ hv1.H (Ai _) x hx⟩),hv1.on H8⟩
 rintro nQ lQ w9 ⟨i,y,v1,D1,W1,rfl,hfit,rfl,hi,hgr,hbn2,hns2,hv2⟩
 obtain⟨j,rfl⟩:=hfit.open
 refine cR Qm ?_
 clear hfit
 obtain⟨m1,gx1,cs1⟩:=v1
 obtain rfl:gx1=v.gx:=hv2.gx
 have H9:=hv2.H.here
 have Z8:D1.wait.length≤1000000000:=by have:=(hgr.few h.ok.ring).2;omega
 refine Rq<|OT (zR Y Y) (fun hp40=>?_) (fun hp40=>?_)
 have hil:i < (b.fold q).notes.length:=by omega
 obtain⟨nt,hx⟩:=yM hil
 obtain⟨pn,hpn,hrn,han,h2n⟩:=id hns2
 obtain⟨p1,hp1,hR⟩:=h2n.get hx
 obtain⟨B1,j1,B2,j2,rfl,hbv,Rj⟩:=hR
 obtain⟨a1,ha1⟩:=hrn.some_ (by omega)
 subst ha1
 have hnt:=hown nt (mem_of hx)
 refine Xr Qm<|J1<|J3 Y<|J6<|J1<|J7<|Rq<|OV (EI Ns xT Y Y Y hil Y)<|OV (EN xT Y (vs:=Dv nt B1 j1 B2 j2) Y (hrn.elem hpn hp1))<|OA xT H9<|fun Nu g10 Eh hg10=>OS xT Eh 8 Y Y Y Y Y (by first|exact NL Y|simp[zG]) Y<|fun w10 Df=>Xr Qm<|Rq<|OV (EN xT Y (vs:=Dv nt B1 j1 B2 j2) Y (Df.Ak (i:=8) Y Y))<|OQ (EC gf34 Y) (I4 (Pn nt) _ _ (W8 (ok:=fun _=>True) ⟨B1,j1,B2,j2,Y,hbv.to Df (fun x hx hl=>⟨fun hb=>hx (.inr hb),trivial⟩),Rj.to Df (fun x hx hl=>⟨fun hb=>hx (.inr hb),trivial⟩)⟩ hnt.1)) ?_
 rintro _ w12 ⟨gn,cn,sn,rfl,hn1,hn2,hn3,hn4,HdN⟩
 have Gi:=Df.call0 HdN
 change Hp _ _ _ (_++[(gn,5,u8s (xM nt)++sn)])at Gi
 refine Xm Y<|Xe Y Y<|Ae Qm<|Xe Y Y<|Xa Y<|Xa Y<|Xr Qm<|J1<|Rq<|Xm Y<|Jt (yR Y Y) (fun hh=>hh (by show((Nc nt:Nat):Int)=0;rw[hnt.2.1];rfl))<|Xr Qm<|J4 Y<|J6<|Rq<|Xm Y<|Xc Y<|Xf iT Y<|OV (EL uF Y (Gi.cell (i:=6) Y Y))<|Ae Qm<|Xm Y ?_
 have HB3:=Gi.pick [0,1,2,3,4,5,6,7] (by decide)
 have hv3:=hv2.on (R':=[((some gb,41,Iu A1 b k1 (hd gv) q.length cv):Ent)]) HB3
 refine OQ (EC gf35 Y) (aN m1 D1 W1 _ hv3.H.less.less.here hv3.ok.ok (hd gn) (xM nt) cn (Gi.rd (i:=9) (o:=gn) (xs:=u8s (xM nt)) (sp:=sn) Y (yV _) (by decide)) (fun _ p hp hb=>GM Gi 9 [0,1,2,3,4,5] Y Y (by decide) p hp hb) (by have:=jF nt;omega) Z8) ?_
 rintro _ Sm ⟨x,D2,W2,rfl,hres,hwp⟩
 obtain⟨v2,hcs2,hgx2,hv5,Uz⟩:=hv3.log hwp
 obtain⟨m2,gx2,cs2⟩:=v2
 obtain rfl:gx2=v.gx:=hgx2
 have hbn5:=(hbn2.to HB3 (nR HB3)).to Uz (nR Uz)
 have hns5:=(hns2.toN HB3 (nR HB3)).toN Uz (nR Uz)
 have Il:=hv5.H.here
 rcases hgr.app hres hnt.2.2 with ⟨hx0,hfit,hgr2⟩ | ⟨hx0,hfull,hD2,hW2⟩ | ⟨hx0,harm,hdn,hkp,_,ws2,hws,hwl,hfrs⟩
 refine Xa Y<|Xr Qm<|Rq<|Xm Y<|Jt (yR Y Y) (by omega)<|Xr Qm<|J4 Y<|J6<|zA (zD ?_)
 refine J2<|OV (zL Y Y (Ad _ (by omega)))<|Xm Y<|Xr Qm<|zA (zH ?_)
 exact⟨(b.fold q).notes.length - (i+1),by omega,i+1,_,_,D2,W2,Y,(ft7 Y Y Y Y Y Y Y Y),by omega,by omega,by rw[xE hx,Ez];exact hgr2,hbn5,hns5,hv5.on Il⟩
 refine Xa Y<|Xr Qm<|Rq<|Xm Y<|Qg (yR Y Y) (by omega)<|Xr Qm<|J3 Y<|Rq<|Xm Y<|Xa Y<|Xr Qm<|J5<|BR<|yN<|BR<|Cj Y Y<|⟨x,D2,W2,b,Y,.inr ⟨hp21,.inl ⟨i,nt,D1,W1,hx,hgr,Y,.inl ⟨hx0,hfull,hD2,hW2⟩⟩⟩,(hv5.on Il).post⟩
 refine Xa Y<|Xr Qm<|Rq<|Xm Y<|Qg (yR Y Y) (by omega)<|Xr Qm<|J3 Y<|Rq<|Xm Y<|Xa Y<|Xr Qm<|J5<|BR<|yN<|BR<|Cj Y Y<|⟨x,D2,W2,b,Y,.inr ⟨hp21,.inl ⟨i,nt,D1,W1,hx,hgr,Y,.inr ⟨hx0,harm,hdn,hkp,ws2,hws,by have h9:=(hgr.few h.ok.d.most).1;omega,hfrs⟩⟩⟩,(hv5.on Il).post⟩
 obtain rfl:i=(b.fold q).notes.length:=by omega
 rw[Cc]at hgr
 refine Xr Qm<|J1<|J4 Y<|J8<|zT<|zS<|J1<|Rq<|Xm Y<|Xc Y<|Xf iT Y<|OV (EL uF Y (H9.cell (i:=6) Y Y))<|Ae Qm<|Xm Y ?_
 refine OQ (EC gf41 Y) ((UR ((W.first+W.recs.length:Nat):Int) m1 D1 W1 _ hv2.H.less.less.here hv2.ok.ok Z8 (by rw[hgr.first];exact hfl) (by rw[hgr.turn];exact htl)).mono (fun r wz hq=>by
  have hrl:W1.recs.length=W.recs.length+((b.fold q).notes.map xM).length:=by rw[hgr.recs,Af]
  have hfl2:=hgr.first
  rcases hq with ⟨hq,_⟩ | ⟨gone,hq,hle,hq2⟩
  · exfalso;omega
  obtain rfl:gone=W.recs.length:=by omega
  exact hq2)) ?_
 rintro _ Nu ⟨x,D2,W2,rfl,hres,hwp⟩
 obtain⟨v2,hcs2,hgx2,hv5,Uz⟩:=hv2.log hwp
 obtain⟨m2,gx2,cs2⟩:=v2
 obtain rfl:gx2=v.gx:=hgx2
 have hbn5:=hbn2.to Uz (nR Uz)
 have Eh:=hv5.H.here
 refine Xa Y<|Xr Qm<|Rq<|Xm Y<|OT (yR Y Y) (fun hp68=>?_) (fun hp68=>?_)
 refine Xr Qm<|J3 Y<|Rq<|Xm Y<|Xa Y<|Xr Qm<|J5<|Cj Y Y<|⟨x,D2,W2,b,Y,.inr ⟨hp21,.inr ⟨D1,W1,hgr,hres,fun h0=>absurd h0 hp68,fun _=>Y⟩⟩,(hv5.on Eh).post⟩
 obtain rfl:x=0:=by omega
 obtain⟨X1,x1,X2,x2,X3,x3,hcs3,hx1,hx2,hx3⟩:=hv5.ok.bo
 obtain rfl:cs2=(Az X1 b x1 X2 x2 X3 x3):=hcs3
 refine Xr Qm<|J4 Y<|J6<|Rq<|Xm Y<|OV (EN xH Y (vs:=Iu A1 b k1 (hd gv) q.length cv) Y (Eh.Ak (i:=7) Y Y))<|Xc Y<|Xf iS Y<|Ae Qm ?_
 have HO:=Hp.old (Eh.at (i:=6) rfl)
 refine OS xH HO 0 Y Y Y Y Y (Ai 4) Y<|fun w10 Hd=>?_
 obtain⟨hv7,_⟩:=hv5.book Hd (hbn5.to Hd (fun x hx hl=>⟨fun hb=>hx (.inr (by rw[Bc.1 hb];exact Fp (Pm (Fb.2 ⟨_,Gn,rfl⟩)))),.inl hx⟩))
 have Df:=hv7.H.here
 refine Xr Qm<|Rq<|Xa Y<|Xr Qm<|J5<|Cj Y Y<|⟨0,D2,W2,b.fold q,Y,.inr ⟨hp21,.inr ⟨D1,W1,hgr,hres,fun _=>Y,fun h=>absurd Y h⟩⟩,(hv7.on Df).post⟩
 have H1:=H.Ap Hd
 refine Xn Y<|Xr Qm<|J3 Y<|Rq<|Xa Y<|Xr Qm<|J5<|Cj Y Y<|⟨1,D,W,b,Y,.inl ⟨hp21,Y,Y,Y,Y⟩,(hv0.on H1).post⟩
end Go.Proofs.YtjoeklkmnfaabaaGreat
