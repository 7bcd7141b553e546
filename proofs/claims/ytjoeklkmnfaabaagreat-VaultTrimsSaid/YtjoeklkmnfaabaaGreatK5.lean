/-
  Parts of the walk, one behind the other.
-/
import Derived.Test.YtjoeklkmnfaabaaGreatK4
namespace Go.Proofs.YtjoeklkmnfaabaaGreat
open Go Go.RowKit
set_option linter.unusedVariables false
set_option linter.unusedSimpArgs false
attribute [local irreducible] yW Ops zP Cd
set_option maxRecDepth 100000
set_option maxHeartbeats 4000000
theorem BY (v:Vm) (D:Dk) (W:Wl) (b:Bo) (bad:Nat→Prop) (w0:World) (H0:Hp w0 w0 (bl (Dc v D W)) (Dc v D W)) (h:Ya w0 v D W b bad) (hv:∀ x∈bl (Dc v D W),bad x) (B:Option Addr) (q:List Rt) (c:Nat) (okq:Nat→Prop) (hq:Sl Nu 4 w0 okq B q) (hc:q.length≤c) (hokq:∀ x,okq x→¬bad x) (NB:Nat) (hg:rE b NB) (hbb:BoB b) (hN:NB≤800000000000) (hnn:b.notes.length≤1000000000000) (s:Nat) (X0:Lg D.show D.kept.length W s) (hup:D.down=false) (Nw:W.dead=false) (hwt:D.wait.length≤100000000) (hfl:W.first≤2^50) (htl:W.turn≤2^50):Aj 12 #[Ah v.gx,Ac B q.length c] w0 (fun r w'=>∃ x D' W' b',r=Aa x∧RF s D W b q x D' W' b'∧KE w0 w' v bad (bl (Dc v D W)) D' W' b'):=by
 refine zG Tryz.func12 Tryz.ntmps12 Y<|cR Ql ?_
 have H:=H0
 have hv0:=Ro.start h H0 hv
 have hmo:=h.ok.most
 have hfi:=h.ok.first
 obtain⟨A1,k1,A2,k2,A3,k3,hcs,hb1,hb2,hb3⟩:=id h.bo
 obtain⟨pq,hpq,hrq,haq,h2q⟩:=id hq
 refine Rq<|Xa Y<|Xr Ql<|J1<|Rq<|Xm Y<|Jw (yF U23 Y) (by simp)<|Xr Ql<|J4 Y<|J6<|J1<|Rq<|Xm Y<|Xc Y<|Xf iS Y<|Xf sI Y<|Ag Ql<|OV (EL lF Y (H.cell (i:=6) (o:=2) Y (by rw[fK,hcs];rfl)))<|Xm Y<|OX (EC gf37 Y) (V3 A2 b.rights k2 _ B q c _ _ hb2 hq hc (by have:=hg.few;omega)) (fun hp21 w1 Hd=>?_) (fun hp21 w1 Hd=>?_)
 have H1:=H.Au Hd
 have hsub:=pT hp21
 have Gi:=hsub.length_le
 have hgf:=hg.few
 have hgn:=hg.fold hsub
 have hown:=jA hgn (hbb.fold hsub)
 have hnl:=FH hsub
 refine Xn Y<|Xr Ql<|J4 Y<|J6<|Rq<|Xm Y<|Xc Y<|Xf iS Y<|OV (EN xT Y (vs:=Bd A1 b k1 A2 k2 A3 k3) Y (H1.Ap (i:=6) Y (by rw[fK,hcs];rfl)))<|Ag Ql<|OA xT H1<|fun w2 gb H2 hgb=>OS xT H2 7 Y Y Y Y Y (by first|exact NL Y|simp[zJ]) Y<|fun w3 H3=>Xr Ql<|Rq<|Xm Y ?_
 have hkq:∀ x,okq x→x < w0.heap.size→x∉bl (Dc v D W)∧True:=fun x hx _=>⟨fun hb=>hokq x hx (hv x hb),trivial⟩
 refine OQ (EC XB Y) (HV B q.length c pq.flatten _ (hrq.move (ok':=fun _=>True) (by decide) haq H3 hkq).1 (xI (h2q.ones fun _ _ h=>h.ones)) (by omega)) ?_
 rintro _ w4 ⟨gv,cv,sv,rfl,hmv,hcv,Si,Hc⟩
 have hszc:=H3.size
 have hfrv:=lY Hc 0 rfl (by simp)
 have H4:=H3.call0 Hc
 refine Xf sI Y<|OW lF H4 7 Y Y Y Y (by first|exact NL Y|simp[zJ]) Y<|fun w5 H5=>Xf tQ Y<|Ag Ql<|OW mY H5 7 Y Y Y Y (by first|exact NL Y|simp[zJ]) Y<|fun w6 H6=>Xr Ql<|Rq<|Xm Y<|Xc Y<|Xf bW Y<|OV (EL uN Y (H6.cell (i:=6) Y Y))<|Ag Ql<|OC (EC TT Y) (gJ v.m.gv W.first W.recs.length v.m.cr (hd v.m.gr) _ (H6.cell (i:=3) Y Y) (H6.cell (i:=3) Y Y) (by omega))<|fun w7 Hc2=>have H7:=H6.Au Hc2;Xa Y<|Xr Ql<|J1<|Rq<|OV (EN xT Y (vs:=Fb A1 b k1 (hd gv) q.length cv) Y (H7.Ap (i:=7) Y Y)) ?_
 have HA:=H7
 have hv1:=hv0.on (R':=[((some gb,41,Fb A1 b k1 (hd gv) q.length cv):Ent)]) (HA.pick [0,1,2,3,4,5,6,7] (by decide))
 have hkb:∀ x,¬bad x→x < w0.heap.size→x∉bl (Dc v D W)∧¬fG w0 bad (Dc v D W++[((some gb,41,Fb A1 b k1 (hd gv) q.length cv):Ent)]) x:=fun x hx hl=>⟨fun hb=>hx (hv x hb),fun hb=>by
  rcases hb with hb | hb
  · exact hx hb.1
  rcases bl_place (HA.pick [0,1,2,3,4,5,6,7] (by decide)) x hb with h1 | h1
  · exact hx (hv x h1)
  omega⟩
 have hq1:=hb1.toS HA hkb
 have hq2:Sl Nu 4 w7 (fun x=>¬fG w0 bad (Dc v D W++[((some gb,41,Fb A1 b k1 (hd gv) q.length cv):Ent)]) x) (hd gv) q:=Sl.row HA (i:=8) rfl hpq (by decide) h2q (fun k hk hb=>by
  have h1:=hfrv ⟨k,0,none⟩ (by rw[hk];rfl)
  rcases hb with hb | hb
  · have h2:=hb.2
    simp only at h1
    omega
  exact GO HA 8 [0,1,2,3,4,5,6,7] Y Y (by decide) ⟨k,0,none⟩ (by rw[hk];rfl) hb)
 have hbn1:Qq w7 (fun x=>¬fG w0 bad (Dc v D W++[((some gb,41,Fb A1 b k1 (hd gv) q.length cv):Ent)]) x) (Fb A1 b k1 (hd gv) q.length cv) (b.fold q):=⟨A1,k1,hd gv,cv,none,0,rfl,hq1,hq2,Sl.none _ _ _ _⟩
 have HZ:=hv1.H.here
 refine OQ (EC gf40 Y) (S1 (b.fold q) A1 k1 (hd gv) cv none 0 NB _ _ hq1 hq2 (Sl.none _ _ _ _) hgn (by omega) (by omega)) ?_
 rintro _ w8 ⟨A9,k9,rfl,hns,Hd⟩
 have H8:=HZ.Au Hd
 refine OV (ES Lc Y)<|Xm Y<|Xr Ql<|J7<|zV (fun nQ lQ w=>∃ (i:Nat) (y:Int) (v1:Vm) (D1:Dk) (W1:Wl),(b.fold q).notes.length - i=nQ∧xM (Hy [(0,Ah v.gx),(1,Ac B q.length c),(5,Ah gb),(6,Aa ((W.first+W.recs.length:Nat):Int)),(37,Ac A9 (b.fold q).notes.length k9),(38,Aa ((b.fold q).notes.length:Int)),(39,Aa y)] 0 74) lQ∧y=(i:Int)∧i≤(b.fold q).notes.length∧kI s D W (((b.fold q).notes.take i).map yV) D1 W1∧Qq w (fun x=>¬fG w0 bad (Dc v1 D1 W1++[((some gb,41,Fb A1 b k1 (hd gv) q.length cv):Ent)]) x) (Fb A1 b k1 (hd gv) q.length cv) (b.fold q)∧Sl (NtR w (fun x=>¬fG w0 bad (Dc v1 D1 W1++[((some gb,41,Fb A1 b k1 (hd gv) q.length cv):Ent)]) x)) 16 w (fun x=>¬fG w0 bad (Dc v1 D1 W1++[((some gb,41,Fb A1 b k1 (hd gv) q.length cv):Ent)]) x) A9 (b.fold q).notes∧Ro w0 w (bl (Dc v D W)) bad v v1 D1 W1 b [((some gb,41,Fb A1 b k1 (hd gv) q.length cv):Ent)]) ((b.fold q).notes.length) ?_ ?_
 exact⟨0,_,v,D,W,Y,(ft7 Y Y Y Y Y Y Y Y),Y,Am _,kI.none X0 hup Nw,hbn1.to H8 (nT H8),hns.toN (Hp.refl _) (fun x hx _=>⟨by simp,Q4 hv1.H (Ak _) x hx⟩),hv1.on H8⟩
 rintro nQ lQ w9 ⟨i,y,v1,D1,W1,rfl,hfit,rfl,hi,hgr,hbn2,hns2,hv2⟩
 obtain⟨j,rfl⟩:=hfit.open
 refine cR Ql ?_
 clear hfit
 obtain⟨m1,gx1,cs1⟩:=v1
 obtain rfl:gx1=v.gx:=hv2.gx
 have H9:=hv2.H.here
 have ZH:D1.wait.length≤1000000000:=by have:=(hgr.few h.ok.ring).2;omega
 refine Rq<|OT (zQ Y Y) (fun hp40=>?_) (fun hp40=>?_)
 have hil:i < (b.fold q).notes.length:=by omega
 obtain⟨nt,hx⟩:=yL hil
 obtain⟨pn,hpn,hrn,han,h2n⟩:=id hns2
 obtain⟨p1,hp1,hR⟩:=h2n.get hx
 obtain⟨B1,j1,B2,j2,rfl,hbv,Sm⟩:=hR
 obtain⟨a1,ha1⟩:=hrn.some_ (by omega)
 subst ha1
 have hnt:=hown nt (mem_of hx)
 refine Xr Ql<|J1<|J3 Y<|J6<|J1<|J7<|Rq<|OV (EI Lc xH Y Y Y hil Y)<|OV (EN xH Y (vs:=Ed nt B1 j1 B2 j2) Y (hrn.elem hpn hp1))<|OA xH H9<|fun Oa g10 Ei hg10=>OS xH Ei 8 Y Y Y Y Y (by first|exact NL Y|simp[zJ]) Y<|fun w10 Df=>Xr Ql<|Rq<|OV (EN xH Y (vs:=Ed nt B1 j1 B2 j2) Y (Df.Ap (i:=8) Y Y))<|OQ (EC gf34 Y) (I0 (Px nt) _ _ (WF (ok:=fun _=>True) ⟨B1,j1,B2,j2,Y,hbv.to Df (fun x hx hl=>⟨fun hb=>hx (.inr hb),trivial⟩),Sm.to Df (fun x hx hl=>⟨fun hb=>hx (.inr hb),trivial⟩)⟩ hnt.1)) ?_
 rintro _ w12 ⟨gn,cn,sn,rfl,hn1,hn2,hn3,hn4,HdN⟩
 have Fj:=Df.call0 HdN
 change Hp _ _ _ (_++[(gn,5,u8s (yV nt)++sn)])at Fj
 refine Xm Y<|Xe Y Y<|Ag Ql<|Xe Y Y<|Xa Y<|Xa Y<|Xr Ql<|J1<|Rq<|Xm Y<|Jw (yR Y Y) (fun hh=>hh (by show((Og nt:Nat):Int)=0;rw[hnt.2.1];rfl))<|Xr Ql<|J4 Y<|J6<|Rq<|Xm Y<|Xc Y<|Xf bW Y<|OV (EL uN Y (Fj.cell (i:=6) Y Y))<|Ag Ql<|Xm Y ?_
 have HB3:=Fj.pick [0,1,2,3,4,5,6,7] (by decide)
 have hv3:=hv2.on (R':=[((some gb,41,Fb A1 b k1 (hd gv) q.length cv):Ent)]) HB3
 refine OQ (EC gf35 Y) (aK m1 D1 W1 _ hv3.H.less.less.here hv3.ok.ok (hd gn) (yV nt) cn (Fj.rd (i:=9) (o:=gn) (xs:=u8s (yV nt)) (sp:=sn) Y (yY _) (by decide)) (fun _ p hp hb=>GO Fj 9 [0,1,2,3,4,5] Y Y (by decide) p hp hb) (by have:=jE nt;omega) ZH) ?_
 rintro _ Uf ⟨x,D2,W2,rfl,hres,hwp⟩
 obtain⟨v2,hcs2,hgx2,hv5,HX5⟩:=hv3.log hwp
 obtain⟨m2,gx2,cs2⟩:=v2
 obtain rfl:gx2=v.gx:=hgx2
 have hbn5:=(hbn2.to HB3 (nT HB3)).to HX5 (nT HX5)
 have hns5:=(hns2.toN HB3 (nT HB3)).toN HX5 (nT HX5)
 have Ip:=hv5.H.here
 rcases hgr.app hres hnt.2.2 with ⟨hx0,hfit,hgr2⟩ | ⟨hx0,hfull,hD2,hW2⟩ | ⟨hx0,harm,hdn,hkp,_,ws2,hws,hwl,hfrs⟩
 refine Xa Y<|Xr Ql<|Rq<|Xm Y<|Jw (yR Y Y) (by omega)<|Xr Ql<|J4 Y<|J6<|zA (zB ?_)
 refine J2<|OV (zL Y Y (Ad _ (by omega)))<|Xm Y<|Xr Ql<|zA (zH ?_)
 exact⟨(b.fold q).notes.length - (i+1),by omega,i+1,_,_,D2,W2,Y,(ft7 Y Y Y Y Y Y Y Y),by omega,by omega,by rw[yM hx,Dx];exact hgr2,hbn5,hns5,hv5.on Ip⟩
 refine Xa Y<|Xr Ql<|Rq<|Xm Y<|Ui (yR Y Y) (by omega)<|Xr Ql<|J3 Y<|Rq<|Xm Y<|Xa Y<|Xr Ql<|J5<|BR<|yN<|BR<|Cm Y Y<|⟨x,D2,W2,b,Y,.inr ⟨hp21,.inl ⟨i,nt,D1,W1,hx,hgr,Y,.inl ⟨hx0,hfull,hD2,hW2⟩⟩⟩,(hv5.on Ip).post⟩
 refine Xa Y<|Xr Ql<|Rq<|Xm Y<|Ui (yR Y Y) (by omega)<|Xr Ql<|J3 Y<|Rq<|Xm Y<|Xa Y<|Xr Ql<|J5<|BR<|yN<|BR<|Cm Y Y<|⟨x,D2,W2,b,Y,.inr ⟨hp21,.inl ⟨i,nt,D1,W1,hx,hgr,Y,.inr ⟨hx0,harm,hdn,hkp,ws2,hws,by have h9:=(hgr.few h.ok.d.most).1;omega,hfrs⟩⟩⟩,(hv5.on Ip).post⟩
 obtain rfl:i=(b.fold q).notes.length:=by omega
 rw[Bz]at hgr
 refine Xr Ql<|J1<|J4 Y<|J8<|zU<|zS<|J1<|Rq<|Xm Y<|Xc Y<|Xf bW Y<|OV (EL uN Y (H9.cell (i:=6) Y Y))<|Ag Ql<|Xm Y ?_
 refine OQ (EC gf41 Y) ((UC ((W.first+W.recs.length:Nat):Int) m1 D1 W1 _ hv2.H.less.less.here hv2.ok.ok ZH (by rw[hgr.first];exact hfl) (by rw[hgr.turn];exact htl)).mono (fun r wz hq=>by
  have hrl:W1.recs.length=W.recs.length+((b.fold q).notes.map yV).length:=by rw[hgr.recs,Ae]
  have hfl2:=hgr.first
  rcases hq with ⟨hq,_⟩ | ⟨gone,hq,hle,hq2⟩
  · exfalso;omega
  obtain rfl:gone=W.recs.length:=by omega
  exact hq2)) ?_
 rintro _ Oa ⟨x,D2,W2,rfl,hres,hwp⟩
 obtain⟨v2,hcs2,hgx2,hv5,HX5⟩:=hv2.log hwp
 obtain⟨m2,gx2,cs2⟩:=v2
 obtain rfl:gx2=v.gx:=hgx2
 have hbn5:=hbn2.to HX5 (nT HX5)
 have Ei:=hv5.H.here
 refine Xa Y<|Xr Ql<|Rq<|Xm Y<|OT (yR Y Y) (fun hp68=>?_) (fun hp68=>?_)
 refine Xr Ql<|J3 Y<|Rq<|Xm Y<|Xa Y<|Xr Ql<|J5<|Cm Y Y<|⟨x,D2,W2,b,Y,.inr ⟨hp21,.inr ⟨D1,W1,hgr,hres,fun h0=>absurd h0 hp68,fun _=>Y⟩⟩,(hv5.on Ei).post⟩
 obtain rfl:x=0:=by omega
 obtain⟨X1,x1,X2,x2,X3,x3,hcs3,hx1,hx2,hx3⟩:=hv5.ok.bo
 obtain rfl:cs2=(Bd X1 b x1 X2 x2 X3 x3):=hcs3
 refine Xr Ql<|J4 Y<|J6<|Rq<|Xm Y<|OV (EN xT Y (vs:=Fb A1 b k1 (hd gv) q.length cv) Y (Ei.Ap (i:=7) Y Y))<|Xc Y<|Xf iS Y<|Ag Ql ?_
 have HO:=Hp.old (Ei.at (i:=6) rfl)
 refine OS xT HO 0 Y Y Y Y Y (Ak 4) Y<|fun w10 Hd=>?_
 obtain⟨hv7,_⟩:=hv5.book Hd (hbn5.to Hd (fun x hx hl=>⟨fun hb=>hx (.inr (by rw[Az.1 hb];exact Ih (Pq (Ew.2 ⟨_,Gm,rfl⟩)))),.inl hx⟩))
 have Df:=hv7.H.here
 refine Xr Ql<|Rq<|Xa Y<|Xr Ql<|J5<|Cm Y Y<|⟨0,D2,W2,b.fold q,Y,.inr ⟨hp21,.inr ⟨D1,W1,hgr,hres,fun _=>Y,fun h=>absurd Y h⟩⟩,(hv7.on Df).post⟩
 have H1:=H.Au Hd
 refine Xn Y<|Xr Ql<|J3 Y<|Rq<|Xa Y<|Xr Ql<|J5<|Cm Y Y<|⟨1,D,W,b,Y,.inl ⟨hp21,Y,Y,Y,Y⟩,(hv0.on H1).post⟩
set_option maxHeartbeats 16000000
theorem wV {w:World} {ok:Nat→Prop}:Qz w ok Td Sv.none:=⟨none,0,none,0,none,0,rfl,Sl.none _ _ _ _,Bs.none _ _,Sl.none _ _ _ _⟩
theorem JV (w0:World):Aj 29 #[] w0 (fun r w'=>∃ cs,r=.agg cs.toArray∧Qq w' (fun x=>w0.heap.size≤x) cs Bo.empty∧Hp w0 w' [] []):=by
 refine zG Tryz.func29 Tryz.ntmps29 Y<|cR e3 ?_
 have H:=Hp.refl w0
 refine Rq<|OA xT H<|fun w1 g1 H1 hg1=>Xr e3<|Rq<|jB Ue wD H1 (n:=8) (c:=8) Y Y (Ak _) (by decide) (by decide)<|fun w2 ge H2 _=>OV (EB xT ST Y Y)<|OS xT H2 0 (vs:=Qh (hd (some ge))) Y Y Y Y Y (Ak 3) Y<|fun w3 H3=>Xr e3<|J5<|uL Y xT (cs:=Qh (hd (some ge))) Y Y (H3.Ap (i:=0) Y Y) ?_
 have HZ:Hp w0 w3 [] [((some g1,41,Qh (hd (some ge))):Ent),((some ge,97,(List.replicate 8 Td).flatten++[]):Ent)]:=by rw[Dt];exact H3
 refine⟨_,Y,⟨hd (some ge),8,none,0,none,0,Y,Sl.row HZ (i:=1) Y (fun p hp=>by rw[(List.mem_replicate.1 hp).2];rfl) (by decide) ?_ (fun b hb=>?_),Sl.none _ _ _ _,Sl.none _ _ _ _⟩,H3.Af⟩
 exact⟨wV,wV,wV,wV,wV,wV,wV,wV,trivial⟩
 rcases HZ.place (i:=1) (g:=b) (by cases hb;rfl)with h | h
 cases h
 exact h
theorem T9 (w0:World):Aj 15 #[] w0 (fun r w'=>∃ cs,r=.agg cs.toArray∧Qq w' (fun x=>w0.heap.size≤x) cs Bo.empty∧Hp w0 w' [] []):=by
 refine zG Tryz.func15 Tryz.ntmps15 Y<|cR e3 ?_
 have H:=Hp.refl w0
 refine Rq<|OA xT H<|fun w1 g1 H1 hg1=>Xr e3<|Rq<|jB Ue wD H1 (n:=8) (c:=8) Y Y (Ak _) (by decide) (by decide)<|fun w2 ge H2 _=>OV (EB xT ST Y Y)<|OS xT H2 0 (vs:=Qh (hd (some ge))) Y Y Y Y Y (Ak 3) Y<|fun w3 H3=>Xr e3<|J5<|uL Y xT (cs:=Qh (hd (some ge))) Y Y (H3.Ap (i:=0) Y Y) ?_
 have HZ:Hp w0 w3 [] [((some g1,41,Qh (hd (some ge))):Ent),((some ge,97,(List.replicate 8 Td).flatten++[]):Ent)]:=by rw[Dt];exact H3
 refine⟨_,Y,⟨hd (some ge),8,none,0,none,0,Y,Sl.row HZ (i:=1) Y (fun p hp=>by rw[(List.mem_replicate.1 hp).2];rfl) (by decide) ?_ (fun b hb=>?_),Sl.none _ _ _ _,Sl.none _ _ _ _⟩,H3.Af⟩
 exact⟨wV,wV,wV,wV,wV,wV,wV,wV,trivial⟩
 rcases HZ.place (i:=1) (g:=b) (by cases hb;rfl)with h | h
 cases h
 exact h
theorem NJ (A:Option Addr) (k:Nat) (l:List Nt) (Ob:Nat→Prop) (w0:World) (hl:Sl (NtR w0 Ob) 16 w0 Ob A l) (hn:l.length≤840000000000):Aj 33 #[Ac A l.length k] w0 (fun r w'=>∃ cs e b,r=.tuple #[.agg cs.toArray,Aa e]∧Qq w' (fun x=>w0.heap.size≤x) cs b∧Rep l b e∧Hp w0 w' [] []):=by
 refine zG Tryz.func33 Tryz.ntmps33 Y<|cR e20 ?_
 have H:=Hp.refl w0
 obtain⟨ps,hp,hr,ha,h2⟩:=id hl
 have hlen:=h2.len
 refine Rq<|OA xT H<|fun w1 gr H1 hgr=>Xa Y<|Xr e20<|Rq ?_
 have Z7:=Hp.fresh H1
 have hszr:=H1.size
 refine OQ (EC gf29 Y) (JV _) ?_
 rintro _ w2 ⟨cse,rfl,hbe,Hd⟩
 have H2:=H1.Au Hd
 have hcl:∃ a b c d e f,cse=[Ac a 8 b,Ac c 0 d,Ac e 0 f]:=by
  obtain⟨_,_,_,_,_,_,rfl,_⟩:=hbe
  exact⟨_,_,_,_,_,_,Y⟩
 obtain⟨z1,y1,z2,y2,z3,y3,rfl⟩:=hcl
 have HB0:=H2
 have HL0:=HB0.here
 refine OA xT HL0<|fun w3 gb H3 hgb=>OS xT H3 1 Y Y Y Y Y (by first|exact NL Y|simp[zJ]) Y<|fun w4 H4=>Xr e20<|J1<|Rq<|Xm Y<|OV (ES Lc Y)<|Xm Y<|Xr e20<|J7<|zV (fun nQ lQ w=>∃ (i:Nat) (y:Int) (b:Bo) (cs:List Value),l.length - i=nQ∧xM (Hy [(2,Ah gr),(4,Ah gb),(8,Ac A l.length k),(9,Aa (l.length:Int)),(10,Aa y)] 0 20) lQ∧y=(i:Int)∧i≤l.length∧vE Bo.empty (l.take i)=some b∧rE b i∧Qq w (fun x=>w0.heap.size≤x∧x≠gr∧x≠gb) cs b∧Hp w0 w [] [((some gr,41,[Dn,Dn,Dn]):Ent),(some gb,41,cs)]) (l.length) ?_ ?_
 exact⟨0,_,Bo.empty,_,rfl,(Oc rfl rfl rfl rfl rfl rfl),rfl,Am _,rfl,rE.empty,hbe.to H4 (fun x hx hl=>⟨Z7 x hx,by omega,fun e=>by subst e;have h1:=H4.lt (i:=0) rfl;have h2:=Z7 _ hx;exact h2 (by simp[bl]),by omega⟩),(HB0.all H4).pick [0,1] (by decide)⟩
 rintro nQ lQ w5 ⟨i,y,b,cs,rfl,hfit,rfl,hi,hrep,hgood,Zi,H5⟩
 obtain⟨j,rfl⟩:=hfit.open
 refine cR e20 ?_
 clear hfit
 have HB:=H5
 replace H5:=HB.here
 obtain⟨X1,x1,X2,x2,X3,x3,rfl,hx1,hx2,hx3⟩:=Zi
 refine Rq<|OT (zQ Y Y) (fun hp11=>?_) (fun hp11=>?_)
 have hil:i < l.length:=by omega
 obtain⟨nt,hx⟩:=yL hil
 obtain⟨p1,hp1,hR⟩:=h2.get hx
 obtain⟨B1,j1,B2,j2,rfl,hbv,Sm⟩:=hR
 obtain⟨a1,ha1⟩:=hr.some_ (by omega)
 subst ha1
 refine Xr e20<|J1<|J3 Y<|J6<|J1<|J7<|Rq<|OV (EI Lc xH Y Y Y hil Y)<|OV (EN xH Y (vs:=Ed nt B1 j1 B2 j2) Y ((hr.to0 (HB.all H5)).elem hp hp1))<|OA xH H5<|fun w6 g6 H6 hg6=>OS xH H6 2 Y Y Y Y Y (by first|exact NL Y|simp[zJ]) Y<|fun w7 H7=>Xr e20<|Rq<|OV (EN xH Y (vs:=Ed nt B1 j1 B2 j2) Y (H7.Ap (i:=2) Y Y)) ?_
 have HP:=H7
 have hkb:∀ x,(fun x=>w0.heap.size≤x∧x≠gr∧x≠gb) x→x∉bl [((some gr,0,[]):Ent),(some gb,0,[])]∧(fun x=>w0.heap.size≤x∧x≠gr∧x≠gb) x:=fun x hx=>⟨fun hb=>by
  have:x=gr∨x=gb:=by simpa[bl]using hb
  rcases this with h | h
  · exact hx.2.1 h
  exact hx.2.2 h,hx⟩
 have hkl:∀ x,Ob x→x < w0.heap.size→x∉([]:List Nat)∧(Ob x∧x < w0.heap.size):=fun x hx hl=>⟨by simp,hx,hl⟩
 have hgr0:=HB.place (i:=0) rfl
 have hgb0:=HB.place (i:=1) rfl
 have hnp:=Hp.fresh H7
 have YK:=(HB.all H7).size
 refine OQ (EC TU rfl) (CR none gb b X1 x1 X2 x2 X3 x3 nt B1 j1 B2 j2 (fun x=>Ob x∧x < w0.heap.size) i _ (H7.at (i:=1) rfl) (fun x=>w0.heap.size≤x∧x≠gr∧x≠gb) (fun hh=>hh.2.2 rfl) (hx1.toS H7 fun x hx _=>hkb x hx) (hx2.toR H7 fun x hx _=>hkb x hx) (hx3.toM H7 fun x hx _=>hkb x hx) (fun hh=>by rcases hgb0 with h | h;cases h;have:=hh.2;omega) (hbv.to (HB.all H7) hkl) (Sm.to (HB.all H7) hkl) hgood (by omega)) ?_
 rintro r w8 ⟨hyes,hno⟩
 have htk:=qF hrep hx
 cases hin:b.into nt
 obtain⟨rfl,Hd⟩:=hno hin
 have Yx:=(HP.Du [1] rfl Hd).pick [0] (by decide)
 refine Xn Y<|Xr e20<|J3 Y<|Rq<|OV (EB xT ST Y Y)<|OS xT Yx 0 Y Y Y Y Y (by decide) Y<|fun w9 H9=>Xa Y<|Xr e20<|J5<|BR<|yN<|BR<|xS Y xT (cs:=[Dn,Dn,Dn]) Y Y Y (H9.Ap (i:=0) Y Y)<|⟨_,_,Bo.zero,Y,Qq.zero _ _,.inr ⟨kV (htk.trans hin),Y,Y⟩,(HB.all H9).Af⟩
 obtain⟨rfl,cs',Hd,hB'⟩:=hyes _ hin
 have Yx:=(HP.Du [1] rfl Hd).pick [0,3] (by decide)
 refine Xn Y<|Xr e20<|J4 Y<|J6<|zA (zB ?_)
 refine J2<|OV (zL Y Y (Ad _ (by omega)))<|Xm Y<|Xr e20<|zA (zH ?_)
 refine⟨l.length - (i+1),by omega,i+1,_,_,cs',Y,(Oc Y Y Y Y Y Y),by omega,by omega,htk.trans hin,hgood.into hin,hB'.to (Hp.refl _) (fun x hx hl=>⟨by simp,?_⟩),(HB.all Yx).pick [0,1] (by decide)⟩
 rcases hx with hx | hx
 exact hx
 exact⟨by omega,fun e=>by subst e;have:=HP.lt (i:=0) rfl;omega,fun e=>by subst e;have:=HP.lt (i:=1) rfl;omega⟩
 obtain rfl:i=l.length:=by omega
 refine Xr e20<|J1<|J4 Y<|J8<|zU<|zS<|Rq<|OV (EN xT Y (vs:=Bd X1 b x1 X2 x2 X3 x3) Y (H5.Ap (i:=1) Y Y))<|OS xT H5 0 Y Y Y Y Y (Ak 3) Y<|fun w6 H6=>Xa Y<|Xr e20<|J5<|xS Y xT (cs:=Bd X1 b x1 X2 x2 X3 x3) Y Y Y (H6.Ap (i:=0) Y Y) ?_
 rw[Bz]at hrep
 refine⟨_,_,b,Y,Qq.to (ok:=(fun x=>w0.heap.size≤x∧x≠gr∧x≠gb)) ⟨X1,x1,X2,x2,X3,x3,Y,hx1,hx2,hx3⟩ H6 (fun x hx hl=>⟨fun hb=>?_,hx.1⟩),.inl ⟨hrep,Y,hgood⟩,(HB.all H6).Af⟩
 have:x=gr∨x=gb:=by simpa[bl]using hb
 rcases this with h | h
 exact hx.2.1 h
 exact hx.2.2 h
end Go.Proofs.YtjoeklkmnfaabaaGreat
namespace Go.Proofs.YtjoeklkmnfaabaaGreat
set_option maxRecDepth 100000
set_option maxHeartbeats 4000000
open Go Go.RowKit
set_option linter.unusedVariables false
attribute [local irreducible] yW Ops zP Cd
theorem pl69 :wY Tryz.prog 69=some [(0,1),(1,3)]:=by kernel_rfl
namespace Rn
attribute [local irreducible] Cd
theorem YZ (gd gk:Nat) (gw:Option Nat) (cw:Nat) (sp:List Value) (D:Dk) (w0:World) (H0:Hp w0 w0 (bl (xD gd gk gw cw sp D)) (xD gd gk gw cw sp D)) (hD:Ri D gw cw sp) (hup:D.down=false) (hwt:D.wait.length≤1000000000) (W:Wl) (s:Nat) (X0:Lg D.show D.kept.length W s) (ht:W.told=W.recs.length) (htu:W.turn≤2^50) (hfi:W.first≤2^50) (L:List Nt) (hL:W.recs=L.map yV) (hNt:∀ n∈L,NtB n∧Og n=0) (b:Bo) (hrep:vE Bo.empty L=some b) (hn:L.length≤100000):qA Tryz.prog 7 #[Ah gd] w0 (fun r w'=>∃ (v:Vm) (W':Wl),r=.tuple #[Ah v.gx,Aa 0]∧v.m.gd=gd∧v.m.gk=gk∧W'.recs=W.recs∧W'.first=W.first∧W'.turn=W.turn∧W'.told=W'.recs.length∧W'.dead=false∧Lg D.show D.kept.length W' s∧Ya w' v D W' b (fun x=>x < w0.heap.size∨x∈bl (Dc v D W'))∧Hp w0 w' (bl (xD gd gk gw cw sp D)) (Dc v D W')) (fun _ _=>False):=by
 refine zG Tryz.func7 Tryz.ntmps7 Y ?_
 change Run _ _ _ _ [Ah gd,undef,undef,undef,undef,undef,undef,undef,undef,undef,undef,undef,undef,undef,undef,undef,undef,undef,undef,undef,undef,undef,undef,undef,undef,undef,undef,undef,undef,undef,undef,undef,undef,undef,undef,undef,undef,undef,undef,undef,undef,undef,undef] _
 have H:=H0
 refine zN<|zK Y (fun _ _ h=>h)<|OA GH H<|fun w1 g2 H1 hg2=>OA pZ H1<|fun w2 g3 H2 hg3=>OE ?_
 change Run _ _ _ _ [_,_,_,_,_,_,_,_,_,_,_,_,_,_,_,_,_,_,_,_,_,_,_,_,_,_,_,_,_,_,_,_,_,_,_,_,_,_,_,_,_,_,_] _
 refine zN<|zK Y (fun _ _ h=>h)<|Xm Y<|OQ (EC gf28 Y) (GW gd gk gw cw sp D _ (H2.pick [0,1,2] (by decide)).here hD hup hwt W s X0 ht htu hfi) ?_
 have hszo:=H2.size
 have hg2o:=H2.lt (i:=3) rfl
 have hg3o:=H2.lt (i:=4) rfl
 rintro _ w3 ⟨m,W1,rfl,e1,e2,hxs,hok,Hd,f1,f2,f3,f4,f5,hlg1⟩
 have H3:=(H2.Du [0,1,2] rfl Hd).pick [5,6,7,8,9,10,3,4] (by decide)
 have hls1:=Wx.new hxs hok
 have hb8:∀ x∈bl (Bf m D W1++[((some g2,23,[.pointer none]):Ent),(some g3,24,[Aa (0:Int)])]),x < w2.heap.size∨x∈bl (Bf m D W1)∨w3.heap.size≤x:=fun x hx=>by
  rw[vX]at hx
  rcases Bq.1 hx with hx | hx
  · exact .inr (.inl hx)
  have h1:x=g2∨x=g3:=by simpa[bl]using hx
  rcases h1 with rfl | rfl
  · exact .inl hg2o
  exact .inl hg3o
 refine Xm Y<|Xe Y Y<|Ag e43<|Xe Y Y<|Xa Y<|Xa Y<|OE ?_
 change Run _ _ _ _ [_,_,_,_,_,_,_,_,_,_,_,_,_,_,_,_,_,_,_,_,_,_,_,_,_,_,_,_,_,_,_,_,_,_,_,_,_,_,_,_,_,_,_] _
 refine zN<|zN<|zK Y (fun _ _ h=>h)<|Xm Y<|Jw (yR Y Y) (by decide)<|OE ?_
 change Run _ _ _ _ [_,_,_,_,_,_,_,_,_,_,_,_,_,_,_,_,_,_,_,_,_,_,_,_,_,_,_,_,_,_,_,_,_,_,_,_,_,_,_,_,_,_,_] _
 refine zX Y<|xK<|zN<|zK Y (fun _ _ h=>h)<|Xm Y ?_
 have HE:=H3
 obtain⟨z0,hz0⟩:∃ z,z=w3.heap.size:=⟨_,rfl⟩
 refine OQ (EC gf29 Y) (JV _) ?_
 rintro _ w4 ⟨_,rfl,⟨E1,e1',E2,e2',E3,e3',rfl,hE1,hE2,hE3⟩,Hd0⟩
 have H4:=H3.Au Hd0
 have HW:=H4
 replace H4:=HW.here
 refine OV (EB ty69 pl69 Y Y)<|yA Y Y H4<|fun w5 gx H5 hgx=>Ag e43<|OA GH H5<|fun w6 g6 H6 hg6=>OW GH H6 9 Y Y Y Y (by decide) Y<|fun w7 H7=>OE ?_
 change Run _ _ _ _ [_,_,_,_,_,_,_,_,_,_,_,_,_,_,_,_,_,_,_,_,_,_,_,_,_,_,_,_,_,_,_,_,_,_,_,_,_,_,_,_,_,_,_] _
 refine zN<|zN<|zK Y (fun _ _ h=>h)<|Xm Y<|OQ (EC gf30 Y) (UQ (Ah m.gv) _ Y) ?_
 rintro r wS ⟨gb,hr,Hc⟩
 rw[hr]
 have HSx:=H7.call0 Hc
 refine OE ?_
 change Run _ _ _ _ [_,_,_,_,_,_,_,_,_,_,_,_,_,_,_,_,_,_,_,_,_,_,_,_,_,_,_,_,_,_,_,_,_,_,_,_,_,_,_,_,_,_,_] _
 refine wJ ?_
 have HS:=HW.all HSx
 have hszS:=HS.size
 have hszE:=HE.size
 have hz6:=Hd0.size
 rw[← hz0]at hz6
 have hS8:∀ x∈bl (Bf m D W1++[((some g2,23,[.pointer none]):Ent),(some g3,24,[Aa (0:Int)])]),x < z0:=fun x hx=>by rw[hz0];exact oM HE hx
 have hgx0:=lY HSx 8 rfl (fun p hp=>by simp only[hd,Ig,Option.some.injEq]at hp;subst hp;exact Fa HSx (i:=8) rfl (is:=[0,1,2,3,4,5,6,7]) (by decide)) ⟨gx,0,none⟩ rfl
 have hg60:=lY HSx 9 rfl (fun p hp=>by simp only[hd,Ig,Option.some.injEq]at hp;subst hp;exact Fa HSx (i:=9) rfl (is:=[0,1,2,3,4,5,6,7]) (by decide)) ⟨g6,0,none⟩ rfl
 simp only at hgx0 hg60
 have hgxl:=HS.lt (i:=8) rfl
 have hg6l:=HS.lt (i:=9) rfl
 have hgbl:=HS.lt (i:=10) rfl
 have hgvl:=HS.lt (i:=3) rfl
 have hne1:gx≠gb:=HS.ne (i:=8) (j:=10) rfl rfl (by decide)
 have hne2:g6≠gb:=HS.ne (i:=9) (j:=10) rfl rfl (by decide)
 have hne3:gx≠m.gv:=HS.ne (i:=8) (j:=3) rfl rfl (by decide)
 have hne4:g6≠m.gv:=HS.ne (i:=9) (j:=3) rfl rfl (by decide)
 have hrcE:∀ x∈X6 m.xs,x < z0:=fun x hx=>by rw[hz0];exact NM hok.lst x hx
 have hkE:∀ x,z0≤x→x < w4.heap.size→x∉bl (Bf m D W1++[((some g2,23,[.pointer none]):Ent),(some g3,24,[Aa (0:Int)])])∧(z0≤x∧x∉[gx,g6]):=fun x hx hl=>⟨fun hb=>by have:=hS8 x hb;omega,hx,fun hm=>by
  simp only[Cj,Jh,or_false]at hm
  omega⟩
 have hlsS:=(hls1.keep Hd0 (fun _ hb=>by cases hb) (fun _ hb _=>hb)).keep HSx (fun x hx=>hb8 x hx) (fun _ hb _=>hb)
 have hokS:Mc wS m D W1:={ hok with lst:=hlsS.lsw (fun x hx=> .inr (.inl hx)) }
 have HS89:Hp wS wS [gx,g6] [((some gx,69,Ah m.gv::[Ac E1 Bo.empty.groups.length e1',Ac E2 Bo.empty.rights.length e2',Ac E3 Bo.empty.last.length e3']):Ent),(some g6,23,[Ah gx])]:=(HS.pick [8,9] (by decide)).here
 rw[← hz0]at hE1 hE2 hE3
 have hbE:Qq wS (fun x=>(z0≤x∧x∉[gx,g6])∧isC wS x) [Ac E1 Bo.empty.groups.length e1',Ac E2 Bo.empty.rights.length e2',Ac E3 Bo.empty.last.length e3'] Bo.empty:=⟨E1,e1',E2,e2',E3,e3',rfl,(hE1.toS HSx hkE).Vj (by decide) fun _ _ h=>h.Vj,(hE2.toR HSx hkE).Vj (by decide) fun _ _ h=>h,(hE3.toM HSx hkE).Vj (by decide) fun _ _ h=>h⟩
 refine AH (ps:=[25,26]) (gf:=60) (lb:=[Ah gb]) (N:=W1.recs.length) (B:=(gb::m.gv::X6 m.xs)) Tryz.func7 Y gf60
  (It:=VX wS.heap.size W1)
  (fun w1 Hw1=>Q8 gb m D W1 w1 ((HS.Au Hw1).pick [0,1,2,3,4,5] (by decide)).here (hokS.keep0 Hw1) ((HS.Au Hw1).cell (i:=10) (o:=0) rfl rfl) wS.heap.size Hw1.size)
  (fun x hx=>by
   simp only[Cj]at hx
   rcases hx with rfl | rfl | hx
   · exact hgbl
   · exact hgvl
   have:=hrcE x hx;omega)
  (fun k W2 O=>∃ (cs:List Value) (bk:Bo),O=[gx,g6]∧vE Bo.empty (L.take k)=some bk∧Qq W2 (fun x=>(z0≤x∧x∉[gx,g6])∧isC W2 x) cs bk∧Hp wS W2 [gx,g6] [((some gx,69,Ah m.gv::cs):Ent),(some g6,23,[Ah gx])])
  (fun _ _=>False) (fun _ _=>False)
  [gx,g6]
  (fun x hx=>by
   simp only[Cj,Jh,or_false]at hx
   rcases hx with rfl | rfl
   · exact FW hne1 hne3 (fun h9=>by have:=hrcE _ h9;omega)
   exact FW hne2 hne4 (fun h9=>by have:=hrcE _ h9;omega))
  (fun l args=>((l.set 25 (args.getD 0 undef)).set 26 (args.getD 1 undef)).set 8 (args.getD 1 undef))
  (fun k W2 O hJ x hx=>by
   obtain⟨cs,bk,rfl,_,_,HJ⟩:=hJ
   exact sP HJ x hx)
  (fun k W2 O W3 L' hJ hL' HL hnl=>by
   obtain⟨cs,bk,rfl,h1,h2,HJ⟩:=hJ
   refine⟨cs,bk,Y,h1,h2.to HL (fun x hx _=>?_),HJ.loop HL hnl hL'⟩
   have hxL:x∉[L']:=fun hm=>by
    obtain⟨arr,T,z,hz⟩:=hx.2
    rw[Az.1 hm]at hz
    exact hnl _ _ _ hz
   exact⟨hxL,hx.1,hx.2.to HL hxL⟩)
  (fun _ _ _ _ hx=>hx.elim)
  (fun k W2 args G hI=>by
   obtain⟨bb,g,cap,sp',i1,rfl,i2,i3,i4,rfl,i5,i6⟩:=hI
   refine⟨Y,sP i5,fun W3 L' HL hL' hnl=>⟨bb,g,cap,sp',i1,Y,i2,i3,i4,Y,?_,i6⟩⟩
   exact(((i5.widen (S':=bl [((g,5,u8s bb++sp'):Ent)]++[L']) (fun x hx=>Bq.2 (.inl hx))).past HL (fun x hx=> .inl (Bq.2 (.inr hx))) (fun x hx hx2=>by
    obtain⟨arr,T,z,hz⟩:=sP i5 x hx
    rw[Az.1 hx2]at hz
    exact hnl _ _ _ hz))).here)
  ⟨_,Bo.empty,rfl,rfl,hbE,HS89⟩ ?_ ?_ ?_ (fun _ _ _ hx=>hx.elim) (fun _ _ _ hx=>hx.elim)
 rintro k W2 args G L' ⟨bb,gn,cn,sn,_,rfl,_⟩
 change Run _ _ _ _ [_,_,_,_,_,_,_,_,_,_,_,_,_,_,_,_,_,_,_,_,_,_,_,_,_,_,_,_,_,_,_,_,_,_,_,_,_,_,_,_,_,_,_] _
 refine zK Y (fun _ _ h=>(by cases h.1))<|Xa Y<|OE ?_
 change Run _ _ _ _ [_,_,_,_,_,_,_,_,_,_,_,_,_,_,_,_,_,_,_,_,_,_,_,_,_,_,_,_,_,_,_,_,_,_,_,_,_,_,_,_,_,_,_] _
 refine zA<|⟨Y,Y,Y,Y⟩
 rintro k W2 O args G L' hk ⟨cs,bk,rfl,hrk,hbo,HJ⟩ ⟨bb,gn,cn,sn,hbk,rfl,i2,i3,i4,rfl,i5,i6⟩ hGO
 obtain⟨X1,x1,X2,x2,X3,x3,rfl,hx1,hx2,hx3⟩:=id hbo
 have hkL:k < L.length:=by rw[f1,hL,Bg]at hk;exact hk
 obtain⟨nt,hx⟩:=yL hkL
 obtain rfl:yV nt=bb:=by
  rw[f1,hL,Nb,hx]at hbk
  exact Option.some.inj hbk
 have hnt:=hNt nt (mem_of hx)
 obtain⟨hr0,hgot⟩:=S4 hnt.1 hnt.2
 obtain⟨b3,hin⟩:∃ b3,bk.into nt=some b3:=by
  obtain⟨c,hc⟩:=eV (k+1) hrep
  exact⟨c,(qF hrk hx).symm.trans hc⟩
 have hgood:rE bk k:=by
  have h9:=rE.YI rE.empty hrk
  rw[Ba,Aw,Io (by omega)]at h9
  exact h9
 have hszJ:=HJ.size
 have HB:=HJ.here
 change Run _ _ _ _ [_,_,_,_,_,_,_,_,_,_,_,_,_,_,_,_,_,_,_,_,_,_,_,_,_,_,_,_,_,_,_,_,_,_,_,_,_,_,_,_,_,_,_] _
 refine wJ<|zN<|zK Y (fun _ _ h=>h)<|Xm Y<|CF (EC gf31 Y) (S3 (hd gn) (yV nt) cn _ (i5.rd (i:=0) (o:=gn) (xs:=u8s (yV nt)) (sp:=sn) Y (yY _) (by decide)) (by have:=jE nt;omega))<|fun w8 cr hM Hd=>?_
 rw[hgot]at hM
 rw[hr0]
 have hvl:=LI hnt.2
 have hnr:=M_nt hM hvl.1 hvl.2
 obtain⟨B1,j1,B2,j2,rfl,hbv,hbe⟩:=hnr
 have HR1:=HB.Au Hd
 have H8:=HR1.here
 refine Xm Y<|Xe Y Y<|Ag e43<|Xe Y Y<|OA xH H8<|fun w9 g9 H9 hg9=>OS xH H9 2 Y Y Y Y Y (Ak 16) Y<|fun Oa Ei=>Xa Y<|OE ?_
 change Run _ _ _ _ [_,_,_,_,_,_,_,_,_,_,_,_,_,_,_,_,_,_,_,_,_,_,_,_,_,_,_,_,_,_,_,_,_,_,_,_,_,_,_,_,_,_,_] _
 refine zN<|zR 9 [(true,0),(true,1),(true,2),(true,3),(true,4),(true,5),(true,6),(false,7),(true,8),(false,9)] Ei [1,2] yE (by decide) (by kernel_rfl) Y ?_
 rintro w10 Me
 have Df:=Hp.drew Ei;rw[← Me]at Df
 refine Zm Y Y<|MP Y<|sE (fun wz hz=>yR Y Y) (by decide)<|Zm Y Y<|MP Y<|MY Y<|MV (fun wz hz=>EL GH Y (hz.cell (i:=0) Y Y))<|cZ e43<|MP Y<|MY Y<|MV (fun wz hz=>yJ Y)<|MP Y<|MY Y<|MV (fun wz hz=>EF iS Y)<|MP Y<|MY Y<|MV (fun wz hz=>EN xH Y (vs:=Ed nt B1 j1 B2 j2) Y (hz.Ap (i:=1) Y Y))<|MO Y<|OY Y ?_
 have hHg:=Df
 have hszg:=Df.size
 have hszR:=HR1.size
 have hkX:∀ x,((z0≤x∧x∉[gx,g6])∧isC W2 x)→x < W2.heap.size→x∉[gx,g6]∧(z0≤x∧x∉[gx,g6]):=fun x hx _=>⟨hx.1.2,hx.1⟩
 have hkn:∀ x,W2.heap.size≤x→x∉[gx,g6]∧W2.heap.size≤x:=fun x hx=>⟨fun hm=>by
  have h1:=HJ.lt (i:=0) rfl
  have h2:=HJ.lt (i:=1) rfl
  simp only[Cj,Jh,or_false]at hm
  omega,hx⟩
 have HX:=HR1.all Df
 refine OQ (EC TU Y) (CR (some (Ah m.gv)) gx bk X1 x1 X2 x2 X3 x3 nt B1 j1 B2 j2 (fun x=>W2.heap.size≤x) k _ (Df.at (i:=0) Y) (fun x=>z0≤x∧x∉[gx,g6]) (fun hh=>hh.2 (by simp)) (hx1.toS HX hkX) (hx2.toR HX hkX) (hx3.toM HX hkX) (fun hh=>by have:=HJ.lt (i:=0) Y;omega) (hbv.to Df fun x hx _=>hkn x hx.1) (hbe.to Df fun x hx _=>hkn x hx.1) hgood (by omega)) ?_
 rintro r w12 ⟨hyes,_⟩
 obtain⟨rfl,cs',Hd2,hB'⟩:=hyes _ hin
 have Fj:=(hHg.Du [0] rfl Hd2).pick [3,1,2] (by decide)
 refine OE ?_
 refine⟨fun hne=>Fj.pick [1,2] (by decide),?_⟩
 refine cZ e43<|MP Y<|MY Y<|MV (fun wz hz=>pX Y)<|MO Y<|Xu Y Y<|OE<|⟨fun hne=>absurd Y hne,?_⟩
 refine cZ e43<|ME ?_
 change Run _ _ _ _ [_,_,_,_,_,_,_,_,_,_,_,_,_,_,_,_,_,_,_,_,_,_,_,_,_,_,_,_,_,_,_,_,_,_,_,_,_,_,_,_,_,_,_] _
 refine zX Y<|xK<|zA (zB ?_)
 refine zA ?_
 have HZ:=Fj.pick [0,1] (by decide)
 have hHz:=HR1.all HZ
 have hszz:=hHz.size
 refine⟨Y,hHz.Af.widen (fun x hx=>Bq.2 (.inl hx)),_,fun x hx=> .inl (Bq.2 (.inl hx)),cs',b3,Y,(qF hrk hx).trans hin,?_,HJ.all hHz⟩
 refine(hB'.Vj).to (Hp.refl _) (fun x hx _=>⟨by simp,⟨?_,?_⟩,hx.2⟩)
 rcases hx.1 with h1 | h1
 exact h1.1
 omega
 rcases hx.1 with h1 | h1
 exact h1.2
 intro hm
 have h2:=HJ.lt (i:=0) rfl
 have h3:=HJ.lt (i:=1) rfl
 simp only[Cj,Jh,or_false]at hm
 omega
 rintro Dm W2 O ⟨cs,bk,rfl,hrk,hbo,HJ⟩ hDm hDl
 have hNl:W1.recs.length=L.length:=by rw[f1,hL,Bg]
 rw[hNl,Bz,hrep]at hrk
 obtain rfl:b=bk:=Option.some.inj hrk
 have HF:=(HS.Du [8,9] rfl HJ).pick [0,1,2,3,4,5,6,7,11,12] (by decide)
 have HFh:=HF.here
 refine zA (zB ?_)
 refine zN<|zK Y (fun _ _ h=>h)<|OV (EL GH Y (HFh.cell (i:=9) Y Y))<|OW GH HFh 6 Y Y Y Y (by simp) Y<|fun w8 H8=>OW pZ H8 7 Y Y Y Y (by simp) Y<|fun w9 H9=>OE ?_
 change Run _ _ _ _ [_,_,_,_,_,_,_,_,_,_,_,_,_,_,_,_,_,_,_,_,_,_,_,_,_,_,_,_,_,_,_,_,_,_,_,_,_,_,_,_,_,_,_] _
 refine wG ?_
 have Yu:=keepD hDm H9 (fun x hx=>sP HF x hx)
 have H8:=(HF.all H9).loop (Hp.Yc (.deferred none) Yu) (OG Yu) (by omega)
 refine⟨Dm,_,Y,run_takeDeferred Yu,_,jT Y GH pZ Y Y (H8.cell (i:=6) (o:=0) Y Y) (H8.cell (i:=7) (o:=0) Y Y),⟨m,gx,cs⟩,W1,Y,e1,e2,f1,f2,f3,by rw[f4,f1],f5,hlg1,?_,H8.pick [0,1,2,3,4,5,8] (by decide)⟩
 have hdn:∀ arr T z,w9.heap[Dm]?≠some (.cells arr T z):=OG Yu
 have hrF:∀ x,x∈bl ((Bf m D W1++[((some g2,23,[.pointer none]):Ent),(some g3,24,[Aa (0:Int)])])++[((some gx,69,Ah m.gv::cs):Ent),(some g6,23,[Ah gx])])→x < z0∨x=gx∨x=g6:=fun x hx=>by
  rw[vX]at hx
  rcases Bq.1 hx with hx | hx
  · exact .inl (hS8 x hx)
  have h1:x=gx∨x=g6:=by simpa[bl]using hx
  exact .inr h1
 have hbF:∀ x,x∈bl ((Bf m D W1++[((some g2,23,[.pointer none]):Ent),(some g3,24,[Aa (0:Int)])])++[((some gx,69,Ah m.gv::cs):Ent),(some g6,23,[Ah gx])])→x < w2.heap.size∨x∈bl (Bf m D W1)∨w3.heap.size≤x:=fun x hx=>by
  rw[vX]at hx
  rcases Bq.1 hx with hx | hx
  · exact hb8 x hx
  have h1:x=gx∨x=g6:=by simpa[bl]using hx
  right;right;omega
 have hls:=((hlsS.keep HJ (fun x hx=> .inr (.inr (by simp only[Cj,Jh,or_false]at hx;omega))) (fun x hx _=>hx)).keep H9 (fun x hx=>hbF x hx) (fun x hx _=>hx)).loop (Hp.Yc (.deferred none) Yu) hdn
 have hbo2:=(hbo.to H9 (ok':=fun x=>(z0≤x∧x∉[gx,g6])∧isC w9 x) (fun x hx _=>by
  have h1:x∉bl _:=fun hb=>by
   rcases hrF x hb with h2 | h2
   · have:=hx.1.1;omega
   exact hx.1.2 (by simpa using h2)
  exact⟨h1,hx.1,hx.2.to H9 h1⟩)).to (Hp.Yc (.deferred none) Yu) (ok':=fun x=>¬(x < w0.heap.size∨x∈bl (Dc ⟨m,gx,cs⟩ D W1))) (fun x hx _=>⟨fun hm=>by
  obtain⟨arr,T,z,hz⟩:=hx.2
  rw[Az.1 hm]at hz
  exact hdn _ _ _ hz,fun hb=>by
  rcases hb with hb | hb
  · have:=hx.1.1;omega
  rw[vX]at hb
  rcases Bq.1 hb with hb | hb
  · have:=hS8 x (Ih hb);have:=hx.1.1;omega
  have h1:x=gx:=by simpa[bl]using hb
  exact hx.1.2 (by simp[h1])⟩)
 have hls2:Wx (w9.putObj Dm (.deferred none)) (fun x=>x < w0.heap.size∨x∈bl (Dc ⟨m,gx,cs⟩ D W1)) m.xs W1.recs:=hls.keep (Hp.refl _) (fun _ hb=>by cases hb) (fun x hb _=>by
  rcases hb with hb | hb
  · left;omega
  rw[vX]at hb
  rcases Bq.1 hb with hb | hb
  · exact .inr (.inl hb)
  have h1:x=gx:=by simpa[bl]using hb
  right;right;omega)
 exact⟨{ hok with lst:=hls2.lsw fun x hx=> .inr (Ih hx) },hls2,hbo2⟩
end Rn
end Go.Proofs.YtjoeklkmnfaabaaGreat
namespace Go.Proofs.YtjoeklkmnfaabaaGreat
open Go Go.RowKit
set_option linter.unusedVariables false
set_option linter.unusedSimpArgs false
attribute [local irreducible] yW Ops zP Cd
set_option maxRecDepth 100000
set_option maxHeartbeats 4000000
section
variable {fd:List Fv} {n:Nat}
theorem cQ (v:Nat) (w0:World) (hv:v < 2^64):Aj 214 #[.int .u64 v] w0 (fun r w'=>Own w0 w' r (enc v)):=by
 refine zG Tryz.func214 Tryz.ntmps214 Y<|cR e20 ?_
 have H:=Hp.refl w0
 refine Rq<|Xa Y<|Xr e20<|Rq<|Xa Y<|Xr e20<|J1<|J7<|zV (fun nQ lQ w=>∃ (v1:Nat) (pre:List UInt8) (x:Int) (g:Option Nat) (m cap:Nat) (xs sp:List Value),v1=nQ∧xM (Hy [(0,.int .u64 x),(2,Dn),(3,Ac (hd g) m cap)] 0 20) lQ∧x=v1∧v1≤v∧m=pre.length∧xs=u8s pre∧enc v=pre++enc v1∧m≤cap∧cap*1≤(xs++sp).length∧(g=none→cap=0)∧Hp w0 w [] [(g,5,xs++sp)]) (v) ?_ ?_
 exact⟨v,[],_,none,0,0,[],[],Y,(Uh Y Y Y Y),Y,Ak _,Y,Y,Y,Ak _,by simp,fun _=>Y,H.nil 5⟩
 rintro nQ lQ w1 ⟨v1,pre,x,g,m,cap,xs,sp,rfl,hfit,rfl,hle,rfl,rfl,henc,hmc,hcap,hg0,H1⟩
 obtain⟨j,rfl⟩:=hfit.open
 refine cR e20 ?_
 clear hfit
 have hl10:=uW hv
 have hlp:pre.length+(enc v1).length=(enc v).length:=by rw[henc];simp
 have hpos:=JT v1
 refine J1<|Rq<|Xm Y<|OT (yS Y Y) (fun hp5=>?_) (fun hp5=>?_)
 refine Xr e20<|J3 Y<|J6<|J7<|Rq<|Xm Y<|Xm Y<|OV (eK Y Y (by omega) (AD v1 128))<|OV (zL Y Y ((Ey _ (by omega)).trans (show(((v1 % 128:Nat):Int)+128)=((v1 % 128+128:Nat):Int) by omega)))<|Ag e20<|OV (xN Tryz.underlying5 Lu Y (IntWalk.u8_in _ (by omega)))<|zE Gz ty5 H1 Y (by decide) Y<|fun w2 g2 H2 hg2=>xC Gz ty5 (by decide) H2 0 Y Y (yY pre) hcap hmc hg0 Y (H2.rd (i:=1) (o:=some g2) (xs:=[Value.int .u8 ((v1 % 128+128:Nat):Int)]) (sp:=[]) Y Y (by decide)) Y (by omega) (by omega) (by decide)<|fun w3 g3 cap3 sp3 H3 hcap3 hmc3 hg3=>Xa Y<|Xr e20<|J2<|Xm Y<|OV (aA Y Y (by omega) (tdivN .u64 v1 128 (Ey _ (by omega))))<|Xa Y<|Xr e20<|zA (zB ?_)
 refine zA (zH ?_)
 exact⟨v1 / 128,by omega,v1 / 128,pre++[UInt8.ofNat (v1 % 128+128)],_,g3,_,cap3,u8s pre++[Value.int .u8 ((v1 % 128+128:Nat):Int)],sp3,Y,(Uh Y Y Y Y),Y,by omega,by simp,by rw[vH,dL,u8n (by omega)],by rw[henc,aG (by omega)];simp,hmc3,hcap3,hg3,H3.pick [0] (by decide)⟩
 refine Xr e20<|J4 Y<|J8<|zU<|zS<|Rq<|Xm Y<|Xm Y<|OV (xN Tryz.underlying5 Lu Y (u8w v1))<|zE Gz ty5 H1 Y (by decide) Y<|fun w2 g2 H2 hg2=>Ag e20<|xC Gz ty5 (by decide) H2 0 Y Y (yY pre) hcap hmc hg0 Y (H2.rd (i:=1) (o:=some g2) (xs:=[Value.int .u8 ((v1 % 256:Nat):Int)]) (sp:=[]) Y Y (by decide)) Y (by omega) (by omega) (by decide)<|fun w3 g3 cap3 sp3 H3 hcap3 hmc3 hg3=>Xa Y<|Xr e20<|J5<|Cm Y Y ?_
 have e1:enc v=pre++[UInt8.ofNat v1]:=by rw[henc,enc_lt (by omega)]
 have e2:u8s (enc v)=u8s pre++[.int .u8 ((v1 % 256:Nat):Int)]:=by rw[e1,vH,dL,u8n (by omega),Il (by omega)]
 have e3:(enc v).length=pre.length+1:=by rw[e1];simp
 unfold Own
 rw[e2,e3]
 exact⟨g3,cap3,sp3,Y,hmc3,hcap3,hg3,H3.pick [0] (by decide)⟩
theorem NH (n:Int) (w0:World) (hlo:-9223372036854775808≤n) (hhi:n≤9223372036854775807):Aj 200 #[Aa n] w0 (fun r w'=>Own w0 w' r (uA n)):=by
 refine zG Tryz.func200 Tryz.ntmps200 Y<|cR e16 ?_
 have H:=Hp.refl w0
 refine Rq<|Xa Y<|Xr e16<|J1<|Rq<|Xm Y<|OT (wM Y Y) (fun hp4=>?_) (fun hp4=>?_)
 obtain⟨m,rfl⟩:=Kw (show 0≤n by omega)
 refine Xr e16<|J3 Y<|Rq<|Xm Y<|OV (xN Lu Tryz.underlying3 Y (Ey _ (by omega)))<|OV (aB Y Y ((Ey _ (by omega)).trans (show(2*(m:Int))=((2*m:Nat):Int) by omega)))<|yZ (EC PI Y) (cQ (2*m) _ (by omega))<|fun w1 g1 c1 sp1 hm1 hc1 hg1 H1=>Ag e16<|Xa Y<|Xr e16<|J5<|Cm Y Y ?_
 have e:uA (m:Int)=enc (2*m):=by rw[rN];unfold zig;rw[if_neg (by omega)];congr 1
 rw[e]
 exact⟨g1,c1,sp1,Y,hm1,hc1,hg1,H1⟩
 refine Xr e16<|J4 Y<|J6<|Rq<|Xm Y<|OV (zL Y Y (Ad _ (by omega)))<|OV (XH Y ((Ad _ (by omega)).trans (show(0:Int) - (n+1)=(((-n - 1).toNat:Nat):Int) by omega)))<|OV (xN Lu Tryz.underlying3 Y (Ey _ (by omega)))<|Ag e16<|OV (aB Y Y ((Ey _ (by omega)).trans (show(2*(((-n - 1).toNat:Nat):Int))=((2*(-n - 1).toNat:Nat):Int) by omega)))<|OV (zL Y Y ((Ey _ (by omega)).trans (show(((2*(-n - 1).toNat:Nat):Int)+1)=((2*(-n - 1).toNat+1:Nat):Int) by omega)))<|yZ (EC PI Y) (cQ (2*(-n - 1).toNat+1) _ (by omega))<|fun w1 g1 c1 sp1 hm1 hc1 hg1 H1=>Xa Y<|Xr e16<|J5<|Cm Y Y ?_
 have e:uA n=enc (2*(-n - 1).toNat+1):=by rw[rN];unfold zig;rw[if_pos (by omega)];congr 1;omega
 rw[e]
 exact⟨g1,c1,sp1,Y,hm1,hc1,hg1,H1⟩
theorem K3 (A:Option Addr) (b:List UInt8) (c:Nat) (w0:World) (hr:Rd w0 A b.length 1 (u8s b)) (hb:b.length≤211106232532900):Aj 203 #[Ac A b.length c] w0 (fun r w'=>Own w0 w' r (xY b)):=by
 have hl10:=uW (v:=b.length) (by omega)
 refine zG Tryz.func203 Tryz.ntmps203 Y<|cR e9 ?_
 have H:=Hp.refl w0
 refine Rq<|Xa Y<|Xr e9<|Rq<|Xm Y<|OV (ES Gz Y)<|OV (xN Lu Tryz.underlying3 Y ((Ey _ (by omega))))<|yZ (EC PI Y) (cQ b.length _ (by omega))<|fun w1 g1 c1 sp1 hm1 hc1 hg1 H1=>Ag e9<|Xm Y<|xC Gz ty5 (by decide) H1 0 Y Y (yY _) hc1 hm1 hg1 Y (hr.to0 H1) (uJ b) (by omega) (by omega) (by decide)<|fun w2 g3 cap3 sp3 H2 hcap3 hmc3 hg3=>Xa Y<|Xr e9<|J5<|Cm Y Y ?_
 unfold Own
 rw[rI,vH,Ae]
 exact⟨g3,cap3,sp3,Y,hmc3,hcap3,hg3,H2⟩
theorem MW (gp go o:Nat) (g0:Option Nat) (cap0:Nat) (sp0:List Value) (st:WS) (T:TypeId) (cs vs:List Value) (fd:List Fv) (w0:World) (H0:Hp w0 w0 (bl (vw gp g0 cap0 sp0 st++[(some go,T,cs)])) (vw gp g0 cap0 sp0 st++[(some go,T,cs)])) (M:Nat) (hM:M+65545*fd.length≤1000000000000) (hP:POk M g0 cap0 sp0 st) (hF:FCs w0 (vw gp g0 cap0 sp0 st++[(some go,T,cs)]) fd vs) (hat:At cs o vs) (hk:fd.map Fv.kd=[.int]):Aj 177 #[Ah gp,.pointer (some ⟨go,o,none⟩)] w0 (fun r w'=>∃ g1 cap1 sp1,POk (M+65545*fd.length) g1 cap1 sp1 (qR fd st)∧Hp w0 w' (bl (vw gp g0 cap0 sp0 st++[(some go,T,cs)])) (vw gp g1 cap1 sp1 (qR fd st)++[(some go,T,cs)])):=by
 refine zG Tryz.func177 Tryz.ntmps177 Y<|cR e28 ?_
 obtain⟨nn,rfl⟩:=SZ hk
 have H:=H0
 obtain⟨v,ZK,hv2⟩:=hF.head
 subst ZK
 have hcq:=hat 0 v rfl
 rw[Ia]at hcq
 have hfit:=lt_of_get hcq
 have Gx:=hP.most
 simp only[Bj,Dq]at hM
 obtain⟨rfl,hn1,hn2⟩:=hv2
 have hxl:=fA (f:=.int nn) ⟨hn1,hn2⟩ rfl
 rw[show rP (.int nn)=uA nn from rfl]at hxl
 refine J1<|Rq<|Xm Y<|Xc Y<|Xf CU Y<|OV (EL M3 Y (H.cell (i:=0) Y Y))<|Ag e28<|Ui (yF Tryz.underlying165 Y) (Y)<|Xr e28<|J3 Y<|J1<|zR 12 [(true,0),(true,1),(true,2),(true,3),(true,4),(true,5),(true,6),(true,7),(false,8),(false,9),(true,10),(true,11),(false,12)] H [0,2] yE (by decide) (by kernel_rfl) ?_
 rintro w1 hw1
 have H1:=Hp.drew H;rw[← hw1]at H1
 refine Zm Y Y<|Zm Y Y<|Zc Y Y<|Zf Y jJ Y<|cZ e28<|MP Y<|MV (fun wz hz=>EL xO Y (hz.cell (i:=0) Y Y))<|Zm Y Y<|Zc Y Y<|MP Y<|MV (fun wz hz=>EL ty3 Y (hz.cell (i:=1) Y hcq))<|cZ e28<|MO Y<|yZ (EC gf200 Y) (NH nn _ hn1 hn2)<|fun w2 g1 c1 sp1 hm1 hc1 hg1 Hd=>have H2:=H1.call0 Hd;OE<|⟨fun hne=>H2.pick [0,2] (by decide),?_⟩
 refine cZ e28<|MO Y<|lS Gz ty5 H2 1 (L:=st.out) (M:=(uA nn)) (g:=g0) (sp:=sp0) Y Y hP.room hP.le hP.nil Y (H2.rd (i:=3) (o:=g1) (xs:=u8s (uA nn)) (sp:=sp1) Y (yY _) (by decide)) (by omega)<|fun w3 g3 cap3 sp3 H3 hmc3 hcap3 hg3=>OE<|⟨fun hne=>H3.pick [0,2] (by decide),?_⟩
 refine cZ e28<|Zc Y Y<|Zf Y jJ Y<|MO Y<|OW xO H3 0 Y Y Y Y (by first|exact NL Y|simp[zJ]) Y<|fun w4 H4=>OE<|⟨fun hne=>absurd Y hne,?_⟩
 refine cZ e28<|ME<|cR e28<|J5<|rW Y<|⟨g3,cap3,sp3,⟨hmc3,hcap3,hg3,by have hll:(st.out++uA nn).length=(st.out).length+(uA nn).length:=Ae;show(st.out++uA nn).length≤_;simp only[Bj,Dq]at hll ⊢;omega⟩,H4.pick [0,1,2] (by decide)⟩
theorem RU (gp go o:Nat) (g0:Option Nat) (cap0:Nat) (sp0:List Value) (st:WS) (T:TypeId) (cs vs:List Value) (fd:List Fv) (w0:World) (H0:Hp w0 w0 (bl (vw gp g0 cap0 sp0 st++[(some go,T,cs)])) (vw gp g0 cap0 sp0 st++[(some go,T,cs)])) (M:Nat) (hM:M+65545*fd.length≤1000000000000) (hP:POk M g0 cap0 sp0 st) (hF:FCs w0 (vw gp g0 cap0 sp0 st++[(some go,T,cs)]) fd vs) (hat:At cs o vs) (A:Option Addr) (m c:Nat) (hm:m≤1000000) (hk:fd.map Fv.kd=List.replicate m .int) (hA:Rd w0 A m 1 (fX go o m)) (hS:∀ p,A=some p→p.block∉bl (vw gp g0 cap0 sp0 st++[(some go,T,cs)])):Aj 141 #[Ah gp,Ac A m c] w0 (fun r w'=>∃ g1 cap1 sp1,POk (M+65545*fd.length) g1 cap1 sp1 (qR fd st)∧Hp w0 w' (bl (vw gp g0 cap0 sp0 st++[(some go,T,cs)])) (vw gp g1 cap1 sp1 (qR fd st)++[(some go,T,cs)])):=by
 refine zG Tryz.func141 Tryz.ntmps141 Y<|cR e17 ?_
 have H:=H0
 have hlen:fd.length=m:=by have:=congrArg List.length hk;simpa using this
 refine Rq<|Xa Y<|Xr e17<|J7<|zV (fun nQ lQ w=>∃ (q:Nat) (y:Int) (g:Option Nat) (cap:Nat) (sp:List Value),m - q=nQ∧xM (Hy [(0,Ah gp),(1,Ac A m c),(4,Aa y)] 0 17) lQ∧y=q∧q≤m∧POk (M+65545*q) g cap sp (qR (fd.take q) st)∧Hp w0 w (bl (vw gp g0 cap0 sp0 st++[(some go,T,cs)])) (vw gp g cap sp (qR (fd.take q) st)++[(some go,T,cs)])) (m) ?_ ?_
 exact⟨0,_,g0,cap0,sp0,Y,(Uh Y Y Y Y),Y,Am _,hP,H⟩
 rintro nQ lQ w1 ⟨q,y,g,cap,sp,rfl,hfit,rfl,hq,hP,H1⟩
 obtain⟨j,rfl⟩:=hfit.open
 refine cR e17 ?_
 clear hfit
 refine J1<|Rq<|Xm Y<|Xm Y<|OV (ES Nz Y)<|OT (zQ Y Y) (fun hp8=>?_) (fun hp8=>?_)
 have Gi:q < m:=by omega
 have Yt:q < fd.length:=by omega
 obtain⟨v,hv1,hv2⟩:=hF.each q Yt
 have hsn:=KP Yt st
 have hcq:=hat q v hv1
 obtain⟨pa,hpa⟩:=hA.some_ (by omega)
 subst hpa
 have hkd:fd[q].kd=.int:=by
  have:=congrArg (fun l=>l[q]?) hk
  simpa[Yt,Gi]using this
 obtain⟨nn,hfq⟩:∃ x,fd[q]=.int x:=by
  generalize fd[q]=fq at hkd
  cases fq <;>first | exact⟨_,rfl⟩ | cases hkd
 rw[hfq]at hv2 hsn
 obtain⟨st1,hst⟩:∃ x,qR (fd.take q) st=x:=⟨_,rfl⟩
 rw[hst]at hsn H1 hP
 refine Xr e17<|J3 Y<|J6<|J1<|J7<|J2<|Xm Y<|Xm Y<|Xm Y<|OV (EI Nz tR Y Y Y Gi (Cc _))<|Ag e17<|OV (EL tR Y ((hA.to H1 hS).cells pa Y q _ (bB Gi))) ?_
 have hk1:=MW gp go (o+q) g cap sp st1 T cs [v] [.int nn] _ H1.here (M+65545*q) (by simp only[Bj,Dq];omega) hP (FPs.one (FC.to (f:=.int nn) (es:=vw gp g0 cap0 sp0 st++[(some go,T,cs)]) hv2 H1)) (fun i u hu=>by cases i with | zero=>cases hu;exact hcq | succ i=>simp at hu) rfl
 refine OQ (EC JE Y) hk1 ?_
 rintro _ w2 ⟨g,cap,sp,hP,Hd⟩
 have H2:=H1.all Hd
 refine Xr e17<|zA (zB ?_)
 refine J2<|Xm Y<|OV (zL Y Y (Ad _ (by omega)))<|Xa Y<|Xr e17<|zA (zH ?_)
 exact⟨m - (q+1),by omega,q+1,_,g,cap,sp,Y,(Uh Y Y Y Y),Y,by omega,by rw[hsn];exact hP.mono (by simp only[Bj,Dq];omega),by rw[hsn];exact H2⟩
 have hqm:q=m:=by omega
 subst hqm
 rw[Ej (by omega)]at H1 hP
 rw[← hlen]at hP
 refine Xr e17<|J4 Y<|J8<|zU<|zS<|zA<|yQ Y<|⟨g,cap,sp,hP,H1⟩
theorem DJ (gp go o:Nat) (g0:Option Nat) (cap0:Nat) (sp0:List Value) (st:WS) (T:TypeId) (cs vs:List Value) (fd:List Fv) (w0:World) (H0:Hp w0 w0 (bl (vw gp g0 cap0 sp0 st++[(some go,T,cs)])) (vw gp g0 cap0 sp0 st++[(some go,T,cs)])) (M:Nat) (hM:M+65545*fd.length≤1000000000000) (hP:POk M g0 cap0 sp0 st) (hF:FCs w0 (vw gp g0 cap0 sp0 st++[(some go,T,cs)]) fd vs) (hat:At cs o vs) (hk:fd.map Fv.kd=[.bytes]):Aj 178 #[Ah gp,.pointer (some ⟨go,o,none⟩)] w0 (fun r w'=>∃ g1 cap1 sp1,POk (M+65545*fd.length) g1 cap1 sp1 (qR fd st)∧Hp w0 w' (bl (vw gp g0 cap0 sp0 st++[(some go,T,cs)])) (vw gp g1 cap1 sp1 (qR fd st)++[(some go,T,cs)])):=by
 refine zG Tryz.func178 Tryz.ntmps178 Y<|cR e47 ?_
 obtain⟨x,rfl⟩:=A4 hk
 have H:=H0
 obtain⟨Nj,Uk⟩:=st
 obtain⟨v,ZK,hv2⟩:=hF.head
 subst ZK
 have hcq:=hat 0 v rfl
 rw[Ia]at hcq
 have hfit:=lt_of_get hcq
 have Gx:=hP.most
 simp only[Bj,Dq]at hM
 simp only at Gx
 obtain⟨B,c,ZK,hrd,hap⟩:=hv2
 subst ZK
 refine J1<|Rq<|Xm Y<|Xc Y<|Xf CU Y<|OV (EL M3 Y (H.cell (i:=0) Y Y))<|Ag e47<|Jw (uV Tryz.underlying165 Y) (by simp)<|Xr e47<|J4 Y<|J6<|J1 ?_
 cases Uk
 refine J2<|Xm Y<|Xm Y<|Xc Y<|Xf uB Y<|Ag e47<|OV (EL ty4 Y (H.cell (i:=0) Y Y))<|Xm Y<|Ag e47<|OY Y<|Xm Y<|OY Y<|Xc Y<|Ag e47<|OY Y<|OV (EL xO Y (H.cell (i:=2) Y hcq))<|OY Y<|OV (ES Gz Y)<|Ag e47<|OY Y<|OT (yS Y Y) (fun Qs=>?_) (fun Qs=>?_)
 refine Xu Y Y<|Xc Y<|Xf uB Y<|OW ty4 H 0 Y Y Y Y (by first|exact NL Y|simp[zJ]) Y<|fun w1 H1=>Xr e47<|Rq<|Xm Y<|Xc Y<|Xf uB Y<|OV (EL ty4 Y (H1.cell (i:=0) Y Y))<|Ag e47<|Xn Y<|Xr e47<|J4 Y<|J6<|zA<|yQ Y ?_
 rw[mX (st:=⟨Nj,false⟩) (.inr (by simp[wN];omega))]
 exact⟨g0,cap0,sp0,⟨hP.1,hP.2,hP.3,by have:=hP.4;simp only at this ⊢;omega⟩,H1.pick [0,1,2] (by decide)⟩
 refine Xu Y Y<|Xc Y<|Xf uB Y<|OW ty4 H 0 Y Y Y Y (by first|exact NL Y|simp[zJ]) Y<|fun w1 H1=>Xr e47<|Rq<|Xm Y<|Xc Y<|Xf uB Y<|OV (EL ty4 Y (H1.cell (i:=0) Y Y))<|Ag e47<|Xn Y<|Xr e47<|J3 Y<|zR 12 [(true,0),(true,1),(true,2),(true,3),(true,4),(true,5),(true,6),(true,7),(false,8),(false,9),(true,10),(true,11),(false,12)] H1 [0,2] yE (by decide) (by kernel_rfl) ?_
 rintro w2 hw2
 have H2:=Hp.drew H1;rw[← hw2]at H2
 refine Zm Y Y<|Zm Y Y<|Zc Y Y<|Zf Y jJ Y<|cZ e47<|MP Y<|MV (fun wz hz=>EL xO Y (hz.cell (i:=0) Y Y))<|Zm Y Y<|Zc Y Y<|MP Y<|MV (fun wz hz=>EL xO Y (hz.cell (i:=1) Y hcq))<|cZ e47<|MO Y ?_
 have hxl:=fA (f:=.bytes x) trivial (by simp[wN];omega)
 rw[show rP (.bytes x)=xY x from rfl]at hxl
 refine yZ (EC gf203 Y) (K3 B x c _ (hrd.fc H2 hap) (by omega))<|fun w3 g1 c1 sp1 hm1 hc1 hg1 Hd=>have H3:=H2.call0 Hd;OE<|⟨fun hne=>H3.pick [0,2] (by decide),?_⟩
 refine cZ e47<|MO Y<|lS Gz ty5 H3 1 (L:=Nj) (M:=(xY x)) (g:=g0) (sp:=sp0) Y Y hP.room hP.le hP.nil Y (H3.rd (i:=3) (o:=g1) (xs:=u8s (xY x)) (sp:=sp1) Y (yY _) (by decide)) (by omega)<|fun w4 g3 cap3 sp3 H4 hmc3 hcap3 hg3=>OE<|⟨fun hne=>H4.pick [0,2] (by decide),?_⟩
 refine cZ e47<|Zc Y Y<|Zf Y jJ Y<|MO Y<|OW xO H4 0 Y Y Y Y (by first|exact NL Y|simp[zJ]) Y<|fun w5 H5=>OE<|⟨fun hne=>absurd Y hne,?_⟩
 refine cZ e47<|ME<|cR e47<|zA<|yQ Y ?_
 rw[cF (st:=⟨Nj,false⟩) rfl (by simp[wN];omega)]
 exact⟨g3,cap3,sp3,⟨hmc3,hcap3,hg3,by have hll:(Nj++xY x).length=(Nj).length+(xY x).length:=Ae;show(Nj++xY x).length≤_;simp only[Bj,Dq]at hll ⊢;omega⟩,H5.pick [0,1,2] (by decide)⟩
 refine J2<|Xm Y<|Xm Y<|Xc Y<|Xf uB Y<|Ag e47<|OV (EL ty4 Y (H.cell (i:=0) Y Y))<|Xm Y<|Ag e47<|Oz 5 Y<|Ag e47<|Xt Y Y<|Xc Y<|Xf uB Y<|Ag e47<|OW ty4 H 0 Y Y Y Y (by first|exact NL Y|simp[zJ]) Y<|fun w1 H1=>Xr e47<|Rq<|Xm Y<|Xc Y<|Xf uB Y<|OV (EL ty4 Y (H1.cell (i:=0) Y Y))<|Ag e47<|Xn Y<|Xr e47<|J4 Y<|J6<|zA<|yQ Y ?_
 rw[mX (st:=⟨Nj,true⟩) (.inl rfl)]
 exact⟨g0,cap0,sp0,⟨hP.1,hP.2,hP.3,by have:=hP.4;simp only at this ⊢;omega⟩,H1.pick [0,1,2] (by decide)⟩
theorem RQ (gp go o:Nat) (g0:Option Nat) (cap0:Nat) (sp0:List Value) (st:WS) (T:TypeId) (cs vs:List Value) (fd:List Fv) (w0:World) (H0:Hp w0 w0 (bl (vw gp g0 cap0 sp0 st++[(some go,T,cs)])) (vw gp g0 cap0 sp0 st++[(some go,T,cs)])) (M:Nat) (hM:M+65545*fd.length≤1000000000000) (hP:POk M g0 cap0 sp0 st) (hF:FCs w0 (vw gp g0 cap0 sp0 st++[(some go,T,cs)]) fd vs) (hat:At cs o vs) (hk:fd.map Fv.kd=[.text]):Aj 179 #[Ah gp,.pointer (some ⟨go,o,none⟩)] w0 (fun r w'=>∃ g1 cap1 sp1,POk (M+65545*fd.length) g1 cap1 sp1 (qR fd st)∧Hp w0 w' (bl (vw gp g0 cap0 sp0 st++[(some go,T,cs)])) (vw gp g1 cap1 sp1 (qR fd st)++[(some go,T,cs)])):=by
 refine zG Tryz.func179 Tryz.ntmps179 Y<|cR e38 ?_
 obtain⟨x,rfl⟩:=N8 hk
 have H:=H0
 obtain⟨Nj,Uk⟩:=st
 obtain⟨v,ZK,hv2⟩:=hF.head
 subst ZK
 have hcq:=hat 0 v rfl
 rw[Ia]at hcq
 have hfit:=lt_of_get hcq
 have Gx:=hP.most
 simp only[Bj,Dq]at hM
 simp only at Gx
 obtain rfl:v=zT x:=hv2
 refine Rq<|OA xO H<|fun w1 gv H1 hgv=>OW xO H1 3 Y Y Y Y (by decide) Y<|fun w2 H2=>Xr e38<|J1<|Rq<|Xm Y<|Xc Y<|Xf CU Y<|OV (EL M3 Y (H2.cell (i:=0) Y Y))<|Ag e38<|Ui (yF Tryz.underlying165 Y) (Y)<|Xr e38<|J3 Y<|J1 ?_
 cases Uk
 refine J2<|Xm Y<|Xm Y<|Xc Y<|Xf uB Y<|Ag e38<|OV (EL ty4 Y (H2.cell (i:=0) Y Y))<|Xm Y<|Ag e38<|OY Y<|Xm Y<|OY Y<|Xc Y<|Ag e38<|OY Y<|OV (EL ty9 Y (H2.cell (i:=2) Y hcq))<|OY Y<|OV (nA Tryz.underlying9 Y) ?_
 rw[fS]
 refine Ag e38<|OY Y<|OT (yS Y Y) (fun hp20=>?_) (fun hp20=>?_)
 refine Xu Y Y<|Xc Y<|Xf uB Y<|OW ty4 H2 0 Y Y Y Y (by first|exact NL Y|simp[zJ]) Y<|fun w3 H3=>Xr e38<|J1<|Rq<|Xm Y<|Xc Y<|Xf uB Y<|OV (EL ty4 Y (H3.cell (i:=0) Y Y))<|Xr e38<|J3 Y<|J5<|rW Y ?_
 rw[lE (st:=⟨Nj,false⟩) (.inr (by simp[wN];omega))]
 exact⟨g0,cap0,sp0,⟨hP.1,hP.2,hP.3,by have:=hP.4;simp only at this ⊢;omega⟩,H3.pick [0,1,2] (by decide)⟩
 refine Xu Y Y<|Xc Y<|Xf uB Y<|OW ty4 H2 0 Y Y Y Y (by first|exact NL Y|simp[zJ]) Y<|fun w3 H3=>Xr e38<|J1<|Rq<|Xm Y<|Xc Y<|Xf uB Y<|OV (EL ty4 Y (H3.cell (i:=0) Y Y))<|Xr e38<|J4 Y<|J6<|J2<|Xm Y<|Xc Y<|OV (EL ty9 Y (H3.cell (i:=2) Y hcq)) ?_
 have hgn:=eH H3 (g:=w3.heap.size) (Ak _)
 refine mD Tryz.underlying9 Gz Tryz.underlying5 H3 (s:=x) Y<|fun w4 gs cs1 HB hrs hgs hsz=>?_
 rw[← hgs]at hgn
 have H4:=HB.here
 refine Ag e38<|OW xO H4 3 Y Y Y Y (by decide) Y<|fun w5 H5=>Xr e38<|Rq<|Xm Y ?_
 have HQ:Hp _ w5 _ ((vw gp g0 cap0 sp0 ⟨Nj,false⟩++[(some gv,73,[Ac (some ⟨gs,0,none⟩) x.length cs1])])++[(some go,T,cs)]):=H5.pick [0,1,3,2] (by decide)
 have hk1:=DJ gp gv 0 g0 cap0 sp0 ⟨Nj,false⟩ 73 [Ac (some ⟨gs,0,none⟩) x.length cs1] [Ac (some ⟨gs,0,none⟩) x.length cs1] [.bytes x] _ HQ.less.here M hM hP (FPs.one ⟨_,_,rfl,hrs.fc HQ.less (fun _ p hp=>by cases hp;exact hgn),fun h0=>aJ hrs h0 (fun p hp=>by cases hp;exact hgn) HQ.less⟩) (fun i u hu=>by rw[Ba];exact hu) rfl
 have hrs2:=hrs.fc HQ.less (fun _ p hp=>by cases hp;exact hgn)
 refine OQ (EC PL Y) hk1 ?_
 rintro _ w6 ⟨g,cap,sp,hP,Hd⟩
 have hrs3:=hrs2.fc Hd (fun h0=>aJ hrs h0 (fun p hp=>by cases hp;exact hgn) HQ.less)
 have H6:=(HB.all (HQ.front Hd)).pick [0,1,3,2] (by decide)
 refine Xr e38<|J2<|Xm Y<|OV (EL xO Y (H6.cell (i:=3) Y Y))<|OV (dD Gz Tryz.underlying5 Tryz.underlying9 Y hrs3)<|Xc Y<|Ag e38<|OW ty9 H6 2 Y Y Y Y hfit Y<|fun w7 H7=>Xr e38<|zA<|yQ Y ?_
 have hsame:cs.set o (.string ⟨x.toArray⟩)=cs:=by
  apply Om
  intro i
  rw[Ky]
  split
  · rename_i hi
    subst hi
    first
    | (rw[if_pos hfit,hcq];rfl)
    | (rw[hcq];rfl)
  rfl
 have HN:=(show ∀ (wa wb:World) (SS:List Nat),Hp wa wb SS (vw gp g cap sp (qR [.bytes x] ⟨Nj,false⟩)++[(some go,T,cs.set o (.string ⟨x.toArray⟩))])→Hp wa wb SS (vw gp g cap sp (qR [.bytes x] ⟨Nj,false⟩)++[(some go,T,cs)]) from fun wa wb SS h=>by rw[hsame]at h;exact h) _ _ _ (H7.pick [0,1,2] (by decide))
 exact⟨g,cap,sp,hP,HN⟩
 refine J2<|Xm Y<|Xm Y<|Xc Y<|Xf uB Y<|Ag e38<|OV (EL ty4 Y (H2.cell (i:=0) Y Y))<|Xm Y<|Ag e38<|Oz 5 Y<|Ag e38<|Xt Y Y<|Xc Y<|Xf uB Y<|Ag e38<|OW ty4 H2 0 Y Y Y Y (by first|exact NL Y|simp[zJ]) Y<|fun w3 H3=>Xr e38<|J1<|Rq<|Xm Y<|Xc Y<|Xf uB Y<|OV (EL ty4 Y (H3.cell (i:=0) Y Y))<|Xr e38<|J3 Y<|J5<|rW Y ?_
 rw[lE (st:=⟨Nj,true⟩) (.inl rfl)]
 exact⟨g0,cap0,sp0,⟨hP.1,hP.2,hP.3,by have:=hP.4;simp only at this ⊢;omega⟩,H3.pick [0,1,2] (by decide)⟩
theorem iW {gp go:Nat} {T:TypeId} {cs:List Value} {a st:WS} {m:Nat} {w0 w':World} {S:List Nat} (ha:qB a st) (hn:fd.length=n) (h:∃ g1 cap1 sp1,POk (m+65545*fd.length) g1 cap1 sp1 (qR fd st)∧Hp w0 w' S (vw gp g1 cap1 sp1 (qR fd st)++[(some go,T,cs)])):fJ (m+65545*n) gp (xX fd a) go T cs w0 S w':=by
 subst hn
 obtain⟨g1,cap1,sp1,hP,H⟩:=h
 exact⟨_,g1,cap1,sp1,MF fd ha,hP,H⟩
theorem mK {ks:List Kd} (h:fd.map Fv.kd=ks):fd.length=ks.length:=by rw[← h];simp
theorem I8 {k:Kd} (h:fd.map Fv.kd=List.replicate n k):fd.length=n:=by rw[mK h];simp
theorem dJ :Q9 Tryz.prog 141 .int:=fun gp go o n c g cap sp st T cs x vs w0 m a A hn H0 hm hP ha hM hat hA hS=>(RU gp go o g cap sp st T cs vs x w0 H0 m (by rw[I8 hM.1];omega) hP hM.2 hat A n c hn hM.1 hA hS).mono fun _ _ h=>iW ha (I8 hM.1) h
theorem GF :fI Tryz.prog 177 (Th.flat [.int]):=fun gp go o g cap sp st T cs x vs w0 m a H0 hm hP ha hM hat=>(MW gp go o g cap sp st T cs vs x w0 H0 m (by rw[mK hM.1];change m+65545≤_ at hm;show m+65545*1≤_;omega) hP hM.2 hat hM.1).mono fun _ _ h=>iW ha (mK hM.1) h
theorem DK :fI Tryz.prog 178 (Th.flat [.bytes]):=fun gp go o g cap sp st T cs x vs w0 m a H0 hm hP ha hM hat=>(DJ gp go o g cap sp st T cs vs x w0 H0 m (by rw[mK hM.1];change m+65545≤_ at hm;show m+65545*1≤_;omega) hP hM.2 hat hM.1).mono fun _ _ h=>iW ha (mK hM.1) h
theorem RR :fI Tryz.prog 179 (Th.flat [.text]):=fun gp go o g cap sp st T cs x vs w0 m a H0 hm hP ha hM hat=>(RQ gp go o g cap sp st T cs vs x w0 H0 m (by rw[mK hM.1];change m+65545≤_ at hm;show m+65545*1≤_;omega) hP hM.2 hat hM.1).mono fun _ _ h=>iW ha (mK hM.1) h
end

theorem KM (gp go o:Nat) (g:Option Nat) (cap:Nat) (sp:List Value) (st:WS) (U:TypeId) (cs:List Value) (x:nH.X) (vs:List Value) (w0:World) (m:Nat) (a:WS) (H0:Hp w0 w0 (bl (vwo gp g cap sp st go U cs)) (vwo gp g cap sp st go U cs)) (hm:m+nH.mx≤1000000000) (hP:POk m g cap sp st) (ha:qB a st) (hM:nH.M w0 (fun b=>b∉bl (vwo gp g cap sp st go U cs)) x vs) (hat:At cs o vs):Aj 142 #[Ah gp,.pointer (some ⟨go,o,none⟩)] w0 (fun _ w'=>fJ (m+nH.mx) gp (xX (nH.fl x) a) go U cs w0 (bl (vwo gp g cap sp st go U cs)) w'):=by
 refine zG Tryz.func142 Tryz.ntmps142 Y<|cR e13 ?_
 change m+131090≤1000000000 at hm
 have HS:Qw gp go o w0 (bl (vwo gp g cap sp st go U cs)) w0 (m+0) a st nH x vs U cs g cap sp:=⟨H0,hP,ha,hM,hat⟩
 have H:=HS.H.here
 refine zR 8 [(true,0),(true,1),(true,2),(true,3),(true,4),(true,5),(true,6),(false,7),(false,8)] H [0,1,2] yE (by decide) (by kernel_rfl) ?_
 rintro w1 hw1
 have H1:=Hp.drew H;rw[← hw1]at H1
 refine Zm Y Y<|Zm Y Y<|Zc Y Y<|cZ e13<|Zf Y rD Y<|Zm Y Y<|Zc Y Y<|cZ e13<|Zf Y qJ Y<|MO Y<|zE Nz tR H1 Y (by decide) Y<|fun w2 g2 H2 hg2=>OE<|⟨fun hne=>H2.pick [0,1,2] (by decide),?_⟩
 refine cZ e13<|MO Y<|OQ (EC JH Y) (HS.grp (p:=0) dJ H2 (by decide) (show m+0+131090≤_ by omega) (fun _ _ hM=>(Th.part hM 0 2)) (At.cast (At.trans (At.self _) (At.sub _ 0 2)) (by decide))) ?_
 rintro _ w3 ⟨st,g,cap,sp,Tq⟩
 have HS:=Qw.re Tq (m2:=m+131090) (by show m+0+131090=m+131090;omega)
 have H3:=HS.H.here
 refine OE ?_
 refine⟨fun hne=>absurd Y hne,?_⟩
 refine cZ e13<|ME<|cR e13<|zA<|yQ Y ?_
 have hw0:List.take 2 x=x:=Th.whole hM
 refine HS.ZF ?_ Y
 show _=xX (x) a
 simp only[Ep,tL,wW,Nat.reduceAdd,hw0]
theorem AB :fI Tryz.prog 142 nH:=KM
theorem RN (gp go o:Nat) (g:Option Nat) (cap:Nat) (sp:List Value) (st:WS) (U:TypeId) (cs:List Value) (x:fR.X) (vs:List Value) (w0:World) (m:Nat) (a:WS) (H0:Hp w0 w0 (bl (vwo gp g cap sp st go U cs)) (vwo gp g cap sp st go U cs)) (hm:m+fR.mx≤1000000000) (hP:POk m g cap sp st) (ha:qB a st) (hM:fR.M w0 (fun b=>b∉bl (vwo gp g cap sp st go U cs)) x vs) (hat:At cs o vs):Aj 143 #[Ah gp,.pointer (some ⟨go,o,none⟩)] w0 (fun _ w'=>fJ (m+fR.mx) gp (xX (fR.fl x) a) go U cs w0 (bl (vwo gp g cap sp st go U cs)) w'):=by
 refine zG Tryz.func143 Tryz.ntmps143 Y<|cR e19 ?_
 change m+262180≤1000000000 at hm
 have HS:Qw gp go o w0 (bl (vwo gp g cap sp st go U cs)) w0 (m+0) a st fR x vs U cs g cap sp:=⟨H0,hP,ha,hM,hat⟩
 have H:=HS.H.here
 refine Rq<|Xm Y<|Xm Y<|Xc Y<|Ag e19<|Xf vF Y<|OQ (EC JE Y) (HS.one (p:=0) GF (show m+0+65545≤_ by omega) (fun _ _ hM=>(Th.part hM 0 1)) (At.cast (At.trans (At.self _) (At.sub _ 0 1)) (by decide))) ?_
 rintro _ w1 ⟨st,g,cap,sp,Tq⟩
 have HS:=Qw.re Tq (m2:=m+65545) (by show m+0+65545=m+65545;omega)
 have H1:=HS.H.here
 refine Xr e19<|Rq<|Xm Y<|Xm Y<|Xc Y<|Ag e19<|Xf sH Y<|OQ (EC VD Y) (HS.one (p:=1) AB (show m+65545+131090≤_ by omega) (fun _ _ hM=>(Th.part hM 1 2)) (At.cast (At.trans (At.self _) (At.sub _ 1 2)) (by decide))) ?_
 rintro _ w2 ⟨st,g,cap,sp,Tq⟩
 have HS:=Qw.re Tq (m2:=m+196635) (by show m+65545+131090=m+196635;omega)
 have H2:=HS.H.here
 refine Xr e19<|J2<|Xm Y<|Xm Y<|Xc Y<|Ag e19<|Xf rC Y<|OQ (EC PL Y) (HS.one (p:=3) DK (show m+196635+65545≤_ by omega) (fun _ _ hM=>(Th.part hM 3 1)) (At.cast (At.trans (At.self _) (At.sub _ 3 1)) (by decide))) ?_
 rintro _ w3 ⟨st,g,cap,sp,Tq⟩
 have HS:=Qw.re Tq (m2:=m+262180) (by show m+196635+65545=m+262180;omega)
 have H3:=HS.H.here
 refine Xr e19<|zA<|yQ Y ?_
 have hw0:List.take 4 x=x:=Th.whole hM
 refine HS.ZF ?_ Y
 show _=xX (x) a
 simp only[Ep,tL,wW,Nat.reduceAdd,hw0]
theorem RO :fI Tryz.prog 143 fR:=RN
theorem MX (gp go o:Nat) (g:Option Nat) (cap:Nat) (sp:List Value) (st:WS) (U:TypeId) (cs:List Value) (x:kP.X) (vs:List Value) (w0:World) (m:Nat) (a:WS) (H0:Hp w0 w0 (bl (vwo gp g cap sp st go U cs)) (vwo gp g cap sp st go U cs)) (hm:m+kP.mx≤1000000000) (hP:POk m g cap sp st) (ha:qB a st) (hM:kP.M w0 (fun b=>b∉bl (vwo gp g cap sp st go U cs)) x vs) (hat:At cs o vs):Aj 144 #[Ah gp,.pointer (some ⟨go,o,none⟩)] w0 (fun _ w'=>fJ (m+kP.mx) gp (xX (kP.fl x) a) go U cs w0 (bl (vwo gp g cap sp st go U cs)) w'):=by
 refine zG Tryz.func144 Tryz.ntmps144 Y<|cR e14 ?_
 change m+131090≤1000000000 at hm
 have HS:Qw gp go o w0 (bl (vwo gp g cap sp st go U cs)) w0 (m+0) a st kP x vs U cs g cap sp:=⟨H0,hP,ha,hM,hat⟩
 have H:=HS.H.here
 refine Rq<|Xm Y<|Xm Y<|Xc Y<|Ag e14<|Xf wF Y<|OQ (EC JE Y) (HS.one (p:=0) GF (show m+0+65545≤_ by omega) (fun _ _ hM=>(Th.part hM 0 1)) (At.cast (At.trans (At.self _) (At.sub _ 0 1)) (by decide))) ?_
 rintro _ w1 ⟨st,g,cap,sp,Tq⟩
 have HS:=Qw.re Tq (m2:=m+65545) (by show m+0+65545=m+65545;omega)
 have H1:=HS.H.here
 refine Xr e14<|J2<|Xm Y<|Xm Y<|Xc Y<|Ag e14<|Xf uU Y<|OQ (EC PL Y) (HS.one (p:=1) DK (show m+65545+65545≤_ by omega) (fun _ _ hM=>(Th.part hM 1 1)) (At.cast (At.trans (At.self _) (At.sub _ 1 1)) (by decide))) ?_
 rintro _ w2 ⟨st,g,cap,sp,Tq⟩
 have HS:=Qw.re Tq (m2:=m+131090) (by show m+65545+65545=m+131090;omega)
 have H2:=HS.H.here
 refine Xr e14<|zA<|yQ Y ?_
 have hw0:List.take 2 x=x:=Th.whole hM
 refine HS.ZF ?_ Y
 show _=xX (x) a
 simp only[Ep,tL,wW,Nat.reduceAdd,hw0]
theorem M0 :fI Tryz.prog 144 kP:=MX
theorem MT (gp go o:Nat) (g:Option Nat) (cap:Nat) (sp:List Value) (st:WS) (U:TypeId) (cs:List Value) (x:kO.X) (vs:List Value) (w0:World) (m:Nat) (a:WS) (H0:Hp w0 w0 (bl (vwo gp g cap sp st go U cs)) (vwo gp g cap sp st go U cs)) (hm:m+kO.mx≤1000000000) (hP:POk m g cap sp st) (ha:qB a st) (hM:kO.M w0 (fun b=>b∉bl (vwo gp g cap sp st go U cs)) x vs) (hat:At cs o vs):Aj 145 #[Ah gp,.pointer (some ⟨go,o,none⟩)] w0 (fun _ w'=>fJ (m+kO.mx) gp (xX (kO.fl x) a) go U cs w0 (bl (vwo gp g cap sp st go U cs)) w'):=by
 refine zG Tryz.func145 Tryz.ntmps145 Y<|cR e23 ?_
 change m+262180≤1000000000 at hm
 have HS:Qw gp go o w0 (bl (vwo gp g cap sp st go U cs)) w0 (m+0) a st kO x vs U cs g cap sp:=⟨H0,hP,ha,hM,hat⟩
 have H:=HS.H.here
 refine Rq<|Xm Y<|Xm Y<|Xc Y<|Ag e23<|Xf qK Y<|OQ (EC JE Y) (HS.one (p:=0) GF (show m+0+65545≤_ by omega) (fun _ _ hM=>(Th.part hM 0 1)) (At.cast (At.trans (At.self _) (At.sub _ 0 1)) (by decide))) ?_
 rintro _ w1 ⟨st,g,cap,sp,Tq⟩
 have HS:=Qw.re Tq (m2:=m+65545) (by show m+0+65545=m+65545;omega)
 have H1:=HS.H.here
 refine Xr e23<|Rq<|Xm Y<|Xm Y<|Xc Y<|Ag e23<|Xf oZ Y<|OQ (EC gf179 Y) (HS.one (p:=1) RR (show m+65545+65545≤_ by omega) (fun _ _ hM=>(Th.part hM 1 1)) (At.cast (At.trans (At.self _) (At.sub _ 1 1)) (by decide))) ?_
 rintro _ w2 ⟨st,g,cap,sp,Tq⟩
 have HS:=Qw.re Tq (m2:=m+131090) (by show m+65545+65545=m+131090;omega)
 have H2:=HS.H.here
 refine Xr e23<|zR 8 [(true,0),(true,1),(true,2),(true,3),(true,4),(true,5),(true,6),(false,7),(false,8)] H2 [0,1,2] yE (by decide) (by kernel_rfl) ?_
 rintro w3 hw3
 have H3:=Hp.drew H2;rw[← hw3]at H3
 refine Zm Y Y<|Zm Y Y<|Zc Y Y<|cZ e23<|Zf Y bX Y<|Zm Y Y<|Zc Y Y<|cZ e23<|Zf Y G6 Y<|MO Y<|zE Nz tR H3 Y (by decide) Y<|fun w4 g4 H4 hg4=>OE<|⟨fun hne=>H4.pick [0,1,2] (by decide),?_⟩
 refine cZ e23<|MO Y<|OQ (EC JH Y) (HS.grp (p:=2) dJ H4 (by decide) (show m+131090+131090≤_ by omega) (fun _ _ hM=>(Th.part hM 2 2)) (At.cast (At.trans (At.self _) (At.sub _ 2 2)) (by decide))) ?_
 rintro _ w5 ⟨st,g,cap,sp,Tq⟩
 have HS:=Qw.re Tq (m2:=m+262180) (by show m+131090+131090=m+262180;omega)
 have H5:=HS.H.here
 refine OE ?_
 refine⟨fun hne=>absurd Y hne,?_⟩
 refine cZ e23<|ME<|cR e23<|zA<|yQ Y ?_
 have hw0:List.take 4 x=x:=Th.whole hM
 refine HS.ZF ?_ Y
 show _=xX (x) a
 simp only[Ep,tL,wW,Nat.reduceAdd,hw0]
theorem MU :fI Tryz.prog 145 kO:=MT
theorem RV (gp go o:Nat) (g:Option Nat) (cap:Nat) (sp:List Value) (st:WS) (U:TypeId) (cs:List Value) (x:rS.X) (vs:List Value) (w0:World) (m:Nat) (a:WS) (H0:Hp w0 w0 (bl (vwo gp g cap sp st go U cs)) (vwo gp g cap sp st go U cs)) (hm:m+rS.mx≤1000000000) (hP:POk m g cap sp st) (ha:qB a st) (hM:rS.M w0 (fun b=>b∉bl (vwo gp g cap sp st go U cs)) x vs) (hat:At cs o vs):Aj 97 #[Ah gp,.pointer (some ⟨go,o,none⟩)] w0 (fun _ w'=>fJ (m+rS.mx) gp (xX (rS.fl x) a) go U cs w0 (bl (vwo gp g cap sp st go U cs)) w'):=by
 refine zG Tryz.func97 Tryz.ntmps97 Y<|cR e42 ?_
 change m+1048720≤1000000000 at hm
 have HS:Qw gp go o w0 (bl (vwo gp g cap sp st go U cs)) w0 (m+0) a st rS x vs U cs g cap sp:=⟨H0,hP,ha,hM,hat⟩
 have H:=HS.H.here
 refine J1<|zR 8 [(true,0),(true,1),(true,2),(true,3),(true,4),(true,5),(true,6),(false,7),(false,8)] H [0,1,2] yE (by decide) (by kernel_rfl) ?_
 rintro w1 hw1
 have H1:=Hp.drew H;rw[← hw1]at H1
 refine Zm Y Y<|Zm Y Y<|Zc Y Y<|cZ e42<|Zf Y oY Y<|Zm Y Y<|Zc Y Y<|cZ e42<|Zf Y fl81_1 Y<|MO Y<|zE Nz tR H1 Y (by decide) Y<|fun w2 g2 H2 hg2=>OE<|⟨fun hne=>H2.pick [0,1,2] (by decide),?_⟩
 refine cZ e42<|MO Y<|OQ (EC JH Y) (HS.grp (p:=0) dJ H2 (by decide) (show m+0+131090≤_ by omega) (fun _ _ hM=>(Th.part hM 0 2)) (At.cast (At.trans (At.self _) (At.sub _ 0 2)) (by decide))) ?_
 rintro _ w3 ⟨st,g,cap,sp,Tq⟩
 have HS:=Qw.re Tq (m2:=m+131090) (by show m+0+131090=m+131090;omega)
 have H3:=HS.H.here
 refine OE ?_
 refine⟨fun hne=>absurd Y hne,?_⟩
 refine cZ e42<|ME<|cR e42<|Rq<|Xm Y<|Xm Y<|Xc Y<|Ag e42<|Xf iR Y<|OQ (EC VD Y) (HS.one (p:=2) AB (show m+131090+131090≤_ by omega) (fun _ _ hM=>(Th.part hM 2 2)) (At.cast (At.trans (At.self _) (At.sub _ 2 2)) (by decide))) ?_
 rintro _ w4 ⟨st,g,cap,sp,Tq⟩
 have HS:=Qw.re Tq (m2:=m+262180) (by show m+131090+131090=m+262180;omega)
 have H4:=HS.H.here
 refine Xr e42<|Rq<|Xm Y<|Xm Y<|Xc Y<|Ag e42<|Xf oX Y<|OQ (EC gf143 Y) (HS.one (p:=4) RO (show m+262180+262180≤_ by omega) (fun _ _ hM=>(Th.part hM 4 4)) (At.cast (At.trans (At.self _) (At.sub _ 4 4)) (by decide))) ?_
 rintro _ w5 ⟨st,g,cap,sp,Tq⟩
 have HS:=Qw.re Tq (m2:=m+524360) (by show m+262180+262180=m+524360;omega)
 have H5:=HS.H.here
 refine Xr e42<|Rq<|Xm Y<|Xm Y<|Xc Y<|Ag e42<|Xf uF Y<|OQ (EC gf144 Y) (HS.one (p:=8) M0 (show m+524360+131090≤_ by omega) (fun _ _ hM=>(Th.part hM 8 2)) (At.cast (At.trans (At.self _) (At.sub _ 8 2)) (by decide))) ?_
 rintro _ w6 ⟨st,g,cap,sp,Tq⟩
 have HS:=Qw.re Tq (m2:=m+655450) (by show m+524360+131090=m+655450;omega)
 have H6:=HS.H.here
 refine Xr e42<|Rq<|Xm Y<|Xm Y<|Xc Y<|Ag e42<|Xf eJ Y<|OQ (EC gf145 Y) (HS.one (p:=10) MU (show m+655450+262180≤_ by omega) (fun _ _ hM=>(Th.part hM 10 4)) (At.cast (At.trans (At.self _) (At.sub _ 10 4)) (by decide))) ?_
 rintro _ w7 ⟨st,g,cap,sp,Tq⟩
 have HS:=Qw.re Tq (m2:=m+917630) (by show m+655450+262180=m+917630;omega)
 have H7:=HS.H.here
 refine Xr e42<|zR 8 [(true,0),(true,1),(true,2),(true,3),(true,4),(true,5),(true,6),(false,7),(false,8)] H7 [0,1,2] yE (by decide) (by kernel_rfl) ?_
 rintro w8 hw8
 have H8:=Hp.drew H7;rw[← hw8]at H8
 refine Zm Y Y<|Zm Y Y<|Zc Y Y<|cZ e42<|Zf Y uZ Y<|Zm Y Y<|Zc Y Y<|cZ e42<|Zf Y rB Y<|MO Y<|zE Nz tR H8 Y (by decide) Y<|fun w9 g9 H9 hg9=>OE<|⟨fun hne=>H9.pick [0,1,2] (by decide),?_⟩
 refine cZ e42<|MO Y<|OQ (EC JH Y) (HS.grp (p:=14) dJ H9 (by decide) (show m+917630+131090≤_ by omega) (fun _ _ hM=>(Th.part hM 14 2)) (At.cast (At.trans (At.self _) (At.sub _ 14 2)) (by decide))) ?_
 rintro _ w10 ⟨st,g,cap,sp,Tq⟩
 have HS:=Qw.re Tq (m2:=m+1048720) (by show m+917630+131090=m+1048720;omega)
 have Df:=HS.H.here
 refine OE ?_
 refine⟨fun hne=>absurd Y hne,?_⟩
 refine cZ e42<|ME<|cR e42<|zA<|yQ Y ?_
 have hw0:List.take 16 x=x:=Th.whole hM
 refine HS.ZF ?_ Y
 show _=xX (x) a
 simp only[Ep,tL,wW,Nat.reduceAdd,hw0]
theorem RW :fI Tryz.prog 97 rS:=RV
theorem QM (gp:Nat) (g:Option Nat) (cap:Nat) (sp:List Value) (st:WS) (go:Nat) (U:TypeId) (cs:List Value) (w0:World) (H0:Hp w0 w0 (bl (vwo gp g cap sp st go U cs)) (vwo gp g cap sp st go U cs)) (m:Nat) (hP:POk m g cap sp st) (a:WS) (hL:qB a st):Aj 98 #[Ah gp] w0 (fun r w'=>∃ g2 cap2 sp2,r=.tuple #[Ac (hd g2) (rH a).length cap2,Aa (errOf a:Int)]∧(rH a).length≤cap2∧cap2*1≤(u8s (rH a)++sp2).length∧(g2=none→cap2=0)∧(rH a).length≤65536∧Hp w0 w' (bl (vwo gp g cap sp st go U cs)) [(g2,5,u8s (rH a)++sp2)]):=by
 refine zG Tryz.func98 Tryz.ntmps98 Y<|cR e20 ?_
 have H:=H0
 obtain⟨Nj,Uk⟩:=st
 obtain⟨q1,q2⟩:=MC hL
 refine Rq<|Xa Y<|Xa Y<|Xr e20<|J1<|J1 ?_
 cases Uk
 refine J2<|Xm Y<|Xc Y<|Xf uB Y<|OV (EL ty4 Y (H.cell (i:=0) Y Y))<|Ag e20<|Xm Y<|OY Y<|Xm Y<|Ag e20<|OY Y<|Xc Y<|OY Y<|Xf jJ Y<|Ag e20<|OY Y<|OV (EL xO Y (H.cell (i:=0) Y Y))<|OY Y<|OV (ES Gz Y)<|Ag e20<|OY Y<|OT (yS Y Y) (fun hp14=>?_) (fun hp14=>?_)
 have hl:=q1 (.inr (by dsimp only at hp14 ⊢;omega))
 refine Xu Y Y<|Xr e20<|J3 Y<|Rq<|Xa Y<|Xa Y<|Xr e20<|J5<|Kz Y Y Y ?_
 obtain⟨r1,r2⟩:=mU hl
 exact⟨none,0,[],by rw[r1,r2];rfl,by rw[r1];exact Ak 0,Am _,fun _=>Y,by rw[r1];decide,by rw[r1];exact Hp.nil (H.pick [] (by decide)) 5⟩
 obtain⟨hl,ho⟩:=q2 (by rintro(h | h);cases h;dsimp only at h hp14;omega)
 refine Xu Y Y<|Xr e20<|J4 Y<|J6<|Rq<|Xm Y<|Xc Y<|Xf jJ Y<|OV (EL xO Y (H.cell (i:=0) Y Y))<|Ag e20<|Xa Y<|Xa Y<|Xr e20<|J5<|Kz Y Y Y ?_
 obtain⟨r1,r2⟩:=gY hl
 simp only at ho
 exact⟨g,cap,sp,by rw[r1,r2,ho];rfl,by rw[r1,ho];exact hP.le,by rw[r1,ho];exact hP.room,hP.nil,by rw[r1,ho];dsimp only at hp14;omega,by rw[r1,ho];exact H.pick [1] (by decide)⟩
 refine J2<|Xm Y<|Xc Y<|Xf uB Y<|OV (EL ty4 Y (H.cell (i:=0) Y Y))<|Ag e20<|Xm Y<|Oz 6 Y<|Ag e20<|Xt Y Y<|Xr e20<|J3 Y<|Rq<|Xa Y<|Xa Y<|Xr e20<|J5<|Kz Y Y Y ?_
 have hl:=q1 (.inl rfl)
 obtain⟨r1,r2⟩:=mU hl
 exact⟨none,0,[],by rw[r1,r2];rfl,by rw[r1];exact Ak 0,Am _,fun _=>Y,by rw[r1];decide,by rw[r1];exact Hp.nil (H.pick [] (by decide)) 5⟩
theorem OF (x:rS.X) (cells:List Value) (w0:World) (hM:rS.M w0 (fun _=>True) x cells):Aj 50 #[.agg cells.toArray] w0 (fun r w'=>KD w0 w' r (xX (rS.fl x) W0)):=by
 refine zG Tryz.func50 Tryz.ntmps50 Y<|cR e13 ?_
 have hlen:cells.length=16:=rS.len hM
 have H:=Hp.refl w0
 refine Rq<|yA Y Y H<|fun w1 g1 H1 hg1=>Xa Y<|Xa Y<|Xr e13<|Rq<|OV (EB ty167 V7 Y Y)<|yA Y Y H1<|fun w2 gk H2 hgk=>Xa Y<|Xr e13<|Rq<|Xm Y ?_
 have hM1:=rS.to hM H2 (fun _ _=>by simp)
 have HP:Hp w0 w2 [] (vwo gk none 0 [] W0 g1 81 cells):=(H2.nil 5).pick [1,2,0] (by decide)
 have hM2:=rS.to hM HP (fun _ _=>by simp)
 refine OQ (EC gf97 Y) (RW gk g1 0 none 0 [] W0 81 cells x cells _ 0 W0 HP.here (by decide) ⟨Ak _,Ak _,fun _=>Y,Ak _⟩ (.inr ⟨Y,Y,Y,Am _⟩) (rS.mono hM2 fun _ h=>h.2) (At.self _)) ?_
 rintro _ w3 ⟨st,g,cap,sp,hL,hPk,Hd⟩
 have H3:=HP.all Hd
 refine Xr e13<|Rq<|Xm Y<|OQ (EC gf98 Y) (QM gk g cap sp st g1 81 cells _ H3.here 1000000000 (hPk.mono (by decide)) _ hL) ?_
 rintro _ w4 ⟨g2,cap2,sp2,rfl,q1,q2,q3,q4,Hd⟩
 have H4:=H3.all Hd
 refine Xe Y Y<|Xe Y Y<|Ag e13<|Xa Y<|Xa Y<|Xr e13<|J5<|Kz Y Y Y<|⟨g2,cap2,sp2,Y,q1,q2,q3,q4,H4⟩
set_option maxHeartbeats 32000000
theorem XN (A:Option Addr) (k:Nat) (l:List Nt) (Ob:Nat→Prop) (w0:World) (hl:Sl (NtR w0 Ob) 16 w0 Ob A l) (hn:l.length≤840000000000):Aj 49 #[Ac A l.length k] w0 (fun r w'=>∃ g cap qs sp,r=Ac (hd g) l.length cap∧Gw 16 g cap qs sp∧wC (NtW w' w0.heap.size g) qs l∧Hp w0 w' [] [((g,81,qs.flatten++sp):Ent)]):=by
 refine zG Tryz.func49 Tryz.ntmps49 Y<|cR e56 ?_
 have H:=Hp.refl w0
 obtain⟨ps,hp,hr,ha,h2⟩:=id hl
 have hlen:=h2.len
 refine Rq<|Xa Y<|Xr e56<|Rq<|Xa Y<|Xr e56<|J1<|Rq<|Xa Y<|Xr e56<|J7<|zV (fun nQ lQ w=>∃ (i:Nat) (y:Int) (g:Option Nat) (cap:Nat) (qs:List (List Value)) (sp:List Value),l.length - i=nQ∧xM (Hy [(0,Ac A l.length k),(3,Ac (hd g) qs.length cap),(4,Aa y)] 0 56) lQ∧y=(i:Int)∧i≤l.length∧Gw 16 g cap qs sp∧wC (NtW w w0.heap.size g) qs (l.take i)∧Hp w0 w [] [((g,81,qs.flatten++sp):Ent)]) (l.length) ?_ ?_
 exact⟨0,_,none,0,[],[],Y,(Uh Y Y Y Y),Y,Am _,Gw.nil 16,trivial,H.nil 81⟩
 rintro nQ lQ w1 ⟨i,y,g,cap,qs,sp,rfl,hfit,rfl,hi,hG,hA,H1⟩
 obtain⟨j,rfl⟩:=hfit.open
 refine cR e56 ?_
 clear hfit
 have HB:=H1
 replace H1:=HB.here
 refine J1<|Rq<|Xm Y<|Xm Y<|OV (ES Lc Y)<|OT (zQ Y Y) (fun hp11=>?_) (fun hp11=>?_)
 have hil:i < l.length:=by omega
 obtain⟨nt,hx⟩:=yL hil
 obtain⟨p1,hp1,hR⟩:=h2.get hx
 obtain⟨B1,j1,B2,j2,rfl,hbv,hbe⟩:=hR
 obtain⟨a1,ha1⟩:=hr.some_ (by omega)
 subst ha1
 have Gi:qs.length=i:=by rw[hA.len,Aw];omega
 refine Xr e56<|J3 Y<|J6<|J1<|J7<|Rq<|Xm Y<|Xm Y<|OV (EI Lc xH Y Y Y hil Y)<|OV (EN xH Y (vs:=Ed nt B1 j1 B2 j2) Y ((hr.to0 (HB.all H1)).elem hp hp1))<|Ag e56<|OA xH H1<|fun w2 gn H2 _=>OS xH H2 1 (vs:=Ed nt B1 j1 B2 j2) Y Y Y Y Y (Ak 16) Y<|fun w3 H3=>Xr e56<|J1<|rT 12 (.p 0 (.p 1 (.p 2 (.p 3 (.p 4 (.p 5 (.p 6 (.p 7 (.p 8 (.two 9 (.p 10 (.o 11 (.o 12 .nil))) 11 (.o 9 (.p 10 (.o 12 .nil))))))))))))) H3 [0,1] yE (by decide) (by kernel_rfl) ?_
 rintro w4 hw4
 have H4:=Hp.drew H3;rw[← hw4]at H4
 refine Tf Y oX Y<|Tf Y vF Y<|TP Y<|MV (fun wz hz=>EL ty3 Y (hz.cell (i:=1) Y Y))<|Tf Y oX Y<|cT e56<|Tf Y sH Y<|TP Y<|MV (fun wz hz=>EN vA Y (vs:=[Aa nt.Eh.b.r,Aa nt.Eh.b.n]) Y (hz.Ap (i:=1) Y Y))<|Tf Y oX Y<|Tf Y rC Y<|cT e56<|TP Y<|MV (fun wz hz=>EL xO Y (hz.cell (i:=1) Y Y))<|sD ?_ ?_
 refine TQ Y<|xC Gz ty5 (by decide) (H4.nil 5) 2 (g:=none) (n:=0) (cap:=0) (xs:=[]) (sp:=[]) Y Y Y (by decide) (by decide) (fun _=>Y) Y (hbv.1.to0 (HB.all H4)) (uJ _) (by have:=hbv.2.2;omega) (by have:=hbv.2.2;omega) (by decide)<|fun w5 gv cv sv H5 _ _ _=>?_
 rw[Ba nt.Eh.val.length]
 refine OE ?_
 refine⟨fun hne=>H5.pick [0,1] (by decide),?_⟩
 refine cT e56<|TP Y<|MV (fun wz hz=>EB xE pl77 Y Y)<|TQ Y<|OA xE H5<|fun w6 g6 H6 _=>?_
 replace H6:=H6.pick [0,1,3,2] (by decide)
 refine OE ?_
 refine⟨fun hne=>H6.pick [0,1] (by decide),?_⟩
 refine cT e56 ?_
 have m2:=()
 rotate_left 1
 refine TQ Y<|OA xE H4<|fun w5 g6 H5 _=>OE<|⟨fun hne=>H5.pick [0,1] (by decide),?_⟩
 refine cT e56<|TQ Y<|xC Gz ty5 (by decide) (H5.nil 5) 3 (g:=none) (n:=0) (cap:=0) (xs:=[]) (sp:=[]) Y Y Y (by decide) (by decide) (fun _=>Y) Y (hbv.1.to0 (HB.all H5)) (uJ _) (by have:=hbv.2.2;omega) (by have:=hbv.2.2;omega) (by decide)<|fun w6 gv cv sv H6 _ _ _=>?_
 rw[Ba nt.Eh.val.length]
 refine OE ?_
 refine⟨fun hne=>H6.pick [0,1] (by decide),?_⟩
 refine cT e56<|TP Y<|MV (fun wz hz=>EB xE pl77 Y Y) ?_
 have m2:=()
 rotate_left 1
 obtain rfl:i=l.length:=by omega
 refine Xr e56<|J4 Y<|J8<|zU<|zS<|Rq<|Xm Y<|Xa Y<|Xr e56<|J5<|Cm Y Y ?_
 rw[Bz]at hA
 have hlq:=hA.len
 rw[hlq]
 exact⟨g,cap,qs,sp,Y,hG,hA,(HB.all H1).pick [0] (by decide)⟩
 any_goals
  clear m2
  refine TQ Y<|OS xE H6 2 (vs:=Jt nt (hd gv) cv) Y Y Y Y Y (Ak 4) Y<|fun w7 H7=>OE<|⟨fun hne=>absurd Y hne,?_⟩
  refine cT e56<|tH<|cR e56<|J1<|rT 9 (.p 0 (.p 1 (.p 2 (.p 3 (.p 4 (.p 5 (.two 6 (.p 7 (.o 8 (.o 9 .nil))) 8 (.o 6 (.p 7 (.o 9 .nil)))))))))) H7 [0,1,2,3] yE (by decide) (by kernel_rfl) ?_
  rintro w8 hw8
  have H8:=Hp.drew H7;rw[← hw8]at H8
  refine Tf Y uF Y<|Tf Y wF Y<|TP Y<|MV (fun wz hz=>EL ty3 Y (hz.cell (i:=1) Y Y))<|Tf Y uF Y<|cT e56<|Tf Y uU Y<|TP Y<|MV (fun wz hz=>EL xO Y (hz.cell (i:=1) Y Y))<|sD ?_ ?_
  refine TQ Y<|xC Gz ty5 (by decide) (H8.nil 5) 4 (g:=none) (n:=0) (cap:=0) (xs:=[]) (sp:=[]) Y Y Y (by decide) (by decide) (fun _=>Y) Y (hbe.1.to0 (HB.all H8)) (uJ _) (by have:=hbe.2.2;omega) (by have:=hbe.2.2;omega) (by decide)<|fun w9 gq cq sq H9 _ _ _=>?_
  rw[Ba nt.entry.val.length]
  refine OE ?_
  refine⟨fun hne=>H9.pick [0,1,2,3] (by decide),?_⟩
  refine cT e56<|TP Y<|MV (fun wz hz=>EB wE SR Y Y)<|TQ Y<|OA wE H9<|fun Oa g7 Ei _=>?_
  replace Ei:=Ei.pick [0,1,2,3,5,4] (by decide)
  refine OE ?_
  refine⟨fun hne=>Ei.pick [0,1,2,3] (by decide),?_⟩
  refine cT e56 ?_
  have m1:=()
  rotate_left 1
  refine TQ Y<|OA wE H8<|fun w9 g7 H9 _=>OE<|⟨fun hne=>H9.pick [0,1,2,3] (by decide),?_⟩
  refine cT e56<|TQ Y<|xC Gz ty5 (by decide) (H9.nil 5) 5 (g:=none) (n:=0) (cap:=0) (xs:=[]) (sp:=[]) Y Y Y (by decide) (by decide) (fun _=>Y) Y (hbe.1.to0 (HB.all H9)) (uJ _) (by have:=hbe.2.2;omega) (by have:=hbe.2.2;omega) (by decide)<|fun Oa gq cq sq Ei _ _ _=>?_
  rw[Ba nt.entry.val.length]
  refine OE ?_
  refine⟨fun hne=>Ei.pick [0,1,2,3] (by decide),?_⟩
  refine cT e56<|TP Y<|MV (fun wz hz=>EB wE SR Y Y) ?_
  have m1:=()
  rotate_left 1
 any_goals
  clear m1
  refine TQ Y<|OS wE Ei 4 (vs:=Ie nt (hd gq) cq) Y Y Y Y Y (Ak 2) Y<|fun w10 Df=>OE<|⟨fun hne=>absurd Y hne,?_⟩
  refine cT e56<|tH<|cR e56<|J2<|Xm Y<|Xf oY Y<|OV (EL ty3 Y (Df.cell (i:=1) Y Y))<|Xf fl81_1 Y<|Ag e56<|OV (EL ty3 Y (Df.cell (i:=1) Y Y))<|Xf iR Y<|OV (EN vA Y (vs:=[Aa nt.b.r,Aa nt.b.n]) Y (Df.Ap (i:=1) Y Y))<|OV (EN xE Y (vs:=Jt nt (hd gv) cv) Y (Df.Ap (i:=2) Y Y))<|Ag e56<|OV (EN wE Y (vs:=Ie nt (hd gq) cq) Y (Df.Ap (i:=4) Y Y))<|Xf eJ Y<|OV (EN xA Y (vs:=Uz nt) Y (Df.Ap (i:=1) Y Y))<|Xf uZ Y<|Ag e56<|OV (EL ty3 Y (Df.cell (i:=1) Y Y))<|Xf rB Y<|OV (EL ty3 Y (Df.cell (i:=1) Y Y))<|OV (EB xH oA Y (cs:=Ed nt (hd gv) cv (hd gq) cq) (by kernel_rfl))<|Ag e56<|zE Lc xH Df (cs:=Ed nt (hd gv) cv (hd gq) cq) Y (by decide) (by kernel_rfl)<|fun Uf gk Ip _=>xB Lc xH (by decide) Ip 0 hG Y Y (rs:=[Ed nt (hd gv) cv (hd gq) cq]) (m:=1) Y Y (Ip.rd (i:=6) (o:=some _) (xs:=Ed nt (hd gv) cv (hd gq) cq) (sp:=[]) Y Y (by decide)) (Pl.one Y) (fun p hp=>by rw[Az.1 hp];rfl) (by omega) (by omega) (by decide)<|fun w12 g2 cap2 sp2 Fj hG2=>Xa Y<|Xr e56<|zA (zB ?_)
  refine J2<|Xm Y<|OV (zL Y Y (Ad _ (by omega)))<|Xa Y<|Xr e56<|zA (zH ?_)
  have HW:=HB.all Fj
  have hplB:=fun x (hb:g2=some x)=>Fj.place (i:=0) (g:=x) (by rw[← hb];rfl)
  exact⟨l.length - (i+1),by omega,i+1,_,g2,cap2,_,sp2,Y,(Uh Y Y Y Y),by omega,by omega,hG2,by
   rw[yM hx]
   refine(hA.imp fun p x h=>h.to Fj (gi':=g2) fun k hk hne hlt=>⟨fun hb=>?_,fun e=>?_⟩).app (wC.one ⟨gv,cv,gq,cq,Y,MI.row HW (i:=3) (j:=0) Y Y (by decide) (fun k hk=>by cases hk) (Ak _) hbv.2.2,MI.row HW (i:=5) (j:=0) Y Y (by decide) (fun k hk=>by cases hk) (Ak _) hbe.2.2⟩)
   · cases g with
     | none=>simp[bl]at hb
     | some q=>exact hne (by rw[show k=q by simpa[bl]using hb])
   rcases hplB k e with h | h
   · cases g with
     | none=>simp[bl]at h
     | some q=>exact hne (by rw[show k=q by simpa[bl]using h])
   omega,HW.pick [0] (by decide)⟩
theorem S2 (b:Bo) (A1:Option Addr) (k1:Nat) (A2:Option Addr) (k2:Nat) (A3:Option Addr) (m3 k3:Nat) (N:Nat) (ok:Nat→Prop) (w0:World) (hb1:Sl (Qz w0 ok) 6 w0 ok A1 b.groups) (hb2:Sl Nu 4 w0 ok A2 b.rights) (hg:rE b N) (hN:N≤900000000000) (hnn:b.notes.length≤1200000000000):Aj 21 #[.agg (Nq A1 b k1 A2 k2 A3 m3 k3).toArray] w0 (fun r w'=>∃ A k,r=Ac A b.notes.length k∧Sl (NtR w' (up (fun x=>ok x∧x < w0.heap.size) w0.heap.size)) 16 w' (up (fun x=>ok x∧x < w0.heap.size) w0.heap.size) A b.notes∧Hp w0 w' [] []):=by
 refine zG Tryz.func21 Tryz.ntmps21 Y<|cR Iz ?_
 have hz8:=hg.eight
 obtain⟨ps,hp,hr,ha,h2⟩:=hb1.toS (ok':=(fun x=>ok x∧x < w0.heap.size)) (Hp.refl _) fun x hx hl=>⟨by simp,hx,hl⟩
 obtain⟨pr,hpr,hrr,har,h2r⟩:=hb2.toR (ok':=(fun x=>ok x∧x < w0.heap.size)) (Hp.refl _) fun x hx hl=>⟨by simp,hx,hl⟩
 obtain⟨a1,rfl⟩:=hr.some_ (by omega)
 have Ug:∀ x,(fun x=>ok x∧x < w0.heap.size) x→x < w0.heap.size→x∉([]:List Nat)∧(fun x=>ok x∧x < w0.heap.size) x:=fun x hx _=>⟨by simp,hx⟩
 have H:=Hp.refl w0
 refine Rq<|yA Y Y H<|fun w1 gb H1 _=>Xa Y<|Xr Iz<|Rq<|Xa Y<|Xr Iz<|J1<|Rq<|Xa Y<|Xr Iz<|J7<|zV (fun nQ lQ w=>∃ (i:Nat) (y:Int) (g:Option Nat) (cap:Nat) (qs:List (List Value)) (sp:List Value),b.groups.length - i=nQ∧xM (Hy [(1,Ah gb),(3,Ac (hd g) qs.length cap),(4,Aa y)] 0 96) lQ∧y=(i:Int)∧i≤b.groups.length∧Gw 16 g cap qs sp∧wC (NtR w0 (fun x=>ok x∧x < w0.heap.size)) qs (gN (b.groups.take i))∧Hp w0 w ([]) [((some gb,41,Nq (some a1) b k1 A2 k2 A3 m3 k3):Ent),(g,81,qs.flatten++sp)]) (b.groups.length) ?_ ?_
 exact⟨0,_,none,0,[],[],Y,(Uh Y Y Y Y),Y,Am _,Gw.nil 16,trivial,H1.nil 81⟩
 rintro nQ lQ w2 ⟨i,y,g,cap,qs,sp,rfl,hfit,rfl,hi,hG,hA,H2⟩
 obtain⟨j,rfl⟩:=hfit.open
 refine cR Iz ?_
 clear hfit
 refine J1<|Rq<|Xm Y<|Xf uO Y<|OV (EL oO Y (H2.cell (i:=0) Y Y))<|OV (ES Ue Y)<|Ag Iz<|OT (zQ Y Y) (fun Pj=>?_) (fun Pj=>?_)
 have hil:i < b.groups.length:=by omega
 obtain⟨s,hx⟩:=yL hil
 obtain⟨p1,hp1,hR⟩:=h2.get hx
 obtain⟨D1,e1,D2,e2,D3,e3,rfl,hv,hm,he⟩:=hR
 obtain⟨R,hRr⟩:=VQ hx
 have hnl:b.notes.length=(gN (b.groups.take i)).length+(tP i s).length+s.entries.length+(sB i s).length+s.Bc.length+R.length+b.rights.length:=by
  unfold Bo.notes
  rw[hRr]
  unfold Vd
  simp only[Ae,Bg]
  omega
 obtain⟨vs,hpv,Vh,hav,h2v⟩:=id hv
 obtain⟨en,hpe,hre,hae,h2e⟩:=id he
 have Gi:=hA.len
 try simp only[Ae,Bg,Aw]at Gi
 refine Xr Iz<|J3 Y<|J6<|J1<|J7<|Rq<|Xf uO Y<|OV (EL oO Y (H2.cell (i:=0) Y Y))<|Xm Y<|OV (EI Ue wD Y Y Y hil Y)<|Ag Iz<|OV (EN wD Y (vs:=Bv s D1 e1 D2 e2 D3 e3) Y (((hr.move (by decide) ha H2 Ug).1).elem hp hp1))<|OA wD H2<|fun w3 g5 H3 _=>OS wD H3 2 (vs:=Bv s D1 e1 D2 e2 D3 e3) Y Y Y Y Y (Ak 6) Y<|fun w4 H4=>Xr Iz<|J1<|Rq<|Xf wT Y<|OV (EL ty3 Y (H4.cell (i:=2) Y Y))<|OT (yR Y Y) (fun hp23=>?_) (fun hp23=>?_)
 have him:tP i s=[ntI i s]:=if_pos hp23
 have hil1:(tP i s).length=1:=by rw[him];rfl
 refine Xr Iz<|J3 Y<|J2<|Xm Y<|Xm Y<|Xf wT Y<|OV (EL ty3 Y (H4.cell (i:=2) Y Y))<|Ag Iz<|Xf uT Y<|OV (EL xO Y (H4.cell (i:=2) Y Y))<|OV (EB wE SR Y Y)<|OV (EB xH oA Y (cs:=Nh i s D2 e2) (by kernel_rfl))<|Ag Iz<|zE Lc xH H4 (cs:=Nh i s D2 e2) Y (by decide) (by kernel_rfl)<|fun w5 gk H5 _=>xB Lc xH (by decide) H5 1 hG Y Y (rs:=[Nh i s D2 e2]) (m:=1) Y Y (H5.rd (i:=3) (o:=some _) (xs:=Nh i s D2 e2) (sp:=[]) Y Y (by decide)) (Pl.one Y) (fun p hp=>by rw[Az.1 hp];rfl) (by omega) (by omega) (by decide)<|fun w6 g cap sp H6 hG=>?_
 obtain⟨qs,Rh⟩:∃ q,q=qs++[Nh i s D2 e2]:=⟨_,rfl⟩
 rw[← Rh]at hG H6 ⊢
 replace hA:wC (NtR w0 (fun x=>ok x∧x < w0.heap.size)) qs (gN (b.groups.take i)++tP i s):=by
  rw[Rh,him]
  exact hA.app (wC.one ⟨none,0,D2,e2,Y,Bs.none _ _,hm⟩)
 clear Rh
 refine Xa Y<|Xr Iz<|J1<|Rq<|Xa Y<|Xr Iz<|J7<|zV (fun nQ lQ w=>∃ (q:Nat) (z:Int) (g:Option Nat) (cap:Nat) (qs:List (List Value)) (sp:List Value),s.entries.length - q=nQ∧xM (Hy [(1,Ah gb),(3,Ac (hd g) qs.length cap),(4,Aa (i:Int)),(5,Ah g5),(6,Aa z)] 0 96) lQ∧z=(q:Int)∧q≤s.entries.length∧Gw 16 g cap qs sp∧wC (NtR w0 (fun x=>ok x∧x < w0.heap.size)) qs (gN (b.groups.take i)++tP i s++(s.entries.take q).map (Um i))∧Hp w0 w ([]) [((some gb,41,Nq (some a1) b k1 A2 k2 A3 m3 k3):Ent),(g,81,qs.flatten++sp),(some g5,97,Bv s D1 e1 D2 e2 D3 e3)]) (s.entries.length) ?_ ?_
 exact⟨0,_,g,cap,qs,sp,Y,(Oc Y Y Y Y Y Y),Y,Am _,hG,by simpa using hA,H6.pick [0,1,2] (by decide)⟩
 rintro nQ lQ w7 ⟨q,z,g,cap,qs,sp,rfl,hfit,rfl,hqi,hG,hA,H7⟩
 obtain⟨j,rfl⟩:=hfit.open
 refine cR Iz ?_
 clear hfit
 refine J1<|Rq<|Xm Y<|Xf xZ Y<|OV (EL uY Y (H7.cell (i:=2) Y Y))<|OV (ES Lr Y)<|Ag Iz<|OT (zQ Y Y) (fun hp38=>?_) (fun hp38=>?_)
 have Py:q < s.entries.length:=by omega
 obtain⟨v,hxv⟩:=yL Py
 obtain⟨pv,hpv1,hRv⟩:=h2e.get hxv
 obtain⟨G1,f1,rfl,hbv⟩:=hRv
 obtain⟨a3,Uy⟩:=hre.some_ (by omega)
 subst Uy
 have Gi:=hA.len
 try simp only[Ae,Bg,Aw]at Gi
 refine Xr Iz<|J3 Y<|J6<|J1<|J7<|J2<|Xm Y<|Xm Y<|Xf xZ Y<|OV (EL uY Y (H7.cell (i:=2) Y Y))<|Ag Iz<|Xm Y<|OV (EI Lr wE Y Y Y Py Y)<|OV (EN wE Y (vs:=Ez v G1 f1) Y (((hre.move (by decide) hae H7 Ug).1).elem hpe hpv1))<|OV (EB xH oA Y (cs:=Iu i v G1 f1) (by kernel_rfl))<|Ag Iz<|zE Lc xH H7 (cs:=Iu i v G1 f1) Y (by decide) (by kernel_rfl)<|fun w8 gk H8 _=>xB Lc xH (by decide) H8 1 hG Y Y (rs:=[Iu i v G1 f1]) (m:=1) Y Y (H8.rd (i:=3) (o:=some _) (xs:=Iu i v G1 f1) (sp:=[]) Y Y (by decide)) (Pl.one Y) (fun p hp=>by rw[Az.1 hp];rfl) (by omega) (by omega) (by decide)<|fun w9 g cap sp H9 hG=>Xa Y<|Xr Iz<|zA (zB ?_)
 refine J2<|Xm Y<|OV (zL Y Y (Ad _ (by omega)))<|Xa Y<|Xr Iz<|zA (zH ?_)
 exact⟨s.entries.length - (q+1),by omega,q+1,_,g,cap,_,sp,Y,(Oc Y Y Y Y Y Y),by omega,by omega,hG,by rw[yM hxv,Dx,← Bh];exact hA.app (wC.one ⟨none,0,_,_,Y,Bs.none _ _,hbv⟩),H9.pick [0,1,2] (by decide)⟩
 obtain rfl:q=s.entries.length:=by omega
 rw[Bz]at hA
 refine Xr Iz<|J4 Y<|J8<|zU<|zS<|J1<|Rq<|Xf vZ Y<|OV (EN vA Y (vs:=Gq s) Y (H7.Ap (i:=2) Y Y))<|OV (EB vA CD Y Y)<|OT (sL Y Y) (fun Qk=>?_) (fun Qk=>?_)
 have hpm:sB i s=[ntP i s.p]:=if_pos Qk
 have hil2:(sB i s).length=1:=by rw[hpm];rfl
 have Gi:=hA.len
 try simp only[Ae,Bg,Aw]at Gi
 refine Xr Iz<|J3 Y<|J2<|Xm Y<|Xm Y<|Xf vZ Y<|OV (EN vA Y (vs:=Gq s) Y (H7.Ap (i:=2) Y Y))<|Ag Iz<|OV (EB xH oA Y (cs:=Hl i s) (by kernel_rfl))<|zE Lc xH H7 (cs:=Hl i s) Y (by decide) (by kernel_rfl)<|fun w8 gk H8 _=>xB Lc xH (by decide) H8 1 hG Y Y (rs:=[Hl i s]) (m:=1) Y Y (H8.rd (i:=3) (o:=some _) (xs:=Hl i s) (sp:=[]) Y Y (by decide)) (Pl.one Y) (fun p hp=>by rw[Az.1 hp];rfl) (by omega) (by omega) (by decide)<|fun w9 g cap sp H9 hG=>?_
 obtain⟨qs,Rh⟩:∃ q,q=qs++[Hl i s]:=⟨_,rfl⟩
 rw[← Rh]at hG H9 ⊢
 replace hA:wC (NtR w0 (fun x=>ok x∧x < w0.heap.size)) qs (gN (b.groups.take i)++tP i s++s.entries.map (Um i)++sB i s):=by
  rw[Rh,hpm]
  exact hA.app (wC.one ⟨none,0,none,0,Y,Bs.none _ _,Bs.none _ _⟩)
 clear Rh
 refine Xa Y<|Xr Iz<|Rq<|Xa Y<|Xr Iz<|J7<|zV (fun nQ lQ w=>∃ (q:Nat) (z:Int) (g:Option Nat) (cap:Nat) (qs:List (List Value)) (sp:List Value),s.Bc.length - q=nQ∧xM (Hy [(1,Ah gb),(3,Ac (hd g) qs.length cap),(4,Aa (i:Int)),(5,Ah g5),(7,Aa z)] 0 96) lQ∧z=(q:Int)∧q≤s.Bc.length∧Gw 16 g cap qs sp∧wC (NtR w0 (fun x=>ok x∧x < w0.heap.size)) qs (gN (b.groups.take i)++tP i s++s.entries.map (Um i)++sB i s++(s.Bc.take q).map (ntV i))∧Hp w0 w ([]) [((some gb,41,Nq (some a1) b k1 A2 k2 A3 m3 k3):Ent),(g,81,qs.flatten++sp),(some g5,97,Bv s D1 e1 D2 e2 D3 e3)]) (s.Bc.length) ?_ ?_
 exact⟨0,_,g,cap,qs,sp,Y,(Oc Y Y Y Y Y Y),Y,Am _,hG,by simpa using hA,H9.pick [0,1,2] (by decide)⟩
 rintro nQ lQ w10 ⟨q,z,g,cap,qs,sp,rfl,hfit,rfl,hqi,hG,hA,Df⟩
 obtain⟨j,rfl⟩:=hfit.open
 refine cR Iz ?_
 clear hfit
 refine J1<|Rq<|Xm Y<|Xf xW Y<|OV (EL uP Y (Df.cell (i:=2) Y Y))<|OV (ES Jd Y)<|Ag Iz<|OT (zQ Y Y) (fun ZT=>?_) (fun ZT=>?_)
 have Py:q < s.Bc.length:=by omega
 obtain⟨v,hxv⟩:=yL Py
 obtain⟨pv,hpv1,hRv⟩:=h2v.get hxv
 obtain⟨G1,f1,rfl,hbv⟩:=hRv
 obtain⟨a3,Uy⟩:=Vh.some_ (by omega)
 subst Uy
 have Gi:=hA.len
 try simp only[Ae,Bg,Aw]at Gi
 refine Xr Iz<|J3 Y<|J6<|J1<|J7<|J2<|Xm Y<|Xm Y<|Xf xW Y<|OV (EL uP Y (Df.cell (i:=2) Y Y))<|Ag Iz<|Xm Y<|OV (EI Jd xE Y Y Y Py Y)<|OV (EN xE Y (vs:=Dl v G1 f1) Y (((Vh.move (by decide) hav Df Ug).1).elem hpv hpv1))<|OV (EB xH oA Y (cs:=Gf i v G1 f1) (by kernel_rfl))<|Ag Iz<|zE Lc xH Df (cs:=Gf i v G1 f1) Y (by decide) (by kernel_rfl)<|fun Oa gk Ei _=>xB Lc xH (by decide) Ei 1 hG Y Y (rs:=[Gf i v G1 f1]) (m:=1) Y Y (Ei.rd (i:=3) (o:=some _) (xs:=Gf i v G1 f1) (sp:=[]) Y Y (by decide)) (Pl.one Y) (fun p hp=>by rw[Az.1 hp];rfl) (by omega) (by omega) (by decide)<|fun w12 g cap sp Fj hG=>Xa Y<|Xr Iz<|zA (zB ?_)
 refine J2<|Xm Y<|OV (zL Y Y (Ad _ (by omega)))<|Xa Y<|Xr Iz<|zA (zH ?_)
 exact⟨s.Bc.length - (q+1),by omega,q+1,_,g,cap,_,sp,Y,(Oc Y Y Y Y Y Y),by omega,by omega,hG,by rw[yM hxv,Dx,← Bh];exact hA.app (wC.one ⟨_,_,none,0,Y,hbv,Bs.none _ _⟩),Fj.pick [0,1,2] (by decide)⟩
 obtain rfl:q=s.Bc.length:=by omega
 rw[Bz]at hA
 refine Xr Iz<|J4 Y<|J8<|zU<|zS<|zA (zB ?_)
 refine J2<|Xm Y<|OV (zL Y Y (Ad _ (by omega)))<|Xa Y<|Xr Iz<|zA (zH ?_)
 have hti:(b.groups.take i).length=i:=by rw[Aw];omega
 exact⟨b.groups.length - (i+1),by omega,i+1,_,g,cap,qs,sp,Y,(Uh Y Y Y Y),by omega,by omega,hG,by rw[yM hx,oG,hti];unfold Vd;simpa only[Bh]using hA,Df.pick [0,1] (by decide)⟩
 have hpm:sB i s=[]:=if_neg Qk
 replace hA:wC (NtR w0 (fun x=>ok x∧x < w0.heap.size)) qs (gN (b.groups.take i)++tP i s++s.entries.map (Um i)++sB i s):=by rw[hpm,Dt];exact hA
 refine Xr Iz<|J4 Y<|J6 ?_
 have m1:=()
 rotate_left 1
 have him:tP i s=[]:=if_neg hp23
 replace hA:wC (NtR w0 (fun x=>ok x∧x < w0.heap.size)) qs (gN (b.groups.take i)++tP i s):=by rw[him,Dt];exact hA
 refine Xr Iz<|J4 Y<|J6<|J1<|Rq<|Xa Y<|Xr Iz<|J7<|zV (fun nQ lQ w=>∃ (q:Nat) (z:Int) (g:Option Nat) (cap:Nat) (qs:List (List Value)) (sp:List Value),s.entries.length - q=nQ∧xM (Hy [(1,Ah gb),(3,Ac (hd g) qs.length cap),(4,Aa (i:Int)),(5,Ah g5),(6,Aa z)] 0 96) lQ∧z=(q:Int)∧q≤s.entries.length∧Gw 16 g cap qs sp∧wC (NtR w0 (fun x=>ok x∧x < w0.heap.size)) qs (gN (b.groups.take i)++tP i s++(s.entries.take q).map (Um i))∧Hp w0 w ([]) [((some gb,41,Nq (some a1) b k1 A2 k2 A3 m3 k3):Ent),(g,81,qs.flatten++sp),(some g5,97,Bv s D1 e1 D2 e2 D3 e3)]) (s.entries.length) ?_ ?_
 exact⟨0,_,g,cap,qs,sp,Y,(Oc Y Y Y Y Y Y),Y,Am _,hG,by simpa using hA,H4.pick [0,1,2] (by decide)⟩
 rintro nQ lQ w5 ⟨q,z,g,cap,qs,sp,rfl,hfit,rfl,hqi,hG,hA,H5⟩
 obtain⟨j,rfl⟩:=hfit.open
 refine cR Iz ?_
 clear hfit
 refine J1<|Rq<|Xm Y<|Xf xZ Y<|OV (EL uY Y (H5.cell (i:=2) Y Y))<|OV (ES Lr Y)<|Ag Iz<|OT (zQ Y Y) (fun hp38=>?_) (fun hp38=>?_)
 have Py:q < s.entries.length:=by omega
 obtain⟨v,hxv⟩:=yL Py
 obtain⟨pv,hpv1,hRv⟩:=h2e.get hxv
 obtain⟨G1,f1,rfl,hbv⟩:=hRv
 obtain⟨a3,Uy⟩:=hre.some_ (by omega)
 subst Uy
 have Gi:=hA.len
 try simp only[Ae,Bg,Aw]at Gi
 refine Xr Iz<|J3 Y<|J6<|J1<|J7<|J2<|Xm Y<|Xm Y<|Xf xZ Y<|OV (EL uY Y (H5.cell (i:=2) Y Y))<|Ag Iz<|Xm Y<|OV (EI Lr wE Y Y Y Py Y)<|OV (EN wE Y (vs:=Ez v G1 f1) Y (((hre.move (by decide) hae H5 Ug).1).elem hpe hpv1))<|OV (EB xH oA Y (cs:=Iu i v G1 f1) (by kernel_rfl))<|Ag Iz<|zE Lc xH H5 (cs:=Iu i v G1 f1) Y (by decide) (by kernel_rfl)<|fun w6 gk H6 _=>xB Lc xH (by decide) H6 1 hG Y Y (rs:=[Iu i v G1 f1]) (m:=1) Y Y (H6.rd (i:=3) (o:=some _) (xs:=Iu i v G1 f1) (sp:=[]) Y Y (by decide)) (Pl.one Y) (fun p hp=>by rw[Az.1 hp];rfl) (by omega) (by omega) (by decide)<|fun w7 g cap sp H7 hG=>Xa Y<|Xr Iz<|zA (zB ?_)
 refine J2<|Xm Y<|OV (zL Y Y (Ad _ (by omega)))<|Xa Y<|Xr Iz<|zA (zH ?_)
 exact⟨s.entries.length - (q+1),by omega,q+1,_,g,cap,_,sp,Y,(Oc Y Y Y Y Y Y),by omega,by omega,hG,by rw[yM hxv,Dx,← Bh];exact hA.app (wC.one ⟨none,0,_,_,Y,Bs.none _ _,hbv⟩),H7.pick [0,1,2] (by decide)⟩
 obtain rfl:q=s.entries.length:=by omega
 rw[Bz]at hA
 refine Xr Iz<|J4 Y<|J8<|zU<|zS<|J1<|Rq<|Xf vZ Y<|OV (EN vA Y (vs:=Gq s) Y (H5.Ap (i:=2) Y Y))<|OV (EB vA CD Y Y)<|OT (sL Y Y) (fun Qk=>?_) (fun Qk=>?_)
 have hpm:sB i s=[ntP i s.p]:=if_pos Qk
 have hil2:(sB i s).length=1:=by rw[hpm];rfl
 have Gi:=hA.len
 try simp only[Ae,Bg,Aw]at Gi
 refine Xr Iz<|J3 Y<|J2<|Xm Y<|Xm Y<|Xf vZ Y<|OV (EN vA Y (vs:=Gq s) Y (H5.Ap (i:=2) Y Y))<|Ag Iz<|OV (EB xH oA Y (cs:=Hl i s) (by kernel_rfl))<|zE Lc xH H5 (cs:=Hl i s) Y (by decide) (by kernel_rfl)<|fun w6 gk H6 _=>xB Lc xH (by decide) H6 1 hG Y Y (rs:=[Hl i s]) (m:=1) Y Y (H6.rd (i:=3) (o:=some _) (xs:=Hl i s) (sp:=[]) Y Y (by decide)) (Pl.one Y) (fun p hp=>by rw[Az.1 hp];rfl) (by omega) (by omega) (by decide)<|fun w7 g cap sp H7 hG=>?_
 obtain⟨qs,Rh⟩:∃ q,q=qs++[Hl i s]:=⟨_,rfl⟩
 rw[← Rh]at hG H7 ⊢
 replace hA:wC (NtR w0 (fun x=>ok x∧x < w0.heap.size)) qs (gN (b.groups.take i)++tP i s++s.entries.map (Um i)++sB i s):=by
  rw[Rh,hpm]
  exact hA.app (wC.one ⟨none,0,none,0,Y,Bs.none _ _,Bs.none _ _⟩)
 clear Rh
 refine Xa Y<|Xr Iz ?_
 have m1:=()
 rotate_left 1
 have hpm:sB i s=[]:=if_neg Qk
 replace hA:wC (NtR w0 (fun x=>ok x∧x < w0.heap.size)) qs (gN (b.groups.take i)++tP i s++s.entries.map (Um i)++sB i s):=by rw[hpm,Dt];exact hA
 refine Xr Iz<|J4 Y<|J6<|Rq<|Xa Y<|Xr Iz<|J7<|zV (fun nQ lQ w=>∃ (q:Nat) (z:Int) (g:Option Nat) (cap:Nat) (qs:List (List Value)) (sp:List Value),s.Bc.length - q=nQ∧xM (Hy [(1,Ah gb),(3,Ac (hd g) qs.length cap),(4,Aa (i:Int)),(5,Ah g5),(7,Aa z)] 0 96) lQ∧z=(q:Int)∧q≤s.Bc.length∧Gw 16 g cap qs sp∧wC (NtR w0 (fun x=>ok x∧x < w0.heap.size)) qs (gN (b.groups.take i)++tP i s++s.entries.map (Um i)++sB i s++(s.Bc.take q).map (ntV i))∧Hp w0 w ([]) [((some gb,41,Nq (some a1) b k1 A2 k2 A3 m3 k3):Ent),(g,81,qs.flatten++sp),(some g5,97,Bv s D1 e1 D2 e2 D3 e3)]) (s.Bc.length) ?_ ?_
 exact⟨0,_,g,cap,qs,sp,Y,(Oc Y Y Y Y Y Y),Y,Am _,hG,by simpa using hA,H5.pick [0,1,2] (by decide)⟩
 rintro nQ lQ w6 ⟨q,z,g,cap,qs,sp,rfl,hfit,rfl,hqi,hG,hA,H6⟩
 obtain⟨j,rfl⟩:=hfit.open
 refine cR Iz ?_
 clear hfit
 refine J1<|Rq<|Xm Y<|Xf xW Y<|OV (EL uP Y (H6.cell (i:=2) Y Y))<|OV (ES Jd Y)<|Ag Iz<|OT (zQ Y Y) (fun ZT=>?_) (fun ZT=>?_)
 have Py:q < s.Bc.length:=by omega
 obtain⟨v,hxv⟩:=yL Py
 obtain⟨pv,hpv1,hRv⟩:=h2v.get hxv
 obtain⟨G1,f1,rfl,hbv⟩:=hRv
 obtain⟨a3,Uy⟩:=Vh.some_ (by omega)
 subst Uy
 have Gi:=hA.len
 try simp only[Ae,Bg,Aw]at Gi
 refine Xr Iz<|J3 Y<|J6<|J1<|J7<|J2<|Xm Y<|Xm Y<|Xf xW Y<|OV (EL uP Y (H6.cell (i:=2) Y Y))<|Ag Iz<|Xm Y<|OV (EI Jd xE Y Y Y Py Y)<|OV (EN xE Y (vs:=Dl v G1 f1) Y (((Vh.move (by decide) hav H6 Ug).1).elem hpv hpv1))<|OV (EB xH oA Y (cs:=Gf i v G1 f1) (by kernel_rfl))<|Ag Iz<|zE Lc xH H6 (cs:=Gf i v G1 f1) Y (by decide) (by kernel_rfl)<|fun w7 gk H7 _=>xB Lc xH (by decide) H7 1 hG Y Y (rs:=[Gf i v G1 f1]) (m:=1) Y Y (H7.rd (i:=3) (o:=some _) (xs:=Gf i v G1 f1) (sp:=[]) Y Y (by decide)) (Pl.one Y) (fun p hp=>by rw[Az.1 hp];rfl) (by omega) (by omega) (by decide)<|fun w8 g cap sp H8 hG=>Xa Y<|Xr Iz<|zA (zB ?_)
 refine J2<|Xm Y<|OV (zL Y Y (Ad _ (by omega)))<|Xa Y<|Xr Iz<|zA (zH ?_)
 exact⟨s.Bc.length - (q+1),by omega,q+1,_,g,cap,_,sp,Y,(Oc Y Y Y Y Y Y),by omega,by omega,hG,by rw[yM hxv,Dx,← Bh];exact hA.app (wC.one ⟨_,_,none,0,Y,hbv,Bs.none _ _⟩),H8.pick [0,1,2] (by decide)⟩
 obtain rfl:q=s.Bc.length:=by omega
 rw[Bz]at hA
 refine Xr Iz<|J4 Y<|J8<|zU<|zS<|zA (zB ?_)
 refine J2<|Xm Y<|OV (zL Y Y (Ad _ (by omega)))<|Xa Y<|Xr Iz<|zA (zH ?_)
 have hti:(b.groups.take i).length=i:=by rw[Aw];omega
 exact⟨b.groups.length - (i+1),by omega,i+1,_,g,cap,qs,sp,Y,(Uh Y Y Y Y),by omega,by omega,hG,by rw[yM hx,oG,hti];unfold Vd;simpa only[Bh]using hA,H6.pick [0,1] (by decide)⟩
 obtain rfl:i=b.groups.length:=by omega
 rw[Bz]at hA
 refine Xr Iz<|J4 Y<|J8<|zU<|zS<|J1<|Rq<|Xa Y<|Xr Iz<|J7<|zV (fun nQ lQ w=>∃ (q:Nat) (z:Int) (g:Option Nat) (cap:Nat) (qs:List (List Value)) (sp:List Value),b.rights.length - q=nQ∧xM (Hy [(1,Ah gb),(3,Ac (hd g) qs.length cap),(8,Aa z)] 0 96) lQ∧z=(q:Int)∧q≤b.rights.length∧Gw 16 g cap qs sp∧wC (NtR w0 (fun x=>ok x∧x < w0.heap.size)) qs (gN b.groups++(b.rights.take q).map ntF)∧Hp w0 w ([]) [((some gb,41,Nq (some a1) b k1 A2 k2 A3 m3 k3):Ent),(g,81,qs.flatten++sp)]) (b.rights.length) ?_ ?_
 exact⟨0,_,g,cap,qs,sp,Y,(Uh Y Y Y Y),Y,Am _,hG,by simpa using hA,H2⟩
 rintro nQ lQ w3 ⟨q,z,g,cap,qs,sp,rfl,hfit,rfl,hqi,hG,hA,H3⟩
 obtain⟨j,rfl⟩:=hfit.open
 refine cR Iz ?_
 clear hfit
 refine J1<|Rq<|Xm Y<|Xf sI Y<|OV (EL lF Y (H3.cell (i:=0) Y Y))<|OV (ES Ht Y)<|Ag Iz<|OT (zQ Y Y) (fun ZR=>?_) (fun ZR=>?_)
 have Py:q < b.rights.length:=by omega
 obtain⟨v,hxv⟩:=yL Py
 obtain⟨pv,hpv1,hRv⟩:=h2r.get hxv
 unfold Nu at hRv
 subst hRv
 obtain⟨a3,Uy⟩:=hrr.some_ (by omega)
 subst Uy
 have hnl:b.notes.length=(gN b.groups).length+b.rights.length:=by unfold Bo.notes;simp only[Ae,Bg]
 have Gi:=hA.len
 try simp only[Ae,Bg,Aw]at Gi
 refine Xr Iz<|J3 Y<|J6<|J1<|J7<|J2<|Xm Y<|Xf sI Y<|OV (EL lF Y (H3.cell (i:=0) Y Y))<|Xm Y<|Ag Iz<|OV (EI Ht xA Y Y Y Py Y)<|OV (EN xA Y (vs:=Ar v) Y (((hrr.move (by decide) har H3 Ug).1).elem hpr hpv1))<|OV (EB xH oA Y (cs:=Ns v) (by kernel_rfl))<|zE Lc xH H3 (cs:=Ns v) Y (by decide) (by kernel_rfl)<|fun w4 gk H4 _=>Ag Iz<|xB Lc xH (by decide) H4 1 hG Y Y (rs:=[Ns v]) (m:=1) Y Y (H4.rd (i:=2) (o:=some _) (xs:=Ns v) (sp:=[]) Y Y (by decide)) (Pl.one Y) (fun p hp=>by rw[Az.1 hp];rfl) (by omega) (by omega) (by decide)<|fun w5 g cap sp H5 hG=>Xa Y<|Xr Iz<|zA (zB ?_)
 refine J2<|Xm Y<|OV (zL Y Y (Ad _ (by omega)))<|Xa Y<|Xr Iz<|zA (zH ?_)
 exact⟨b.rights.length - (q+1),by omega,q+1,_,g,cap,_,sp,Y,(Uh Y Y Y Y),by omega,by omega,hG,by rw[yM hxv,Dx,← Bh];exact hA.app (wC.one ⟨none,0,none,0,Y,Bs.none _ _,Bs.none _ _⟩),H5.pick [0,1] (by decide)⟩
 obtain rfl:q=b.rights.length:=by omega
 rw[Bz]at hA
 refine Xr Iz<|J4 Y<|J8<|zU<|zS<|Rq<|Xm Y<|Xa Y<|Xr Iz<|J5<|Cm Y Y ?_
 have hlq:qs.length=b.notes.length:=hA.len
 have HW:=H3
 rw[hlq]
 exact⟨hd g,cap,rfl,Sl.row HW (i:=1) rfl hG.2.2.2 (by decide) (hA.imp fun p x h=>NtR.to h H3 fun x hx _=>⟨by simp,.inl hx⟩) (fun k hk=>by subst hk;exact .inr (HW.new (i:=1) rfl)),HW.Af⟩
 any_goals
  clear m1
  refine Rq<|Xa Y<|Xr Iz<|J7<|zV (fun nQ lQ w=>∃ (q:Nat) (z:Int) (g:Option Nat) (cap:Nat) (qs:List (List Value)) (sp:List Value),s.Bc.length - q=nQ∧xM (Hy [(1,Ah gb),(3,Ac (hd g) qs.length cap),(4,Aa (i:Int)),(5,Ah g5),(7,Aa z)] 0 96) lQ∧z=(q:Int)∧q≤s.Bc.length∧Gw 16 g cap qs sp∧wC (NtR w0 (fun x=>ok x∧x < w0.heap.size)) qs (gN (b.groups.take i)++tP i s++s.entries.map (Um i)++sB i s++(s.Bc.take q).map (ntV i))∧Hp w0 w ([]) [((some gb,41,Nq (some a1) b k1 A2 k2 A3 m3 k3):Ent),(g,81,qs.flatten++sp),(some g5,97,Bv s D1 e1 D2 e2 D3 e3)]) (s.Bc.length) ?_ ?_
  exact⟨0,_,g,cap,qs,sp,Y,(Oc Y Y Y Y Y Y),Y,Am _,hG,by simpa using hA,H7.pick [0,1,2] (by decide)⟩
  rintro nQ lQ w8 ⟨q,z,g,cap,qs,sp,rfl,hfit,rfl,hqi,hG,hA,H8⟩
  obtain⟨j,rfl⟩:=hfit.open
  refine cR Iz ?_
  clear hfit
  refine J1<|Rq<|Xm Y<|Xf xW Y<|OV (EL uP Y (H8.cell (i:=2) Y Y))<|OV (ES Jd Y)<|Ag Iz<|OT (zQ Y Y) (fun ZT=>?_) (fun ZT=>?_)
  have Py:q < s.Bc.length:=by omega
  obtain⟨v,hxv⟩:=yL Py
  obtain⟨pv,hpv1,hRv⟩:=h2v.get hxv
  obtain⟨G1,f1,rfl,hbv⟩:=hRv
  obtain⟨a3,Uy⟩:=Vh.some_ (by omega)
  subst Uy
  have Gi:=hA.len
  try simp only[Ae,Bg,Aw]at Gi
  refine Xr Iz<|J3 Y<|J6<|J1<|J7<|J2<|Xm Y<|Xm Y<|Xf xW Y<|OV (EL uP Y (H8.cell (i:=2) Y Y))<|Ag Iz<|Xm Y<|OV (EI Jd xE Y Y Y Py Y)<|OV (EN xE Y (vs:=Dl v G1 f1) Y (((Vh.move (by decide) hav H8 Ug).1).elem hpv hpv1))<|OV (EB xH oA Y (cs:=Gf i v G1 f1) (by kernel_rfl))<|Ag Iz<|zE Lc xH H8 (cs:=Gf i v G1 f1) Y (by decide) (by kernel_rfl)<|fun w9 gk H9 _=>xB Lc xH (by decide) H9 1 hG Y Y (rs:=[Gf i v G1 f1]) (m:=1) Y Y (H9.rd (i:=3) (o:=some _) (xs:=Gf i v G1 f1) (sp:=[]) Y Y (by decide)) (Pl.one Y) (fun p hp=>by rw[Az.1 hp];rfl) (by omega) (by omega) (by decide)<|fun w10 g cap sp Df hG=>Xa Y<|Xr Iz<|zA (zB ?_)
  refine J2<|Xm Y<|OV (zL Y Y (Ad _ (by omega)))<|Xa Y<|Xr Iz<|zA (zH ?_)
  exact⟨s.Bc.length - (q+1),by omega,q+1,_,g,cap,_,sp,Y,(Oc Y Y Y Y Y Y),by omega,by omega,hG,by rw[yM hxv,Dx,← Bh];exact hA.app (wC.one ⟨_,_,none,0,Y,hbv,Bs.none _ _⟩),Df.pick [0,1,2] (by decide)⟩
  obtain rfl:q=s.Bc.length:=by omega
  rw[Bz]at hA
  refine Xr Iz<|J4 Y<|J8<|zU<|zS<|zA (zB ?_)
  refine J2<|Xm Y<|OV (zL Y Y (Ad _ (by omega)))<|Xa Y<|Xr Iz<|zA (zH ?_)
  have hti:(b.groups.take i).length=i:=by rw[Aw];omega
  exact⟨b.groups.length - (i+1),by omega,i+1,_,g,cap,qs,sp,Y,(Uh Y Y Y Y),by omega,by omega,hG,by rw[yM hx,oG,hti];unfold Vd;simpa only[Bh]using hA,H8.pick [0,1] (by decide)⟩
set_option maxHeartbeats 4000000
theorem XF (A:Option Addr) (k:Nat) (l:List Nt) (Ob:Nat→Prop) (b:Bo) (A1:Option Addr) (k1:Nat) (A2:Option Addr) (k2:Nat) (A3:Option Addr) (k3:Nat) (N:Nat) (ok:Nat→Prop) (w0:World) (hl:Sl (NtR w0 Ob) 16 w0 Ob A l) (hn:l.length≤30) (hnt:∀ n∈l,NtB n) (hb1:Sl (Qz w0 ok) 6 w0 ok A1 b.groups) (hb2:Sl Nu 4 w0 ok A2 b.rights) (hg:rE b N) (hbb:BoB b) (hN:N≤800000000000) (hnn:b.notes.length≤1000000):Aj 18 #[Ac A l.length k,.agg (Bd A1 b k1 A2 k2 A3 k3).toArray] w0 (fun r w'=>r=.bool (decide (F8 (l++b.notes)))∧Hp w0 w' [] []):=by
 refine zG Tryz.func18 Tryz.ntmps18 Y<|cR e45 ?_
 have H:=Hp.refl w0
 have hown:=jA hg hbb
 have hlb:(l++b.notes).length≤1000030:=by rw[Ae];omega
 refine Rq<|yA Y Y H<|fun w1 g1' H1 hg1'=>Xa Y<|Xr e45<|Rq<|Xa Y<|Xr e45<|J1<|zR 5 [(true,0),(true,2),(false,1),(false,3),(false,4),(false,5)] H1 [0] yE (by decide) (by kernel_rfl) ?_
 rintro w2 hw2
 have H2:=Hp.drew H1;rw[← hw2]at H2
 refine Zm Y Y<|MP Y<|MV (fun wz hz=>EN xT Y (vs:=Bd A1 b k1 A2 k2 A3 k3) Y (hz.Ap (i:=0) Y Y))<|MO Y ?_
 obtain⟨nC,hnC⟩:∃ n,n=w2.heap.size:=⟨_,rfl⟩
 have hg3l:=H2.lt (i:=0) rfl
 refine OQ (EC gf49 Y) (XN A k l Ob _ (hl.toN H2 k0) (by omega)) ?_
 rintro _ w3 ⟨g1,c1,q1,s1,he1,hG1,hA1,Hd⟩
 rw[← hA1.len]at he1
 subst he1
 rw[← hnC]at hA1
 have H3:=H2.call0 Hd
 have hs1:=Hd.size
 have hp1:∀ x,g1=some x→nC≤x:=fun x hx=>by subst hx;have:=XS Hd (k:=x) (by simp[bl]);omega
 refine OE ?_
 refine⟨fun hne=>H3.pick [0] (by decide),?_⟩
 refine cZ e45<|MO Y ?_
 obtain⟨nD,hnD⟩:∃ n,n=w3.heap.size:=⟨_,rfl⟩
 have hp1b:∀ x,g1=some x→x < nD:=fun x hx=>by subst hx;have:=H3.lt (i:=1) rfl;omega
 have hkb:∀ x,ok x→x < w0.heap.size→x∉([]:List Nat)∧(ok x∧x < w0.heap.size):=fun x hx hl=>⟨by simp,hx,hl⟩
 refine OQ (EC gf21 Y) (S2 b A1 k1 A2 k2 A3 b.last.length k3 N _ _ (hb1.toS H3 hkb) (hb2.toR H3 hkb) hg (by omega) (by omega)) ?_
 rintro _ w4 ⟨A9,k9,he9,hM,Hd⟩
 obtain⟨pn,hpn,hrn,han,h2n⟩:=id hM
 have hlpn:=h2n.len
 rw[← hlpn]at he9
 subst he9
 have hszd:=Hd.size
 have hQ1:=hA1.imp fun p x h=>NtR.to (ok':=fun x=>(nC≤x∧g1≠some x)∧x < nD) h.nt Hd fun x hx hlt=>⟨by simp,hx,by omega⟩
 have H4:=H3.Au Hd
 refine OE ?_
 refine⟨fun hne=>H4.pick [0] (by decide),?_⟩
 refine cZ e45<|MO Y ?_
 have hlq1:=hA1.len
 have HP:=H4
 have HG:=HP.here
 refine xB Lc xH (by decide) HG 1 hG1 Y Y (rs:=pn) Y Y (show Rd _ _ pn.length 16 pn.flatten from by rw[hlpn];exact hrn) hpn (wC.ones (fun _ _ h=>NtR.ones h) h2n) (by omega) (by omega) (by decide)<|fun w5 g9 cap9 sp9 HN5 hG9=>?_
 have hbl:∀ x,x∈bl [((some g1',41,[]):Ent),(g1,81,[])]→x=g1'∨g1=some x:=fun x hx=>by
  rcases Ew.1 hx with ⟨e,he,hg⟩
  simp only[Cj,Jh,or_false]at he
  rcases he with rfl | rfl
  · exact .inl (by simpa using hg.symm)
  exact .inr hg
 have hA12:wC (NtR w5 (fun _=>True)) (q1++pn) (l++b.notes):=(hQ1.imp fun p x h=>h.to HN5 fun x hx _=>⟨fun hb=>(show False from by
  rcases hbl x hb with h | h
  · omega
  · exact hx.1.2 h),trivial⟩).app (h2n.imp fun p x h=>h.to HN5 fun x hx _=>⟨fun hb=>(show False from by
  rcases hbl x hb with h | h
  · rcases hx with hx | hx
    · have:=hx.1.2;omega
    omega
  have h1:=hp1 x h
  have h2:=hp1b x h
  rcases hx with hx | hx
  · have:=hx.1.2;omega
  omega),trivial⟩)
 have hS9:Sl (NtR w5 (fun _=>True)) 16 w5 (fun _=>True) (hd g9) (l++b.notes):=Sl.row HN5 (i:=1) rfl hG9.2.2.2 (by decide) hA12 fun _ _=>trivial
 have hlen12:=hA12.len
 rw[hlen12]
 obtain⟨ps,hp,hr,ha,h2⟩:=id hS9
 have H5:=HP.all HN5
 refine OE ?_
 refine⟨fun hne=>H5.pick [0] (by decide),?_⟩
 refine cZ e45<|MO Y<|Xa Y<|OE<|⟨fun hne=>absurd Y hne,?_⟩
 refine cZ e45<|ME<|cR e45<|J1<|Rq ?_
 have HQ:=H5.Af
 replace H5:Hp w5 w5 [] []:=Hp.refl _
 refine Xa Y<|Xr e45<|J7<|zV (fun nQ lQ w=>∃ (i:Nat) (y z:Int),(l++b.notes).length - i=nQ∧xM (Hy [(5,Aa z),(6,Ac (hd g9) (l++b.notes).length cap9),(7,Aa y)] 0 45) lQ∧y=(i:Int)∧i≤(l++b.notes).length∧z=((used (((l++b.notes).take i).map yV):Nat):Int)∧(∀ n∈(l++b.notes).take i,tO n)∧used (((l++b.notes).take i).map yV)≤2032∧Hp w5 w [] []) ((l++b.notes).length) ?_ ?_
 exact⟨0,_,_,Y,(Uh Y Y Y Y),Y,Am _,Y,(fun n hn=>by simp at hn),by simp[used],H5⟩
 rintro nQ lQ w6 ⟨i,y,z,rfl,hfit,rfl,hi,hz,hsh,hus,HL⟩
 obtain⟨j,rfl⟩:=hfit.open
 refine cR e45 ?_
 clear hfit
 have H6:=Hp.refl w6
 refine J1<|Rq<|Xm Y<|Xm Y<|OV (ES Lc Y)<|OT (zQ Y Y) (fun hp18=>?_) (fun hp18=>?_)
 have hil:i < (l++b.notes).length:=by omega
 obtain⟨nt,hx⟩:=yL hil
 obtain⟨p1,hp1,hR⟩:=h2.get hx
 obtain⟨B1,j1,B2,j2,rfl,hbv,Sm⟩:=hR
 obtain⟨a1,ha1⟩:=hr.some_ (by omega)
 have hntb:NtB nt:=by
  rcases Bq.1 (mem_of hx)with hm | hm
  · exact hnt nt hm
  exact(hown nt hm).1
 refine Xr e45<|J3 Y<|J6<|J1<|J7<|Rq<|Xm Y<|Xm Y ?_
 rw[ha1]at hr
 refine OV (EI Lc xH (a:=a1) (congrArg (fun A=>some (Ac A (l++b.notes).length cap9)) ha1) Y Y hil Y)<|OV (EN xH Y (vs:=Ed nt B1 j1 B2 j2) Y (((hr.to0 HL).to0 H6).elem hp hp1))<|Ag e45<|OQ (EC gf50 Y) (OF (Px nt) _ _ (WF (ok:=fun _=>True) ⟨B1,j1,B2,j2,Y,(hbv.to HL k0).to H6 k0,(Sm.to HL k0).to H6 k0⟩ hntb)) ?_
 rintro _ w7 ⟨gn,cn,sn,rfl,hn1,hn2,hn3,hn4,HdN⟩
 have H7:=H6.Au HdN
 refine Xm Y<|Xe Y Y<|Xe Y Y<|Ag e45<|Xa Y<|Xa Y<|Xr e45<|J1<|Rq<|Xm Y<|OT (yR Y Y) (fun hp30=>?_) (fun hp30=>?_)
 refine Xm Y<|Ag e45<|Oz 3 Y<|Ag e45<|Xt Y Y<|Xr e45<|J3 Y<|Rq<|Xa Y<|Xr e45<|J5<|BR<|yN<|BR<|Cm Y Y<|⟨by rw[JP (mem_of hx) (fun hs=>hp30 (by show((Og nt:Nat):Int)=0;rw[hs.1];rfl))],((HQ.Au (HL.Au H7)).Af)⟩
 refine Xm Y<|Ag e45<|OY Y<|Xm Y<|OY Y<|OV (ES Gz Y)<|Ag e45<|OY Y<|OT (yS Y Y) (fun Wn=>?_) (fun Wn=>?_)
 refine Xu Y Y<|Xr e45<|J3 Y<|Rq<|Xa Y<|Xr e45<|J5<|BR<|yN<|BR<|Cm Y Y ?_
 exact⟨by rw[JP (mem_of hx) (fun hs=>by
  have h8:=hs.2
  have h9:16384 < ((yV nt).length:Int):=Wn
  omega)],((HQ.Au (HL.Au H7)).Af)⟩
 have h8:¬(((Og nt:Nat):Int)≠0):=hp30
 have h9:¬(16384 < ((yV nt).length:Int)):=Wn
 have hst:tO nt:=⟨by omega,by omega⟩
 have hnx:=fN hx
 have hwg:wgt (yV nt).length=((yV nt).length+63) / 64+2:=rfl
 refine Xu Y Y<|Xr e45<|J4 Y<|J6<|Rq<|Xm Y<|Xm Y<|OV (ES Gz Y)<|OV (zL Y Y ((Ad (((yV nt).length:Int)+63) (by omega))))<|Ag e45<|OV (aA Y Y (by omega) ((w63 (yV nt).length (by omega))))<|OV (zL Y Y (Ad _ (by omega)))<|OV (zL Y Y ((Ad _ (by omega)).trans (show z+(((yV nt).length+63) / 64:Nat)+2=((used (((l++b.notes).take (i+1)).map yV):Nat):Int) by omega)))<|Xa Y<|Xr e45<|Rq<|Xm Y<|OT (yS Y Y) (fun hp44=>?_) (fun hp44=>?_)
 refine Xr e45<|J3 Y<|Rq<|Xa Y<|Xr e45<|J5<|BR<|yN<|BR<|Cm Y Y<|⟨by rw[PZ (i:=i+1) (by omega)],((HQ.Au (HL.Au H7)).Af)⟩
 refine Xr e45<|J4 Y<|J6<|zA (zB ?_)
 refine J2<|Xm Y<|OV (zL Y Y (Ad _ (by omega)))<|Xa Y<|Xr e45<|zA (zH ?_)
 exact⟨(l++b.notes).length - (i+1),by omega,i+1,_,_,Y,(Uh Y Y Y Y),by omega,by omega,Y,(fun n hn=>by
  rw[yM hx]at hn
  rcases Bq.1 hn with h1 | h1
  · exact hsh n h1
  rw[Az.1 h1];exact hst),by omega,HL.Au H7⟩
 obtain rfl:i=(l++b.notes).length:=by omega
 refine Xr e45<|J4 Y<|J8<|zU<|zS<|Rq<|Xa Y<|Xr e45<|J5<|Cm Y Y<|⟨by rw[PY hsh hus],((HQ.Au (HL.Au H6)).Af)⟩
end Go.Proofs.YtjoeklkmnfaabaaGreat
namespace Go.Proofs.YtjoeklkmnfaabaaGreat
open Go Go.RowKit
set_option linter.unusedVariables false
set_option linter.unusedSimpArgs false
theorem Vt.ext_iff' {a b:Vt}:a=b↔a.slot=b.slot∧(a.b.r=b.b.r∧a.b.n=b.b.n)∧a.val=b.val:=by
 rcases a with ⟨_,⟨_,_⟩,_⟩;rcases b with ⟨_,⟨_,_⟩,_⟩;simp
theorem En.ext_iff' {a b:En}:a=b↔a.slot=b.slot∧a.val=b.val:=by cases a;cases b;simp
theorem Mk.ext_iff' {a b:Mk}:a=b↔a.client=b.client∧a.seq=b.seq:=by cases a;cases b;simp
theorem Sv.ext_iff' {a b:Sv}:a=b↔(a.p.r=b.p.r∧a.p.n=b.p.n)∧a.Bc=b.Bc∧a.index=b.index∧a.image=b.image∧a.entries=b.entries:=by
 rcases a with ⟨⟨_,_⟩,_,_,_,_⟩;rcases b with ⟨⟨_,_⟩,_,_,_,_⟩;simp
theorem Bo.ext_iff' {a b:Bo}:a=b↔a.groups=b.groups∧a.rights=b.rights∧a.last=b.last:=by cases a;cases b;simp
instance:DecidableEq Vt:=fun _ _=>decidable_of_iff _ Vt.ext_iff'.symm
instance:DecidableEq En:=fun _ _=>decidable_of_iff _ En.ext_iff'.symm
instance:DecidableEq Mk:=fun _ _=>decidable_of_iff _ Mk.ext_iff'.symm
instance:DecidableEq Sv:=fun _ _=>decidable_of_iff _ Sv.ext_iff'.symm
instance:DecidableEq Bo:=fun _ _=>decidable_of_iff _ Bo.ext_iff'.symm
section
variable {l:List Value} {w:World} {ty t t':TypeId} {x y:Operand}
theorem G8 {r q:Rt} (hx:ev l x=some (.agg (Jv r).toArray)) (hy:ev l y=some (.agg (Jv q).toArray)):Ex Tryz.prog l (.binOp .neq 35 x y t') ty w (.value (.bool (decide (r≠q)))) w:=by
 have h:=aE (ty:=ty) (t':=t') (w:=w) (op:=.neq) (P:=Tryz.prog) (t:=35) (by kernel_rfl) (fun w=>QH r q w 9998) hx hy (.inr rfl)
 rw[decide_not]
 exact h
theorem XK (m q:Mk) (w:World) (n:Nat):(Op.equalIn (n+3) 110 (.agg (Tz m).toArray) (.agg (Tz q).toArray)).run Tryz.prog w=.ok (decide (m=q)) w:=by
 have u3:=Tryz.underlying3
 have a3:=Tryz.isAgg3
 have z3:=Tryz.sizeOf3
 have u4:=Tryz.underlying4
 have a4:=Tryz.isAgg4
 have z4:=Tryz.sizeOf4
 have a5:=Tryz.isAgg108
 have z5:=Tryz.sizeOf108
 have e5:=fun w=>eq_an w n
 have hS:Tryz.prog.underlying 110=some (.struct (Tryz.prog.fieldsOf 110)):=by kernel_rfl
 have hp:Tryz.prog.stoodInHeld 110=false:=by kernel_rfl
 rw[show(n+3:Nat)=(n+2)+1 from rfl,run_equalIn_agg w (n+2) 110 _ _ hS hp]
 simp only[Program.fieldsOf,Tryz.underlying110,Tz]
 simp only[List.toArray]at e5 ⊢
 rw[show decide (m=q)=decide (m.client=q.client∧m.seq=q.seq) from decide_eq_decide.2 Mk.ext_iff']
 go_simp
 by_cases h1:m.client=q.client <;>by_cases h2:m.seq=q.seq <;>simp[h1,h2]
theorem G9 {m q:Mk} (hx:ev l x=some (.agg (Tz m).toArray)) (hy:ev l y=some (.agg (Tz q).toArray)):Ex Tryz.prog l (.binOp .neq 110 x y t') ty w (.value (.bool (decide (m≠q)))) w:=by
 have h:=aE (ty:=ty) (t':=t') (w:=w) (op:=.neq) (P:=Tryz.prog) (t:=110) (by kernel_rfl) (fun w=>XK m q w 9997) hx hy (.inr rfl)
 rw[decide_not]
 exact h
end
theorem nI {X:Type} {l m:List X} {i:Nat} {x y:X} (h:l.take i=m.take i) (hx:l[i]? =some x) (hy:m[i]? =some y) (he:x=y):l.take (i+1)=m.take (i+1):=by
 rw[yM hx,yM hy,h,he]
theorem iZ {X:Type} {l m:List X} {i:Nat} {x y:X} (hx:l[i]? =some x) (hy:m[i]? =some y) (he:¬x=y):¬l=m:=fun h=>by
 subst h
 rw[hx]at hy
 exact he (Option.some.inj hy)
theorem lK {X:Type} {l m:List X} (h:l.take l.length=m.take l.length) (hl:l.length=m.length):l=m:=by
 rw[Bz,hl,Bz]at h
 exact h
end Go.Proofs.YtjoeklkmnfaabaaGreat
namespace Go.Proofs.YtjoeklkmnfaabaaGreat
open Go Go.RowKit
set_option linter.unusedVariables false
set_option linter.unusedSimpArgs false
attribute [local irreducible] yW Ops zP Cd
set_option maxRecDepth 100000
set_option maxHeartbeats 4000000
theorem eqpR (A B:Option Addr) (ka kb:Nat) (l m:List Rt) (ok ok2:Nat→Prop) (w0:World) (hl:Sl Nu 4 w0 ok A l) (hm:Sl Nu 4 w0 ok2 B m) (hn:l.length≤1000000000000000000) (hn2:m.length≤1000000000000000000):Aj 44 #[Ac A l.length ka,Ac B m.length kb] w0 (fun r w'=>r=.bool (decide (l=m))∧Hp w0 w' [] []):=by
 refine zG Tryz.func44 Tryz.ntmps44 Y<|cR e26 ?_
 have H:=Hp.refl w0
 obtain⟨ps,hp,hr,_,h2⟩:=hl
 obtain⟨qs,hq,hrb,_,h2b⟩:=hm
 refine Rq<|Xa Y<|Xr e26<|J1<|Rq<|Xm Y<|OV (ES Ht Y)<|Xm Y<|OV (ES Ht Y)<|Ag e26<|OT (yR Y Y) (fun hp10=>?_) (fun hp10=>?_)
 refine Xr e26<|J3 Y<|Rq<|Xa Y<|Xr e26<|J5<|Cm Y Y<|⟨bf (fun h=>hp10 (by rw[h])),H.Af⟩
 have hlm:l.length=m.length:=by omega
 refine Xr e26<|J4 Y<|J6<|J1<|Rq<|Xa Y<|Xr e26<|J7<|zV (fun nQ lQ w=>∃ (i:Nat) (y:Int),l.length - i=nQ∧xM (Hy [(0,Ac A l.length ka),(1,Ac B m.length kb),(5,Aa y)] 0 26) lQ∧y=(i:Int)∧i≤l.length∧l.take i=m.take i∧Hp w0 w [] []) (l.length) ?_ ?_
 exact⟨0,_,Y,(Uh Y Y Y Y),Y,Am _,Y,H.Af⟩
 rintro nQ lQ w1 ⟨i,y,rfl,hfit,rfl,hi,heq,H1⟩
 obtain⟨j,rfl⟩:=hfit.open
 refine cR e26 ?_
 clear hfit
 refine J1<|Rq<|Xm Y<|Xm Y<|OV (ES Ht Y)<|OT (zQ Y Y) (fun hp14=>?_) (fun hp14=>?_)
 have hil:i < l.length:=by omega
 obtain⟨x,hx⟩:=yL hil
 obtain⟨y,hy⟩:=yL (l:=m) (j:=i) (by omega)
 obtain⟨p1,hp1,hR⟩:=h2.get hx
 obtain⟨p2,hp2,hR2⟩:=h2b.get hy
 obtain⟨a1,ha1⟩:=hr.some_ (by omega)
 obtain⟨a2,ha2⟩:=hrb.some_ (by omega)
 subst ha1 ha2
 unfold Nu at hR hR2
 subst hR hR2
 refine Xr e26<|J3 Y<|J6<|J1<|J7<|J1<|vW yE (by kernel_rfl) ?_
 rintro w2 hw2
 have H2:=Hp.drew H1;rw[← hw2]at H2
 refine SV (zI Y)<|SV (zI Y)<|SV (EI Ht xA Y Y (len:=l.length) (i:=i) (by omega) (by omega) Y)<|SV (EN xA Y (vs:=Ar x) Y ((hr.to0 H2).elem hp hp1))<|wX e26<|SV (zI Y)<|SV (zI Y)<|SV (EI Ht xA Y Y (len:=m.length) (i:=i) (by omega) (by omega) Y)<|SV (EN xA Y (vs:=Ar y) Y ((hrb.to0 H2).elem hq hp2))<|wX e26<|vB (G8 Y Y) (fun hp25=>?_) (fun hp25=>?_)
 refine xJ<|cR e26<|J3 Y<|Rq<|Xa Y<|Xr e26<|J5<|BR<|yN<|BR<|Cm Y Y<|⟨bf (iZ hx hy hp25),H2.Af⟩
 refine xJ<|cR e26<|J4 Y<|J6<|zA (zB ?_)
 refine J2<|Xm Y<|OV (zL Y Y (Ad _ (by omega)))<|Xa Y<|Xr e26<|zA (zH ?_)
 exact⟨l.length - (i+1),by omega,i+1,_,Y,(Uh Y Y Y Y),by omega,by omega,nI heq hx hy (Decidable.of_not_not hp25),H2.Af⟩
 obtain rfl:i=l.length:=by omega
 refine Xr e26<|J4 Y<|J8<|zU<|zS<|Rq<|Xa Y<|Xr e26<|J5<|Cm Y Y<|⟨bt (lK heq hlm),H1.Af⟩
theorem eqpM (A B:Option Addr) (ka kb:Nat) (l m:List Mk) (ok ok2:Nat→Prop) (w0:World) (hl:Sl Pv 7 w0 ok A l) (hm:Sl Pv 7 w0 ok2 B m) (hn:l.length≤1000000000000000000) (hn2:m.length≤1000000000000000000):Aj 45 #[Ac A l.length ka,Ac B m.length kb] w0 (fun r w'=>r=.bool (decide (l=m))∧Hp w0 w' [] []):=by
 refine zG Tryz.func45 Tryz.ntmps45 Y<|cR e26 ?_
 have H:=Hp.refl w0
 obtain⟨ps,hp,hr,_,h2⟩:=hl
 obtain⟨qs,hq,hrb,_,h2b⟩:=hm
 refine Rq<|Xa Y<|Xr e26<|J1<|Rq<|Xm Y<|OV (ES Lp Y)<|Xm Y<|OV (ES Lp Y)<|Ag e26<|OT (yR Y Y) (fun hp10=>?_) (fun hp10=>?_)
 refine Xr e26<|J3 Y<|Rq<|Xa Y<|Xr e26<|J5<|Cm Y Y<|⟨bf (fun h=>hp10 (by rw[h])),H.Af⟩
 have hlm:l.length=m.length:=by omega
 refine Xr e26<|J4 Y<|J6<|J1<|Rq<|Xa Y<|Xr e26<|J7<|zV (fun nQ lQ w=>∃ (i:Nat) (y:Int),l.length - i=nQ∧xM (Hy [(0,Ac A l.length ka),(1,Ac B m.length kb),(5,Aa y)] 0 26) lQ∧y=(i:Int)∧i≤l.length∧l.take i=m.take i∧Hp w0 w [] []) (l.length) ?_ ?_
 exact⟨0,_,Y,(Uh Y Y Y Y),Y,Am _,Y,H.Af⟩
 rintro nQ lQ w1 ⟨i,y,rfl,hfit,rfl,hi,heq,H1⟩
 obtain⟨j,rfl⟩:=hfit.open
 refine cR e26 ?_
 clear hfit
 refine J1<|Rq<|Xm Y<|Xm Y<|OV (ES Lp Y)<|OT (zQ Y Y) (fun hp14=>?_) (fun hp14=>?_)
 have hil:i < l.length:=by omega
 obtain⟨x,hx⟩:=yL hil
 obtain⟨y,hy⟩:=yL (l:=m) (j:=i) (by omega)
 obtain⟨p1,hp1,hR⟩:=h2.get hx
 obtain⟨p2,hp2,hR2⟩:=h2b.get hy
 obtain⟨a1,ha1⟩:=hr.some_ (by omega)
 obtain⟨a2,ha2⟩:=hrb.some_ (by omega)
 subst ha1 ha2
 unfold Pv at hR hR2
 subst hR hR2
 refine Xr e26<|J3 Y<|J6<|J1<|J7<|J1<|vW yE (by kernel_rfl) ?_
 rintro w2 hw2
 have H2:=Hp.drew H1;rw[← hw2]at H2
 refine SV (zI Y)<|SV (zI Y)<|SV (EI Lp yT Y Y (len:=l.length) (i:=i) (by omega) (by omega) Y)<|SV (EN yT Y (vs:=[Aa x.client,Aa x.seq,.bool false,Aa 0,Aa 0,Aa 0,Aa 0]) Y ((hr.to0 H2).elem hp hp1))<|wX e26<|SV (zI Y)<|SV (zI Y)<|SV (EI Lp yT Y Y (len:=m.length) (i:=i) (by omega) (by omega) Y)<|SV (EN yT Y (vs:=[Aa y.client,Aa y.seq,.bool false,Aa 0,Aa 0,Aa 0,Aa 0]) Y ((hrb.to0 H2).elem hq hp2))<|wX e26<|vB (G9 Y Y) (fun hp25=>?_) (fun hp25=>?_)
 refine xJ<|cR e26<|J3 Y<|Rq<|Xa Y<|Xr e26<|J5<|BR<|yN<|BR<|Cm Y Y<|⟨bf (iZ hx hy hp25),H2.Af⟩
 refine xJ<|cR e26<|J4 Y<|J6<|zA (zB ?_)
 refine J2<|Xm Y<|OV (zL Y Y (Ad _ (by omega)))<|Xa Y<|Xr e26<|zA (zH ?_)
 exact⟨l.length - (i+1),by omega,i+1,_,Y,(Uh Y Y Y Y),by omega,by omega,nI heq hx hy (Decidable.of_not_not hp25),H2.Af⟩
 obtain rfl:i=l.length:=by omega
 refine Xr e26<|J4 Y<|J8<|zU<|zS<|Rq<|Xa Y<|Xr e26<|J5<|Cm Y Y<|⟨bt (lK heq hlm),H1.Af⟩
theorem eq_vt (x y:Vt) (Ax Ay:Option Addr) (kx ky:Nat) (ok ok2:Nat→Prop) (w0:World) (ha:Bs w0 ok Ax x.val) (hb:Bs w0 ok2 Ay y.val):Aj 127 #[.agg (Dl x Ax kx).toArray,.agg (Dl y Ay ky).toArray] w0 (fun r w'=>r=.bool (decide (x=y))∧Hp w0 w' [] []):=by
 refine zG Tryz.func127 Tryz.ntmps127 Y<|cR e24 ?_
 have H:=Hp.refl w0
 refine Rq<|yA Y Y H<|fun w1 g1 H1 hg1=>yA Y Y H1<|fun w2 g2 H2 hg2=>Xa Y<|Xr e24<|Rq<|Xf vF Y<|OV (EL ty3 Y (H2.cell (i:=0) Y Y))<|Xf vF Y<|OV (EL ty3 Y (H2.cell (i:=1) Y Y))<|Ag e24<|OT (xR Y Y) (fun hp9=>?_) (fun hp9=>?_)
 refine Xm Y<|OY Y<|Xf sH Y<|Ag e24<|OY Y<|OV (EN vA Y (vs:=[Aa x.b.r,Aa x.b.n]) Y (H2.Ap (i:=0) Y Y))<|OY Y<|Xf sH Y<|Ag e24<|OY Y<|OV (EN vA Y (vs:=[Aa y.b.r,Aa y.b.n]) Y (H2.Ap (i:=1) Y Y))<|OY Y<|OT (aC Y Y) (fun Js=>?_) (fun Js=>?_)
 refine Xt Y Y<|Xm Y<|Ag e24<|OY Y<|Xf rC Y<|OY Y<|OV (EL xO Y (H2.cell (i:=0) Y Y))<|Ag e24<|OY Y<|Xf rC Y<|OY Y<|OV (EL xO Y (H2.cell (i:=1) Y Y))<|Ag e24<|OY Y<|OX (EC WX Y) (eQ Ax Ay x.val y.val kx ky _ (ha.1.to0 H2) (hb.1.to0 H2) (by have:=ha.2.2;omega) (by have:=hb.2.2;omega)) (fun Oy w3 Hd=>?_) (fun Oy w3 Hd=>?_)
 have H3:=H2.Au Hd
 refine Xt Y Y<|Xa Y<|Xr e24<|J5<|Cm Y Y<|⟨bt (Vt.ext_iff'.2 ⟨hp9,Js,Oy⟩),H3.Af⟩
 have H3:=H2.Au Hd
 refine Xt Y Y<|Xa Y<|Xr e24<|J5<|Cm Y Y<|⟨bf (fun h=>Oy (Vt.ext_iff'.1 h).2.2),H3.Af⟩
 refine Xt Y Y<|Xm Y<|Ag e24<|Oz 5 Y<|Ag e24<|Xu Y Y<|Xa Y<|Xr e24<|J5<|Cm Y Y<|⟨bf (fun h=>Js (Vt.ext_iff'.1 h).2.1),H2.Af⟩
 refine Xm Y<|Oz 5 Y<|Ag e24<|Xu Y Y<|Xm Y<|Ag e24<|Oz 5 Y<|Ag e24<|Xu Y Y<|Xa Y<|Xr e24<|J5<|Cm Y Y<|⟨bf (fun h=>hp9 (Vt.ext_iff'.1 h).1),H2.Af⟩
theorem eq_en (x y:En) (Ax Ay:Option Addr) (kx ky:Nat) (ok ok2:Nat→Prop) (w0:World) (ha:Bs w0 ok Ax x.val) (hb:Bs w0 ok2 Ay y.val):Aj 130 #[.agg (Ez x Ax kx).toArray,.agg (Ez y Ay ky).toArray] w0 (fun r w'=>r=.bool (decide (x=y))∧Hp w0 w' [] []):=by
 refine zG Tryz.func130 Tryz.ntmps130 Y<|cR e17 ?_
 have H:=Hp.refl w0
 refine Rq<|yA Y Y H<|fun w1 g1 H1 hg1=>yA Y Y H1<|fun w2 g2 H2 hg2=>Xa Y<|Xr e17<|Rq<|Xf wF Y<|OV (EL ty3 Y (H2.cell (i:=0) Y Y))<|Xf wF Y<|OV (EL ty3 Y (H2.cell (i:=1) Y Y))<|Ag e17<|OT (xR Y Y) (fun hp9=>?_) (fun hp9=>?_)
 refine Xm Y<|OY Y<|Xf uU Y<|Ag e17<|OY Y<|OV (EL xO Y (H2.cell (i:=0) Y Y))<|OY Y<|Xf uU Y<|Ag e17<|OY Y<|OV (EL xO Y (H2.cell (i:=1) Y Y))<|OY Y<|OX (EC WX Y) (eQ Ax Ay x.val y.val kx ky _ (ha.1.to0 H2) (hb.1.to0 H2) (by have:=ha.2.2;omega) (by have:=hb.2.2;omega)) (fun Js w3 Hd=>?_) (fun Js w3 Hd=>?_)
 have H3:=H2.Au Hd
 refine Xt Y Y<|Xa Y<|Xr e17<|J5<|Cm Y Y<|⟨bt (En.ext_iff'.2 ⟨hp9,Js⟩),H3.Af⟩
 have H3:=H2.Au Hd
 refine Xt Y Y<|Xa Y<|Xr e17<|J5<|Cm Y Y<|⟨bf (fun h=>Js (En.ext_iff'.1 h).2),H3.Af⟩
 refine Xm Y<|Oz 5 Y<|Ag e17<|Xu Y Y<|Xa Y<|Xr e17<|J5<|Cm Y Y<|⟨bf (fun h=>hp9 (En.ext_iff'.1 h).1),H2.Af⟩
theorem T5 (A B:Option Addr) (ka kb:Nat) (l m:List Vt) (ok ok2:Nat→Prop) (w0:World) (hl:Sl (Oe w0 ok) 4 w0 ok A l) (hm:Sl (Oe w0 ok2) 4 w0 ok2 B m) (hn:l.length≤1000000000000000000) (hn2:m.length≤1000000000000000000):Aj 126 #[Ac A l.length ka,Ac B m.length kb,.func (.func 127) #[] #[]] w0 (fun r w'=>r=.bool (decide (l=m))∧Hp w0 w' [] []):=by
 refine zG Tryz.func126 Tryz.ntmps126 Y<|cR e30 ?_
 have H:=Hp.refl w0
 obtain⟨ps,hp,hr,_,h2⟩:=hl
 obtain⟨qs,hq,hrb,_,h2b⟩:=hm
 refine Rq<|Xa Y<|Xr e30<|J1<|Rq<|Xm Y<|OV (ES Jd Y)<|Xm Y<|OV (ES Jd Y)<|Ag e30<|OT (yR Y Y) (fun Pg=>?_) (fun Pg=>?_)
 refine Xr e30<|J3 Y<|Rq<|Xa Y<|Xr e30<|J5<|Cm Y Y<|⟨bf (fun h=>Pg (by rw[h])),H.Af⟩
 have hlm:l.length=m.length:=by omega
 refine Xr e30<|J4 Y<|J6<|J1<|Rq<|Xa Y<|Xr e30<|J7<|zV (fun nQ lQ w=>∃ (i:Nat) (y:Int),l.length - i=nQ∧xM (Hy [(0,Ac A l.length ka),(1,Ac B m.length kb),(2,.func (.func 127) #[] #[]),(7,Aa y)] 0 30) lQ∧y=(i:Int)∧i≤l.length∧l.take i=m.take i∧Hp w0 w [] []) (l.length) ?_ ?_
 exact⟨0,_,Y,(Jg Y Y Y Y Y),Y,Am _,Y,H.Af⟩
 rintro nQ lQ w1 ⟨i,y,rfl,hfit,rfl,hi,heq,H1⟩
 obtain⟨j,rfl⟩:=hfit.open
 refine cR e30 ?_
 clear hfit
 refine J1<|Rq<|Xm Y<|Xm Y<|OV (ES Jd Y)<|OT (zQ Y Y) (fun hp16=>?_) (fun hp16=>?_)
 have hil:i < l.length:=by omega
 obtain⟨x,hx⟩:=yL hil
 obtain⟨y,hy⟩:=yL (l:=m) (j:=i) (by omega)
 obtain⟨p1,hp1,hR⟩:=h2.get hx
 obtain⟨p2,hp2,hR2⟩:=h2b.get hy
 obtain⟨a1,ha1⟩:=hr.some_ (by omega)
 obtain⟨a2,ha2⟩:=hrb.some_ (by omega)
 subst ha1 ha2
 obtain⟨Ax,kx,rfl,hbx⟩:=hR
 obtain⟨Ay,ky,rfl,hby⟩:=hR2
 refine Xr e30<|J3 Y<|J6<|J1<|J7<|J1<|zR 10 [(true,0),(true,1),(true,2),(true,3),(true,4),(true,5),(true,6),(true,7),(true,8),(false,9),(false,10)] H1 [] yE (by decide) (by kernel_rfl) ?_
 rintro w2 hw2
 have H2:=Hp.drew H1;rw[← hw2]at H2
 refine Zm Y Y<|Zm Y Y<|Zm Y Y<|MP Y<|MV (fun wz hz=>EI Jd xE Y Y (len:=l.length) (i:=i) (by omega) (by omega) Y)<|cZ e30<|MP Y<|MV (fun wz hz=>EN xE Y (vs:=Dl x Ax kx) Y ((hr.to0 hz).elem hp hp1))<|Zm Y Y<|Zm Y Y<|MP Y<|MV (fun wz hz=>EI Jd xE Y Y (len:=m.length) (i:=i) (by omega) (by omega) Y)<|cZ e30<|MP Y<|MV (fun wz hz=>EN xE Y (vs:=Dl y Ay ky) Y ((hrb.to0 hz).elem hq hp2))<|MO Y ?_
 have HO:=H2
 refine OX (xL gf127 Y Y) (eq_vt x y Ax Ay kx ky ok ok2 _ (hbx.to H2 k0) (hby.to H2 k0)) (fun Rk w3 Hd=>?_) (fun Rk w3 Hd=>?_)
 have H3:=HO.Au Hd
 refine OE ?_
 refine⟨fun hne=>H3.pick [] (by decide),?_⟩
 refine MO Y<|Xn Y<|OE<|⟨fun hne=>absurd Y hne,?_⟩
 refine cZ e30<|ME<|cR e30<|J4 Y<|J6<|zA (zB ?_)
 refine J2<|Xm Y<|OV (zL Y Y (Ad _ (by omega)))<|Xa Y<|Xr e30<|zA (zH ?_)
 exact⟨l.length - (i+1),by omega,i+1,_,Y,(Jg Y Y Y Y Y),by omega,by omega,nI heq hx hy Rk,H3.Af⟩
 have H3:=HO.Au Hd
 refine OE ?_
 refine⟨fun hne=>H3.pick [] (by decide),?_⟩
 refine MO Y<|Xn Y<|OE<|⟨fun hne=>absurd Y hne,?_⟩
 refine cZ e30<|ME<|cR e30<|J3 Y<|Rq<|Xa Y<|Xr e30<|J5<|BR<|yN<|BR<|Cm Y Y<|⟨bf (iZ hx hy Rk),H3.Af⟩
 obtain rfl:i=l.length:=by omega
 refine Xr e30<|J4 Y<|J8<|zU<|zS<|Rq<|Xa Y<|Xr e30<|J5<|Cm Y Y<|⟨bt (lK heq hlm),H1.Af⟩
theorem XI (A B:Option Addr) (ka kb:Nat) (l m:List Vt) (ok ok2:Nat→Prop) (w0:World) (hl:Sl (Oe w0 ok) 4 w0 ok A l) (hm:Sl (Oe w0 ok2) 4 w0 ok2 B m) (hn:l.length≤1000000000000000000) (hn2:m.length≤1000000000000000000):Aj 84 #[Ac A l.length ka,Ac B m.length kb] w0 (fun r w'=>r=.bool (decide (l=m))∧Hp w0 w' [] []):=by
 refine zG Tryz.func84 Tryz.ntmps84 Y<|cR e8 ?_
 have H:=Hp.refl w0
 refine Rq<|Xa Y<|Xr e8<|Rq<|Xm Y<|Xm Y<|OX (EC gf126 Y) (T5 A B ka kb l m ok ok2 _ (hl.Qn H k0) (hm.Qn H k0) hn hn2) (fun Ua w1 Hd=>?_) (fun Ua w1 Hd=>?_)
 have H1:=H.Au Hd
 refine Xa Y<|Xr e8<|J5<|Cm Y Y<|⟨bt (Ua),H1.Af⟩
 have H1:=H.Au Hd
 refine Xa Y<|Xr e8<|J5<|Cm Y Y<|⟨bf (Ua),H1.Af⟩
theorem T6 (A B:Option Addr) (ka kb:Nat) (l m:List En) (ok ok2:Nat→Prop) (w0:World) (hl:Sl (Qp w0 ok) 2 w0 ok A l) (hm:Sl (Qp w0 ok2) 2 w0 ok2 B m) (hn:l.length≤1000000000000000000) (hn2:m.length≤1000000000000000000):Aj 129 #[Ac A l.length ka,Ac B m.length kb,.func (.func 130) #[] #[]] w0 (fun r w'=>r=.bool (decide (l=m))∧Hp w0 w' [] []):=by
 refine zG Tryz.func129 Tryz.ntmps129 Y<|cR e30 ?_
 have H:=Hp.refl w0
 obtain⟨ps,hp,hr,_,h2⟩:=hl
 obtain⟨qs,hq,hrb,_,h2b⟩:=hm
 refine Rq<|Xa Y<|Xr e30<|J1<|Rq<|Xm Y<|OV (ES Lr Y)<|Xm Y<|OV (ES Lr Y)<|Ag e30<|OT (yR Y Y) (fun Pg=>?_) (fun Pg=>?_)
 refine Xr e30<|J3 Y<|Rq<|Xa Y<|Xr e30<|J5<|Cm Y Y<|⟨bf (fun h=>Pg (by rw[h])),H.Af⟩
 have hlm:l.length=m.length:=by omega
 refine Xr e30<|J4 Y<|J6<|J1<|Rq<|Xa Y<|Xr e30<|J7<|zV (fun nQ lQ w=>∃ (i:Nat) (y:Int),l.length - i=nQ∧xM (Hy [(0,Ac A l.length ka),(1,Ac B m.length kb),(2,.func (.func 130) #[] #[]),(7,Aa y)] 0 30) lQ∧y=(i:Int)∧i≤l.length∧l.take i=m.take i∧Hp w0 w [] []) (l.length) ?_ ?_
 exact⟨0,_,Y,(Jg Y Y Y Y Y),Y,Am _,Y,H.Af⟩
 rintro nQ lQ w1 ⟨i,y,rfl,hfit,rfl,hi,heq,H1⟩
 obtain⟨j,rfl⟩:=hfit.open
 refine cR e30 ?_
 clear hfit
 refine J1<|Rq<|Xm Y<|Xm Y<|OV (ES Lr Y)<|OT (zQ Y Y) (fun hp16=>?_) (fun hp16=>?_)
 have hil:i < l.length:=by omega
 obtain⟨x,hx⟩:=yL hil
 obtain⟨y,hy⟩:=yL (l:=m) (j:=i) (by omega)
 obtain⟨p1,hp1,hR⟩:=h2.get hx
 obtain⟨p2,hp2,hR2⟩:=h2b.get hy
 obtain⟨a1,ha1⟩:=hr.some_ (by omega)
 obtain⟨a2,ha2⟩:=hrb.some_ (by omega)
 subst ha1 ha2
 obtain⟨Ax,kx,rfl,hbx⟩:=hR
 obtain⟨Ay,ky,rfl,hby⟩:=hR2
 refine Xr e30<|J3 Y<|J6<|J1<|J7<|J1<|zR 10 [(true,0),(true,1),(true,2),(true,3),(true,4),(true,5),(true,6),(true,7),(true,8),(false,9),(false,10)] H1 [] yE (by decide) (by kernel_rfl) ?_
 rintro w2 hw2
 have H2:=Hp.drew H1;rw[← hw2]at H2
 refine Zm Y Y<|Zm Y Y<|Zm Y Y<|MP Y<|MV (fun wz hz=>EI Lr wE Y Y (len:=l.length) (i:=i) (by omega) (by omega) Y)<|cZ e30<|MP Y<|MV (fun wz hz=>EN wE Y (vs:=Ez x Ax kx) Y ((hr.to0 hz).elem hp hp1))<|Zm Y Y<|Zm Y Y<|MP Y<|MV (fun wz hz=>EI Lr wE Y Y (len:=m.length) (i:=i) (by omega) (by omega) Y)<|cZ e30<|MP Y<|MV (fun wz hz=>EN wE Y (vs:=Ez y Ay ky) Y ((hrb.to0 hz).elem hq hp2))<|MO Y ?_
 have HO:=H2
 refine OX (xL gf130 Y Y) (eq_en x y Ax Ay kx ky ok ok2 _ (hbx.to H2 k0) (hby.to H2 k0)) (fun Rk w3 Hd=>?_) (fun Rk w3 Hd=>?_)
 have H3:=HO.Au Hd
 refine OE ?_
 refine⟨fun hne=>H3.pick [] (by decide),?_⟩
 refine MO Y<|Xn Y<|OE<|⟨fun hne=>absurd Y hne,?_⟩
 refine cZ e30<|ME<|cR e30<|J4 Y<|J6<|zA (zB ?_)
 refine J2<|Xm Y<|OV (zL Y Y (Ad _ (by omega)))<|Xa Y<|Xr e30<|zA (zH ?_)
 exact⟨l.length - (i+1),by omega,i+1,_,Y,(Jg Y Y Y Y Y),by omega,by omega,nI heq hx hy Rk,H3.Af⟩
 have H3:=HO.Au Hd
 refine OE ?_
 refine⟨fun hne=>H3.pick [] (by decide),?_⟩
 refine MO Y<|Xn Y<|OE<|⟨fun hne=>absurd Y hne,?_⟩
 refine cZ e30<|ME<|cR e30<|J3 Y<|Rq<|Xa Y<|Xr e30<|J5<|BR<|yN<|BR<|Cm Y Y<|⟨bf (iZ hx hy Rk),H3.Af⟩
 obtain rfl:i=l.length:=by omega
 refine Xr e30<|J4 Y<|J8<|zU<|zS<|Rq<|Xa Y<|Xr e30<|J5<|Cm Y Y<|⟨bt (lK heq hlm),H1.Af⟩
theorem XL (A B:Option Addr) (ka kb:Nat) (l m:List En) (ok ok2:Nat→Prop) (w0:World) (hl:Sl (Qp w0 ok) 2 w0 ok A l) (hm:Sl (Qp w0 ok2) 2 w0 ok2 B m) (hn:l.length≤1000000000000000000) (hn2:m.length≤1000000000000000000):Aj 86 #[Ac A l.length ka,Ac B m.length kb] w0 (fun r w'=>r=.bool (decide (l=m))∧Hp w0 w' [] []):=by
 refine zG Tryz.func86 Tryz.ntmps86 Y<|cR e8 ?_
 have H:=Hp.refl w0
 refine Rq<|Xa Y<|Xr e8<|Rq<|Xm Y<|Xm Y<|OX (EC gf129 Y) (T6 A B ka kb l m ok ok2 _ (hl.Tt H k0) (hm.Tt H k0) hn hn2) (fun Ua w1 Hd=>?_) (fun Ua w1 Hd=>?_)
 have H1:=H.Au Hd
 refine Xa Y<|Xr e8<|J5<|Cm Y Y<|⟨bt (Ua),H1.Af⟩
 have H1:=H.Au Hd
 refine Xa Y<|Xr e8<|J5<|Cm Y Y<|⟨bf (Ua),H1.Af⟩
theorem eq_sv (s:Sv) (A1:Option Addr) (k1:Nat) (A2:Option Addr) (k2:Nat) (A3:Option Addr) (k3:Nat) (t:Sv) (C1:Option Addr) (q1:Nat) (C2:Option Addr) (q2:Nat) (C3:Option Addr) (q3:Nat) (ok ok2:Nat→Prop) (w0:World) (h1:Sl (Oe w0 ok) 4 w0 ok A1 s.Bc) (h2:Bs w0 ok A2 s.image) (h3:Sl (Qp w0 ok) 2 w0 ok A3 s.entries) (u1:Sl (Oe w0 ok2) 4 w0 ok2 C1 t.Bc) (u2:Bs w0 ok2 C2 t.image) (u3:Sl (Qp w0 ok2) 2 w0 ok2 C3 t.entries) (hv:s.Bc.length≤1000000000000000000∧s.entries.length≤1000000000000000000) (he:t.Bc.length≤1000000000000000000∧t.entries.length≤1000000000000000000):Aj 43 #[.agg (Bv s A1 k1 A2 k2 A3 k3).toArray,.agg (Bv t C1 q1 C2 q2 C3 q3).toArray] w0 (fun r w'=>r=.bool (decide (s=t))∧Hp w0 w' [] []):=by
 refine zG Tryz.func43 Tryz.ntmps43 Y<|cR e38 ?_
 have H:=Hp.refl w0
 refine Rq<|yA Y Y H<|fun w1 g1 H1 hg1=>yA Y Y H1<|fun w2 g2 H2 hg2=>Xa Y<|Xr e38<|Rq<|Xf vZ Y<|OV (EN vA Y (vs:=Gq s) Y (H2.Ap (i:=0) Y Y))<|Xf vZ Y<|OV (EN vA Y (vs:=Gq t) Y (H2.Ap (i:=1) Y Y))<|Ag e38<|OT (aC Y Y) (fun hp9=>?_) (fun hp9=>?_)
 refine Xm Y<|OY Y<|Xf xW Y<|Ag e38<|OY Y<|OV (EL uP Y (H2.cell (i:=0) Y Y))<|OY Y<|Xf xW Y<|Ag e38<|OY Y<|OV (EL uP Y (H2.cell (i:=1) Y Y))<|OY Y<|OX (EC gf84 Y) (XI A1 C1 k1 q1 s.Bc t.Bc ok ok2 _ (h1.Qn H2 k0) (u1.Qn H2 k0) hv.1 he.1) (fun Js w3 Hd=>?_) (fun Js w3 Hd=>?_)
 have H3:=H2.Au Hd
 refine Xt Y Y<|Xm Y<|Ag e38<|OY Y<|Xf wT Y<|OY Y<|OV (EL ty3 Y (H3.cell (i:=0) Y Y))<|Ag e38<|OY Y<|Xf wT Y<|OY Y<|OV (EL ty3 Y (H3.cell (i:=1) Y Y))<|Ag e38<|OY Y<|OT (xR Y Y) (fun Oy=>?_) (fun Oy=>?_)
 refine Xt Y Y<|Xm Y<|Ag e38<|OY Y<|Xf uT Y<|OY Y<|OV (EL xO Y (H3.cell (i:=0) Y Y))<|Ag e38<|OY Y<|Xf uT Y<|OY Y<|OV (EL xO Y (H3.cell (i:=1) Y Y))<|Ag e38<|OY Y<|OX (EC WX Y) (eQ A2 C2 s.image t.image k2 q2 _ (h2.1.to0 H3) (u2.1.to0 H3) (by have:=h2.2.2;omega) (by have:=u2.2.2;omega)) (fun YP w4 Hd=>?_) (fun YP w4 Hd=>?_)
 have H4:=H3.Au Hd
 refine Xt Y Y<|Xm Y<|Ag e38<|OY Y<|Xf xZ Y<|OY Y<|OV (EL uY Y (H4.cell (i:=0) Y Y))<|Ag e38<|OY Y<|Xf xZ Y<|OY Y<|OV (EL uY Y (H4.cell (i:=1) Y Y))<|Ag e38<|OY Y<|OX (EC gf86 Y) (XL A3 C3 k3 q3 s.entries t.entries ok ok2 _ (h3.Tt H4 k0) (u3.Tt H4 k0) hv.2 he.2) (fun ZX w5 Hd=>?_) (fun ZX w5 Hd=>?_)
 have H5:=H4.Au Hd
 refine Xt Y Y<|Xa Y<|Xr e38<|J5<|Cm Y Y<|⟨bt (Sv.ext_iff'.2 ⟨hp9,Js,Oy,YP,ZX⟩),H5.Af⟩
 have H5:=H4.Au Hd
 refine Xt Y Y<|Xa Y<|Xr e38<|J5<|Cm Y Y<|⟨bf (fun h=>ZX (Sv.ext_iff'.1 h).2.2.2.2),H5.Af⟩
 have H4:=H3.Au Hd
 refine Xt Y Y<|Xm Y<|Ag e38<|Oz 5 Y<|Ag e38<|Xu Y Y<|Xa Y<|Xr e38<|J5<|Cm Y Y<|⟨bf (fun h=>YP (Sv.ext_iff'.1 h).2.2.2.1),H4.Af⟩
 refine Xt Y Y<|Xm Y<|Ag e38<|Oz 5 Y<|Ag e38<|Xu Y Y<|Xm Y<|Ag e38<|Oz 5 Y<|Ag e38<|Xu Y Y<|Xa Y<|Xr e38<|J5<|Cm Y Y<|⟨bf (fun h=>Oy (Sv.ext_iff'.1 h).2.2.1),H3.Af⟩
 have H3:=H2.Au Hd
 refine Xt Y Y<|Xm Y<|Ag e38<|Oz 5 Y<|Ag e38<|Xu Y Y<|Xm Y<|Ag e38<|Oz 5 Y<|Ag e38<|Xu Y Y<|Xm Y<|Ag e38<|Oz 5 Y<|Ag e38<|Xu Y Y<|Xa Y<|Xr e38<|J5<|Cm Y Y<|⟨bf (fun h=>Js (Sv.ext_iff'.1 h).2.1),H3.Af⟩
 refine Xm Y<|Oz 5 Y<|Ag e38<|Xu Y Y<|Xm Y<|Ag e38<|Oz 5 Y<|Ag e38<|Xu Y Y<|Xm Y<|Ag e38<|Oz 5 Y<|Ag e38<|Xu Y Y<|Xm Y<|Ag e38<|Oz 5 Y<|Ag e38<|Xu Y Y<|Xa Y ?_
 refine Xr e38<|J5<|Cm Y Y<|⟨bf (fun h=>hp9 (Sv.ext_iff'.1 h).1),H2.Af⟩
theorem XJ (A B:Option Addr) (ka kb:Nat) (l m:List Sv) (ok ok2:Nat→Prop) (w0:World) (hl:Sl (Qz w0 ok) 6 w0 ok A l) (hm:Sl (Qz w0 ok2) 6 w0 ok2 B m) (hn:l.length≤1000000000000000000) (hn2:m.length≤1000000000000000000) (hfew:∀ x∈l,x.Bc.length≤1000000000000000000∧x.entries.length≤1000000000000000000) (hfew2:∀ x∈m,x.Bc.length≤1000000000000000000∧x.entries.length≤1000000000000000000):Aj 42 #[Ac A l.length ka,Ac B m.length kb,.func (.func 43) #[] #[]] w0 (fun r w'=>r=.bool (decide (l=m))∧Hp w0 w' [] []):=by
 refine zG Tryz.func42 Tryz.ntmps42 Y<|cR e30 ?_
 have H:=Hp.refl w0
 obtain⟨ps,hp,hr,_,h2⟩:=hl
 obtain⟨qs,hq,hrb,_,h2b⟩:=hm
 refine Rq<|Xa Y<|Xr e30<|J1<|Rq<|Xm Y<|OV (ES Ue Y)<|Xm Y<|OV (ES Ue Y)<|Ag e30<|OT (yR Y Y) (fun Pg=>?_) (fun Pg=>?_)
 refine Xr e30<|J3 Y<|Rq<|Xa Y<|Xr e30<|J5<|Cm Y Y<|⟨bf (fun h=>Pg (by rw[h])),H.Af⟩
 have hlm:l.length=m.length:=by omega
 refine Xr e30<|J4 Y<|J6<|J1<|Rq<|Xa Y<|Xr e30<|J7<|zV (fun nQ lQ w=>∃ (i:Nat) (y:Int),l.length - i=nQ∧xM (Hy [(0,Ac A l.length ka),(1,Ac B m.length kb),(2,.func (.func 43) #[] #[]),(7,Aa y)] 0 30) lQ∧y=(i:Int)∧i≤l.length∧l.take i=m.take i∧Hp w0 w [] []) (l.length) ?_ ?_
 exact⟨0,_,Y,(Jg Y Y Y Y Y),Y,Am _,Y,H.Af⟩
 rintro nQ lQ w1 ⟨i,y,rfl,hfit,rfl,hi,heq,H1⟩
 obtain⟨j,rfl⟩:=hfit.open
 refine cR e30 ?_
 clear hfit
 refine J1<|Rq<|Xm Y<|Xm Y<|OV (ES Ue Y)<|OT (zQ Y Y) (fun hp16=>?_) (fun hp16=>?_)
 have hil:i < l.length:=by omega
 obtain⟨x,hx⟩:=yL hil
 obtain⟨y,hy⟩:=yL (l:=m) (j:=i) (by omega)
 obtain⟨p1,hp1,hR⟩:=h2.get hx
 obtain⟨p2,hp2,hR2⟩:=h2b.get hy
 obtain⟨a1,ha1⟩:=hr.some_ (by omega)
 obtain⟨a2,ha2⟩:=hrb.some_ (by omega)
 subst ha1 ha2
 obtain⟨A1,k1,A2,k2,A3,k3,rfl,h1,h3,h4⟩:=hR
 obtain⟨C1,q1,C2,q2,C3,q3,rfl,u1,u3,u4⟩:=hR2
 have hfx:=hfew x (mem_of hx)
 have hfy:=hfew2 y (mem_of hy)
 refine Xr e30<|J3 Y<|J6<|J1<|J7<|J1<|zR 10 [(true,0),(true,1),(true,2),(true,3),(true,4),(true,5),(true,6),(true,7),(true,8),(false,9),(false,10)] H1 [] yE (by decide) (by kernel_rfl) ?_
 rintro w2 hw2
 have H2:=Hp.drew H1;rw[← hw2]at H2
 refine Zm Y Y<|Zm Y Y<|Zm Y Y<|MP Y<|MV (fun wz hz=>EI Ue wD Y Y (len:=l.length) (i:=i) (by omega) (by omega) Y)<|cZ e30<|MP Y<|MV (fun wz hz=>EN wD Y (vs:=Bv x A1 k1 A2 k2 A3 k3) Y ((hr.to0 hz).elem hp hp1))<|Zm Y Y<|Zm Y Y<|MP Y<|MV (fun wz hz=>EI Ue wD Y Y (len:=m.length) (i:=i) (by omega) (by omega) Y)<|cZ e30<|MP Y<|MV (fun wz hz=>EN wD Y (vs:=Bv y C1 q1 C2 q2 C3 q3) Y ((hrb.to0 hz).elem hq hp2))<|MO Y ?_
 have HO:=H2
 refine OX (xL gf43 Y Y) (eq_sv x A1 k1 A2 k2 A3 k3 y C1 q1 C2 q2 C3 q3 ok ok2 _ (h1.Qn H2 k0) (h3.to H2 k0) (h4.Tt H2 k0) (u1.Qn H2 k0) (u3.to H2 k0) (u4.Tt H2 k0) hfx hfy) (fun Rk w3 Hd=>?_) (fun Rk w3 Hd=>?_)
 have H3:=HO.Au Hd
 refine OE ?_
 refine⟨fun hne=>H3.pick [] (by decide),?_⟩
 refine MO Y<|Xn Y<|OE<|⟨fun hne=>absurd Y hne,?_⟩
 refine cZ e30<|ME<|cR e30<|J4 Y<|J6<|zA (zB ?_)
 refine J2<|Xm Y<|OV (zL Y Y (Ad _ (by omega)))<|Xa Y<|Xr e30<|zA (zH ?_)
 exact⟨l.length - (i+1),by omega,i+1,_,Y,(Jg Y Y Y Y Y),by omega,by omega,nI heq hx hy Rk,H3.Af⟩
 have H3:=HO.Au Hd
 refine OE ?_
 refine⟨fun hne=>H3.pick [] (by decide),?_⟩
 refine MO Y<|Xn Y<|OE<|⟨fun hne=>absurd Y hne,?_⟩
 refine cZ e30<|ME<|cR e30<|J3 Y<|Rq<|Xa Y<|Xr e30<|J5<|BR<|yN<|BR<|Cm Y Y<|⟨bf (iZ hx hy Rk),H3.Af⟩
 obtain rfl:i=l.length:=by omega
 refine Xr e30<|J4 Y<|J8<|zU<|zS<|Rq<|Xa Y<|Xr e30<|J5<|Cm Y Y<|⟨bt (lK heq hlm),H1.Af⟩
structure Few (b:Bo):Prop where
 g:b.groups.length≤1000000000000000000
 r:b.rights.length≤1000000000000000000
 l:b.last.length≤1000000000000000000
 s:∀ x∈b.groups,x.Bc.length≤1000000000000000000∧x.entries.length≤1000000000000000000
theorem JR (b:Bo) (A1:Option Addr) (k1:Nat) (A2:Option Addr) (k2:Nat) (A3:Option Addr) (k3:Nat) (c:Bo) (C1:Option Addr) (q1:Nat) (C2:Option Addr) (q2:Nat) (C3:Option Addr) (q3:Nat) (ok ok2:Nat→Prop) (w0:World) (h1:Sl (Qz w0 ok) 6 w0 ok A1 b.groups) (h2:Sl Nu 4 w0 ok A2 b.rights) (h3:Sl Pv 7 w0 ok A3 b.last) (u1:Sl (Qz w0 ok2) 6 w0 ok2 C1 c.groups) (u2:Sl Nu 4 w0 ok2 C2 c.rights) (u3:Sl Pv 7 w0 ok2 C3 c.last) (n1:Few b) (n2:Few c):Aj 13 #[.agg (Bd A1 b k1 A2 k2 A3 k3).toArray,.agg (Bd C1 c q1 C2 q2 C3 q3).toArray] w0 (fun r w'=>r=.bool (decide (b=c))∧Hp w0 w' [] []):=by
 refine zG Tryz.func13 Tryz.ntmps13 Y<|cR e24 ?_
 have H:=Hp.refl w0
 refine Rq<|yA Y Y H<|fun w1 g1 H1 hg1=>yA Y Y H1<|fun w2 g2 H2 hg2=>Xa Y<|Xr e24<|Rq<|Xf uO Y<|OV (EL oO Y (H2.cell (i:=0) Y Y))<|Xf uO Y<|OV (EL oO Y (H2.cell (i:=1) Y Y))<|Ag e24<|OX (EC gf42 Y) (XJ A1 C1 k1 q1 b.groups c.groups ok ok2 _ (h1.toS H2 k0) (u1.toS H2 k0) n1.g n2.g n1.s n2.s) (fun hp9 w3 Hd=>?_) (fun hp9 w3 Hd=>?_)
 have H3:=H2.Au Hd
 refine Xm Y<|OY Y<|Xf sI Y<|Ag e24<|OY Y<|OV (EL lF Y (H3.cell (i:=0) Y Y))<|OY Y<|Xf sI Y<|Ag e24<|OY Y<|OV (EL lF Y (H3.cell (i:=1) Y Y))<|OY Y<|OX (EC gf44 Y) (eqpR A2 C2 k2 q2 b.rights c.rights ok ok2 _ (h2.toR H3 k0) (u2.toR H3 k0) n1.r n2.r) (fun Js w4 Hd=>?_) (fun Js w4 Hd=>?_)
 have H4:=H3.Au Hd
 refine Xt Y Y<|Xm Y<|Ag e24<|OY Y<|Xf tQ Y<|OY Y<|OV (EL mY Y (H4.cell (i:=0) Y Y))<|Ag e24<|OY Y<|Xf tQ Y<|OY Y<|OV (EL mY Y (H4.cell (i:=1) Y Y))<|Ag e24<|OY Y<|OX (EC gf45 Y) (eqpM A3 C3 k3 q3 b.last c.last ok ok2 _ (h3.toM H4 k0) (u3.toM H4 k0) n1.l n2.l) (fun Oy w5 Hd=>?_) (fun Oy w5 Hd=>?_)
 have H5:=H4.Au Hd
 refine Xt Y Y<|Xa Y<|Xr e24<|J5<|Cm Y Y<|⟨bt (Bo.ext_iff'.2 ⟨hp9,Js,Oy⟩),H5.Af⟩
 have H5:=H4.Au Hd
 refine Xt Y Y<|Xa Y<|Xr e24<|J5<|Cm Y Y<|⟨bf (fun h=>Oy (Bo.ext_iff'.1 h).2.2),H5.Af⟩
 have H4:=H3.Au Hd
 refine Xt Y Y<|Xm Y<|Ag e24<|Oz 5 Y<|Ag e24<|Xu Y Y<|Xa Y<|Xr e24<|J5<|Cm Y Y<|⟨bf (fun h=>Js (Bo.ext_iff'.1 h).2.1),H4.Af⟩
 have H3:=H2.Au Hd
 refine Xm Y<|Oz 5 Y<|Ag e24<|Xu Y Y<|Xm Y<|Ag e24<|Oz 5 Y<|Ag e24<|Xu Y Y<|Xa Y<|Xr e24<|J5<|Cm Y Y<|⟨bf (fun h=>hp9 (Bo.ext_iff'.1 h).1),H3.Af⟩
set_option maxHeartbeats 16000000
theorem SB (A:Option Addr) (k:Nat) (l:List Rt) (ok:Nat→Prop) (w0:World) (hl:Sl Nu 4 w0 ok A l) (hn:l.length≤1000000000000) (hso:qV l):Aj 131 #[Ac A l.length k] w0 (fun r w'=>r=.bool true∧Hp w0 w' [] []):=by
 refine zG Tryz.func131 Tryz.ntmps131 Y<|cR e33 ?_
 have H:=Hp.refl w0
 obtain⟨ps,hp,hr,ha,h2⟩:=id hl
 have hlen:=h2.len
 obtain⟨Vs,hrise⟩:=tZ hso
 refine Rq<|Xa Y<|Xr e33<|J1<|Rq<|Xa Y<|Xr e33<|J7<|zV (fun nQ lQ w=>∃ (i:Nat) (y:Int),l.length - i=nQ∧xM (Hy [(0,Ac A l.length k),(3,Aa y)] 0 33) lQ∧y=(i:Int)∧i≤l.length∧Hp w0 w [] []) (l.length) ?_ ?_
 exact⟨0,_,Y,(ft2 Y Y Y),Y,Am _,H⟩
 rintro nQ lQ w1 ⟨i,y,rfl,hfit,rfl,hi,H1⟩
 obtain⟨j,rfl⟩:=hfit.open
 refine cR e33 ?_
 clear hfit
 refine J1<|Rq<|Xm Y<|Xm Y<|OV (ES Ht Y)<|OT (zQ Y Y) (fun Ua=>?_) (fun Ua=>?_)
 have hil:i < l.length:=by omega
 obtain⟨x,hx⟩:=yL hil
 obtain⟨p1,hp1,hR⟩:=h2.get hx
 unfold Nu at hR
 subst hR
 obtain⟨a1,ha1⟩:=hr.some_ (by omega)
 subst ha1
 have hmay:=Vs x (mem_of hx)
 refine Xr e33<|J3 Y<|J6<|J1<|J7<|J1<|zR 22 [(true,0),(true,1),(true,2),(true,3),(false,4),(true,5),(true,6),(true,7),(true,8),(true,9),(true,10),(true,11),(true,12),(true,13),(true,14),(true,15),(true,16),(true,17),(true,18),(false,19),(true,20),(true,21),(false,22)] H1 [] yE (by decide) (by kernel_rfl) ?_
 rintro w2 hw2
 have H2:=Hp.drew H1;rw[← hw2]at H2
 refine Zm Y Y<|Zm Y Y<|MP Y<|MV (fun wz hz=>EI Ht xA Y Y (len:=l.length) (i:=i) (by omega) (by omega) Y)<|MP Y<|MV (fun wz hz=>EN xA Y (vs:=Ar x) Y ((hr.to0 hz).elem hp hp1))<|cZ e33<|MO Y<|oT (EC VH Y) (U2 _ _) (hmay)<|fun w3 Hd=>have H3:=H2.Au Hd;OE<|⟨fun hne=>H3.pick [] (by decide),?_⟩
 refine cZ e33<|MP Y<|MV (fun wz hz=>pX Y)<|Zm Y Y<|MP Y<|MY Y<|MV (fun wz hz=>zI Y)<|MP Y<|MY Y<|vS (fun wz hz=>yS Y Y) (fun hp18=>?_) (fun hp18=>?_)
 obtain⟨y,hy⟩:=yL (l:=l) (j:=i - 1) (by omega)
 obtain⟨p2,hp2,hR2⟩:=h2.get hy
 unfold Nu at hR2
 subst hR2
 have hlt:=hrise (i - 1) i y x (by omega) hy hx
 refine MP Y<|MY Y<|MV (fun wz hz=>zI Y)<|cZ e33<|MP Y<|MY Y<|MV (fun wz hz=>zI Y)<|MP Y<|MY Y<|MV (fun wz hz=>zI Y)<|MP Y<|MY Y<|MV (fun wz hz=>tA Y Y (Ad _ (by omega)))<|MP Y<|MY Y<|MV (fun wz hz=>EI Ht xA Y Y (len:=l.length) (i:=i - 1) (by omega) (by omega) Y)<|cZ e33<|MP Y<|MY Y<|MV (fun wz hz=>EN xA Y (vs:=Ar y) Y ((hr.to0 hz).elem hp hp2))<|MP Y<|MY Y<|MV (fun wz hz=>zI Y)<|MP Y<|MY Y<|MV (fun wz hz=>zI Y)<|MP Y<|MY Y<|MV (fun wz hz=>EI Ht xA Y Y (len:=l.length) (i:=i) (by omega) (by omega) Y)<|cZ e33<|MP Y<|MY Y<|MV (fun wz hz=>EN xA Y (vs:=Ar x) Y ((hr.to0 hz).elem hp hp1))<|MO Y<|OY Y<|oT (EC JI Y) (cB _ _ _) (hlt)<|fun w4 Hd=>have H4:=H3.Au Hd;OE<|⟨fun hne=>H4.pick [] (by decide),?_⟩
 refine cZ e33<|MP Y<|MY Y<|MV (fun wz hz=>pX Y)<|MP Y<|MY Y<|MV (fun wz hz=>xG Y Y)<|MO Y<|Xu Y Y<|OE<|⟨fun hne=>absurd Y hne,?_⟩
 refine cZ e33<|ME<|cR e33<|J4 Y<|J6<|zA (zB ?_)
 refine J2<|Xm Y<|OV (zL Y Y (Ad _ (by omega)))<|Xa Y<|Xr e33<|zA (zH ?_)
 exact⟨l.length - (i+1),by omega,i+1,_,Y,(ft2 Y Y Y),by omega,by omega,H4.Af⟩
 refine MP Y<|MY Y<|MV (fun wz hz=>zI Y)<|cZ e33<|MP Y<|MZ Y<|MP Y<|MZ Y<|cZ e33<|MP Y<|MZ Y<|MP Y<|MZ Y<|cZ e33<|MP Y<|MZ Y<|MP Y<|MZ Y<|cZ e33<|MP Y<|MZ Y<|MP Y<|MZ Y<|cZ e33<|MP Y<|MZ Y<|MO Y<|OZ Y<|OE<|⟨fun hne=>H3.pick [] (by decide),?_⟩
 refine cZ e33<|MP Y<|MZ Y<|MP Y<|MY Y<|MV (fun wz hz=>xV Y Y)<|MO Y<|Xu Y Y<|OE<|⟨fun hne=>absurd Y hne,?_⟩
 refine cZ e33<|ME<|cR e33<|J4 Y<|J6<|zA (zB ?_)
 refine J2<|Xm Y<|OV (zL Y Y (Ad _ (by omega)))<|Xa Y<|Xr e33<|zA (zH ?_)
 exact⟨l.length - (i+1),by omega,i+1,_,Y,(ft2 Y Y Y),by omega,by omega,H3.Af⟩
 refine Xr e33<|J4 Y<|J8<|zU<|zS<|Rq<|Xa Y<|Xr e33<|J5<|Cm Y Y<|⟨Y,H1.Af⟩
theorem put16 (x0:Rt) (A:Option Addr) (k:Nat) (l:List Rt) (ok:Nat→Prop) (w0:World) (hl:Sl Nu 4 w0 ok A l) (hn:l.length≤1000000000000) (hso:qV l):Aj 90 #[Ac A l.length k,.agg (Ar x0).toArray] w0 (fun r w'=>(mH x0→∃ A' k',r=.tuple #[Ac A' (Hf l x0).length k',Aa 0]∧Sl Nu 4 w' (fun b=>w0.heap.size≤b) A' (Hf l x0)∧(Hf l x0).length≤k')∧(¬mH x0→r=.tuple #[Dn,Aa 1])∧Hp w0 w' [] []):=by
 refine zG Tryz.func90 Tryz.ntmps90 Y<|cR e53 ?_
 have H:=Hp.refl w0
 obtain⟨ps,hp,hr,ha,h2⟩:=id hl
 have hlen:=h2.len
 obtain⟨Vs,hrise⟩:=tZ hso
 refine Rq<|yA Y Y H<|fun w1 gx H1 _=>Xa Y<|Xa Y<|Xr e53<|J1<|Rq<|Xm Y<|OC (EC gf131 Y) (SB A k l ok _ (hl.toR H1 k0) hn hso)<|fun w2 Hd=>have H2:=H1.Au Hd;Xn Y<|Xr e53<|J4 Y<|J6<|J1<|Rq<|OV (EN xA Y (vs:=Ar x0) Y (H2.Ap (i:=0) Y Y))<|OX (EC VH Y) (U2 _ _) (fun Pj w3 Hd=>?_) (fun Pj w3 Hd=>?_)
 have H3:=H2.Au Hd
 refine Xn Y<|Xr e53<|J4 Y<|J6<|Rq<|Xa Y<|Xa Y<|Xr e53<|J1<|Rq<|Xa Y<|Xr e53<|J7<|zV (fun nQ lQ w=>∃ (i:Nat) (y:Int) (g:Option Nat) (cap:Nat) (us:List Rt) (sp:List Value) (g6:Option Nat) (cap6:Nat) (vs:List Rt) (sp6:List Value),l.length - i=nQ∧xM (Hy [(0,Ac A l.length k),(3,Ah gx),(6,Ac (hd g) (us.map Jv).length cap),(7,Ac (hd g6) (vs.map Jv).length cap6),(8,Aa y)] 0 53) lQ∧y=(i:Int)∧i≤l.length∧us=(l.take i).filter (fun z=>Pm z x0)∧vs=(l.take i).filter (fun z=>Pm x0 z)∧Gw 4 g cap (us.map Jv) sp∧Gw 4 g6 cap6 (vs.map Jv) sp6∧Hp w0 w [] [((some gx,35,Ar x0):Ent),((g,35,(us.map Jv).flatten++sp):Ent),((g6,35,(vs.map Jv).flatten++sp6):Ent)]) (l.length) ?_ ?_
 exact⟨0,_,none,0,[],[],none,0,[],[],Y,(Oc Y Y Y Y Y Y),Y,Am _,Y,Y,Gw.nil 4,Gw.nil 4,(H3.nil 35).nil 35⟩
 rintro nQ lQ w4 ⟨i,y,g,cap,us,sp,g6,cap6,vs,sp6,rfl,hfit,rfl,hi,hus,hvs,hG,hG6,H4⟩
 obtain⟨j,rfl⟩:=hfit.open
 refine cR e53 ?_
 clear hfit
 refine J1<|Rq<|Xm Y<|Xm Y<|OV (ES Ht Y)<|OT (zQ Y Y) (fun hp18=>?_) (fun hp18=>?_)
 have hil:i < l.length:=by omega
 obtain⟨x,hx⟩:=yL hil
 obtain⟨p1,hp1,hR⟩:=h2.get hx
 unfold Nu at hR
 subst hR
 obtain⟨a1,ha1⟩:=hr.some_ (by omega)
 subst ha1
 have hmay:=Vs x (mem_of hx)
 have Yg:us.length≤i:=by rw[hus];exact iF
 have hvl:vs.length≤i:=by rw[hvs];exact iF
 refine Xr e53<|J3 Y<|J6<|J1<|J7<|J1<|J1<|zR 5 [(true,0),(true,1),(true,2),(true,3),(true,4),(false,5)] H4 [0,1,2] yE (by decide) (by kernel_rfl) ?_
 rintro w5 hw5
 have H5:=Hp.drew H4;rw[← hw5]at H5
 refine Zm Y Y<|Zm Y Y<|MP Y<|MV (fun wz hz=>EI Ht xA Y Y (len:=l.length) (i:=i) (by omega) (by omega) Y)<|MP Y<|MV (fun wz hz=>EN xA Y (vs:=Ar x) Y ((hr.to0 hz).elem hp hp1))<|cZ e53<|MP Y<|MV (fun wz hz=>EN xA Y (vs:=Ar x0) Y (hz.Ap (i:=0) Y Y))<|MO Y<|OX (EC JI Y) (cB _ _ _) (fun Qs w6 Hd=>?_) (fun Qs w6 Hd=>?_)
 have H6:=H5.Au Hd
 refine OE ?_
 refine⟨fun hne=>absurd Y hne,?_⟩
 refine ME<|cR e53<|J3 Y<|J2<|Xm Y<|Xm Y<|Xm Y<|OV (EI Ht xA Y Y (len:=l.length) (i:=i) (by omega) (by omega) Y)<|Ag e53<|OV (EN xA Y (vs:=Ar x) Y ((hr.to0 H6).elem hp hp1))<|zE Ht xA H6 (cs:=Ar x) Y (by decide) Y<|fun w7 gk H7 _=>xB Ht xA (by decide) H7 1 (qs:=us.map Jv) hG Y Y (rs:=[Ar x]) (m:=1) Y Y (H7.rd (i:=3) (o:=some _) (xs:=Ar x) (sp:=[]) Y Y (by decide)) (Pl.one Y) (fun p hp=>by rw[Az.1 hp];rfl) (by rw[Bg];omega) (by rw[Bg];omega) (by decide)<|fun w8 g2 cap2 sp2 H8 hG2=>?_
 have hm2:us.map Jv++[Ar x]=(us++[x]).map Jv:=by rw[Dx];rfl
 rw[hm2]at H8 hG2 ⊢
 refine Xa Y<|Xr e53<|J1<|zR 5 [(true,0),(true,1),(true,2),(true,3),(true,4),(false,5)] H8 [0,1,2,3] yE (by decide) (by kernel_rfl) ?_
 rintro w9 hw9
 have H9:=Hp.drew H8;rw[← hw9]at H9
 refine MP Y<|MV (fun wz hz=>EN xA Y (vs:=Ar x0) Y (hz.Ap (i:=0) Y Y))<|Zm Y Y<|Zm Y Y<|MP Y<|MV (fun wz hz=>EI Ht xA Y Y (len:=l.length) (i:=i) (by omega) (by omega) Y)<|cZ e53<|MP Y<|MV (fun wz hz=>EN xA Y (vs:=Ar x) Y ((hr.to0 hz).elem hp hp1))<|MO Y<|OX (EC JI Y) (cB _ _ _) (fun Rj w10 Hd=>?_) (fun Rj w10 Hd=>?_)
 have Df:=H9.Au Hd
 refine OE ?_
 refine⟨fun hne=>absurd Y hne,?_⟩
 refine ME<|cR e53<|J3 Y<|J2<|Xm Y<|Xm Y<|Xm Y<|OV (EI Ht xA Y Y (len:=l.length) (i:=i) (by omega) (by omega) Y)<|Ag e53<|OV (EN xA Y (vs:=Ar x) Y ((hr.to0 Df).elem hp hp1))<|zE Ht xA Df (cs:=Ar x) Y (by decide) Y<|fun Oa gq Ei _=>xB Ht xA (by decide) Ei 2 (qs:=vs.map Jv) hG6 Y Y (rs:=[Ar x]) (m:=1) Y Y (Ei.rd (i:=4) (o:=some _) (xs:=Ar x) (sp:=[]) Y Y (by decide)) (Pl.one Y) (fun p hp=>by rw[Az.1 hp];rfl) (by rw[Bg];omega) (by rw[Bg];omega) (by decide)<|fun w12 g5 cap5 YC Fj Yk=>?_
 have hm5:vs.map Jv++[Ar x]=(vs++[x]).map Jv:=by rw[Dx];rfl
 rw[hm5]at Fj Yk ⊢
 refine Xa Y<|Xr e53<|zA (zB ?_)
 refine J2<|Xm Y<|OV (zL Y Y (Ad _ (by omega)))<|Xa Y<|Xr e53<|zA (zH ?_)
 exact⟨l.length - (i+1),by omega,i+1,_,g2,cap2,us++[x],sp2,g5,cap5,vs++[x],YC,Y,(Oc Y Y Y Y Y Y),by omega,by omega,by rw[hus,GK hx Qs],by rw[hvs,GK hx Rj],hG2,Yk,Fj.pick [0,1,2] (by decide)⟩
 have Df:=H9.Au Hd
 refine OE ?_
 refine⟨fun hne=>absurd Y hne,?_⟩
 refine ME<|cR e53<|J4 Y<|J6<|zA (zB ?_)
 refine J2<|Xm Y<|OV (zL Y Y (Ad _ (by omega)))<|Xa Y<|Xr e53<|zA (zH ?_)
 exact⟨l.length - (i+1),by omega,i+1,_,g2,cap2,us++[x],sp2,g6,cap6,vs,sp6,Y,(Oc Y Y Y Y Y Y),by omega,by omega,by rw[hus,GK hx Qs],by rw[hvs,GL hx (by simpa using Rj)],hG2,hG6,Df.pick [0,1,2] (by decide)⟩
 have H6:=H5.Au Hd
 refine OE ?_
 refine⟨fun hne=>absurd Y hne,?_⟩
 refine ME<|cR e53<|J4 Y<|J6<|J1<|zR 5 [(true,0),(true,1),(true,2),(true,3),(true,4),(false,5)] H6 [0,1,2] yE (by decide) (by kernel_rfl) ?_
 rintro w7 hw7
 have H7:=Hp.drew H6;rw[← hw7]at H7
 refine MP Y<|MV (fun wz hz=>EN xA Y (vs:=Ar x0) Y (hz.Ap (i:=0) Y Y))<|Zm Y Y<|Zm Y Y<|MP Y<|MV (fun wz hz=>EI Ht xA Y Y (len:=l.length) (i:=i) (by omega) (by omega) Y)<|cZ e53<|MP Y<|MV (fun wz hz=>EN xA Y (vs:=Ar x) Y ((hr.to0 hz).elem hp hp1))<|MO Y<|OX (EC JI Y) (cB _ _ _) (fun Rj w8 Hd=>?_) (fun Rj w8 Hd=>?_)
 have H8:=H7.Au Hd
 refine OE ?_
 refine⟨fun hne=>absurd Y hne,?_⟩
 refine ME<|cR e53<|J3 Y<|J2<|Xm Y<|Xm Y<|Xm Y<|OV (EI Ht xA Y Y (len:=l.length) (i:=i) (by omega) (by omega) Y)<|Ag e53<|OV (EN xA Y (vs:=Ar x) Y ((hr.to0 H8).elem hp hp1))<|zE Ht xA H8 (cs:=Ar x) Y (by decide) Y<|fun w9 gq H9 _=>xB Ht xA (by decide) H9 2 (qs:=vs.map Jv) hG6 Y Y (rs:=[Ar x]) (m:=1) Y Y (H9.rd (i:=3) (o:=some _) (xs:=Ar x) (sp:=[]) Y Y (by decide)) (Pl.one Y) (fun p hp=>by rw[Az.1 hp];rfl) (by rw[Bg];omega) (by rw[Bg];omega) (by decide)<|fun w10 g5 cap5 YC Df Yk=>?_
 have hm5:vs.map Jv++[Ar x]=(vs++[x]).map Jv:=by rw[Dx];rfl
 rw[hm5]at Df Yk ⊢
 refine Xa Y<|Xr e53<|zA (zB ?_)
 refine J2<|Xm Y<|OV (zL Y Y (Ad _ (by omega)))<|Xa Y<|Xr e53<|zA (zH ?_)
 exact⟨l.length - (i+1),by omega,i+1,_,g,cap,us,sp,g5,cap5,vs++[x],YC,Y,(Oc Y Y Y Y Y Y),by omega,by omega,by rw[hus,GL hx (by simpa using Qs)],by rw[hvs,GK hx Rj],hG,Yk,Df.pick [0,1,2] (by decide)⟩
 have H8:=H7.Au Hd
 refine OE ?_
 refine⟨fun hne=>absurd Y hne,?_⟩
 refine ME<|cR e53<|J4 Y<|J6<|zA (zB ?_)
 refine J2<|Xm Y<|OV (zL Y Y (Ad _ (by omega)))<|Xa Y<|Xr e53<|zA (zH ?_)
 exact⟨l.length - (i+1),by omega,i+1,_,g,cap,us,sp,g6,cap6,vs,sp6,Y,(Oc Y Y Y Y Y Y),by omega,by omega,by rw[hus,GL hx (by simpa using Qs)],by rw[hvs,GL hx (by simpa using Rj)],hG,hG6,H8.pick [0,1,2] (by decide)⟩
 obtain rfl:i=l.length:=by omega
 have Yg:us.length≤l.length:=by rw[hus];exact iF
 have hvl:vs.length≤l.length:=by rw[hvs];exact iF
 rw[Bz]at hus hvs
 refine Xr e53<|J4 Y<|J8<|zU<|zS<|Rq<|Xm Y<|OV (EN xA Y (vs:=Ar x0) Y (H4.Ap (i:=0) Y Y))<|zE Ht xA H4 (cs:=Ar x0) Y (by decide) Y<|fun w5 gk H5 _=>xB Ht xA (by decide) H5 1 (qs:=us.map Jv) hG Y Y (rs:=[Ar x0]) (m:=1) Y Y (H5.rd (i:=3) (o:=some _) (xs:=Ar x0) (sp:=[]) Y Y (by decide)) (Pl.one Y) (fun p hp=>by rw[Az.1 hp];rfl) (by rw[Bg];omega) (by rw[Bg];omega) (by decide)<|fun w6 g2 cap2 sp2 H6 hG2=>?_
 have hm2:us.map Jv++[Ar x0]=(us++[x0]).map Jv:=by rw[Dx];rfl
 rw[hm2]at H6 hG2 ⊢
 refine Ag e53<|Xm Y<|xB Ht xA (by decide) H6 1 (qs:=(us++[x0]).map Jv) hG2 Y Y (rs:=(vs.map Jv)) Y Y (H6.rd (i:=2) (xs:=(vs.map Jv).flatten) (sp:=sp6) Y hG6.2.2.2.len (by decide)) hG6.2.2.2 (dN vs) (by simp only[Bg,Ae,Bj,Dq];omega) (by simp only[Bg,Ae,Bj,Dq];omega) (by decide)<|fun w7 g5 cap5 YC H7 Yk=>Xa Y<|Xa Y<|Xr e53<|J5<|Kz Y Y Y ?_
 have hq:(us++[x0]).map Jv++vs.map Jv=(Hf l x0).map Jv:=by rw[← GU,hus,hvs,Dx];rfl
 rw[hq]at H7 Yk ⊢
 rw[Bg]
 refine⟨fun _=>⟨hd g5,cap5,Y,Sl.row H7 (i:=1) Y (lL _) (by decide) (kU _) (fun b hb=>?_),(by have h9:=Yk.2.1;rw[Bg]at h9;exact h9)⟩,fun h=>absurd Pj h,H7.Af⟩
 rcases H7.place (i:=1) (g:=b) (by rw[hb];rfl)with h | h
 cases h
 exact h
 have H3:=H2.Au Hd
 refine Xn Y<|Xr e53<|J3 Y<|Rq<|Xa Y<|Xa Y<|Xr e53<|J5<|Kz Y Y Y<|⟨fun h=>absurd h Pj,fun _=>Y,H3.Af⟩
theorem SC (A:Option Addr) (k:Nat) (l:List Mk) (ok:Nat→Prop) (w0:World) (hl:Sl Pv 7 w0 ok A l) (hso:sC 0 l):Aj 134 #[Ac A l.length k] w0 (fun r w'=>r=.bool true∧Hp w0 w' [] []):=by
 refine zG Tryz.func134 Tryz.ntmps134 Y<|cR e52 ?_
 have H:=Hp.refl w0
 obtain⟨ps,hp,hr,ha,h2⟩:=id hl
 have hlen:=h2.len
 have hn:=mG hso
 obtain⟨Zb,hrise⟩:=vY hso
 refine Rq<|Xa Y<|Xr e52<|Rq<|Xa Y<|Xr e52<|J1<|Rq<|Xa Y<|Xr e52<|J7<|zV (fun nQ lQ w=>∃ (i:Nat) (y m:Int),l.length - i=nQ∧xM (Hy [(0,Ac A l.length k),(3,Aa m),(4,Aa y)] 0 52) lQ∧y=(i:Int)∧i≤l.length∧sC m (l.drop i)∧Hp w0 w [] []) (l.length) ?_ ?_
 exact⟨0,_,0,Y,(Uh Y Y Y Y),Y,Am _,hso,H⟩
 rintro nQ lQ w1 ⟨i,y,m,rfl,hfit,rfl,hi,hinv,H1⟩
 obtain⟨j,rfl⟩:=hfit.open
 refine cR e52 ?_
 clear hfit
 refine J1<|Rq<|Xm Y<|Xm Y<|OV (ES Lp Y)<|OT (zQ Y Y) (fun hp9=>?_) (fun hp9=>?_)
 have hil:i < l.length:=by omega
 obtain⟨x,hx⟩:=yL hil
 obtain⟨p1,hp1,hR⟩:=h2.get hx
 unfold Pv at hR
 subst hR
 obtain⟨a1,ha1⟩:=hr.some_ (by omega)
 subst ha1
 rw[uX hx]at hinv
 obtain⟨hm1,hm2,hm3,hm4,hm5⟩:=hinv
 refine Xr e52<|J3 Y<|J6<|J1<|J7<|Rq<|Xm Y<|Xm Y<|OV (EI Lp yT Y Y Y hil Y)<|OV (EN yT Y (vs:=[Aa x.client,Aa x.seq,.bool false,Aa 0,Aa 0,Aa 0,Aa 0]) Y ((hr.to0 H1).elem hp hp1))<|Ag e52<|OA yT H1<|fun w2 g2 H2 hg2=>OS yT H2 0 Y Y Y Y Y (by first|exact NL Y|simp[zJ]) Y<|fun w3 H3=>Xr e52<|J1<|Rq<|Xf tU Y<|OV (EL ty3 Y (H3.cell (i:=0) Y Y))<|Xm Y<|Jw (tB Y Y) (by omega)<|Ag e52<|Xm Y<|OY Y<|Xf tU Y<|Ag e52<|OY Y<|OV (EL ty3 Y (H3.cell (i:=0) Y Y))<|OY Y<|Jw (yS Y Y) (by omega)<|Xu Y Y<|Xm Y<|Ag e52<|OY Y<|Xf jL Y ?_
 refine OY Y<|OV (EL ty3 Y (H3.cell (i:=0) Y Y))<|Ag e52<|OY Y<|Jw (zQ Y Y) (by omega)<|Xu Y Y<|Xm Y<|Ag e52<|OY Y<|Xf jL Y<|OY Y<|OV (EL ty3 Y (H3.cell (i:=0) Y Y))<|Ag e52<|OY Y<|Jw (yS Y Y) (by omega)<|Xu Y Y<|Xm Y<|Ag e52<|OY Y<|Xf JO Y<|OY Y<|OV (EL ty4 Y (H3.cell (i:=0) Y Y))<|Ag e52<|OY Y<|Xm Y<|Oz 9 Y<|Ag e52<|OY Y ?_
 refine Xu Y Y<|Xu Y Y<|Xr e52<|J4 Y<|J6<|J2<|Xf tU Y<|OV (EL ty3 Y (H3.cell (i:=0) Y Y))<|Xa Y<|Xr e52<|zA (zB ?_)
 refine J2<|Xm Y<|OV (zL Y Y (Ad _ (by omega)))<|Xa Y<|Xr e52<|zA (zH ?_)
 exact⟨l.length - (i+1),by omega,i+1,_,x.client,Y,(Uh Y Y Y Y),by omega,by omega,hm5,H3.Af⟩
 refine Xr e52<|J4 Y<|J8<|zU<|zS<|Rq<|Xa Y<|Xr e52<|J5<|Cm Y Y<|⟨Y,H1.Af⟩
theorem P8 (A:Option Addr) (k:Nat) (l:List Mk) (c:Int) (ok:Nat→Prop) (w0:World) (hl:Sl Pv 7 w0 ok A l) (hso:sC 0 l):Aj 91 #[Ac A l.length k,Aa c] w0 (fun r w'=>(∀ m,Fh l c=some m→r=.tuple #[.agg (Tz m).toArray,.bool true])∧(Fh l c=none→r=.tuple #[.agg (Tz ⟨0,0⟩).toArray,.bool false])∧Hp w0 w' [] []):=by
 refine zG Tryz.func91 Tryz.ntmps91 Y<|cR e29 ?_
 have H:=Hp.refl w0
 obtain⟨ps,hp,hr,ha,h2⟩:=id hl
 have hlen:=h2.len
 have hn:=mG hso
 obtain⟨Zb,hrise⟩:=vY hso
 refine Rq<|OA yT H<|fun w1 gm H1 _=>Xa Y<|Xr e29<|J1<|Rq<|Xa Y<|Xr e29<|J7<|zV (fun nQ lQ w=>∃ (i:Nat) (y:Int),l.length - i=nQ∧xM (Hy [(0,Ac A l.length k),(1,Aa c),(4,Ah gm),(6,Aa y)] 0 29) lQ∧y=(i:Int)∧i≤l.length∧(∀ z∈l.take i,z.client≠c)∧Hp w0 w [] [((some gm,110,Ti):Ent)]) (l.length) ?_ ?_
 exact⟨0,_,Y,(Jg Y Y Y Y Y),Y,Am _,(fun z hz=>by cases hz),H1⟩
 rintro nQ lQ w2 ⟨i,y,rfl,hfit,rfl,hi,hno,H2⟩
 obtain⟨j,rfl⟩:=hfit.open
 refine cR e29 ?_
 clear hfit
 refine J1<|Rq<|Xm Y<|OC (EC gf134 Y) (SC A k l ok _ (hl.toM H2 k0) hso)<|fun w3 Hd=>have H3:=H2.Au Hd;Xm Y<|Ag e29<|OY Y<|Xm Y<|OY Y<|Xm Y<|Ag e29<|OY Y<|OV (ES Lp Y)<|OY Y<|OT (zQ Y Y) (fun Pj=>?_) (fun Pj=>?_)
 have hil:i < l.length:=by omega
 obtain⟨x,hx⟩:=yL hil
 obtain⟨p1,hp1,hR⟩:=h2.get hx
 unfold Pv at hR
 subst hR
 obtain⟨a1,ha1⟩:=hr.some_ (by omega)
 subst ha1
 refine Xt Y Y<|Xr e29<|J3 Y<|J6<|J1<|J7<|Rq<|Xm Y<|Xm Y<|OV (EI Lp yT Y Y Y hil Y)<|OV (yK tU Y)<|Ag e29<|OV (EL ty3 Y (((hr.to0 H3).elem hp hp1) 0 _ Y))<|Xm Y<|OT (xR Y Y) (fun hp23=>?_) (fun hp23=>?_)
 refine Xr e29<|J3 Y<|Rq<|Xm Y<|Xm Y<|OV (EI Lp yT Y Y Y hil Y)<|OV (EN yT Y (vs:=[Aa x.client,Aa x.seq,.bool false,Aa 0,Aa 0,Aa 0,Aa 0]) Y ((hr.to0 H3).elem hp hp1))<|Ag e29<|OS yT H3 0 Y Y Y Y Y (by first|exact NL Y|simp[zJ]) Y<|fun w4 H4=>Xa Y<|Xr e29<|J5<|BR<|yN<|BR<|xS Y yT (cs:=[Aa x.client,Aa x.seq,.bool false,Aa 0,Aa 0,Aa 0,Aa 0]) Y Y Y (H4.Ap (i:=0) Y Y) ?_
 have hf:=TZ hx hp23 hno
 exact⟨(fun m hm=>by rw[hf]at hm;cases hm;rfl),(fun hm=>by rw[hf]at hm;cases hm),H4.Af⟩
 refine Xr e29<|J4 Y<|J6<|zA (zB ?_)
 refine J2<|Xm Y<|OV (zL Y Y (Ad _ (by omega)))<|Xa Y<|Xr e29<|zA (zH ?_)
 exact⟨l.length - (i+1),by omega,i+1,_,Y,(Jg Y Y Y Y Y),by omega,by omega,(fun z hz=>by
  rw[Jo,hx]at hz
  rcases Bq.1 hz with h | h
  · exact hno z h
  rw[show z=x by simpa using h];exact hp23),H3.pick [0] (by decide)⟩
 obtain rfl:i=l.length:=by omega
 have hnone:=P6 hno
 refine Xt Y Y<|Xr e29<|J4 Y<|J8<|zU<|zS<|Rq<|OV (EB yT eZ Y Y)<|OS yT H3 0 Y Y Y Y Y (by first|exact NL Y|simp[zJ]) Y<|fun w4 H4=>Xa Y<|Xr e29<|J5<|xS Y yT (cs:=Ti) Y Y Y (H4.Ap (i:=0) Y Y)<|⟨(fun m hm=>by rw[hnone]at hm;cases hm),(fun _=>Y),H4.Af⟩
theorem MQ (A:Option Addr) (k:Nat) (l:List Mk) (v:Mk) (ok:Nat→Prop) (w0:World) (hl:Sl Pv 7 w0 ok A l) (hso:sC 0 l) (hv1:1≤v.client∧v.client≤8) (hv2:1≤v.seq∧v.seq≤4611686018427387904):Aj 94 #[Ac A l.length k,.agg [Aa v.client,Aa v.seq,.bool false,Aa 0,Aa 0,Aa 0,Aa 0].toArray] w0 (fun r w'=>∃ A' k',r=Ac A' (uK l v).length k'∧Sl Pv 7 w' (fun b=>w0.heap.size≤b) A' (uK l v)∧Hp w0 w' [] []):=by
 refine zG Tryz.func94 Tryz.ntmps94 Y<|cR e35 ?_
 have H:=Hp.refl w0
 obtain⟨ps,hp,hr,ha,h2⟩:=id hl
 have hlen:=h2.len
 have hn:=mG hso
 obtain⟨Zb,hrise⟩:=vY hso
 have hput:=CN hso hv1 hv2
 have hpl:=mG hput
 refine Rq<|yA Y Y H<|fun w1 gv H1 _=>Xa Y<|Xr e35<|Rq<|Xa Y<|Xr e35<|J1<|Rq<|Xa Y<|Xr e35<|J7<|zV (fun nQ lQ w=>∃ (y:Int) (g:Option Nat) (cap:Nat) (ms:List Mk) (sp:List Value),(9 - y).toNat=nQ∧xM (Hy [(0,Ac A l.length k),(3,Ah gv),(5,Ac (hd g) (ms.map Tz).length cap),(6,Aa y)] 0 35) lQ∧1≤y∧y≤9∧ms=((uK l v).filter fun z=>decide (z.client < y))∧Gw 7 g cap (ms.map Tz) sp∧Hp w0 w [] [((some gv,110,[Aa v.client,Aa v.seq,.bool false,Aa 0,Aa 0,Aa 0,Aa 0]):Ent),((g,110,(ms.map Tz).flatten++sp):Ent)]) (8) ?_ ?_
 exact⟨1,none,0,[],[],Y,(Jg Y Y Y Y Y),by decide,by decide,(OH hput).symm,Gw.nil 7,H1.nil 110⟩
 rintro nQ lQ w2 ⟨y,g,cap,ms,sp,rfl,hfit,hy1,hy9,hms,hG,H2⟩
 obtain⟨j,rfl⟩:=hfit.open
 refine cR e35 ?_
 clear hfit
 refine J1<|Rq<|Xm Y<|OT (tB Y Y) (fun hp10=>?_) (fun hp10=>?_)
 have hml:ms.length≤(uK l v).length:=by rw[hms];exact Nk _ _
 have hst:=B5 (c:=y) hput
 rw[← hms,P5]at hst
 refine Xr e35<|J3 Y<|J6<|J1<|J7<|Rq<|Xm Y<|Xm Y<|OQ (EC gf91 Y) (P8 A k l y ok _ (hl.toM H2 k0) hso) ?_
 rintro r w3 ⟨hyes,hno,Hd⟩
 have H3:=H2.Au Hd
 cases hfm:Fh l y
 obtain rfl:=hno hfm
 refine Xm Y<|Xe Y Y<|Ag e35<|Xe Y Y<|OA yT H3<|fun w4 gz H4 _=>OS yT H4 2 (vs:=[Aa (⟨0,0⟩:Mk).client,Aa (⟨0,0⟩:Mk).seq,.bool false,Aa 0,Aa 0,Aa 0,Aa 0]) Y Y Y Y Y (Ak 7) Y<|fun w5 H5=>Xa Y<|Xr e35<|J7<|Rq<|Xm Y<|Xf tU Y<|OV (EL ty3 Y (H5.cell (i:=0) Y Y))<|OT (xR Y Y) (fun hp23=>?_) (fun hp23=>?_)
 have m1:=()
 rotate_left 1
 refine Xa Y<|Xr e35<|J4 Y<|Rq<|Xm Y<|Xa Y<|Xr e35<|J4 Y<|J6<|zA (zB ?_)
 refine zA (zB ?_)
 refine J2<|Xm Y<|OV (zL Y Y (Ad _ (by omega)))<|Xa Y<|Xr e35<|zA (zH ?_)
 exact⟨(9 - (y+1)).toNat,by omega,y+1,g,cap,ms,sp,Y,(Jg Y Y Y Y Y),by omega,by omega,by rw[hst,if_neg hp23,hfm];exact(Dt _).symm,hG,H5.pick [0,1] (by decide)⟩
 rename_i o
 obtain rfl:=hyes o hfm
 refine Xm Y<|Xe Y Y<|Ag e35<|Xe Y Y<|OA yT H3<|fun w4 gz H4 _=>OS yT H4 2 (vs:=[Aa o.client,Aa o.seq,.bool false,Aa 0,Aa 0,Aa 0,Aa 0]) Y Y Y Y Y (Ak 7) Y<|fun w5 H5=>Xa Y<|Xr e35<|J7<|Rq<|Xm Y<|Xf tU Y<|OV (EL ty3 Y (H5.cell (i:=0) Y Y))<|OT (xR Y Y) (fun hp23=>?_) (fun hp23=>?_)
 have m1:=()
 rotate_left 1
 refine Xa Y<|Xr e35<|J4 Y<|Rq<|Xm Y<|Xa Y<|Xr e35<|J3 Y<|J2<|Xm Y<|OV (EN yT Y (vs:=[Aa o.client,Aa o.seq,.bool false,Aa 0,Aa 0,Aa 0,Aa 0]) Y (H5.Ap (i:=2) Y Y))<|zE Lp yT H5 (cs:=[Aa o.client,Aa o.seq,.bool false,Aa 0,Aa 0,Aa 0,Aa 0]) Y (by decide) Y<|fun w6 gk H6 _=>xB Lp yT (by decide) H6 1 (qs:=ms.map Tz) hG Y Y (rs:=[[Aa o.client,Aa o.seq,.bool false,Aa 0,Aa 0,Aa 0,Aa 0]]) (m:=1) Y Y (H6.rd (i:=3) (o:=some _) (xs:=[Aa o.client,Aa o.seq,.bool false,Aa 0,Aa 0,Aa 0,Aa 0]) (sp:=[]) Y Y (by decide)) (Pl.one Y) (fun p hp=>by rw[Az.1 hp];rfl) (by rw[Bg];omega) (by rw[Bg];omega) (by decide)<|fun w7 g2 cap2 sp2 H7 hG2=>?_
 have hm2:ms.map Tz++[[Aa o.client,Aa o.seq,.bool false,Aa 0,Aa 0,Aa 0,Aa 0]]=(ms++[o]).map Tz:=by rw[Dx];rfl
 rw[hm2]at H7 hG2 ⊢
 refine Ag e35<|Xa Y<|Xr e35<|zA (zB ?_)
 refine zA (zB ?_)
 refine J2<|Xm Y<|OV (zL Y Y (Ad _ (by omega)))<|Xa Y<|Xr e35<|zA (zH ?_)
 exact⟨(9 - (y+1)).toNat,by omega,y+1,g2,cap2,ms++[o],sp2,Y,(Jg Y Y Y Y Y),by omega,by omega,by rw[hst,if_neg hp23,hfm];rfl,hG2,H7.pick [0,1] (by decide)⟩
 obtain rfl:y=9:=by omega
 rw[UP hput]at hms
 subst hms
 refine Xr e35<|J4 Y<|J8<|zU<|zS<|Rq<|Xm Y<|Xa Y<|Xr e35<|J5<|Cm Y Y ?_
 rw[Bg]
 refine⟨hd g,cap,Y,Sl.row H2 (i:=1) Y (mk_pl _) (by decide) (I3 _) (fun b hb=>?_),H2.Af⟩
 rcases H2.place (i:=1) (g:=b) (by rw[hb];rfl)with h | h
 cases h
 exact h
 any_goals
  clear m1
  refine Xa Y<|Xr e35<|J3 Y<|J2<|Xm Y<|OV (EN yT Y (vs:=[Aa v.client,Aa v.seq,.bool false,Aa 0,Aa 0,Aa 0,Aa 0]) Y (H5.Ap (i:=0) Y Y))<|zE Lp yT H5 (cs:=[Aa v.client,Aa v.seq,.bool false,Aa 0,Aa 0,Aa 0,Aa 0]) Y (by decide) Y<|fun w6 gk H6 _=>xB Lp yT (by decide) H6 1 (qs:=ms.map Tz) hG Y Y (rs:=[[Aa v.client,Aa v.seq,.bool false,Aa 0,Aa 0,Aa 0,Aa 0]]) (m:=1) Y Y (H6.rd (i:=3) (o:=some _) (xs:=[Aa v.client,Aa v.seq,.bool false,Aa 0,Aa 0,Aa 0,Aa 0]) (sp:=[]) Y Y (by decide)) (Pl.one Y) (fun p hp=>by rw[Az.1 hp];rfl) (by rw[Bg];omega) (by rw[Bg];omega) (by decide)<|fun w7 g2 cap2 sp2 H7 hG2=>?_
  have hm2:ms.map Tz++[[Aa v.client,Aa v.seq,.bool false,Aa 0,Aa 0,Aa 0,Aa 0]]=(ms++[v]).map Tz:=by rw[Dx];rfl
  rw[hm2]at H7 hG2 ⊢
  refine Ag e35<|Xa Y<|Xr e35<|zA (zB ?_)
  refine zA (zB ?_)
  refine J2<|Xm Y<|OV (zL Y Y (Ad _ (by omega)))<|Xa Y<|Xr e35<|zA (zH ?_)
  exact⟨(9 - (y+1)).toNat,by omega,y+1,g2,cap2,ms++[v],sp2,Y,(Jg Y Y Y Y Y),by omega,by omega,by rw[hst,if_pos hp23];rfl,hG2,H7.pick [0,1] (by decide)⟩
set_option maxHeartbeats 4000000
theorem SN (A:Option Addr) (l:List Rt) (k:Nat) (p:Int) (ok:Nat→Prop) (w0:World) (hl:Sl Nu 4 w0 ok A l) (hn:l.length≤1000000000000):Aj 22 #[Ac A l.length k,Aa p] w0 (fun r w'=>∃ X q x,r=Ac X q.length x∧q.length≤x∧Sl Nu 4 w' (fun b=>w0.heap.size≤b) X q∧q.Sublist l∧Hp w0 w' [] []):=by
 refine zG Tryz.func22 Tryz.ntmps22 Y<|cR e30 ?_
 have H:=Hp.refl w0
 obtain⟨ps,hp,hr,ha,h2⟩:=id hl
 have hlen:=h2.len
 refine Rq<|Xa Y<|Xr e30<|Rq<|Xa Y<|Xr e30<|J1<|Rq<|Xa Y<|Xr e30<|J7<|zV (fun nQ lQ w=>∃ (i:Nat) (y:Int) (g:Option Nat) (cap:Nat) (us:List Rt) (sp:List Value),l.length - i=nQ∧xM (Hy [(0,Ac A l.length k),(1,Aa p),(5,Ac (hd g) (us.map Jv).length cap),(6,Aa y)] 0 30) lQ∧y=(i:Int)∧i≤l.length∧us.Sublist (l.take i)∧Gw 4 g cap (us.map Jv) sp∧Hp w0 w [] [((g,35,(us.map Jv).flatten++sp):Ent)]) (l.length) ?_ ?_
 exact⟨0,_,none,0,[],[],Y,(Jg Y Y Y Y Y),Y,Am _,List.Sublist.refl _,Gw.nil 4,H.nil 35⟩
 rintro nQ lQ w1 ⟨i,y,g,cap,us,sp,rfl,hfit,rfl,hi,hus,hG,H1⟩
 obtain⟨j,rfl⟩:=hfit.open
 refine cR e30 ?_
 clear hfit
 refine J1<|Rq<|Xm Y<|Xm Y<|OV (ES Ht Y)<|OT (zQ Y Y) (fun hp10=>?_) (fun hp10=>?_)
 have hil:i < l.length:=by omega
 obtain⟨x,hx⟩:=yL hil
 obtain⟨p1,hp1,hR⟩:=h2.get hx
 unfold Nu at hR
 subst hR
 obtain⟨a1,ha1⟩:=hr.some_ (by omega)
 subst ha1
 have Yg:us.length≤i:=Ce hus.length_le (List.length_take_le _ _)
 refine Xm Y<|Ag e30<|OY Y<|Xm Y<|OY Y<|OT (zQ Y Y) (fun Pj=>?_) (fun Pj=>?_)
 refine Xt Y Y<|Xr e30<|J3 Y<|J6<|J1<|J7<|Rq<|Xm Y<|Xm Y<|OV (pW Y Y (by omega) (Y))<|OV (C4 Y Y (Y))<|Ag e30<|OT (xR Y Y) (fun hp21=>?_) (fun hp21=>?_)
 refine Xr e30<|J3 Y<|J2<|Xm Y<|Xm Y<|Xm Y<|OV (EI Ht xA Y Y Y hil Y)<|Ag e30<|OV (EN xA Y (vs:=Ar x) Y ((hr.to0 H1).elem hp hp1))<|zE Ht xA H1 (cs:=Ar x) Y (by decide) Y<|fun w2 gk H2 _=>xB Ht xA (by decide) H2 0 (qs:=us.map Jv) hG Y Y (rs:=[Ar x]) (m:=1) Y Y (H2.rd (i:=1) (o:=some _) (xs:=Ar x) (sp:=[]) Y Y (by decide)) (Pl.one Y) (fun p hp=>by rw[Az.1 hp];rfl) (by rw[Bg];omega) (by rw[Bg];omega) (by decide)<|fun w3 g2 cap2 sp2 H3 hG2=>?_
 have hm2:us.map Jv++[Ar x]=(us++[x]).map Jv:=by rw[Dx];rfl
 rw[hm2]at H3 hG2 ⊢
 refine Xa Y<|Xr e30<|zA (zB ?_)
 refine J2<|Xm Y<|OV (zL Y Y (Ad _ (by omega)))<|Xa Y<|Xr e30<|zA (zH ?_)
 exact⟨l.length - (i+1),by omega,i+1,_,g2,cap2,us++[x],sp2,Y,(Jg Y Y Y Y Y),by omega,by omega,by rw[yM hx];exact hus.append (List.Sublist.refl _),hG2,H3.pick [0] (by decide)⟩
 refine Xr e30<|J4 Y<|J6<|zA (zB ?_)
 refine J2<|Xm Y<|OV (zL Y Y (Ad _ (by omega)))<|Xa Y<|Xr e30<|zA (zH ?_)
 exact⟨l.length - (i+1),by omega,i+1,_,g,cap,us,sp,Y,(Jg Y Y Y Y Y),by omega,by omega,by rw[yM hx];exact hus.trans (List.sublist_append_left _ _),hG,H1.pick [0] (by decide)⟩
 refine Xt Y Y ?_
 have m1:=()
 rotate_left 1
 refine Xm Y<|Ag e30<|Oz 2 Y<|Xu Y Y ?_
 have m1:=()
 rotate_left 1
 any_goals
  clear m1
  refine Xr e30<|J4 Y<|J8<|zU<|zS<|Rq<|Xm Y<|Xa Y<|Xr e30<|J5<|Cm Y Y ?_
  have hul2:us.Sublist l:=hus.trans (List.take_sublist _ _)
  have hc9:=hG.2.1
  rw[Bg]at hc9
  rw[Bg]
  refine⟨hd g,us,cap,Y,hc9,Sl.row H1 (i:=0) Y (lL _) (by decide) (kU _) (fun b hb=>?_),hul2,H1.Af⟩
  rcases H1.place (i:=0) (g:=b) (by rw[hb];rfl)with h | h
  cases h
  exact h
theorem gA :∀ {ps:List (List Value)} {l:List Rt},wC Nu ps l→ps=l.map Jv
 | [],[],_=>rfl
 | p::ps,r::l,h=>by
  have h1:p=Jv r:=h.1
  rw[h1,gA h.2]
  rfl
theorem own_v (A:Option Addr) (l:List Rt) (k:Nat) (m:Rt) (ok:Nat→Prop) (w0:World) (hl:Sl Nu 4 w0 ok A l) (hn:l.length≤1000000000000):Aj 24 #[Ac A l.length k,.agg (Ar m).toArray] w0 (fun r w'=>∃ g cap sp,r=Ac (hd g) l.length cap∧l.length+2≤cap∧Hp w0 w' [] [((g,35,((l++[m,m]).map Jv).flatten++sp):Ent)]):=by
 refine zG Tryz.func24 Tryz.ntmps24 Y<|cR e22 ?_
 have H:=Hp.refl w0
 have hr:Rd w0 A l.length 4 (l.map Jv).flatten:=by
  obtain⟨ps,hp,hr,ha,h2⟩:=id hl
  rwa [gA h2]at hr
 refine Rq<|yA Y Y H<|fun w1 gm H1 _=>Xa Y<|Xr e22<|Rq<|Xm Y<|OV (ES Ht Y)<|OV (zL Y Y ((Ad _ (by omega)).trans (show((l.length:Int)+2)=((l.length+2:Nat):Int) by omega)))<|jB Ht xA H1 Y Y (n:=0) (c:=l.length+2) (Am _) (by omega) (by omega)<|fun w2 g0 H2 _=>?_
 have hG0:Gw 4 (some g0) (l.length+2) [] (initL [Aa 0,.string .empty,Aa 0,Aa 0] (l.length+2)):=⟨by rw[List.flatten_nil,Gp,wO];exact Ak _,Am _,(fun h=>by cases h),Pl.nil 4⟩
 refine Ag e22<|Xa Y<|Xr e22<|Rq<|Xm Y<|Xm Y<|xB Ht xA (by decide) H2 1 (g:=some g0) (qs:=[]) hG0 Y Y (rs:=(l.map Jv)) (Bg ..) Y (hr.to0 H2) (lL l) (dN l) (by simp only[Bg,Ae,Bj,Dq];omega) (by simp only[Bg,Ae,Bj,Dq];omega) (by decide)<|fun w3 g2 cap2 sp2 H3 hG2=>Xa Y<|Xr e22<|Rq<|Xm Y<|OV (EN xA Y (vs:=Ar m) Y (H3.Ap (i:=0) Y Y))<|OV (EN xA Y (vs:=Ar m) Y (H3.Ap (i:=0) Y Y))<|zE Ht xA H3 (cs:=[Aa m.g,zT m.key,Aa m.lease,Aa m.net,Aa m.g,zT m.key,Aa m.lease,Aa m.net]) Y (by decide) Y<|fun w4 gk H4 _=>Ag e22<|xB Ht xA (by decide) H4 1 (qs:=[]++l.map Jv) hG2 Y Y (rs:=[Ar m,Ar m]) (m:=2) Y Y (H4.rd (i:=2) (o:=some _) (xs:=[Aa m.g,zT m.key,Aa m.lease,Aa m.net,Aa m.g,zT m.key,Aa m.lease,Aa m.net]) (sp:=[]) Y Y (by decide)) (fun p hp=>by simp only[Cj,Jh,or_false,or_self]at hp;rw[hp];rfl) (fun p hp=>by simp only[Cj,Jh,or_false,or_self]at hp;rw[hp];rfl) (by simp only[Bg,Ae,Bj,Dq];omega) (by simp only[Bg,Ae,Bj,Dq];omega) (by decide)<|fun w5 g5 cap5 YC H5 Yk=>?_
 have hm2:([]++l.map Jv)++[Ar m,Ar m]=(l++[m,m]).map Jv:=by rw[Gp,Dx];rfl
 rw[hm2]at H5 Yk ⊢
 have hc5:l.length+2≤cap5:=by
  have:=Yk.2.1
  rw[Bg,Ae]at this
  exact this
 refine Xa Y<|Xr e22<|Rq<|Xm Y<|Xm Y<|OV (ES Ht Y)<|OV (nS Ht xA Y Y (by omega))<|Ag e22<|Xa Y<|Xr e22<|J5<|Cm Y Y<|⟨g5,cap5,YC,Y,hc5,H5.pick [1] (by decide)⟩
theorem O7 (A B:Option Addr) (l:List Rt) (c d:Nat) (m:Rt) (okq ok:Nat→Prop) (w0:World) (hrm:Rd w0 A (l++[m,m]).length 4 ((l++[m,m]).map Jv).flatten) (hq:Sl Nu 4 w0 okq A l) (hl:Sl Nu 4 w0 ok B l) (hc:l.length+2≤c) (hn:l.length≤1000000000000):Aj 25 #[Ac A l.length c,Ac B l.length d,.agg (Ar m).toArray] w0 (fun r w'=>r=.bool true∧Hp w0 w' [] []):=by
 refine zG Tryz.func25 Tryz.ntmps25 Y<|cR e48 ?_
 have H:=Hp.refl w0
 obtain⟨a,rfl⟩:=hrm.some_ (by rw[Ae];simp)
 refine Rq<|yA Y Y H<|fun w1 gm H1 _=>Xa Y<|Xr e48<|J1<|Rq<|Xm Y<|OV (ES Ht Y)<|Xm Y<|OV (ES Ht Y)<|Ag e48<|Jw (yR Y Y) (by simp)<|Xm Y<|Ag e48<|OY Y<|Xm Y<|OY Y<|OV (pG Ht Y)<|Ag e48<|OY Y<|Xm Y<|OY Y<|OV (ES Ht Y)<|Ag e48<|OY Y<|OV (zL Y Y ((Ad _ (by omega)).trans (show((l.length:Int)+2)=((l.length+2:Nat):Int) by omega)))<|OY Y<|Jw (zQ Y Y) (by omega)<|Xu Y Y<|Xr e48<|J4 Y<|J6<|Rq<|Xm Y ?_
 refine Xm Y<|OV (ES Ht Y)<|OV (zL Y Y ((Ad _ (by omega)).trans (show((l.length:Int)+2)=((l.length+2:Nat):Int) by omega)))<|Ag e48<|OV (nS Ht xA Y Y (by omega))<|Xa Y<|Xr e48<|J1<|zR 22 [(true,0),(true,1),(false,2),(true,3),(true,4),(true,5),(true,6),(true,7),(true,8),(true,9),(true,10),(true,11),(true,12),(true,13),(true,14),(true,15),(true,16),(true,17),(true,18),(true,19),(true,20),(true,21),(false,22)] H1 [0] yE (by decide) (by kernel_rfl) ?_
 rintro w2 hw2
 have H2:=Hp.drew H1;rw[← hw2]at H2
 refine Zm Y Y<|Zm Y Y<|MO Y ?_
 have hk:=eqpR (some a) B c d l l okq ok _ (hq.toR H2 k0) (hl.toR H2 k0) (by omega) (by omega)
 rw[decide_eq_true (rfl:l=l)]at hk
 refine OC (EC gf44 Y) hk<|fun w3 Hd=>have H3:=H2.Au Hd;OE<|⟨fun hne=>H3.pick [0] (by decide),?_⟩
 refine cZ e48<|Zm Y Y<|MP Y<|MY Y<|MV (fun wz hz=>zI Y)<|MP Y<|MY Y<|MV (fun wz hz=>zI Y)<|MP Y<|MY Y<|MV (fun wz hz=>ES Ht Y)<|cZ e48<|MP Y<|MY Y<|MV (fun wz hz=>EI Ht xA Y Y (len:=l.length+2) (i:=l.length) Y (by omega) Y)<|MP Y<|MY Y<|MV (fun wz hz=>EN xA Y (vs:=Ar m) Y ((hrm.to0 hz).elem (lL _) (i:=l.length) (p:=Jv m) (by rw[Nb,Eb (by omega)];simp))) ?_
 refine MP Y<|MY Y<|MV (fun wz hz=>EN xA Y (vs:=Ar m) Y (hz.Ap (i:=0) Y Y))<|MP Y<|MY Y<|qH (fun wz hz=>mS Y Y) (Y)<|cZ e48<|MP Y<|MV (fun wz hz=>xG Y Y)<|Zm Y Y<|MP Y<|MY Y<|MV (fun wz hz=>zI Y)<|MP Y<|MY Y<|MV (fun wz hz=>zI Y)<|cZ e48<|MP Y<|MY Y<|MV (fun wz hz=>ES Ht Y)<|MP Y<|MY Y<|MV (fun wz hz=>zL Y Y ((Ad _ (by omega)).trans (show((l.length:Int)+1)=((l.length+1:Nat):Int) by omega)))<|MP Y<|MY Y<|MV (fun wz hz=>EI Ht xA Y Y (len:=l.length+2) (i:=l.length+1) Y (by omega) Y)<|MP Y<|MY Y<|MV (fun wz hz=>EN xA Y (vs:=Ar m) Y ((hrm.to0 hz).elem (lL _) (i:=(l.length+1)) (p:=Jv m) (by rw[Nb,Eb (by omega)];simp))) ?_
 refine cZ e48<|MP Y<|MY Y<|MV (fun wz hz=>EN xA Y (vs:=Ar m) Y (hz.Ap (i:=0) Y Y))<|MP Y<|MY Y<|qH (fun wz hz=>mS Y Y) (Y)<|MP Y<|MV (fun wz hz=>xG Y Y)<|MO Y<|Xa Y<|OE<|⟨fun hne=>absurd Y hne,?_⟩
 refine cZ e48<|ME<|cR e48<|J5<|Cm Y Y<|⟨Y,H3.Af⟩
set_option maxHeartbeats 16000000
theorem O6 (s:Sv) (A1:Option Addr) (k1:Nat) (A2:Option Addr) (k2:Nat) (A3:Option Addr) (k3:Nat) (w0:World) (hx:-1000000000000000000≤s.index∧s.index≤1000000000000000000) (hm:s.entries.length≤1000000000000000000):Aj 136 #[.agg (Bv s A1 k1 A2 k2 A3 k3).toArray] w0 (fun r w'=>r=Aa (s.index+s.entries.length)∧Hp w0 w' [] []):=by
 refine zG Tryz.func136 Tryz.ntmps136 Y<|cR e9 ?_
 have H:=Hp.refl w0
 refine Rq<|yA Y Y H<|fun w1 g1 H1 hg1=>Xa Y<|Xr e9<|Rq<|Xf wT Y<|OV (EL ty3 Y (H1.cell (i:=0) Y Y))<|Xf xZ Y<|OV (EL uY Y (H1.cell (i:=0) Y Y))<|Ag e9<|OV (ES Lr Y)<|OV (zL Y Y (Ad _ (by omega)))<|Xa Y<|Xr e9<|J5<|Cm Y Y<|⟨Y,H1.Af⟩
theorem IV (gs:Nat) (p b:Bal) (c2 c3 c4 c5:Value) (w0:World) (hrow:w0.heap[gs]? =some (.cells [Aa p.r,Aa p.n,c2,c3,c4,c5].toArray 97 (0,0))):Aj 135 #[Ah gs,.agg [Aa b.r,Aa b.n].toArray] w0 (fun _ w'=>Hp w0 w' [gs] [((some gs,97,[Aa (rz p b).r,Aa (rz p b).n,c2,c3,c4,c5]):Ent)]):=by
 refine zG Tryz.func135 Tryz.ntmps135 Y<|cR e14 ?_
 have H:=Hp.old hrow
 refine Rq<|yA Y Y H<|fun w1 g1 H1 hg1=>Xr e14<|J1<|zR 5 [(true,0),(true,1),(true,2),(true,3),(true,4),(false,5)] H1 [0,1] yE (by decide) (by kernel_rfl) ?_
 rintro w2 hw2
 have H2:=Hp.drew H1;rw[← hw2]at H2
 refine Zm Y Y<|Zc Y Y<|Zf Y vZ Y<|MP Y<|MV (fun wz hz=>EN vA Y (vs:=[Aa p.r,Aa p.n]) Y (hz.Ap (i:=0) Y Y))<|cZ e14<|MP Y<|MV (fun wz hz=>EN vA Y (vs:=[Aa b.r,Aa b.n]) Y (hz.Ap (i:=1) Y Y))<|MO Y<|OX (EC PN Y) (O3 _ _ _) (fun hp9 w3 Hd=>?_) (fun hp9 w3 Hd=>?_)
 have H3:=H2.Au Hd
 refine OE ?_
 refine⟨fun hne=>absurd Y hne,?_⟩
 refine ME<|cR e14<|J3 Y<|J2<|Xm Y<|OV (EN vA Y (vs:=[Aa b.r,Aa b.n]) Y (H3.Ap (i:=1) Y Y))<|Xc Y<|Xf vZ Y<|Ag e14<|OS vA H3 0 Y Y Y Y Y (by first|exact NL Y|simp[zJ]) Y<|fun w4 H4=>Xr e14<|zA<|yQ Y ?_
 unfold rz
 rw[if_pos hp9]
 exact H4.pick [0] (by decide)
 have H3:=H2.Au Hd
 refine OE ?_
 refine⟨fun hne=>absurd Y hne,?_⟩
 refine ME<|cR e14<|J4 Y<|J6<|zA<|yQ Y ?_
 unfold rz
 rw[if_neg hp9]
 exact H3.pick [0] (by decide)
theorem kG (A:Option Addr) (k:Nat) (ps:List (List Value)) (l:List Vt) (n:Int) (ok:Nat→Prop) (w0:World) (hp:Pl 4 ps) (hr:Rd w0 A l.length 4 ps.flatten) (h2:wC (Oe w0 ok) ps l) (hn:l.length≤1000000000000):Aj 138 #[Ac A l.length k,Aa n] w0 (fun r w'=>∃ g cap sp,r=Ac (hd g) (ps.filter fun p=>!Jl n p).length cap∧Gw 4 g cap (ps.filter fun p=>!Jl n p) sp∧Hp w0 w' [] [((g,77,(ps.filter fun p=>!Jl n p).flatten++sp):Ent)]):=by
 refine zG Tryz.func138 Tryz.ntmps138 Y<|cR e28 ?_
 have H:=Hp.refl w0
 have hlen:=h2.len
 refine Rq<|Xa Y<|Xr e28<|Rq<|Xa Y<|Xr e28<|J1<|Rq<|Xa Y<|Xr e28<|J7<|zV (fun nQ lQ w=>∃ (i:Nat) (y:Int) (g:Option Nat) (cap:Nat) (qs:List (List Value)) (sp:List Value),l.length - i=nQ∧xM (Hy [(0,Ac A l.length k),(1,Aa n),(5,Ac (hd g) qs.length cap),(6,Aa y)] 0 28) lQ∧y=(i:Int)∧i≤l.length∧qs=(ps.take i).filter (fun p=>!Jl n p)∧Gw 4 g cap qs sp∧Hp w0 w [] [((g,77,qs.flatten++sp):Ent)]) (l.length) ?_ ?_
 exact⟨0,_,none,0,[],[],Y,(Jg Y Y Y Y Y),Y,Am _,Y,Gw.nil 4,H.nil 77⟩
 rintro nQ lQ w1 ⟨i,y,g,cap,qs,sp,rfl,hfit,rfl,hi,Vr,hG,H1⟩
 obtain⟨j,rfl⟩:=hfit.open
 refine cR e28 ?_
 clear hfit
 refine J1<|Rq<|Xm Y<|Xm Y<|OV (ES Jd Y)<|OT (zQ Y Y) (fun hp10=>?_) (fun hp10=>?_)
 have hil:i < l.length:=by omega
 obtain⟨x,hx⟩:=yL hil
 obtain⟨p1,hp1,hR⟩:=h2.get hx
 obtain⟨Ax,kx,rfl,hbx⟩:=hR
 obtain⟨a1,ha1⟩:=hr.some_ (by omega)
 subst ha1
 have Gi:qs.length≤i:=by rw[Vr];exact iF
 refine Xr e28<|J3 Y<|J6<|J1<|J7<|Rq<|Xm Y<|Xm Y<|OV (EI Jd xE Y Y Y hil Y)<|OV (yK vF Y)<|Ag e28<|OV (EL ty3 Y (((hr.to0 H1).elem hp hp1) 0 _ Y))<|Xm Y<|OT (yS Y Y) (fun hp19=>?_) (fun hp19=>?_)
 have hf1:(!Jl n (Dl x Ax kx))=true:=by show(!decide (x.slot≤n))=true;rw[decide_eq_false (by omega)];rfl
 refine Xr e28<|J3 Y<|J2<|Xm Y<|Xm Y<|Xm Y<|OV (EI Jd xE Y Y Y hil Y)<|Ag e28<|OV (EN xE Y (vs:=Dl x Ax kx) Y ((hr.to0 H1).elem hp hp1))<|zE Jd xE H1 (cs:=Dl x Ax kx) Y (by decide) Y<|fun w2 gk H2 _=>xB Jd xE (by decide) H2 0 hG Y Y (rs:=[Dl x Ax kx]) (m:=1) Y Y (H2.rd (i:=1) (o:=some _) (xs:=Dl x Ax kx) (sp:=[]) Y Y (by decide)) (Pl.one Y) (fun p hp=>by rw[Az.1 hp];rfl) (by omega) (by omega) (by decide)<|fun w3 g2 cap2 sp2 H3 hG2=>Xa Y<|Xr e28<|zA (zB ?_)
 refine J2<|Xm Y<|OV (zL Y Y (Ad _ (by omega)))<|Xa Y<|Xr e28<|zA (zH ?_)
 exact⟨l.length - (i+1),by omega,i+1,_,g2,cap2,_,sp2,Y,(Jg Y Y Y Y Y),by omega,by omega,by rw[Vr,GK hp1 hf1],hG2,H3.pick [0] (by decide)⟩
 have hf1:(!Jl n (Dl x Ax kx))=false:=by show(!decide (x.slot≤n))=false;rw[decide_eq_true (by omega)];rfl
 refine Xr e28<|J4 Y<|J6<|zA (zB ?_)
 refine J2<|Xm Y<|OV (zL Y Y (Ad _ (by omega)))<|Xa Y<|Xr e28<|zA (zH ?_)
 exact⟨l.length - (i+1),by omega,i+1,_,g,cap,qs,sp,Y,(Jg Y Y Y Y Y),by omega,by omega,by rw[Vr,GL hp1 hf1],hG,H1.pick [0] (by decide)⟩
 obtain rfl:i=l.length:=by omega
 rw[← hlen,Bz]at Vr
 subst Vr
 refine Xr e28<|J4 Y<|J8<|zU<|zS<|Rq<|Xm Y<|Xa Y<|Xr e28<|J5<|Cm Y Y<|⟨g,cap,sp,Y,hG,H1.pick [0] (by decide)⟩
theorem V0 (A:Option Addr) (k:Nat) (ps:List (List Value)) (l:List Vt) (v:Vt) (C:Option Addr) (kc:Nat) (ok:Nat→Prop) (w0:World) (hp:Pl 4 ps) (hr:Rd w0 A l.length 4 ps.flatten) (h2:wC (Oe w0 ok) ps l) (hn:l.length≤1000000000000):Aj 137 #[Ac A l.length k,.agg (Dl v C kc).toArray] w0 (fun r w'=>∃ g cap sp,r=Ac (hd g) (ps.filter (BW v.slot)++([Dl v C kc]:List (List Value))++ps.filter fun p=>!Jl v.slot p).length cap∧Gw 4 g cap (ps.filter (BW v.slot)++([Dl v C kc]:List (List Value))++ps.filter fun p=>!Jl v.slot p) sp∧Hp w0 w' [] [((g,77,(ps.filter (BW v.slot)++([Dl v C kc]:List (List Value))++ps.filter fun p=>!Jl v.slot p).flatten++sp):Ent)]):=by
 refine zG Tryz.func137 Tryz.ntmps137 Y<|cR e37 ?_
 have H:=Hp.refl w0
 have hlen:=h2.len
 have hon:=h2.ones fun _ _ h=>h.ones
 refine Rq<|yA Y Y H<|fun w1 gv H1 _=>Xa Y<|Xr e37<|Rq<|Xa Y<|Xr e37<|J1<|Rq<|Xa Y<|Xr e37<|J7<|zV (fun nQ lQ w=>∃ (i:Nat) (y:Int) (g:Option Nat) (cap:Nat) (qs:List (List Value)) (sp:List Value),l.length - i=nQ∧xM (Hy [(0,Ac A l.length k),(3,Ah gv),(5,Ac (hd g) qs.length cap),(6,Aa y)] 0 37) lQ∧y=(i:Int)∧i≤l.length∧qs=(ps.take i).filter (BW v.slot)∧Gw 4 g cap qs sp∧Hp w0 w [] [((some gv,77,Dl v C kc):Ent),((g,77,qs.flatten++sp):Ent)]) (l.length) ?_ ?_
 exact⟨0,_,none,0,[],[],Y,(Jg Y Y Y Y Y),Y,Am _,Y,Gw.nil 4,H1.nil 77⟩
 rintro nQ lQ w2 ⟨i,y,g,cap,qs,sp,rfl,hfit,rfl,hi,Vr,hG,H2⟩
 obtain⟨j,rfl⟩:=hfit.open
 refine cR e37 ?_
 clear hfit
 refine J1<|Rq<|Xm Y<|Xm Y<|OV (ES Jd Y)<|OT (zQ Y Y) (fun hp10=>?_) (fun hp10=>?_)
 have hil:i < l.length:=by omega
 obtain⟨x,hx⟩:=yL hil
 obtain⟨p1,hp1,hR⟩:=h2.get hx
 obtain⟨Ax,kx,rfl,hbx⟩:=hR
 obtain⟨a1,ha1⟩:=hr.some_ (by omega)
 subst ha1
 have Gi:qs.length≤i:=by rw[Vr];exact iF
 refine Xr e37<|J3 Y<|J6<|J1<|J7<|J1<|vW yE (by kernel_rfl) ?_
 rintro w3 hw3
 have H3:=Hp.drew H2;rw[← hw3]at H3
 refine SV (zI Y)<|SV (zI Y)<|SV (EI Jd xE Y Y Y hil Y)<|SV (yK vF Y)<|wX e37<|SV (EL ty3 Y (((hr.to0 H3).elem hp hp1) 0 _ Y))<|SV (EF vF Y)<|SV (EL ty3 Y (H3.cell (i:=0) Y Y))<|vB (zQ Y Y) (fun hp20=>?_) (fun hp20=>?_)
 have hf1:BW v.slot (Dl x Ax kx)=true:=decide_eq_true hp20
 refine xJ<|cR e37<|J3 Y<|J2<|Xm Y<|Xm Y<|Xm Y<|OV (EI Jd xE Y Y Y hil Y)<|Ag e37<|OV (EN xE Y (vs:=Dl x Ax kx) Y ((hr.to0 H3).elem hp hp1))<|zE Jd xE H3 (cs:=Dl x Ax kx) Y (by decide) Y<|fun w4 gk H4 _=>xB Jd xE (by decide) H4 1 hG Y Y (rs:=[Dl x Ax kx]) (m:=1) Y Y (H4.rd (i:=2) (o:=some _) (xs:=Dl x Ax kx) (sp:=[]) Y Y (by decide)) (Pl.one Y) (fun p hp=>by rw[Az.1 hp];rfl) (by omega) (by omega) (by decide)<|fun w5 g2 cap2 sp2 H5 hG2=>Xa Y<|Xr e37<|zA (zB ?_)
 refine J2<|Xm Y<|OV (zL Y Y (Ad _ (by omega)))<|Xa Y<|Xr e37<|zA (zH ?_)
 exact⟨l.length - (i+1),by omega,i+1,_,g2,cap2,_,sp2,Y,(Jg Y Y Y Y Y),by omega,by omega,by rw[Vr,GK hp1 hf1],hG2,H5.pick [0,1] (by decide)⟩
 have hf1:BW v.slot (Dl x Ax kx)=false:=decide_eq_false hp20
 refine xJ<|cR e37<|J4 Y<|J6<|zA (zB ?_)
 refine J2<|Xm Y<|OV (zL Y Y (Ad _ (by omega)))<|Xa Y<|Xr e37<|zA (zH ?_)
 exact⟨l.length - (i+1),by omega,i+1,_,g,cap,qs,sp,Y,(Jg Y Y Y Y Y),by omega,by omega,by rw[Vr,GL hp1 hf1],hG,H3.pick [0,1] (by decide)⟩
 obtain rfl:i=l.length:=by omega
 rw[← hlen,Bz]at Vr
 have Gi:qs.length≤l.length:=by rw[Vr,← hlen];exact Nk _ _
 have hbl:(ps.filter fun p=>!Jl v.slot p).length≤l.length:=by rw[← hlen];exact Nk _ _
 refine Xr e37<|J4 Y<|J8<|zU<|zS<|J1<|rT 9 (.p 0 (.p 1 (.p 4 (.p 5 (.p 6 (.o 2 (.o 3 (.o 7 (.o 8 (.o 9 .nil)))))))))) H2 [0] yE (by decide) (by kernel_rfl) ?_
 rintro w3 hw3
 have H3:=Hp.drew H2;rw[← hw3]at H3
 refine Tm Y Y<|TP Y<|MV (fun wz hz=>EN xE Y (vs:=Dl v C kc) Y (hz.Ap (i:=0) Y Y))<|Tm Y Y<|Tf Y vF Y<|cT e37<|TP Y<|MV (fun wz hz=>EL ty3 Y (hz.cell (i:=0) Y Y))<|TQ Y<|zE Jd xE H3 (cs:=Dl v C kc) Y (by decide) Y<|fun w4 gk H4 _=>OE<|⟨fun hne=>H4.pick [0] (by decide),?_⟩
 refine cT e37<|TQ Y<|xB Jd xE (by decide) H4 1 hG Y Y (rs:=[Dl v C kc]) (m:=1) Y Y (H4.rd (i:=2) (o:=some _) (xs:=Dl v C kc) (sp:=[]) Y Y (by decide)) (Pl.one Y) (fun p hp=>by rw[Az.1 hp];rfl) (by omega) (by omega) (by decide)<|fun w5 g4 cap4 sp4 H5 hG4=>OE<|⟨fun hne=>H5.pick [0] (by decide),?_⟩
 refine cT e37<|TQ Y<|OQ (EC FE Y) (kG A k ps l v.slot ok _ hp (hr.to0 H5) (h2.imp fun p x h=>h.to H5 k0) hn) ?_
 rintro _ w6 ⟨g3,cap3,sp3,rfl,hG3,Hc⟩
 have H6:=H5.call0 Hc
 refine OE ?_
 refine⟨fun hne=>H6.pick [0] (by decide),?_⟩
 refine cT e37<|TQ Y<|xB Jd xE (by decide) H6 1 hG4 Y Y (rs:=(ps.filter fun p=>!Jl v.slot p)) Y Y (H6.rd (i:=3) (xs:=(ps.filter fun p=>!Jl v.slot p).flatten) (sp:=sp3) Y hG3.2.2.2.len (by decide)) hG3.2.2.2 (fun p hp=>hon p (Dz.1 hp).1) (by simp only[Ae,Bj,Dq];omega) (by simp only[Ae,Bj,Dq];omega) (by decide)<|fun w7 g5 cap5 YC H7 Yk=>OE<|⟨fun hne=>H7.pick [0] (by decide),?_⟩
 refine cT e37<|TQ Y<|Xa Y<|OE<|⟨fun hne=>absurd Y hne,?_⟩
 refine cT e37<|tH<|cR e37<|J5<|Cm Y Y ?_
 subst Vr
 exact⟨g5,cap5,YC,Y,Yk,H7.pick [1] (by decide)⟩
set_option maxHeartbeats 32000000
theorem PH (s:Sv) (A1:Option Addr) (k1:Nat) (A2:Option Addr) (k2:Nat) (A3:Option Addr) (k3:Nat) (n:Nt) (B1:Option Addr) (j1:Nat) (B2:Option Addr) (j2:Nat) (ok:Nat→Prop) (w0:World) (hv1:Sl (Oe w0 ok) 4 w0 ok A1 s.Bc) (hv2:Bs w0 ok A2 s.image) (hv3:Sl (Qp w0 ok) 2 w0 ok A3 s.entries) (hbv:Bs w0 ok B1 n.Eh.val) (hbe:Bs w0 ok B2 n.entry.val) (hk:1≤n.kind∧n.kind≤4) (hi:0≤s.index∧s.index≤1099511627776) (he:s.entries.length≤1099511627776) (hvl:s.Bc.length≤1000) (hes:∀ x∈s.entries,x.slot≤1099511627776):Aj 95 #[.agg (Bv s A1 k1 A2 k2 A3 k3).toArray,.agg (Ed n B1 j1 B2 j2).toArray] w0 (fun r w'=>∃ cs',r=.agg cs'.toArray∧Qz w' (up ok w0.heap.size) cs' (s.goes n)∧Hp w0 w' [] []):=by
 refine zG Tryz.func95 Tryz.ntmps95 Y<|cR Dy ?_
 have H:=Hp.refl w0
 obtain⟨pv,hpv,Vh,_,Qy⟩:=id hv1
 obtain⟨pe,hpe,hre,_,he2⟩:=id hv3
 have hvl2:=Qy.len
 have hel:=he2.len
 have hone:=he2.ones fun _ _ h=>h.ones
 refine Rq<|yA Y Y H<|fun w1 gs H1 _=>yA Y Y H1<|fun w2 gn H2 _=>OA wD H2<|fun w3 gr H3 _=>Xr Dy<|J1<|Rq<|Xf oY Y<|OV (EL ty3 Y (H3.cell (i:=1) Y Y))<|Xr Dy<|J7<|Rq<|OT (xR Y Y) (fun hp10=>?_) (fun hp10=>?_)
 refine Xa Y<|Xr Dy<|J3 Y<|J2<|Xf iR Y<|OV (EN vA Y (vs:=[Aa n.b.r,Aa n.b.n]) Y (H3.Ap (i:=1) Y Y))<|OQ (EC VG Y) (IV gs s.p n.b _ _ _ _ _ (H3.at (i:=0) Y)) ?_
 rintro _ w4 Hd
 have H4:=(H3.Du [0] rfl Hd).pick [3,1,2] (by decide)
 refine Xr Dy<|zA (zB ?_)
 refine Rq<|OV (EN wD Y (vs:=[Aa (rz s.p n.b).r,Aa (rz s.p n.b).n,Ac A1 s.Bc.length k1,Aa s.index,Ac A2 s.image.length k2,Ac A3 s.entries.length k3]) Y (H4.Ap (i:=0) Y Y))<|OS wD H4 2 Y Y Y Y Y (by first|exact NL Y|simp[zJ]) Y<|fun w5 H5=>Xr Dy<|J5<|uL Y wD (cs:=[Aa (rz s.p n.b).r,Aa (rz s.p n.b).n,Ac A1 s.Bc.length k1,Aa s.index,Ac A2 s.image.length k2,Ac A3 s.entries.length k3]) Y Y (H5.Ap (i:=2) Y Y)<|⟨_,Y,?_,H5.Af⟩
 rw[JC hp10,nJ]
 exact⟨A1,k1,A2,k2,A3,k3,Y,hv1.Qn H5 vG,hv2.to H5 vG,hv3.Tt H5 vG⟩
 refine Xa Y<|Xr Dy<|J4 Y<|Rq<|OT (xR Y Y) (fun Js=>?_) (fun Js=>?_)
 refine Xa Y<|Xr Dy<|J3 Y<|J1<|zR 5 [(true,0),(true,1),(true,2),(true,3),(false,4),(false,5)] H3 [0,1,2] yE (by decide) (by kernel_rfl) ?_
 rintro w4 hw4
 have H4:=Hp.drew H3;rw[← hw4]at H4
 refine Zf Y oX Y<|Zf Y vF Y<|MP Y<|MV (fun wz hz=>EL ty3 Y (hz.cell (i:=1) Y Y))<|MP Y<|MV (fun wz hz=>EN wD Y (vs:=Bv s A1 k1 A2 k2 A3 k3) Y (hz.Ap (i:=0) Y Y))<|cZ Dy<|MO Y<|OC (EC VF Y) (O6 s A1 k1 A2 k2 A3 k3 _ ⟨by omega,by omega⟩ (by omega))<|fun w5 Hd=>have H5:=H4.Au Hd;OE<|⟨fun hne=>H5.pick [0,1,2] (by decide),?_⟩
 refine cZ Dy<|MO Y<|OT (yS Y Y) (fun hp21=>?_) (fun hp21=>?_)
 refine OE ?_
 refine⟨fun hne=>absurd Y hne,?_⟩
 refine ME<|cR Dy<|J3 Y<|Rq<|Xf xW Y<|OV (EL uP Y (H5.cell (i:=0) Y Y))<|Xf oX Y<|OV (EN xE Y (vs:=Jt n B1 j1) Y (H5.Ap (i:=1) Y Y))<|Ag Dy<|OQ (EC gf137 Y) (V0 A1 k1 pv s.Bc n.Eh B1 j1 ok _ hpv (Vh.to0 H5) (Qy.imp fun p x h=>h.to H5 k0) (by omega)) ?_
 rintro _ w6 ⟨g4,cap4,sp4,rfl,hG4,Hc⟩
 have H6:=H5.call0 Hc
 have hVL:(pv.filter (BW n.Eh.slot)++([Jt n B1 j1]:List (List Value))++pv.filter fun p=>!Jl n.Eh.slot p).length=(Jy s.Bc n.Eh).length:=(bA Qy ⟨B1,j1,rfl,hbv⟩).len
 rw[hVL]
 refine Xf xW Y<|OW uP H6 0 Y Y Y Y (by first | (simp;done) | simp[zJ]) Y<|fun w7 H7=>Xr Dy<|J2<|Xf oX Y<|Xf sH Y<|OV (EN vA Y (vs:=[Aa n.Eh.b.r,Aa n.Eh.b.n]) Y (H7.Ap (i:=1) Y Y))<|OQ (EC VG Y) (IV gs s.p n.Eh.b _ _ _ _ _ (H7.at (i:=0) Y)) ?_
 rintro _ w8 Hd
 have H8:=(H7.Du [0] rfl Hd).pick [4,1,2,3] (by decide)
 refine Xr Dy<|zA (zB ?_)
 refine Rq<|OV (EN wD Y (vs:=[Aa (rz s.p n.Eh.b).r,Aa (rz s.p n.Eh.b).n,Ac (hd g4) (Jy s.Bc n.Eh).length cap4,Aa s.index,Ac A2 s.image.length k2,Ac A3 s.entries.length k3]) Y (H8.Ap (i:=0) Y Y))<|OS wD H8 2 Y Y Y Y Y (by first|exact NL Y|simp[zJ]) Y<|fun w9 H9=>Xr Dy<|J5<|uL Y wD (cs:=[Aa (rz s.p n.Eh.b).r,Aa (rz s.p n.Eh.b).n,Ac (hd g4) (Jy s.Bc n.Eh).length cap4,Aa s.index,Ac A2 s.image.length k2,Ac A3 s.entries.length k3]) Y Y (H9.Ap (i:=2) Y Y)<|⟨_,Y,?_,H9.Af⟩
 rw[FD Js,if_neg (by unfold Sv.last;omega),nJ]
 exact⟨hd g4,cap4,A2,k2,A3,k3,Y,Sl.row H9 (i:=3) Y hG4.2.2.2 (by decide) (bA (Qy.imp fun p x h=>h.to H9 vG) ⟨B1,j1,Y,hbv.to H9 vG⟩) (wQ H9 (i:=3) Y (fun _ h=>by cases h)),hv2.to H9 vG,hv3.Tt H9 vG⟩
 refine OE ?_
 refine⟨fun hne=>absurd Y hne,?_⟩
 refine ME<|cR Dy<|J4 Y<|J6<|zA (zB ?_)
 refine Rq<|OV (EN wD Y (vs:=Bv s A1 k1 A2 k2 A3 k3) Y (H5.Ap (i:=0) Y Y))<|OS wD H5 2 Y Y Y Y Y (by first|exact NL Y|simp[zJ]) Y<|fun w6 H6=>Xr Dy<|J5<|uL Y wD (cs:=Bv s A1 k1 A2 k2 A3 k3) Y Y (H6.Ap (i:=2) Y Y)<|⟨_,Y,?_,H6.Af⟩
 rw[FD Js,if_pos (by unfold Sv.last;omega)]
 exact⟨A1,k1,A2,k2,A3,k3,Y,hv1.Qn H6 vG,hv2.to H6 vG,hv3.Tt H6 vG⟩
 refine Xa Y<|Xr Dy<|J4 Y<|Rq<|OT (xR Y Y) (fun ZY=>?_) (fun ZY=>?_)
 refine Xa Y<|Xr Dy<|J3 Y<|J1<|zR 6 [(true,0),(true,1),(true,2),(true,3),(false,4),(true,5),(false,6)] H3 [0,1,2] yE (by decide) (by kernel_rfl) ?_
 rintro w4 hw4
 have H4:=Hp.drew H3;rw[← hw4]at H4
 refine Zf Y uF Y<|Zf Y wF Y<|MP Y<|MV (fun wz hz=>EL ty3 Y (hz.cell (i:=1) Y Y))<|MP Y<|MV (fun wz hz=>EN wD Y (vs:=Bv s A1 k1 A2 k2 A3 k3) Y (hz.Ap (i:=0) Y Y))<|cZ Dy<|MO Y<|OC (EC VF Y) (O6 s A1 k1 A2 k2 A3 k3 _ ⟨by omega,by omega⟩ (by omega))<|fun w5 Hd=>have H5:=H4.Au Hd;OE<|⟨fun hne=>H5.pick [0,1,2] (by decide),?_⟩
 refine cZ Dy<|MP Y<|MV (fun wz hz=>zL Y Y (Ad _ (by omega)))<|MO Y<|OT (xR Y Y) (fun hp40=>?_) (fun hp40=>?_)
 refine OE ?_
 refine⟨fun hne=>absurd Y hne,?_⟩
 refine ME<|cR Dy<|J3 Y<|J1<|rT 8 (.p 0 (.p 1 (.p 3 (.p 4 (.two 2 (.o 5 (.o 6 (.p 7 (.o 8 .nil)))) 5 (.o 2 (.o 6 (.p 7 (.o 8 .nil))))))))) H5 [0,1,2] yE (by decide) (by kernel_rfl) ?_
 rintro w6 hw6
 have H6:=Hp.drew H5;rw[← hw6]at H6
 refine Tf Y xZ Y<|TP Y<|MV (fun wz hz=>EL uY Y (hz.cell (i:=0) Y Y))<|Tf Y uF Y<|TP Y<|MV (fun wz hz=>EN wE Y (vs:=Ie n B2 j2) Y (hz.Ap (i:=1) Y Y))<|cT Dy<|sD ?_ ?_
 refine TQ Y<|xB Lr wE (by decide) (H6.nil 79) 3 (Gw.nil 2) Y Y (rs:=pe) (m:=s.entries.length) hel Y (hre.to0 H6) hpe hone (by rw[Dq];omega) (by rw[Dq];omega) (by decide)<|fun w7 g2 cap2 sp2 H7 hG2=>OE<|⟨fun hne=>H7.pick [0,1,2] (by decide),?_⟩
 refine cT Dy<|TQ Y<|zE Lr wE H7 (cs:=Ie n B2 j2) Y (by decide) Y<|fun w8 gk H8 _=>have m1:=();?_
 rotate_left 1
 refine TQ Y<|zE Lr wE H6 (cs:=Ie n B2 j2) Y (by decide) Y<|fun w7 gk H7 _=>OE<|⟨fun hne=>H7.pick [0,1,2] (by decide),?_⟩
 refine cT Dy<|TQ Y<|xB Lr wE (by decide) (H7.nil 79) 4 (Gw.nil 2) Y Y (rs:=pe) (m:=s.entries.length) hel Y (hre.to0 H7) hpe hone (by rw[Dq];omega) (by rw[Dq];omega) (by decide)<|fun w8 g2 cap2 sp2 H8 hG2=>?_
 replace H8:=H8.pick [0,1,2,4,3] (by decide)
 have m1:=()
 rotate_left 1
 refine OE ?_
 refine⟨fun hne=>absurd Y hne,?_⟩
 refine ME<|cR Dy<|J4 Y<|J6<|zA (zB ?_)
 refine Rq<|OV (EN wD Y (vs:=Bv s A1 k1 A2 k2 A3 k3) Y (H5.Ap (i:=0) Y Y))<|OS wD H5 2 Y Y Y Y Y (by first|exact NL Y|simp[zJ]) Y<|fun w6 H6=>Xr Dy<|J5<|uL Y wD (cs:=Bv s A1 k1 A2 k2 A3 k3) Y Y (H6.Ap (i:=2) Y Y)<|⟨_,Y,?_,H6.Af⟩
 rw[FB ZY,if_neg (by unfold Sv.last;omega)]
 exact⟨A1,k1,A2,k2,A3,k3,Y,hv1.Qn H6 vG,hv2.to H6 vG,hv3.Tt H6 vG⟩
 refine Xa Y<|Xr Dy<|J4 Y<|Rq<|Ui (xR Y Y) (by omega)<|Xa Y<|Xr Dy<|J3 Y<|J1<|Rq<|Xf uF Y<|Xf wF Y<|OV (EL ty3 Y (H3.cell (i:=1) Y Y))<|Xf wT Y<|Ag Dy<|OV (EL ty3 Y (H3.cell (i:=0) Y Y))<|OT (tB Y Y) (fun hp63=>?_) (fun hp63=>?_)
 refine Xr Dy<|J3 Y<|Rq<|OV (EN wD Y (vs:=Bv s A1 k1 A2 k2 A3 k3) Y (H3.Ap (i:=0) Y Y))<|OS wD H3 2 Y Y Y Y Y (by first|exact NL Y|simp[zJ]) Y<|fun w4 H4=>Xr Dy<|J5<|BR<|uL Y wD (cs:=Bv s A1 k1 A2 k2 A3 k3) Y Y (H4.Ap (i:=2) Y Y)<|⟨_,Y,?_,H4.Af⟩
 rw[bS (by omega),if_pos (by omega)]
 exact⟨A1,k1,A2,k2,A3,k3,Y,hv1.Qn H4 vG,hv2.to H4 vG,hv3.Tt H4 vG⟩
 refine Xr Dy<|J4 Y<|J6<|Rq<|Xa Y<|Xr Dy<|J1<|Rq<|Xa Y<|Xr Dy<|J7<|zV (fun nQ lQ w=>∃ (i:Nat) (y:Int) (g:Option Nat) (cap:Nat) (qs:List (List Value)) (sp:List Value),s.entries.length - i=nQ∧xM (Hy [(2,Ah gs),(3,Ah gn),(4,Ah gr),(5,Ac (hd g) qs.length cap),(6,Aa y)] 0 122) lQ∧y=(i:Int)∧i≤s.entries.length∧qs=(pe.take i).filter (fun p=>!Jl n.entry.slot p)∧Gw 2 g cap qs sp∧Hp w0 w [] [((some gs,97,Bv s A1 k1 A2 k2 A3 k3):Ent),((some gn,81,Ed n B1 j1 B2 j2):Ent),((some gr,97,Td):Ent),((g,79,qs.flatten++sp):Ent)]) (s.entries.length) ?_ ?_
 exact⟨0,_,none,0,[],[],Y,(Oc Y Y Y Y Y Y),Y,Am _,Y,Gw.nil 2,H3.nil 79⟩
 rintro nQ lQ w4 ⟨i,y,g,cap,qs,sp,rfl,hfit,rfl,hi,Vr,hG,H4⟩
 obtain⟨j,rfl⟩:=hfit.open
 refine cR Dy ?_
 clear hfit
 refine J1<|Rq<|Xm Y<|Xf xZ Y<|OV (EL uY Y (H4.cell (i:=0) Y Y))<|OV (ES Lr Y)<|Ag Dy<|OT (zQ Y Y) (fun hp69=>?_) (fun hp69=>?_)
 have hil:i < s.entries.length:=by omega
 obtain⟨x,hx⟩:=yL hil
 obtain⟨p1,hp1,hR⟩:=he2.get hx
 obtain⟨Ax,kx,rfl,hbx⟩:=hR
 obtain⟨a1,ha1⟩:=hre.some_ (by omega)
 subst ha1
 have Gi:qs.length≤i:=by rw[Vr];exact iF
 refine Xr Dy<|J3 Y<|J6<|J1<|J7<|J1<|vW yE (by kernel_rfl) ?_
 rintro w5 hw5
 have H5:=Hp.drew H4;rw[← hw5]at H5
 refine SV (EF xZ Y)<|SV (EL uY Y (H5.cell (i:=0) Y Y))<|SV (zI Y)<|SV (EI Lr wE Y Y Y hil Y)<|wX Dy<|SV (yK wF Y)<|SV (EL ty3 Y (((hre.to0 H5).elem hpe hp1) 0 _ Y))<|SV (EF uF Y)<|SV (EF wF Y)<|wX Dy<|SV (EL ty3 Y (H5.cell (i:=1) Y Y))<|vB (yS Y Y) (fun YN=>?_) (fun YN=>?_)
 have hf1:(!Jl n.entry.slot (Ez x Ax kx))=true:=by show(!decide (x.slot≤n.entry.slot))=true;rw[decide_eq_false (by omega)];rfl
 refine xJ<|cR Dy<|J3 Y<|J2<|Xm Y<|Xf xZ Y<|OV (EL uY Y (H5.cell (i:=0) Y Y))<|Xm Y<|Ag Dy<|OV (EI Lr wE Y Y Y hil Y)<|OV (EN wE Y (vs:=Ez x Ax kx) Y ((hre.to0 H5).elem hpe hp1))<|zE Lr wE H5 (cs:=Ez x Ax kx) Y (by decide) Y<|fun w6 gk H6 _=>xB Lr wE (by decide) H6 3 hG Y Y (rs:=[Ez x Ax kx]) (m:=1) Y Y (H6.rd (i:=4) (o:=some _) (xs:=Ez x Ax kx) (sp:=[]) Y Y (by decide)) (Pl.one Y) (fun p hp=>by rw[Az.1 hp];rfl) (by omega) (by omega) (by decide)<|fun w7 g2 cap2 sp2 H7 hG2=>Ag Dy<|Xa Y<|Xr Dy<|zA (zB ?_)
 refine J2<|Xm Y<|OV (zL Y Y (Ad _ (by omega)))<|Xa Y<|Xr Dy<|zA (zH ?_)
 exact⟨s.entries.length - (i+1),by omega,i+1,_,g2,cap2,_,sp2,Y,(Oc Y Y Y Y Y Y),by omega,by omega,by rw[Vr,GK hp1 hf1],hG2,H7.pick [0,1,2,3] (by decide)⟩
 have hf1:(!Jl n.entry.slot (Ez x Ax kx))=false:=by show(!decide (x.slot≤n.entry.slot))=false;rw[decide_eq_true (by omega)];rfl
 refine xJ<|cR Dy<|J4 Y<|J6<|zA (zB ?_)
 refine J2<|Xm Y<|OV (zL Y Y (Ad _ (by omega)))<|Xa Y<|Xr Dy<|zA (zH ?_)
 exact⟨s.entries.length - (i+1),by omega,i+1,_,g,cap,qs,sp,Y,(Oc Y Y Y Y Y Y),by omega,by omega,by rw[Vr,GL hp1 hf1],hG,H5.pick [0,1,2,3] (by decide)⟩
 obtain rfl:i=s.entries.length:=by omega
 rw[← hel,Bz]at Vr
 have hef:=LY (n:=n.entry.slot) he2
 rw[← Vr]at hef
 have hefl:=hef.len
 have HI:=H4
 rw[hefl]
 refine Xr Dy<|J4 Y<|J8<|zU<|zS<|J1<|J1<|vW yE (by kernel_rfl) ?_
 rintro w5 hw5
 have H5:=Hp.drew H4;rw[← hw5]at H5
 refine SV (zI Y)<|SV (ES Lr Y)<|vB (yS Y Y) (fun hp92=>?_) (fun hp92=>?_)
 obtain⟨p0,hp0⟩:=yL (l:=qs) (j:=0) (by omega)
 obtain⟨e0,he0,hR0⟩:=hef.getL hp0
 have hmem0:=(Dz.1 (Fe he0))
 have hsl0:=hes e0 hmem0.1
 have hgt0:n.entry.slot < e0.slot:=by simpa using hmem0.2
 obtain⟨Aq,kq,hpq,_⟩:=hR0
 subst hpq
 have hc0:(qs.flatten++sp)[0+0*2+0]? =some (Aa e0.slot):=by
  have h1:=hG.2.2.2.get hp0 (j:=0) (u:=Aa e0.slot) rfl
  rw[Di (lt_of_get h1)];exact h1
 obtain⟨gx,rfl⟩:=vK HI (i:=3) rfl (lt_of_get hc0)
 refine SV (zI Y)<|wX Dy<|yI Y<|SV (zI Y)<|yI Y<|SV (uR Lr wE Y Y (i:=0) Y (by omega))<|wX Dy<|yI Y<|SV (EF wF Y)<|yI Y<|SV (EL ty3 Y (H5.cell (i:=3) Y hc0))<|wX Dy<|yI Y<|SV (EF uF Y)<|yI Y<|SV (EF wF Y)<|wX Dy<|yI Y<|SV (EL ty3 Y (H5.cell (i:=1) Y Y))<|yI Y<|SV (zL Y Y (Ad _ (by omega)))<|wX Dy<|yI Y<|vB (yR Y Y) (fun hp102=>?_) (fun hp102=>?_)
 refine SV (xG Y Y)<|xJ<|cR Dy<|J3 Y<|J2<|Xa Y<|Xr Dy<|J1<|zR 12 [(true,0),(true,1),(true,2),(true,3),(true,4),(true,5),(true,6),(true,7),(false,8),(true,9),(false,10),(true,11),(false,12)] H5 [1] yE (by decide) (by kernel_rfl) ?_
 rintro w6 hw6
 have H6:=Hp.drew H5;rw[← hw6]at H6
 refine Zf Y uF Y<|Zf Y wF Y<|MP Y<|MV (fun wz hz=>EL ty3 Y (hz.cell (i:=0) Y Y))<|Zf Y uF Y<|cZ Dy<|Zf Y uU Y<|MP Y<|MV (fun wz hz=>EL xO Y (hz.cell (i:=0) Y Y))<|Zm Y Y<|Zf Y wT Y<|cZ Dy<|MO Y<|OW ty3 H6 0 Y Y Y Y (by first | (simp;done) | simp[zJ]) Y<|fun w7 H7=>OE<|⟨fun hne=>H7.pick [1] (by decide),?_⟩
 refine cZ Dy<|Zf Y uT Y<|MO Y<|OW xO H7 0 Y Y Y Y (by first | (simp;done) | simp[zJ]) Y<|fun w8 H8=>OE<|⟨fun hne=>H8.pick [1] (by decide),?_⟩
 refine cZ Dy<|Zf Y xZ Y<|MO Y<|OW uY H8 0 Y Y Y Y (by first | (simp;done) | simp[zJ]) Y<|fun w9 H9=>OE<|⟨fun hne=>absurd Y hne,?_⟩
 refine cZ Dy<|ME<|cR Dy<|J2<|Xf xW Y<|OV (EL uP Y (H9.cell (i:=0) Y Y))<|Xf uF Y<|Xf wF Y<|Ag Dy<|OV (EL ty3 Y (H9.cell (i:=1) Y Y))<|OQ (EC FE Y) (kG A1 k1 pv s.Bc n.entry.slot ok _ hpv (Vh.to0 H9) (Qy.imp fun p x h=>h.to H9 k0) (by omega)) ?_
 rintro _ Oa ⟨g3,cap3,sp3,rfl,hG3,Hc⟩
 have Ei:=H9.call0 Hc
 have hBL:(pv.filter fun p=>!Jl n.entry.slot p).length=(vR s.Bc n.entry.slot).length:=(uM Qy).len
 rw[hBL]
 refine Xf xW Y<|OW uP Ei 0 Y Y Y Y (by first | (simp;done) | simp[zJ]) Y<|fun w12 Fj=>Xr Dy<|zA (zB ?_)
 refine Rq<|OV (EN wD Y (vs:=[Aa s.p.r,Aa s.p.n,Ac (hd g3) (vR s.Bc n.entry.slot).length cap3,Aa n.entry.slot,Ac B2 n.entry.val.length j2,Dn]) Y (Fj.Ap (i:=0) Y Y))<|OS wD Fj 2 Y Y Y Y Y (by first|exact NL Y|simp[zJ]) Y<|fun w10 Df=>Xr Dy<|J5<|uL Y wD (cs:=[Aa s.p.r,Aa s.p.n,Ac (hd g3) (vR s.Bc n.entry.slot).length cap3,Aa n.entry.slot,Ac B2 n.entry.val.length j2,Dn]) Y Y (Df.Ap (i:=2) Y Y) ?_
 have h0:rM s.entries n.entry.slot=[]:=by
  unfold rM
  cases hq:(s.entries.filter fun x=>decide (n.entry.slot < x.slot))with
  | nil=>rfl
  | cons a r=>
   rw[hq]at he0
   cases he0
   exact if_neg hp102
 refine⟨_,Y,?_,Df.Af⟩
 rw[bS (by omega),if_neg (by omega),h0]
 exact⟨hd g3,cap3,B2,j2,none,0,Y,Sl.row Df (i:=4) Y hG3.2.2.2 (by decide) (uM (Qy.imp fun p x h=>h.to Df vG)) (wQ Df (i:=4) Y (fun _ h=>by cases h)),hbe.to Df vG,Sl.none _ _ _ _⟩
 refine SV (xG Y Y)<|xJ<|cR Dy<|J4 Y<|J6<|J1<|zR 12 [(true,0),(true,1),(true,2),(true,3),(true,4),(true,5),(true,6),(true,7),(false,8),(true,9),(false,10),(true,11),(false,12)] H5 [1] yE (by decide) (by kernel_rfl) ?_
 rintro w6 hw6
 have H6:=Hp.drew H5;rw[← hw6]at H6
 refine Zf Y uF Y<|Zf Y wF Y<|MP Y<|MV (fun wz hz=>EL ty3 Y (hz.cell (i:=0) Y Y))<|Zf Y uF Y<|cZ Dy<|Zf Y uU Y<|MP Y<|MV (fun wz hz=>EL xO Y (hz.cell (i:=0) Y Y))<|Zm Y Y<|Zf Y wT Y<|cZ Dy<|MO Y<|OW ty3 H6 0 Y Y Y Y (by first | (simp;done) | simp[zJ]) Y<|fun w7 H7=>OE<|⟨fun hne=>H7.pick [1] (by decide),?_⟩
 refine cZ Dy<|Zf Y uT Y<|MO Y<|OW xO H7 0 Y Y Y Y (by first | (simp;done) | simp[zJ]) Y<|fun w8 H8=>OE<|⟨fun hne=>H8.pick [1] (by decide),?_⟩
 refine cZ Dy<|Zf Y xZ Y<|MO Y<|OW uY H8 0 Y Y Y Y (by first | (simp;done) | simp[zJ]) Y<|fun w9 H9=>OE<|⟨fun hne=>absurd Y hne,?_⟩
 refine cZ Dy<|ME<|cR Dy<|J2<|Xf xW Y<|OV (EL uP Y (H9.cell (i:=0) Y Y))<|Xf uF Y<|Xf wF Y<|Ag Dy<|OV (EL ty3 Y (H9.cell (i:=1) Y Y))<|OQ (EC FE Y) (kG A1 k1 pv s.Bc n.entry.slot ok _ hpv (Vh.to0 H9) (Qy.imp fun p x h=>h.to H9 k0) (by omega)) ?_
 rintro _ Oa ⟨g3,cap3,sp3,rfl,hG3,Hc⟩
 have Ei:=H9.call0 Hc
 have hBL:(pv.filter fun p=>!Jl n.entry.slot p).length=(vR s.Bc n.entry.slot).length:=(uM Qy).len
 rw[hBL]
 refine Xf xW Y<|OW uP Ei 0 Y Y Y Y (by first | (simp;done) | simp[zJ]) Y<|fun w12 Fj=>Xr Dy<|zA (zB ?_)
 refine Rq<|OV (EN wD Y (vs:=[Aa s.p.r,Aa s.p.n,Ac (hd g3) (vR s.Bc n.entry.slot).length cap3,Aa n.entry.slot,Ac B2 n.entry.val.length j2,Ac (hd (some gx)) (s.entries.filter fun x=>decide (n.entry.slot < x.slot)).length cap]) Y (Fj.Ap (i:=0) Y Y))<|OS wD Fj 2 Y Y Y Y Y (by first|exact NL Y|simp[zJ]) Y<|fun w10 Df=>Xr Dy<|J5<|uL Y wD (cs:=[Aa s.p.r,Aa s.p.n,Ac (hd g3) (vR s.Bc n.entry.slot).length cap3,Aa n.entry.slot,Ac B2 n.entry.val.length j2,Ac (hd (some gx)) (s.entries.filter fun x=>decide (n.entry.slot < x.slot)).length cap]) Y Y (Df.Ap (i:=2) Y Y) ?_
 have h0:rM s.entries n.entry.slot=(s.entries.filter fun x=>decide (n.entry.slot < x.slot)):=by
  unfold rM
  cases hq:(s.entries.filter fun x=>decide (n.entry.slot < x.slot))with
  | nil=>simp[hq]at he0
  | cons a r=>
   rw[hq]at he0
   cases he0
   exact if_pos (by omega)
 refine⟨_,Y,?_,Df.Af⟩
 rw[bS (by omega),if_neg (by omega),h0]
 exact⟨hd g3,cap3,B2,j2,hd (some gx),cap,Y,Sl.row Df (i:=4) Y hG3.2.2.2 (by decide) (uM (Qy.imp fun p x h=>h.to Df vG)) (wQ Df (i:=4) Y (fun _ h=>by cases h)),hbe.to Df vG,Sl.row Df (i:=3) Y hG.2.2.2 (by decide) (hef.imp fun p x h=>h.to Df vG) (wQ Df (i:=3) Y (fun _ h=>by cases h))⟩
 refine SV (zI Y)<|wX Dy<|yU Y<|yU Y<|wX Dy<|yU Y<|yU Y<|wX Dy<|yU Y<|yU Y<|wX Dy<|yU Y<|yU Y<|wX Dy<|yU Y<|SV (xV Y Y)<|xJ<|cR Dy<|J4 Y<|J6<|J1<|zR 12 [(true,0),(true,1),(true,2),(true,3),(true,4),(true,5),(true,6),(true,7),(false,8),(true,9),(false,10),(true,11),(false,12)] H5 [1] yE (by decide) (by kernel_rfl) ?_
 rintro w6 hw6
 have H6:=Hp.drew H5;rw[← hw6]at H6
 refine Zf Y uF Y<|Zf Y wF Y<|MP Y<|MV (fun wz hz=>EL ty3 Y (hz.cell (i:=0) Y Y))<|Zf Y uF Y<|cZ Dy<|Zf Y uU Y<|MP Y<|MV (fun wz hz=>EL xO Y (hz.cell (i:=0) Y Y))<|Zm Y Y<|Zf Y wT Y<|cZ Dy<|MO Y<|OW ty3 H6 0 Y Y Y Y (by first | (simp;done) | simp[zJ]) Y<|fun w7 H7=>OE<|⟨fun hne=>H7.pick [1] (by decide),?_⟩
 refine cZ Dy<|Zf Y uT Y<|MO Y<|OW xO H7 0 Y Y Y Y (by first | (simp;done) | simp[zJ]) Y<|fun w8 H8=>OE<|⟨fun hne=>H8.pick [1] (by decide),?_⟩
 refine cZ Dy<|Zf Y xZ Y<|MO Y<|OW uY H8 0 Y Y Y Y (by first | (simp;done) | simp[zJ]) Y<|fun w9 H9=>OE<|⟨fun hne=>absurd Y hne,?_⟩
 refine cZ Dy<|ME<|cR Dy<|J2<|Xf xW Y<|OV (EL uP Y (H9.cell (i:=0) Y Y))<|Xf uF Y<|Xf wF Y<|Ag Dy<|OV (EL ty3 Y (H9.cell (i:=1) Y Y))<|OQ (EC FE Y) (kG A1 k1 pv s.Bc n.entry.slot ok _ hpv (Vh.to0 H9) (Qy.imp fun p x h=>h.to H9 k0) (by omega)) ?_
 rintro _ Oa ⟨g3,cap3,sp3,rfl,hG3,Hc⟩
 have Ei:=H9.call0 Hc
 have hBL:(pv.filter fun p=>!Jl n.entry.slot p).length=(vR s.Bc n.entry.slot).length:=(uM Qy).len
 rw[hBL]
 refine Xf xW Y<|OW uP Ei 0 Y Y Y Y (by first | (simp;done) | simp[zJ]) Y<|fun w12 Fj=>Xr Dy<|zA (zB ?_)
 refine Rq<|OV (EN wD Y (vs:=[Aa s.p.r,Aa s.p.n,Ac (hd g3) (vR s.Bc n.entry.slot).length cap3,Aa n.entry.slot,Ac B2 n.entry.val.length j2,Ac (hd g) (s.entries.filter fun x=>decide (n.entry.slot < x.slot)).length cap]) Y (Fj.Ap (i:=0) Y Y))<|OS wD Fj 2 Y Y Y Y Y (by first|exact NL Y|simp[zJ]) Y<|fun w10 Df=>Xr Dy<|J5<|uL Y wD (cs:=[Aa s.p.r,Aa s.p.n,Ac (hd g3) (vR s.Bc n.entry.slot).length cap3,Aa n.entry.slot,Ac B2 n.entry.val.length j2,Ac (hd g) (s.entries.filter fun x=>decide (n.entry.slot < x.slot)).length cap]) Y Y (Df.Ap (i:=2) Y Y) ?_
 have h0:rM s.entries n.entry.slot=(s.entries.filter fun x=>decide (n.entry.slot < x.slot)):=by
  unfold rM
  have:(s.entries.filter fun x=>decide (n.entry.slot < x.slot))=[]:=Ee (by omega)
  rw[this]
 refine⟨_,Y,?_,Df.Af⟩
 rw[bS (by omega),if_neg (by omega),h0]
 exact⟨hd g3,cap3,B2,j2,hd g,cap,Y,Sl.row Df (i:=4) Y hG3.2.2.2 (by decide) (uM (Qy.imp fun p x h=>h.to Df vG)) (wQ Df (i:=4) Y (fun _ h=>by cases h)),hbe.to Df vG,Sl.row Df (i:=3) Y hG.2.2.2 (by decide) (hef.imp fun p x h=>h.to Df vG) (wQ Df (i:=3) Y (fun _ h=>by cases h))⟩
 any_goals
  clear m1
  refine OE ?_
  refine⟨fun hne=>H8.pick [0,1,2] (by decide),?_⟩
  refine cT Dy<|TQ Y<|xB Lr wE (by decide) H8 3 (show Gw 2 g2 cap2 pe sp2 from hG2) Y Y (rs:=[Ie n B2 j2]) (m:=1) Y Y (H8.rd (i:=4) (o:=some _) (xs:=Ie n B2 j2) (sp:=[]) Y Y (by decide)) (Pl.one Y) (fun p hp=>by rw[Az.1 hp];rfl) (by omega) (by omega) (by decide)<|fun w9 g4 cap4 sp4 H9 hG4=>?_
  have hEL:(pe++([Ie n B2 j2]:List (List Value))).length=(s.entries++[n.entry]).length:=by rw[Ae,Ae,hel];rfl
  rw[hEL]
  refine OE ?_
  refine⟨fun hne=>H9.pick [0,1,2] (by decide),?_⟩
  refine cT Dy<|Tf Y xZ Y<|TQ Y<|OW uY H9 0 Y Y Y Y (by first|exact NL Y|simp[zJ]) Y<|fun Oa Ei=>OE<|⟨fun hne=>absurd Y hne,?_⟩
  refine cT Dy<|tH<|cR Dy<|J2<|Xf xW Y<|OV (EL uP Y (Ei.cell (i:=0) Y Y))<|Xf uF Y<|Xf wF Y<|Ag Dy<|OV (EL ty3 Y (Ei.cell (i:=1) Y Y))<|OQ (EC FE Y) (kG A1 k1 pv s.Bc n.entry.slot ok _ hpv (Vh.to0 Ei) (Qy.imp fun p x h=>h.to Ei k0) (by omega)) ?_
  rintro _ w12 ⟨g3,cap3,sp3,rfl,hG3,Hc⟩
  have Fj:=Ei.call0 Hc
  have hBL:(pv.filter fun p=>!Jl n.entry.slot p).length=(vR s.Bc n.entry.slot).length:=(uM Qy).len
  rw[hBL]
  refine Xf xW Y<|OW uP Fj 0 Y Y Y Y (by first | (simp;done) | simp[zJ]) Y<|fun w10 Df=>Xr Dy<|zA (zB ?_)
  refine Rq<|OV (EN wD Y (vs:=[Aa s.p.r,Aa s.p.n,Ac (hd g3) (vR s.Bc n.entry.slot).length cap3,Aa s.index,Ac A2 s.image.length k2,Ac (hd g4) (s.entries++[n.entry]).length cap4]) Y (Df.Ap (i:=0) Y Y))<|OS wD Df 2 Y Y Y Y Y (by first|exact NL Y|simp[zJ]) Y<|fun Uf Ip=>Xr Dy<|J5<|uL Y wD (cs:=[Aa s.p.r,Aa s.p.n,Ac (hd g3) (vR s.Bc n.entry.slot).length cap3,Aa s.index,Ac A2 s.image.length k2,Ac (hd g4) (s.entries++[n.entry]).length cap4]) Y Y (Ip.Ap (i:=2) Y Y)<|⟨_,Y,?_,Ip.Af⟩
  rw[FB ZY,if_pos (by unfold Sv.last;omega)]
  exact⟨hd g3,cap3,A2,k2,hd g4,cap4,Y,Sl.row Ip (i:=5) Y hG3.2.2.2 (by decide) (uM (Qy.imp fun p x h=>h.to Ip vG)) (wQ Ip (i:=5) Y (fun _ h=>by cases h)),hv2.to Ip vG,Sl.row Ip (i:=3) Y hG4.2.2.2 (by decide) ((he2.imp fun p x h=>h.to Ip vG).app (wC.one ⟨B2,j2,Y,hbe.to Ip vG⟩)) (wQ Ip (i:=3) Y (fun _ h=>by cases h))⟩
set_option maxHeartbeats 16000000
theorem OU (p:Bal) (first:Int) (A:Option Addr) (k:Nat) (l:List Vt) (ok:Nat→Prop) (w0:World) (hl:Sl (Oe w0 ok) 4 w0 ok A l) (hn:l.length≤1000000000000) (hf:-4611686018427387904≤first∧first≤4611686018427387904):Aj 140 #[.agg [Aa p.r,Aa p.n].toArray,Aa first,Ac A l.length k] w0 (fun r w'=>∃ a:Option Addr,r=.pointer a∧(oV p first l=true→∃ x,a=some x)∧(oV p first l=false→a=none)∧Hp w0 w' [] []):=by
 refine zG Tryz.func140 Tryz.ntmps140 Y<|cR Gy ?_
 have H:=Hp.refl w0
 obtain⟨ps,hp,hr,ha,h2⟩:=hl
 have hlen:=h2.len
 refine Rq<|yA Y Y H<|fun w1 gp H1 _=>Xa Y<|Xr Gy<|J1<|Rq<|Xm Y<|OT (zQ Y Y) (fun hp11=>?_) (fun hp11=>?_)
 refine Xm Y<|Ag Gy<|Oz 2 Y<|Xt Y Y ?_
 have m3:=()
 rotate_left 1
 refine Xm Y<|Ag Gy<|OY Y<|Xm Y<|OY Y<|OT (yS Y Y) (fun hp14=>?_) (fun hp14=>?_)
 refine Xu Y Y ?_
 have m3:=()
 rotate_left 1
 refine Xu Y Y<|Xm Y<|Ag Gy<|OY Y<|OV (EN vA Y (vs:=[Aa p.r,Aa p.n]) Y (H1.Ap (i:=0) Y Y))<|OY Y<|OV (EB vA CD Y Y)<|Ag Gy<|OY Y<|OT (sL Y Y) (fun hp19=>?_) (fun hp19=>?_)
 refine OY Y<|Xm Y<|OY Y<|OV (EN vA Y (vs:=[Aa p.r,Aa p.n]) Y (H1.Ap (i:=0) Y Y))<|Ag Gy<|OY Y<|OX (EC PM Y) (GI _ _) (fun Oy w2 Hd=>?_) (fun Oy w2 Hd=>?_)
 have H2:=H1.Au Hd
 refine OY Y<|Xn Y<|OY Y<|Xt Y Y<|Xu Y Y<|Xr Gy<|J4 Y<|J6<|Rq<|Xm Y<|OV (tA Y Y (Ad _ (by omega)))<|Xa Y<|Xr Gy<|J1<|Rq<|Xa Y<|Xr Gy<|J7<|zV (fun nQ lQ w=>∃ (i:Nat) (y m:Int),l.length - i=nQ∧xM (Hy [(1,Aa first),(2,Ac A l.length k),(3,Ah gp),(7,Aa m),(8,Aa y)] 0 75) lQ∧y=(i:Int)∧i≤l.length∧uD p first first l=uD p first (m+1) (l.drop i)∧first≤m+1∧m≤first+16∧Hp w0 w [] [((some gp,75,[Aa p.r,Aa p.n]):Ent)]) (l.length) ?_ ?_
 exact⟨0,_,first - 1,Y,(Oc Y Y Y Y Y Y),Y,Am _,by rw[Int.sub_add_cancel];rfl,by omega,by omega,H2⟩
 rintro nQ lQ w3 ⟨i,y,m,rfl,hfit,rfl,hi,hinv,hfm,hfm2,H3⟩
 obtain⟨j,rfl⟩:=hfit.open
 refine cR Gy ?_
 clear hfit
 have HB:=H3
 replace H3:=HB.here
 refine J1<|Rq<|Xm Y<|Xm Y<|OV (ES Jd Y)<|OT (zQ Y Y) (fun Nv=>?_) (fun Nv=>?_)
 have hil:i < l.length:=by omega
 obtain⟨x,hx⟩:=yL hil
 obtain⟨p1,hp1,hR⟩:=h2.get hx
 obtain⟨Ax,kx,rfl,hbx⟩:=hR
 obtain⟨a1,ha1⟩:=hr.some_ (by omega)
 subst ha1
 refine Xr Gy<|J3 Y<|J6<|J1<|J7<|Rq<|Xm Y<|Xm Y<|OV (EI Jd xE Y Y Y hil Y)<|OV (EN xE Y (vs:=Dl x Ax kx) Y ((hr.to0 (HB.all H3)).elem hp hp1))<|Ag Gy<|OA xE H3<|fun w4 g4 H4 hg4=>OS xE H4 1 Y Y Y Y Y (by first|exact NL Y|simp[zJ]) Y<|fun w5 H5=>Xr Gy<|J1<|Rq<|Xf vF Y<|OV (EL ty3 Y (H5.cell (i:=1) Y Y))<|Xm Y<|OT (tB Y Y) (fun hp41=>?_) (fun hp41=>?_)
 refine Xm Y<|Ag Gy<|Oz 5 Y<|Ag Gy<|Xt Y Y ?_
 have m1:=()
 rotate_left 1
 refine Xm Y<|Ag Gy<|OY Y<|Xf vF Y<|OY Y<|OV (EL ty3 Y (H5.cell (i:=1) Y Y))<|Ag Gy<|OY Y<|Xm Y<|OY Y<|OV (zL Y Y (Ad _ (by omega)))<|Ag Gy<|OY Y<|OT (wM Y Y) (fun Pz=>?_) (fun Pz=>?_)
 refine Xu Y Y ?_
 have m1:=()
 rotate_left 1
 refine Xu Y Y<|Xm Y<|Ag Gy<|OY Y<|Xf sH Y<|OY Y<|OV (EN vA Y (vs:=[Aa x.b.r,Aa x.b.n]) Y (H5.Ap (i:=1) Y Y))<|Ag Gy<|OY Y<|OX (EC PM Y) (GI _ _) (fun Ox w6 Hd=>?_) (fun Ox w6 Hd=>?_)
 have H6:=H5.Au Hd
 refine OY Y<|Xn Y<|Xu Y Y<|Xm Y<|Ag Gy<|OY Y<|OV (EN vA Y (vs:=[Aa p.r,Aa p.n]) Y (H6.Ap (i:=0) Y Y))<|OY Y<|Xf sH Y<|Ag Gy<|OY Y<|OV (EN vA Y (vs:=[Aa x.b.r,Aa x.b.n]) Y (H6.Ap (i:=1) Y Y))<|OY Y<|OX (EC PN Y) (O3 _ _ _) (fun Ut w7 Hd=>?_) (fun Ut w7 Hd=>?_)
 have H7:=H6.Au Hd
 refine Xu Y Y<|Xm Y<|Ag Gy<|Oz 4 Y<|Ag Gy<|Xt Y Y<|Xr Gy<|J3 Y<|Rq<|Xa Y<|Xr Gy<|J5<|BR<|yN<|BR<|Cm Y Y ?_
 have hno:oV p first l=false:=by rw[nO (by omega) (by omega),hinv];exact sZ hx fun hh=>hh.2.2.2.2.1 Ut
 exact⟨_,Y,(fun h=>by rw[hno]at h;cases h),fun _=>Y,(HB.all H7).Af⟩
 have H7:=H6.Au Hd
 refine Xu Y Y<|Xm Y<|Ag Gy<|OY Y<|Xf rC Y<|OY Y<|OV (EL xO Y (H7.cell (i:=1) Y Y))<|Ag Gy<|OY Y<|OV (ES Gz Y)<|OY Y<|OT (yS Y Y) (fun hp65=>?_) (fun hp65=>?_)
 refine Xu Y Y<|Xr Gy<|J3 Y<|Rq<|Xa Y<|Xr Gy<|J5<|BR<|yN<|BR<|Cm Y Y ?_
 have hno:oV p first l=false:=by rw[nO (by omega) (by omega),hinv];exact sZ hx fun hh=>by omega
 exact⟨_,Y,(fun h=>by rw[hno]at h;cases h),fun _=>Y,(HB.all H7).Af⟩
 refine Xu Y Y<|Xr Gy<|J4 Y<|J6<|J2<|Xf vF Y<|OV (EL ty3 Y (H7.cell (i:=1) Y Y))<|Xa Y<|Xr Gy<|zA (zB ?_)
 refine J2<|Xm Y<|OV (zL Y Y (Ad _ (by omega)))<|Xa Y<|Xr Gy<|zA (zH ?_)
 have hgo:=BU (p:=p) (first:=first) (m:=m+1) hx ⟨by omega,by omega,Ox.1,Ox.2,Ut,by omega⟩
 exact⟨l.length - (i+1),by omega,i+1,_,x.slot,Y,(Oc Y Y Y Y Y Y),by omega,by omega,by rw[hinv,hgo],by omega,by omega,(HB.all H7).pick [0] (by decide)⟩
 have H6:=H5.Au Hd
 refine OY Y<|Xn Y<|Xu Y Y<|Xm Y<|Ag Gy<|Oz 4 Y<|Ag Gy<|Xt Y Y<|Xm Y<|Ag Gy<|Oz 4 Y<|Ag Gy<|Xt Y Y<|Xr Gy<|J3 Y<|Rq<|Xa Y<|Xr Gy<|J5<|BR<|yN<|BR<|Cm Y Y ?_
 have hno:oV p first l=false:=by rw[nO (by omega) (by omega),hinv];exact sZ hx fun hh=>Ox ⟨hh.2.2.1,hh.2.2.2.1⟩
 exact⟨_,Y,(fun h=>by rw[hno]at h;cases h),fun _=>Y,(HB.all H6).Af⟩
 obtain rfl:i=l.length:=by omega
 refine Xr Gy<|J4 Y<|J8<|zU<|zS<|J1<|zR 6 [(true,0),(true,1),(true,2),(false,3),(true,4),(false,5),(false,6)] H3 [0] yE (by decide) (by kernel_rfl) ?_
 rintro w4 hw4
 have H4:=Hp.drew H3;rw[← hw4]at H4
 refine MP Y<|MV (fun wz hz=>EN vA Y (vs:=[Aa p.r,Aa p.n]) Y (hz.Ap (i:=0) Y Y))<|Zm Y Y<|Zm Y Y<|MO Y ?_
 have hon:=h2.ones fun _ _ h=>h.ones
 refine xC Jd xE (by decide) (H4.nil 77) 1 (g:=none) (n:=0) (cap:=0) (xs:=[]) (sp:=[]) Y Y Y (by decide) (by decide) (fun _=>Y) Y (hr.to0 (HB.all H4)) (xI hon) (by omega) (by omega) (by decide)<|fun w5 gv cv sv H5 _ _ _=>OE<|⟨fun hne=>H5.pick [0] (by decide),?_⟩
 refine cZ Gy<|MP Y<|MV (fun wz hz=>EB UV U0 Y Y)<|MO Y<|yA Y Y H5<|fun w6 g6 H6 hg6=>OE<|⟨fun hne=>H6.pick [0] (by decide),?_⟩
 refine cZ Gy<|MO Y<|Xa Y<|OE<|⟨fun hne=>absurd Y hne,?_⟩
 refine cZ Gy<|ME<|cR Gy<|J5<|Cm Y Y<|⟨_,Y,fun _=>⟨_,Y⟩,(fun h=>by rw[nO (by omega) (by omega),hinv,dI]at h;cases h),(HB.all H6).Af⟩
 have H2:=H1.Au Hd
 refine OY Y<|Xn Y<|OY Y<|Xt Y Y<|Xu Y Y<|Xr Gy<|J3 Y<|Rq<|Xa Y<|Xr Gy<|J5<|Cm Y Y ?_
 have hno:oV p first l=false:=U3 (by omega)
 exact⟨_,Y,(fun h=>by rw[hno]at h;cases h),fun _=>Y,H2.Af⟩
 refine OY Y<|Xm Y<|Oz 3 Y<|Ag Gy<|OY Y<|Xu Y Y<|Xu Y Y<|Xr Gy<|J4 Y<|J6<|Rq<|Xm Y<|OV (tA Y Y (Ad _ (by omega)))<|Xa Y<|Xr Gy<|J1<|Rq<|Xa Y<|Xr Gy<|J7<|zV (fun nQ lQ w=>∃ (i:Nat) (y m:Int),l.length - i=nQ∧xM (Hy [(1,Aa first),(2,Ac A l.length k),(3,Ah gp),(7,Aa m),(8,Aa y)] 0 75) lQ∧y=(i:Int)∧i≤l.length∧uD p first first l=uD p first (m+1) (l.drop i)∧first≤m+1∧m≤first+16∧Hp w0 w [] [((some gp,75,[Aa p.r,Aa p.n]):Ent)]) (l.length) ?_ ?_
 exact⟨0,_,first - 1,Y,(Oc Y Y Y Y Y Y),Y,Am _,by rw[Int.sub_add_cancel];rfl,by omega,by omega,H1⟩
 rintro nQ lQ w2 ⟨i,y,m,rfl,hfit,rfl,hi,hinv,hfm,hfm2,H2⟩
 obtain⟨j,rfl⟩:=hfit.open
 refine cR Gy ?_
 clear hfit
 have HB:=H2
 replace H2:=HB.here
 refine J1<|Rq<|Xm Y<|Xm Y<|OV (ES Jd Y)<|OT (zQ Y Y) (fun Nv=>?_) (fun Nv=>?_)
 have hil:i < l.length:=by omega
 obtain⟨x,hx⟩:=yL hil
 obtain⟨p1,hp1,hR⟩:=h2.get hx
 obtain⟨Ax,kx,rfl,hbx⟩:=hR
 obtain⟨a1,ha1⟩:=hr.some_ (by omega)
 subst ha1
 refine Xr Gy<|J3 Y<|J6<|J1<|J7<|Rq<|Xm Y<|Xm Y<|OV (EI Jd xE Y Y Y hil Y)<|OV (EN xE Y (vs:=Dl x Ax kx) Y ((hr.to0 (HB.all H2)).elem hp hp1))<|Ag Gy<|OA xE H2<|fun w3 g3 H3 hg3=>OS xE H3 1 Y Y Y Y Y (by first|exact NL Y|simp[zJ]) Y<|fun w4 H4=>Xr Gy<|J1<|Rq<|Xf vF Y<|OV (EL ty3 Y (H4.cell (i:=1) Y Y))<|Xm Y<|OT (tB Y Y) (fun hp41=>?_) (fun hp41=>?_)
 refine Xm Y<|Ag Gy<|Oz 5 Y<|Ag Gy<|Xt Y Y ?_
 have m2:=()
 rotate_left 1
 refine Xm Y<|Ag Gy<|OY Y<|Xf vF Y<|OY Y<|OV (EL ty3 Y (H4.cell (i:=1) Y Y))<|Ag Gy<|OY Y<|Xm Y<|OY Y<|OV (zL Y Y (Ad _ (by omega)))<|Ag Gy<|OY Y<|OT (wM Y Y) (fun Pz=>?_) (fun Pz=>?_)
 refine Xu Y Y ?_
 have m2:=()
 rotate_left 1
 refine Xu Y Y<|Xm Y<|Ag Gy<|OY Y<|Xf sH Y<|OY Y<|OV (EN vA Y (vs:=[Aa x.b.r,Aa x.b.n]) Y (H4.Ap (i:=1) Y Y))<|Ag Gy<|OY Y<|OX (EC PM Y) (GI _ _) (fun Ox w5 Hd=>?_) (fun Ox w5 Hd=>?_)
 have H5:=H4.Au Hd
 refine OY Y<|Xn Y<|Xu Y Y<|Xm Y<|Ag Gy<|OY Y<|OV (EN vA Y (vs:=[Aa p.r,Aa p.n]) Y (H5.Ap (i:=0) Y Y))<|OY Y<|Xf sH Y<|Ag Gy<|OY Y<|OV (EN vA Y (vs:=[Aa x.b.r,Aa x.b.n]) Y (H5.Ap (i:=1) Y Y))<|OY Y<|OX (EC PN Y) (O3 _ _ _) (fun Ut w6 Hd=>?_) (fun Ut w6 Hd=>?_)
 have H6:=H5.Au Hd
 refine Xu Y Y<|Xm Y<|Ag Gy<|Oz 4 Y<|Ag Gy<|Xt Y Y<|Xr Gy<|J3 Y<|Rq<|Xa Y<|Xr Gy<|J5<|BR<|yN<|BR<|Cm Y Y ?_
 have hno:oV p first l=false:=by rw[nO (by omega) (by omega),hinv];exact sZ hx fun hh=>hh.2.2.2.2.1 Ut
 exact⟨_,Y,(fun h=>by rw[hno]at h;cases h),fun _=>Y,(HB.all H6).Af⟩
 have H6:=H5.Au Hd
 refine Xu Y Y<|Xm Y<|Ag Gy<|OY Y<|Xf rC Y<|OY Y<|OV (EL xO Y (H6.cell (i:=1) Y Y))<|Ag Gy<|OY Y<|OV (ES Gz Y)<|OY Y<|OT (yS Y Y) (fun hp65=>?_) (fun hp65=>?_)
 refine Xu Y Y<|Xr Gy<|J3 Y<|Rq<|Xa Y<|Xr Gy<|J5<|BR<|yN<|BR<|Cm Y Y ?_
 have hno:oV p first l=false:=by rw[nO (by omega) (by omega),hinv];exact sZ hx fun hh=>by omega
 exact⟨_,Y,(fun h=>by rw[hno]at h;cases h),fun _=>Y,(HB.all H6).Af⟩
 refine Xu Y Y<|Xr Gy<|J4 Y<|J6<|J2<|Xf vF Y<|OV (EL ty3 Y (H6.cell (i:=1) Y Y))<|Xa Y<|Xr Gy<|zA (zB ?_)
 refine J2<|Xm Y<|OV (zL Y Y (Ad _ (by omega)))<|Xa Y<|Xr Gy<|zA (zH ?_)
 have hgo:=BU (p:=p) (first:=first) (m:=m+1) hx ⟨by omega,by omega,Ox.1,Ox.2,Ut,by omega⟩
 exact⟨l.length - (i+1),by omega,i+1,_,x.slot,Y,(Oc Y Y Y Y Y Y),by omega,by omega,by rw[hinv,hgo],by omega,by omega,(HB.all H6).pick [0] (by decide)⟩
 have H5:=H4.Au Hd
 refine OY Y<|Xn Y<|Xu Y Y<|Xm Y<|Ag Gy<|Oz 4 Y<|Ag Gy<|Xt Y Y<|Xm Y<|Ag Gy<|Oz 4 Y<|Ag Gy<|Xt Y Y<|Xr Gy<|J3 Y<|Rq<|Xa Y<|Xr Gy<|J5<|BR<|yN<|BR<|Cm Y Y ?_
 have hno:oV p first l=false:=by rw[nO (by omega) (by omega),hinv];exact sZ hx fun hh=>Ox ⟨hh.2.2.1,hh.2.2.2.1⟩
 exact⟨_,Y,(fun h=>by rw[hno]at h;cases h),fun _=>Y,(HB.all H5).Af⟩
 obtain rfl:i=l.length:=by omega
 refine Xr Gy<|J4 Y<|J8<|zU<|zS<|J1<|zR 6 [(true,0),(true,1),(true,2),(false,3),(true,4),(false,5),(false,6)] H2 [0] yE (by decide) (by kernel_rfl) ?_
 rintro w3 hw3
 have H3:=Hp.drew H2;rw[← hw3]at H3
 refine MP Y<|MV (fun wz hz=>EN vA Y (vs:=[Aa p.r,Aa p.n]) Y (hz.Ap (i:=0) Y Y))<|Zm Y Y<|Zm Y Y<|MO Y ?_
 have hon:=h2.ones fun _ _ h=>h.ones
 refine xC Jd xE (by decide) (H3.nil 77) 1 (g:=none) (n:=0) (cap:=0) (xs:=[]) (sp:=[]) Y Y Y (by decide) (by decide) (fun _=>Y) Y (hr.to0 (HB.all H3)) (xI hon) (by omega) (by omega) (by decide)<|fun w4 gv cv sv H4 _ _ _=>OE<|⟨fun hne=>H4.pick [0] (by decide),?_⟩
 refine cZ Gy<|MP Y<|MV (fun wz hz=>EB UV U0 Y Y)<|MO Y<|yA Y Y H4<|fun w5 g5 H5 hg5=>OE<|⟨fun hne=>H5.pick [0] (by decide),?_⟩
 refine cZ Gy<|MO Y<|Xa Y<|OE<|⟨fun hne=>absurd Y hne,?_⟩
 refine cZ Gy<|ME<|cR Gy<|J5<|Cm Y Y<|⟨_,Y,fun _=>⟨_,Y⟩,(fun h=>by rw[nO (by omega) (by omega),hinv,dI]at h;cases h),(HB.all H5).Af⟩
 any_goals
  clear m3
  refine Xm Y<|Ag Gy<|Oz 8 Y<|Ag Gy<|Xt Y Y<|Xr Gy<|J3 Y<|Rq<|Xa Y<|Xr Gy<|J5<|Cm Y Y ?_
  have hno:oV p first l=false:=U4 (by omega)
  exact⟨_,Y,(fun h=>by rw[hno]at h;cases h),fun _=>Y,H1.Af⟩
 any_goals
  clear m2
  refine Xm Y<|Ag Gy<|Oz 4 Y<|Ag Gy<|Xt Y Y<|Xm Y<|Ag Gy<|Oz 4 Y<|Ag Gy<|Xt Y Y<|Xm Y<|Ag Gy<|Oz 4 Y<|Ag Gy<|Xt Y Y<|Xr Gy<|J3 Y<|Rq<|Xa Y<|Xr Gy<|J5<|BR<|yN<|BR<|Cm Y Y ?_
  have hno:oV p first l=false:=by rw[nO (by omega) (by omega),hinv];exact sZ hx fun hh=>by omega
  exact⟨_,Y,(fun h=>by rw[hno]at h;cases h),fun _=>Y,(HB.all H4).Af⟩
 any_goals
  clear m1
  refine Xm Y<|Ag Gy<|Oz 4 Y<|Ag Gy<|Xt Y Y<|Xm Y<|Ag Gy<|Oz 4 Y<|Ag Gy<|Xt Y Y<|Xm Y<|Ag Gy<|Oz 4 Y<|Ag Gy<|Xt Y Y<|Xr Gy<|J3 Y<|Rq<|Xa Y<|Xr Gy<|J5<|BR<|yN<|BR<|Cm Y Y ?_
  have hno:oV p first l=false:=by rw[nO (by omega) (by omega),hinv];exact sZ hx fun hh=>by omega
  exact⟨_,Y,(fun h=>by rw[hno]at h;cases h),fun _=>Y,(HB.all H5).Af⟩
theorem UG (s:Sv) (A1:Option Addr) (k1:Nat) (A2:Option Addr) (k2:Nat) (A3:Option Addr) (k3:Nat) (ok:Nat→Prop) (w0:World) (hv1:Sl (Oe w0 ok) 4 w0 ok A1 s.Bc) (hv2:Bs w0 ok A2 s.image) (hv3:Sl (Qp w0 ok) 2 w0 ok A3 s.entries) (hvl:s.Bc.length≤1000000000000) (hel2:s.entries.length≤2000000000000):Aj 96 #[Aa 1,Aa 5,.agg (Bv s A1 k1 A2 k2 A3 k3).toArray] w0 (fun r w'=>∃ e:Int,r=Aa e∧Ans (chk s) e∧Hp w0 w' [] []):=by
 refine zG Tryz.func96 Tryz.ntmps96 Y<|cR e109 ?_
 have H:=Hp.refl w0
 obtain⟨pe,hpe,hre,hae,he2⟩:=id hv3
 have hel:=he2.len
 refine Rq<|yA Y Y H<|fun w1 gs H1 _=>Xa Y<|Xr e109<|J1<|Rq<|Xm Y<|Ui (yR Y Y) (by decide)<|Xm Y<|Ag e109<|OY Y<|Xm Y<|OY Y<|Ui (yR Y Y) (by decide)<|Xt Y Y<|Xm Y<|Ag e109<|OY Y<|Xm Y<|OY Y<|Jw (yR Y Y) (by decide)<|Xt Y Y<|Xm Y<|Ag e109<|OY Y<|Xm Y<|OY Y<|Jw (zQ Y Y) (by decide)<|Xu Y Y<|Xm Y<|Ag e109<|OY Y<|Xm Y<|OY Y<|Xm Y<|Ag e109 ?_
 refine OY Y<|Jw (yS Y Y) (by decide)<|Xu Y Y<|Xr e109<|J4 Y<|J6<|J1<|Rq<|Xf vZ Y<|OV (EN vA Y (vs:=Gq s) Y (H1.Ap (i:=0) Y Y))<|OV (EB vA CD Y Y)<|OT (sL Y Y) (fun Nv=>?_) (fun Nv=>?_)
 refine Xm Y<|Ag e109<|OY Y<|Xf vZ Y<|OY Y<|OV (EN vA Y (vs:=Gq s) Y (H1.Ap (i:=0) Y Y))<|Ag e109<|OY Y<|Xm Y<|OY Y<|OX (EC gf139 Y) (may9 _ _ _) (fun ZX w2 Hd=>?_) (fun ZX w2 Hd=>?_)
 have H2:=H1.Au Hd
 refine OY Y<|Xn Y<|Xt Y Y<|Xm Y<|Ag e109<|OY Y<|Xf wT Y<|OY Y<|OV (EL ty3 Y (H2.cell (i:=0) Y Y))<|Ag e109<|OY Y<|OT (zQ Y Y) (fun hp42=>?_) (fun hp42=>?_)
 refine Xu Y Y<|Xm Y<|Ag e109<|Oz 3 Y<|Ag e109<|Xt Y Y ?_
 have m5:=()
 rotate_left 1
 refine Xu Y Y<|Xm Y<|Ag e109<|OY Y<|Xf wT Y<|OY Y<|OV (EL ty3 Y (H2.cell (i:=0) Y Y))<|Ag e109<|OY Y<|OT (yS Y Y) (fun Pz=>?_) (fun Pz=>?_)
 refine Xu Y Y ?_
 have m5:=()
 rotate_left 1
 refine Xu Y Y<|Xm Y<|Ag e109<|OY Y<|Xf wT Y<|OY Y<|OV (EL ty3 Y (H2.cell (i:=0) Y Y))<|Ag e109<|OY Y<|OT (xR Y Y) (fun Ox=>?_) (fun Ox=>?_)
 refine OY Y<|Xm Y<|OY Y<|Xf uT Y<|Ag e109<|OY Y<|OV (EL xO Y (H2.cell (i:=0) Y Y))<|OY Y<|OV (ES Gz Y)<|Ag e109<|OY Y<|OT (yS Y Y) (fun hp57=>?_) (fun hp57=>?_)
 refine OY Y<|Xt Y Y<|Xu Y Y ?_
 have m3:=()
 rotate_left 1
 refine OY Y<|Xt Y Y ?_
 have m1:=()
 rotate_left 1
 refine OY Y<|Xm Y<|Oz 4 Y<|Ag e109<|OY Y<|Xu Y Y ?_
 have m1:=()
 rotate_left 1
 have H2:=H1.Au Hd
 refine OY Y<|Xn Y<|Xt Y Y<|Xm Y<|Ag e109<|Oz 3 Y<|Ag e109<|Xt Y Y<|Xm Y<|Ag e109<|Oz 3 Y<|Ag e109<|Xt Y Y<|Xm Y<|Ag e109<|Oz 9 Y<|Ag e109<|Xt Y Y<|Xm Y<|Ag e109<|Oz 4 Y<|Ag e109 ?_
 refine Xt Y Y<|Xr e109<|J3 Y<|Rq<|Xa Y<|Xr e109<|J5<|Cm Y Y<|⟨_,Y,Ans.no (QT (by omega)),H2.Af⟩
 refine Xm Y<|Ag e109<|Oz 5 Y<|Ag e109<|Xu Y Y<|Xm Y<|Ag e109<|OY Y<|Xf wT Y<|OY Y<|OV (EL ty3 Y (H1.cell (i:=0) Y Y))<|Ag e109<|OY Y<|OT (zQ Y Y) (fun hp42=>?_) (fun hp42=>?_)
 refine Xu Y Y<|Xm Y<|Ag e109<|Oz 3 Y<|Ag e109<|Xt Y Y ?_
 have m6:=()
 rotate_left 1
 refine Xu Y Y<|Xm Y<|Ag e109<|OY Y<|Xf wT Y<|OY Y<|OV (EL ty3 Y (H1.cell (i:=0) Y Y))<|Ag e109<|OY Y<|OT (yS Y Y) (fun Pz=>?_) (fun Pz=>?_)
 refine Xu Y Y ?_
 have m6:=()
 rotate_left 1
 refine Xu Y Y<|Xm Y<|Ag e109<|OY Y<|Xf wT Y<|OY Y<|OV (EL ty3 Y (H1.cell (i:=0) Y Y))<|Ag e109<|OY Y<|OT (xR Y Y) (fun Ox=>?_) (fun Ox=>?_)
 refine OY Y<|Xm Y<|OY Y<|Xf uT Y<|Ag e109<|OY Y<|OV (EL xO Y (H1.cell (i:=0) Y Y))<|OY Y<|OV (ES Gz Y)<|Ag e109<|OY Y<|OT (yS Y Y) (fun hp57=>?_) (fun hp57=>?_)
 refine OY Y<|Xt Y Y<|Xu Y Y ?_
 have m4:=()
 rotate_left 1
 refine OY Y<|Xt Y Y ?_
 have m2:=()
 rotate_left 1
 refine OY Y<|Xm Y<|Oz 4 Y<|Ag e109<|OY Y<|Xu Y Y ?_
 have m2:=()
 rotate_left 1
 any_goals
  clear m6
  refine Xm Y<|Ag e109<|Oz 9 Y<|Ag e109<|Xt Y Y ?_
  have m4:=()
  rotate_left 1
 any_goals
  clear m5
  refine Xm Y<|Ag e109<|Oz 9 Y<|Ag e109<|Xt Y Y ?_
  have m3:=()
  rotate_left 1
 any_goals
  clear m4
  refine Xm Y<|Ag e109<|Oz 4 Y<|Ag e109<|Xt Y Y<|Xr e109<|J3 Y<|Rq<|Xa Y<|Xr e109<|J5<|Cm Y Y<|⟨_,Y,Ans.no (kF (by omega)),H1.Af⟩
 any_goals
  clear m3
  refine Xm Y<|Ag e109<|Oz 4 Y<|Ag e109<|Xt Y Y<|Xr e109<|J3 Y<|Rq<|Xa Y<|Xr e109<|J5<|Cm Y Y<|⟨_,Y,Ans.no (kF (by omega)),H2.Af⟩
 any_goals
  clear m2
  refine Xu Y Y<|Xm Y<|Ag e109<|OY Y<|Xf uT Y<|OY Y<|OV (EL xO Y (H1.cell (i:=0) Y Y))<|Ag e109<|OY Y<|OV (ES Gz Y)<|OY Y<|OT (yS Y Y) (fun Wi=>?_) (fun Wi=>?_)
  refine Xu Y Y<|Xr e109<|J3 Y<|Rq<|Xa Y<|Xr e109<|J5<|Cm Y Y<|⟨_,Y,Ans.no (kF (by omega)),H1.Af⟩
  refine Xu Y Y<|Xr e109<|J4 Y<|J6<|Rq<|Xf wT Y<|OV (EL ty3 Y (H1.cell (i:=0) Y Y))<|Xa Y<|Xr e109<|J1<|Rq<|Xa Y<|Xr e109<|J7<|zV (fun nQ lQ w=>∃ (i:Nat) (y m:Int),s.entries.length - i=nQ∧xM (Hy [(1,Aa 5),(5,Ah gs),(7,Aa m),(8,Aa y)] 0 109) lQ∧y=(i:Int)∧m=s.index+i∧i≤s.entries.length∧tK s.index s.entries=tK (s.index+i) (s.entries.drop i)∧Hp w0 w [] [((some gs,97,Bv s A1 k1 A2 k2 A3 k3):Ent)]) (s.entries.length) ?_ ?_
  exact⟨0,_,_,Y,(Jg Y Y Y Y Y),Y,by simp,Am _,by simp,H1⟩
  rintro nQ lQ w2 ⟨i,y,m,rfl,hfit,rfl,hm,hi,hinv,H2⟩
  obtain⟨j,rfl⟩:=hfit.open
  refine cR e109 ?_
  clear hfit
  refine J1<|Rq<|Xm Y<|Xf xZ Y<|OV (EL uY Y (H2.cell (i:=0) Y Y))<|OV (ES Lr Y)<|Ag e109<|OT (zQ Y Y) (fun hp72=>?_) (fun hp72=>?_)
  have hil:i < s.entries.length:=by omega
  obtain⟨x,hx⟩:=yL hil
  obtain⟨p1,hp1,hR⟩:=he2.get hx
  obtain⟨Ax,kx,rfl,hbx⟩:=hR
  obtain⟨a1,ha1⟩:=hre.some_ (by omega)
  subst ha1
  refine Xr e109<|J3 Y<|J6<|J1<|J7<|J1<|Rq<|Xf xZ Y<|OV (EL uY Y (H2.cell (i:=0) Y Y))<|Xm Y<|OV (EI Lr wE Y Y Y hil Y)<|Ag e109<|OV (yK wF Y)<|OV (EL ty3 Y (((hre.to0 H2).elem hpe hp1) 0 _ Y))<|Xm Y<|OV (zL Y Y (Ad _ (by omega)))<|Ag e109<|OT (yR Y Y) (fun ZR=>?_) (fun ZR=>?_)
  refine Xm Y<|Oz 3 Y<|Ag e109<|Xt Y Y<|Xm Y<|Ag e109<|Oz 8 Y<|Ag e109<|Xt Y Y<|Xr e109<|J3 Y<|Rq<|Xa Y<|Xr e109<|J5<|BR<|yN<|BR<|Cm Y Y<|⟨_,Y,Ans.no (qT (by rw[hinv];exact qS hx fun hh=>by omega)),H2.Af⟩
  refine Xm Y<|OY Y<|Xm Y<|Ag e109<|OY Y<|OV (zL Y Y (Ad _ (by omega)))<|OY Y<|OT (yS Y Y) (fun hp87=>?_) (fun hp87=>?_)
  refine Xu Y Y<|Xm Y<|Ag e109<|Oz 8 Y<|Ag e109<|Xt Y Y<|Xr e109<|J3 Y<|Rq<|Xa Y<|Xr e109<|J5<|BR<|yN<|BR<|Cm Y Y<|⟨_,Y,Ans.no (qT (by rw[hinv];exact qS hx fun hh=>by omega)),H2.Af⟩
  refine Xu Y Y<|Xm Y<|Ag e109<|OY Y<|Xf xZ Y<|OY Y<|OV (EL uY Y (H2.cell (i:=0) Y Y))<|Ag e109<|OY Y<|Xm Y<|OY Y<|OV (EI Lr wE Y Y Y hil Y)<|Ag e109<|OY Y<|OV (yK uU Y)<|OY Y<|OV (EL xO Y (((hre.to0 H2).elem hpe hp1) 1 _ Y))<|Ag e109<|OY Y<|OV (ES Gz Y)<|OY Y<|OT (yS Y Y) (fun hp97=>?_) (fun hp97=>?_)
  refine Xu Y Y<|Xr e109<|J3 Y<|Rq<|Xa Y<|Xr e109<|J5<|BR<|yN<|BR<|Cm Y Y<|⟨_,Y,Ans.no (qT (by rw[hinv];exact qS hx fun hh=>by omega)),H2.Af⟩
  refine Xu Y Y<|Xr e109<|J4 Y<|J6<|J2<|Xm Y<|OV (zL Y Y (Ad _ (by omega)))<|Xa Y<|Xr e109<|zA (zB ?_)
  refine J2<|Xm Y<|OV (zL Y Y (Ad _ (by omega)))<|Xa Y<|Xr e109<|zA (zH ?_)
  have hgo:=C6 (m:=s.index+i) hx ⟨by omega,by omega,by omega⟩
  exact⟨s.entries.length - (i+1),by omega,i+1,_,_,Y,(Jg Y Y Y Y Y),by omega,by omega,by omega,by rw[hinv,hgo];congr 1;omega,H2.pick [0] (by decide)⟩
  obtain rfl:i=s.entries.length:=by omega
  have hent:=hinv.trans dY
  subst hm
  refine Xr e109<|J4 Y<|J8<|zU<|zS<|J1<|Rq<|Xf vZ Y<|OV (EN vA Y (vs:=Gq s) Y (H2.Ap (i:=0) Y Y))<|Xm Y<|OV (zL Y Y (Ad _ (by omega)))<|Ag e109<|Xf xW Y<|OV (EL uP Y (H2.cell (i:=0) Y Y))<|OQ (EC VE Y) (OU s.p (s.index+s.entries.length+1) A1 k1 s.Bc ok _ (hv1.Qn H2 k0) (by omega) (by omega)) ?_
  rintro _ w3 ⟨a,rfl,hyes,hno,Hd⟩
  have H3:=H2.Au Hd
  rw[← C9 (by omega) (by omega) hent]at hyes hno
  refine OT (yF Tryz.underlying212 Y) (fun Rz=>?_) (fun Rz=>?_)
  refine Xr e109<|J3 rfl<|Rq<|Xa rfl<|Xr e109<|J5<|Cm rfl rfl<|⟨_,rfl,Ans.no (by cases hc:chk s with | false=>rfl | true=>obtain⟨x,hx⟩:=hyes hc;rw[hx]at Rz;cases Rz),H3.Af⟩
  refine Xr e109<|J4 rfl<|J6<|Rq<|Xa rfl<|Xr e109<|J5<|Cm rfl rfl<|⟨_,rfl,Ans.ok (by cases hc:chk s with | true=>rfl | false=>exact absurd (hno hc) Rz),H3.Af⟩
 any_goals
  clear m1
  refine Xu Y Y<|Xm Y<|Ag e109<|OY Y<|Xf uT Y<|OY Y<|OV (EL xO Y (H2.cell (i:=0) Y Y))<|Ag e109<|OY Y<|OV (ES Gz Y)<|OY Y<|OT (yS Y Y) (fun Wi=>?_) (fun Wi=>?_)
  refine Xu Y Y<|Xr e109<|J3 Y<|Rq<|Xa Y<|Xr e109<|J5<|Cm Y Y<|⟨_,Y,Ans.no (kF (by omega)),H2.Af⟩
  refine Xu Y Y<|Xr e109<|J4 Y<|J6<|Rq<|Xf wT Y<|OV (EL ty3 Y (H2.cell (i:=0) Y Y))<|Xa Y<|Xr e109<|J1<|Rq<|Xa Y<|Xr e109<|J7<|zV (fun nQ lQ w=>∃ (i:Nat) (y m:Int),s.entries.length - i=nQ∧xM (Hy [(1,Aa 5),(5,Ah gs),(7,Aa m),(8,Aa y)] 0 109) lQ∧y=(i:Int)∧m=s.index+i∧i≤s.entries.length∧tK s.index s.entries=tK (s.index+i) (s.entries.drop i)∧Hp w0 w [] [((some gs,97,Bv s A1 k1 A2 k2 A3 k3):Ent)]) (s.entries.length) ?_ ?_
  exact⟨0,_,_,Y,(Jg Y Y Y Y Y),Y,by simp,Am _,by simp,H2⟩
  rintro nQ lQ w3 ⟨i,y,m,rfl,hfit,rfl,hm,hi,hinv,H3⟩
  obtain⟨j,rfl⟩:=hfit.open
  refine cR e109 ?_
  clear hfit
  refine J1<|Rq<|Xm Y<|Xf xZ Y<|OV (EL uY Y (H3.cell (i:=0) Y Y))<|OV (ES Lr Y)<|Ag e109<|OT (zQ Y Y) (fun hp72=>?_) (fun hp72=>?_)
  have hil:i < s.entries.length:=by omega
  obtain⟨x,hx⟩:=yL hil
  obtain⟨p1,hp1,hR⟩:=he2.get hx
  obtain⟨Ax,kx,rfl,hbx⟩:=hR
  obtain⟨a1,ha1⟩:=hre.some_ (by omega)
  subst ha1
  refine Xr e109<|J3 Y<|J6<|J1<|J7<|J1<|Rq<|Xf xZ Y<|OV (EL uY Y (H3.cell (i:=0) Y Y))<|Xm Y<|OV (EI Lr wE Y Y Y hil Y)<|Ag e109<|OV (yK wF Y)<|OV (EL ty3 Y (((hre.to0 H3).elem hpe hp1) 0 _ Y))<|Xm Y<|OV (zL Y Y (Ad _ (by omega)))<|Ag e109<|OT (yR Y Y) (fun ZR=>?_) (fun ZR=>?_)
  refine Xm Y<|Oz 3 Y<|Ag e109<|Xt Y Y<|Xm Y<|Ag e109<|Oz 8 Y<|Ag e109<|Xt Y Y<|Xr e109<|J3 Y<|Rq<|Xa Y<|Xr e109<|J5<|BR<|yN<|BR<|Cm Y Y<|⟨_,Y,Ans.no (qT (by rw[hinv];exact qS hx fun hh=>by omega)),H3.Af⟩
  refine Xm Y<|OY Y<|Xm Y<|Ag e109<|OY Y<|OV (zL Y Y (Ad _ (by omega)))<|OY Y<|OT (yS Y Y) (fun hp87=>?_) (fun hp87=>?_)
  refine Xu Y Y<|Xm Y<|Ag e109<|Oz 8 Y<|Ag e109<|Xt Y Y<|Xr e109<|J3 Y<|Rq<|Xa Y<|Xr e109<|J5<|BR<|yN<|BR<|Cm Y Y<|⟨_,Y,Ans.no (qT (by rw[hinv];exact qS hx fun hh=>by omega)),H3.Af⟩
  refine Xu Y Y<|Xm Y<|Ag e109<|OY Y<|Xf xZ Y<|OY Y<|OV (EL uY Y (H3.cell (i:=0) Y Y))<|Ag e109<|OY Y<|Xm Y<|OY Y<|OV (EI Lr wE Y Y Y hil Y)<|Ag e109<|OY Y<|OV (yK uU Y)<|OY Y<|OV (EL xO Y (((hre.to0 H3).elem hpe hp1) 1 _ Y))<|Ag e109<|OY Y<|OV (ES Gz Y)<|OY Y<|OT (yS Y Y) (fun hp97=>?_) (fun hp97=>?_)
  refine Xu Y Y<|Xr e109<|J3 Y<|Rq<|Xa Y<|Xr e109<|J5<|BR<|yN<|BR<|Cm Y Y<|⟨_,Y,Ans.no (qT (by rw[hinv];exact qS hx fun hh=>by omega)),H3.Af⟩
  refine Xu Y Y<|Xr e109<|J4 Y<|J6<|J2<|Xm Y<|OV (zL Y Y (Ad _ (by omega)))<|Xa Y<|Xr e109<|zA (zB ?_)
  refine J2<|Xm Y<|OV (zL Y Y (Ad _ (by omega)))<|Xa Y<|Xr e109<|zA (zH ?_)
  have hgo:=C6 (m:=s.index+i) hx ⟨by omega,by omega,by omega⟩
  exact⟨s.entries.length - (i+1),by omega,i+1,_,_,Y,(Jg Y Y Y Y Y),by omega,by omega,by omega,by rw[hinv,hgo];congr 1;omega,H3.pick [0] (by decide)⟩
  obtain rfl:i=s.entries.length:=by omega
  have hent:=hinv.trans dY
  subst hm
  refine Xr e109<|J4 Y<|J8<|zU<|zS<|J1<|Rq<|Xf vZ Y<|OV (EN vA Y (vs:=Gq s) Y (H3.Ap (i:=0) Y Y))<|Xm Y<|OV (zL Y Y (Ad _ (by omega)))<|Ag e109<|Xf xW Y<|OV (EL uP Y (H3.cell (i:=0) Y Y))<|OQ (EC VE Y) (OU s.p (s.index+s.entries.length+1) A1 k1 s.Bc ok _ (hv1.Qn H3 k0) (by omega) (by omega)) ?_
  rintro _ w4 ⟨a,rfl,hyes,hno,Hd⟩
  have H4:=H3.Au Hd
  rw[← C9 (by omega) (by omega) hent]at hyes hno
  refine OT (yF Tryz.underlying212 Y) (fun Rz=>?_) (fun Rz=>?_)
  refine Xr e109<|J3 rfl<|Rq<|Xa rfl<|Xr e109<|J5<|Cm rfl rfl<|⟨_,rfl,Ans.no (by cases hc:chk s with | false=>rfl | true=>obtain⟨x,hx⟩:=hyes hc;rw[hx]at Rz;cases Rz),H4.Af⟩
  refine Xr e109<|J4 rfl<|J6<|Rq<|Xa rfl<|Xr e109<|J5<|Cm rfl rfl<|⟨_,rfl,Ans.ok (by cases hc:chk s with | true=>rfl | false=>exact absurd (hno hc) Rz),H4.Af⟩
set_option maxHeartbeats 32000000
theorem O9 (b:Bo) (A1:Option Addr) (k1:Nat) (A2:Option Addr) (k2:Nat) (A3:Option Addr) (k3:Nat) (n:Nt) (B1:Option Addr) (j1:Nat) (B2:Option Addr) (j2:Nat) (ok:Nat→Prop) (N:Nat) (w0:World) (hb1:Sl (Qz w0 ok) 6 w0 ok A1 b.groups) (hb2:Sl Nu 4 w0 ok A2 b.rights) (hb3:Sl Pv 7 w0 ok A3 b.last) (hbv:Bs w0 ok B1 n.Eh.val) (hbe:Bs w0 ok B2 n.entry.val) (hg:rE b N) (hN:N≤900000000000) (hc2:b.rights.length≤k2):Aj 48 #[.agg (Bd A1 b k1 A2 k2 A3 k3).toArray,.agg (Ed n B1 j1 B2 j2).toArray] w0 (fun r w'=>∃ X1 m1 x1 X2 m2 x2 X3 m3 x3 f,r=.tuple #[.agg [Ac X1 m1 x1,Ac X2 m2 x2,Ac X3 m3 x3].toArray,.bool f]∧(∀ b',b.into n=some b'→f=true∧Qq w' (up ok w0.heap.size) [Ac X1 m1 x1,Ac X2 m2 x2,Ac X3 m3 x3] b'∧m2≤x2)∧(b.into n=none→f=false)∧Hp w0 w' [] []):=by
 refine zG Tryz.func48 Tryz.ntmps48 Y<|cR Ef ?_
 have H:=Hp.refl w0
 obtain⟨pg,hpg,hrg,hag,h2g⟩:=id hb1
 have hgl:=h2g.len
 have h8:=hg.eight
 have hong:=h2g.ones fun _ _ h=>h.ones
 refine Rq<|yA Y Y H<|fun w1 gb H1 _=>yA Y Y H1<|fun w2 gn H2 _=>OA xT H2<|fun w3 gr H3 _=>Xa Y<|Xr Ef<|J1<|Rq<|Xf oY Y<|OV (EL ty3 Y (H3.cell (i:=1) Y Y))<|OT (xR Y Y) (fun hp14=>?_) (fun hp14=>?_)
 refine Xr Ef<|J3 Y<|Rq<|Xf sI Y<|OV (EL lF Y (H3.cell (i:=0) Y Y))<|Xf eJ Y<|OV (EN xA Y (vs:=Uz n) Y (H3.Ap (i:=1) Y Y))<|Ag Ef ?_
 have Z5:=Hp.fresh H3
 have hsz9:=H3.size
 refine OQ (EC gf90 Y) (put16 n.right A2 k2 b.rights ok _ (hb2.toR H3 k0) (by have:=hg.few;omega) hg.rts) ?_
 rintro r w4 ⟨hyes,hno,Hd⟩
 have HP:=H3.Au Hd
 have H4:=HP.here
 have hszP:=HP.size
 by_cases hmay:mH n.right
 obtain⟨A9,k9,rfl,hA9,Xh⟩:=hyes hmay
 refine Xm Y<|Xe Y Y<|Xe Y Y<|Xa Y<|Ag Ef<|Xa Y<|Xr Ef<|J1<|Rq<|Xm Y<|Jw (yR Y Y) (by decide)<|Xr Ef<|J4 Y<|J6<|Rq<|Xm Y<|Xf sI Y<|OW lF H4 0 Y Y Y Y (by first | (simp;done) | simp[zJ]) Y<|fun w5 H5=>Xr Ef<|Rq<|Xf tQ Y<|OV (EL mY Y (H5.cell (i:=0) Y Y))<|Xf uZ Y<|OV (EL ty3 Y (H5.cell (i:=1) Y Y))<|Ag Ef<|OQ (EC gf91 Y) (P8 A3 k3 b.last n.client ok _ (hb3.toM (HP.all H5) k0) hg.Y4) ?_
 rintro r w6 ⟨hyes2,hno2,Hd⟩
 have H6:=H5.Au Hd
 cases hfm:Fh b.last n.client
 obtain rfl:=hno2 hfm
 refine Xm Y<|Xe Y Y<|Xe Y Y<|OA yT H6<|fun w7 gz H7 _=>Ag Ef<|OS yT H7 3 (vs:=[Aa (⟨0,0⟩:Mk).client,Aa (⟨0,0⟩:Mk).seq,.bool false,Aa 0,Aa 0,Aa 0,Aa 0]) Y Y Y Y Y (Ak 7) Y<|fun w8 H8=>Xa Y<|Xr Ef<|J1<|Rq<|Xf uZ Y<|OV (EL ty3 Y (H8.cell (i:=1) Y Y))<|OX (EC gf92 Y) (FX _ _) (fun hp38 w9 Hd=>?_) (fun hp38 w9 Hd=>?_)
 have H9:=H8.Au Hd
 refine Xm Y<|Ag Ef<|OY Y<|Xf rB Y<|OY Y<|OV (EL ty3 Y (H9.cell (i:=1) Y Y))<|Ag Ef<|OY Y<|OX (EC gf93 Y) (UY _ _) (fun hp42 w10 Hd=>?_) (fun hp42 w10 Hd=>?_)
 have Df:=H9.Au Hd
 refine Xt Y Y<|Xm Y<|Ag Ef<|OY Y<|Xm Y<|OY Y<|Xn Y<|Ag Ef<|OY Y<|Xm Y<|Oz 5 Y<|Ag Ef<|OY Y<|Xt Y Y<|Xt Y Y<|Xr Ef<|J3 Y<|J2<|Xf tQ Y<|OV (EL mY Y (Df.cell (i:=0) Y Y))<|Xf uZ Y<|OV (EL ty3 Y (Df.cell (i:=1) Y Y))<|Ag Ef<|Xf rB Y<|OV (EL ty3 Y (Df.cell (i:=1) Y Y))<|OV (EB yT eZ Y Y) ?_
 have hnp8:=Hp.fresh Df
 have hsz8:=Df.size
 refine OQ (EC gf94 Y) (MQ A3 k3 b.last (⟨n.client,n.seq⟩:Mk) ok _ (hb3.toM (HP.all Df) k0) hg.Y4 hp38 hp42) ?_
 rintro _ Oa ⟨A8,k8,rfl,hA8,Hd⟩
 have HX:=Df.Au Hd
 have Ei:=HX.here
 refine Ag Ef<|Xf tQ Y<|OW mY Ei 0 Y Y Y Y (by first | (simp;done) | simp[zJ]) Y<|fun w12 Fj=>Xr Ef<|Rq<|OV (EN xT Y (vs:=Tj A1 b k1 A9 (Hf b.rights n.right).length k9 A8 (uK b.last ⟨n.client,n.seq⟩).length k8) Y (Fj.Ap (i:=0) Y Y))<|OS xT Fj 2 Y Y Y Y Y (by first|exact NL Y|simp[zJ]) Y<|fun Uf Ip=>Xa Y<|Xr Ef<|J5<|xS Y xT (cs:=Tj A1 b k1 A9 (Hf b.rights n.right).length k9 A8 (uK b.last ⟨n.client,n.seq⟩).length k8) Y Y Y (Ip.Ap (i:=2) Y Y) ?_
 have HW:=HP.all (HX.all Ip)
 refine⟨A1,_,k1,A9,_,k9,_,_,_,true,Y,(fun b' hb'=>?_),(fun hb'=>by rw[vL hp14 hmay]at hb';cases hb'),HW.Af⟩
 rw[vL hp14 hmay]at hb'
 simp only[Option.some.injEq]at hb'
 subst hb'
 refine⟨Y,⟨A1,k1,A9,k9,A8,k8,?_,hb1.toS HW vG,hA9.toR (HX.all Ip) (fun x hx _=>⟨Z5 x hx,.inr (by have:=hx;omega)⟩),?_⟩,Xh⟩
 show _=[_,_,Ac _ (uS b.last n.client n.seq).length _]
 rw[kQ (by omega) hfm]
 show Sl Pv 7 _ _ _ (uS b.last n.client n.seq)
 rw[kQ (by omega) hfm]
 exact hA8.toM Ip (fun x hx _=>⟨hnp8 x hx,.inr (by have:=hx;omega)⟩)
 have m4:=()
 rotate_left 1
 have m3:=()
 rotate_left 1
 rename_i o
 obtain rfl:=hyes2 o hfm
 refine Xm Y<|Xe Y Y<|Xe Y Y<|OA yT H6<|fun w7 gz H7 _=>Ag Ef<|OS yT H7 3 (vs:=[Aa o.client,Aa o.seq,.bool false,Aa 0,Aa 0,Aa 0,Aa 0]) Y Y Y Y Y (Ak 7) Y<|fun w8 H8=>Xa Y<|Xr Ef<|J1<|Rq<|Xf uZ Y<|OV (EL ty3 Y (H8.cell (i:=1) Y Y))<|OX (EC gf92 Y) (FX _ _) (fun hp38 w9 Hd=>?_) (fun hp38 w9 Hd=>?_)
 have H9:=H8.Au Hd
 refine Xm Y<|Ag Ef<|OY Y<|Xf rB Y<|OY Y<|OV (EL ty3 Y (H9.cell (i:=1) Y Y))<|Ag Ef<|OY Y<|OX (EC gf93 Y) (UY _ _) (fun hp42 w10 Hd=>?_) (fun hp42 w10 Hd=>?_)
 have Df:=H9.Au Hd
 refine Xt Y Y<|Xm Y<|Ag Ef<|OY Y<|Xm Y<|OY Y<|Xn Y<|Ag Ef<|OY Y<|Xm Y<|OY Y<|Xf rB Y<|Ag Ef<|OY Y<|OV (EL ty3 Y (Df.cell (i:=1) Y Y))<|OY Y<|Xf jL Y<|Ag Ef<|OY Y<|OV (EL ty3 Y (Df.cell (i:=3) Y Y))<|OY Y<|OT (yS Y Y) (fun Ox=>?_) (fun Ox=>?_)
 refine OY Y<|Xu Y Y<|Xt Y Y<|Xr Ef<|J3 Y<|J2<|Xf tQ Y<|OV (EL mY Y (Df.cell (i:=0) Y Y))<|Xf uZ Y<|OV (EL ty3 Y (Df.cell (i:=1) Y Y))<|Ag Ef<|Xf rB Y<|OV (EL ty3 Y (Df.cell (i:=1) Y Y))<|OV (EB yT eZ Y Y) ?_
 have hnp8:=Hp.fresh Df
 have hsz8:=Df.size
 refine OQ (EC gf94 Y) (MQ A3 k3 b.last (⟨n.client,n.seq⟩:Mk) ok _ (hb3.toM (HP.all Df) k0) hg.Y4 hp38 hp42) ?_
 rintro _ Oa ⟨A8,k8,rfl,hA8,Hd⟩
 have HX:=Df.Au Hd
 have Ei:=HX.here
 refine Ag Ef<|Xf tQ Y<|OW mY Ei 0 Y Y Y Y (by first | (simp;done) | simp[zJ]) Y<|fun w12 Fj=>Xr Ef<|Rq<|OV (EN xT Y (vs:=Tj A1 b k1 A9 (Hf b.rights n.right).length k9 A8 (uK b.last ⟨n.client,n.seq⟩).length k8) Y (Fj.Ap (i:=0) Y Y))<|OS xT Fj 2 Y Y Y Y Y (by first|exact NL Y|simp[zJ]) Y<|fun Uf Ip=>Xa Y<|Xr Ef<|J5<|xS Y xT (cs:=Tj A1 b k1 A9 (Hf b.rights n.right).length k9 A8 (uK b.last ⟨n.client,n.seq⟩).length k8) Y Y Y (Ip.Ap (i:=2) Y Y) ?_
 have HW:=HP.all (HX.all Ip)
 refine⟨A1,_,k1,A9,_,k9,_,_,_,true,Y,(fun b' hb'=>?_),(fun hb'=>by rw[vL hp14 hmay]at hb';cases hb'),HW.Af⟩
 rw[vL hp14 hmay]at hb'
 simp only[Option.some.injEq]at hb'
 subst hb'
 refine⟨Y,⟨A1,k1,A9,k9,A8,k8,?_,hb1.toS HW vG,hA9.toR (HX.all Ip) (fun x hx _=>⟨Z5 x hx,.inr (by have:=hx;omega)⟩),?_⟩,Xh⟩
 show _=[_,_,Ac _ (uS b.last n.client n.seq).length _]
 rw[nY (by omega) hfm (by omega)]
 show Sl Pv 7 _ _ _ (uS b.last n.client n.seq)
 rw[nY (by omega) hfm (by omega)]
 exact hA8.toM Ip (fun x hx _=>⟨hnp8 x hx,.inr (by have:=hx;omega)⟩)
 refine OY Y<|Xu Y Y<|Xt Y Y<|Xr Ef<|J4 Y<|J6<|Rq<|OV (EN xT Y (vs:=Qi A1 b k1 A9 (Hf b.rights n.right).length k9 A3 k3) Y (Df.Ap (i:=0) Y Y))<|OS xT Df 2 Y Y Y Y Y (by first|exact NL Y|simp[zJ]) Y<|fun Oa Ei=>Xa Y<|Xr Ef<|J5<|xS Y xT (cs:=Qi A1 b k1 A9 (Hf b.rights n.right).length k9 A3 k3) Y Y Y (Ei.Ap (i:=2) Y Y) ?_
 have HW:=HP.all Ei
 refine⟨A1,_,k1,A9,_,k9,_,_,_,true,Y,(fun b' hb'=>?_),(fun hb'=>by rw[vL hp14 hmay]at hb';cases hb'),HW.Af⟩
 rw[vL hp14 hmay]at hb'
 simp only[Option.some.injEq]at hb'
 subst hb'
 refine⟨Y,⟨A1,k1,A9,k9,A3,k3,?_,hb1.toS HW vG,hA9.toR Ei (fun x hx _=>⟨Z5 x hx,.inr (by have:=hx;omega)⟩),?_⟩,Xh⟩
 show _=[_,_,Ac _ (uS b.last n.client n.seq).length _]
 rw[kS hfm (by omega)]
 show Sl Pv 7 _ _ _ (uS b.last n.client n.seq)
 rw[kS hfm (by omega)]
 exact hb3.toM HW vG
 have m4:=()
 rotate_left 1
 have m3:=()
 rotate_left 1
 obtain rfl:=hno hmay
 refine Xm Y<|Xe Y Y<|Xe Y Y<|Xa Y<|Ag Ef<|Xa Y<|Xr Ef<|J1<|Rq<|Xm Y<|Ui (yR Y Y) (by decide)<|Xr Ef<|J3 Y<|Rq<|OV (EN xT Y (vs:=Bd A1 b k1 A2 k2 A3 k3) Y (H4.Ap (i:=0) Y Y))<|OS xT H4 2 Y Y Y Y Y (by first|exact NL Y|simp[zJ]) Y<|fun w5 H5=>Xa Y<|Xr Ef<|J5<|xS Y xT (cs:=Bd A1 b k1 A2 k2 A3 k3) Y Y Y (H5.Ap (i:=2) Y Y)<|⟨_,_,_,_,_,_,_,_,_,false,Y,(fun b' hb'=>by rw[bO hp14 hmay]at hb';cases hb'),fun _=>Y,(HP.all H5).Af⟩
 refine Xr Ef<|J4 Y<|J6<|J1<|Rq<|Xf oY Y<|OV (EL ty3 Y (H3.cell (i:=1) Y Y))<|OT (zQ Y Y) (fun Wh=>?_) (fun Wh=>?_)
 refine Xm Y<|Ag Ef<|Oz 3 Y<|Ag Ef<|Xt Y Y ?_
 have m5:=()
 rotate_left 1
 refine Xm Y<|Ag Ef<|OY Y<|Xf oY Y<|OY Y<|OV (EL ty3 Y (H3.cell (i:=1) Y Y))<|Ag Ef<|OY Y<|OT (yS Y Y) (fun hp71=>?_) (fun hp71=>?_)
 refine Xu Y Y ?_
 have m5:=()
 rotate_left 1
 refine Xu Y Y<|Xm Y<|Ag Ef<|OY Y<|Xf fl81_1 Y<|OY Y<|OV (EL ty3 Y (H3.cell (i:=1) Y Y))<|Ag Ef<|OY Y<|OT (zQ Y Y) (fun hp76=>?_) (fun hp76=>?_)
 refine Xu Y Y<|Xm Y<|Ag Ef<|Oz 3 Y<|Ag Ef<|Xt Y Y ?_
 have m2:=()
 rotate_left 1
 refine Xu Y Y<|Xm Y<|Ag Ef<|OY Y<|Xf fl81_1 Y<|OY Y<|OV (EL ty3 Y (H3.cell (i:=1) Y Y))<|Ag Ef<|OY Y<|OT (wM Y Y) (fun YN=>?_) (fun YN=>?_)
 refine Xu Y Y ?_
 have m2:=()
 rotate_left 1
 obtain⟨s,hs⟩:=yL (l:=b.groups) (j:=n.group.toNat) (by omega)
 have hsl:=lt_of_get hs
 obtain⟨p1,hp1,hR⟩:=h2g.get hs
 obtain⟨C1,q1,C2,q2,C3,q3,rfl,hv1,hv2,hv3⟩:=hR
 obtain⟨a1,ha1⟩:=hrg.some_ (by omega)
 subst ha1
 have hce:=(tD s).1 (hg.chk s (mem_of hs))
 have Y5:=oB hce
 have Sj:=pY hce
 have Y6:=nR s n
 refine Xu Y Y<|Xr Ef<|J4 Y<|J6<|J1<|rT 9 (.p 0 (.p 1 (.p 2 (.p 3 (.p 4 (.p 5 (.p 6 (.two 7 (.o 8 (.o 9 .nil)) 8 (.o 7 (.o 9 .nil)))))))))) H3 [0,1,2] yE (by decide) (by kernel_rfl) ?_
 rintro w4 hw4
 have H4:=Hp.drew H3;rw[← hw4]at H4
 refine Tf Y uO Y<|TP Y<|MV (fun wz hz=>EL oO Y (hz.cell (i:=0) Y Y))<|Tf Y fl81_1 Y<|TP Y<|MV (fun wz hz=>EL ty3 Y (hz.cell (i:=1) Y Y))<|cT Ef<|TP Y<|MV (fun wz hz=>EI Ue wD Y Y (len:=b.groups.length) (i:=n.group.toNat) (by omega) (by omega) Y)<|TP Y<|MV (fun wz hz=>EN wD Y (vs:=Bv s C1 q1 C2 q2 C3 q3) Y ((hrg.to0 hz).elem hpg hp1))<|TP Y<|MV (fun wz hz=>EN xH Y (vs:=Ed n B1 j1 B2 j2) Y (hz.Ap (i:=1) Y Y))<|sD ?_ ?_
 refine TQ Y ?_
 have hnp:=Hp.fresh H4
 have YK:=H4.size
 have hpl:=bl_place H4
 refine OQ (EC gf95 rfl) (PH s C1 q1 C2 q2 C3 q3 n B1 j1 B2 j2 (fun x=>ok x∧x < w0.heap.size) _ (hv1.Qn H4 (fun x hx hl=>⟨by simp,hx,hl⟩)) (hv2.to H4 (fun x hx hl=>⟨by simp,hx,hl⟩)) (hv3.Tt H4 (fun x hx hl=>⟨by simp,hx,hl⟩)) (hbv.to H4 (fun x hx hl=>⟨by simp,hx,hl⟩)) (hbe.to H4 (fun x hx hl=>⟨by simp,hx,hl⟩)) ⟨by omega,by omega⟩ ⟨hce.i.1,hce.i.2.1⟩ Sj (by omega) (fun x hx=>by obtain⟨i,hi⟩:=Dh hx;exact(qL hce.e i x hi).2.1)) ?_
 rintro _ w5 ⟨cs2,rfl,hsv,Hd⟩
 have HG:=H4.Au Hd
 have HL:=HG.here
 have H5:=HG
 obtain⟨D1,e1,D2,e2,D3,e3,rfl,hw1,hw2,hw3⟩:=hsv
 have hnk:∀ x,up (fun x=>ok x∧x < w0.heap.size) w4.heap.size x→x∉bl _:=fun x hx hb=>(show False from by
  rcases hx with hx | hx
  · rcases hpl x hb with h | h
    · cases h
    have:=hx.2;omega
  exact hnp x hx hb)
 have hkk:∀ x,up (fun x=>ok x∧x < w0.heap.size) w4.heap.size x→x < w5.heap.size→x∉bl _∧up ok w0.heap.size x:=fun x hx _=>⟨hnk x hx,by
  rcases hx with hx | hx
  · exact .inl hx.1
  exact .inr (by omega)⟩
 refine OE ?_
 refine⟨fun hne=>H5.pick [0,1,2] (by decide),?_⟩
 refine cT Ef<|TQ Y<|OA wD HL<|fun w6 gs HL2 _=>have H6:=HG.all HL2;OE<|⟨fun hne=>H6.pick [0,1,2] (by decide),?_⟩
 refine cT Ef<|TQ Y<|OS wD HL2 3 (vs:=Bv (s.goes n) D1 e1 D2 e2 D3 e3) Y Y Y Y Y (Ak 6) Y ?_
 have m1:=()
 rotate_left 1
 refine TQ Y<|OA wD H4<|fun w5 gs H5 _=>OE<|⟨fun hne=>H5.pick [0,1,2] (by decide),?_⟩
 refine cT Ef<|TQ Y ?_
 have hnp:=Hp.fresh H5
 have YK:=H5.size
 have hpl:=bl_place H5
 refine OQ (EC gf95 rfl) (PH s C1 q1 C2 q2 C3 q3 n B1 j1 B2 j2 (fun x=>ok x∧x < w0.heap.size) _ (hv1.Qn H5 (fun x hx hl=>⟨by simp,hx,hl⟩)) (hv2.to H5 (fun x hx hl=>⟨by simp,hx,hl⟩)) (hv3.Tt H5 (fun x hx hl=>⟨by simp,hx,hl⟩)) (hbv.to H5 (fun x hx hl=>⟨by simp,hx,hl⟩)) (hbe.to H5 (fun x hx hl=>⟨by simp,hx,hl⟩)) ⟨by omega,by omega⟩ ⟨hce.i.1,hce.i.2.1⟩ Sj (by omega) (fun x hx=>by obtain⟨i,hi⟩:=Dh hx;exact(qL hce.e i x hi).2.1)) ?_
 rintro _ w6 ⟨cs2,rfl,hsv,Hd⟩
 have HG:=H5.Au Hd
 have HL:=HG.here
 have H6:=HG
 obtain⟨D1,e1,D2,e2,D3,e3,rfl,hw1,hw2,hw3⟩:=hsv
 have hnk:∀ x,up (fun x=>ok x∧x < w0.heap.size) w5.heap.size x→x∉bl _:=fun x hx hb=>(show False from by
  rcases hx with hx | hx
  · rcases hpl x hb with h | h
    · cases h
    have:=hx.2;omega
  exact hnp x hx hb)
 have hkk:∀ x,up (fun x=>ok x∧x < w0.heap.size) w5.heap.size x→x < w6.heap.size→x∉bl _∧up ok w0.heap.size x:=fun x hx _=>⟨hnk x hx,by
  rcases hx with hx | hx
  · exact .inl hx.1
  exact .inr (by omega)⟩
 refine OE ?_
 refine⟨fun hne=>H6.pick [0,1,2] (by decide),?_⟩
 refine cT Ef<|TQ Y<|OS wD HL 3 (vs:=Bv (s.goes n) D1 e1 D2 e2 D3 e3) Y Y Y Y Y (Ak 6) Y ?_
 have m1:=()
 rotate_left 1
 any_goals
  clear m5
  refine Xm Y<|Ag Ef<|Oz 3 Y<|Ag Ef<|Xt Y Y<|Xm Y<|Ag Ef<|Oz 3 Y<|Ag Ef<|Xt Y Y ?_
  have m2:=()
  rotate_left 1
 any_goals
  clear m4
  have Df:=H9.Au Hd
  refine Xt Y Y<|Xm Y<|Ag Ef<|Oz 9 Y<|Ag Ef<|Xu Y Y<|Xr Ef<|J4 Y<|J6<|Rq<|OV (EN xT Y (vs:=Qi A1 b k1 A9 (Hf b.rights n.right).length k9 A3 k3) Y (Df.Ap (i:=0) Y Y))<|OS xT Df 2 Y Y Y Y Y (by first|exact NL Y|simp[zJ]) Y<|fun Oa Ei=>Xa Y<|Xr Ef<|J5<|xS Y xT (cs:=Qi A1 b k1 A9 (Hf b.rights n.right).length k9 A3 k3) Y Y Y (Ei.Ap (i:=2) Y Y) ?_
  have HW:=HP.all Ei
  refine⟨A1,_,k1,A9,_,k9,_,_,_,true,Y,(fun b' hb'=>?_),(fun hb'=>by rw[vL hp14 hmay]at hb';cases hb'),HW.Af⟩
  rw[vL hp14 hmay]at hb'
  simp only[Option.some.injEq]at hb'
  subst hb'
  refine⟨Y,⟨A1,k1,A9,k9,A3,k3,?_,hb1.toS HW vG,hA9.toR Ei (fun x hx _=>⟨Z5 x hx,.inr (by have:=hx;omega)⟩),?_⟩,Xh⟩
  show _=[_,_,Ac _ (uS b.last n.client n.seq).length _]
  rw[qO (by omega)]
  show Sl Pv 7 _ _ _ (uS b.last n.client n.seq)
  rw[qO (by omega)]
  exact hb3.toM HW vG
 any_goals
  clear m3
  have H9:=H8.Au Hd
  refine Xm Y<|Ag Ef<|Oz 3 Y<|Ag Ef<|Xu Y Y<|Xm Y<|Ag Ef<|Oz 9 Y<|Ag Ef<|Xu Y Y<|Xr Ef<|J4 Y<|J6<|Rq<|OV (EN xT Y (vs:=Qi A1 b k1 A9 (Hf b.rights n.right).length k9 A3 k3) Y (H9.Ap (i:=0) Y Y))<|OS xT H9 2 Y Y Y Y Y (by first|exact NL Y|simp[zJ]) Y<|fun w10 Df=>Xa Y<|Xr Ef<|J5<|xS Y xT (cs:=Qi A1 b k1 A9 (Hf b.rights n.right).length k9 A3 k3) Y Y Y (Df.Ap (i:=2) Y Y) ?_
  have HW:=HP.all Df
  refine⟨A1,_,k1,A9,_,k9,_,_,_,true,Y,(fun b' hb'=>?_),(fun hb'=>by rw[vL hp14 hmay]at hb';cases hb'),HW.Af⟩
  rw[vL hp14 hmay]at hb'
  simp only[Option.some.injEq]at hb'
  subst hb'
  refine⟨Y,⟨A1,k1,A9,k9,A3,k3,?_,hb1.toS HW vG,hA9.toR Df (fun x hx _=>⟨Z5 x hx,.inr (by have:=hx;omega)⟩),?_⟩,Xh⟩
  show _=[_,_,Ac _ (uS b.last n.client n.seq).length _]
  rw[qO (by omega)]
  show Sl Pv 7 _ _ _ (uS b.last n.client n.seq)
  rw[qO (by omega)]
  exact hb3.toM HW vG
 any_goals
  clear m2
  refine Xr Ef<|J3 Y<|Rq<|OV (EN xT Y (vs:=Bd A1 b k1 A2 k2 A3 k3) Y (H3.Ap (i:=0) Y Y))<|OS xT H3 2 Y Y Y Y Y (by first|exact NL Y|simp[zJ]) Y<|fun w4 H4=>Xa Y<|Xr Ef<|J5<|xS Y xT (cs:=Bd A1 b k1 A2 k2 A3 k3) Y Y Y (H4.Ap (i:=2) Y Y)<|⟨_,_,_,_,_,_,_,_,_,false,Y,(fun b' hb'=>by rw[E6 hp14 (by omega)]at hb';cases hb'),fun _=>Y,H4.Af⟩
 any_goals
  clear m1
  intro w7 H7
  refine OE ?_
  refine⟨fun hne=>absurd Y hne,?_⟩
  refine cT Ef<|tH<|cR Ef<|J1<|Rq<|OV (EN wD Y (vs:=Bv (s.goes n) D1 e1 D2 e2 D3 e3) Y (H7.Ap (i:=3) Y Y))<|OQ (EC gf96 Y) (UG (s.goes n) D1 e1 D2 e2 D3 e3 _ _ (hw1.Qn H7 hkk) (hw2.to H7 hkk) (hw3.Tt H7 hkk) (by omega) (by omega)) ?_
  rintro _ w8 ⟨e,rfl,hans,Hd⟩
  have H8:=H7.Au Hd
  refine OT (yR Y Y) (fun Yh=>?_) (fun Yh=>?_)
  refine Xr Ef<|J3 rfl<|Rq<|OV (EN xT rfl (vs:=Bd (some a1) b k1 A2 k2 A3 k3) rfl (H8.Ap (i:=0) rfl rfl))<|OS xT H8 2 rfl rfl rfl rfl rfl (by first|exact NL rfl|simp[zJ]) rfl<|fun w9 H9=>Xa rfl<|Xr Ef<|J5<|xS rfl xT (cs:=Bd (some a1) b k1 A2 k2 A3 k3) rfl rfl rfl (H9.Ap (i:=2) rfl rfl)<|⟨_,_,_,_,_,_,_,_,_,false,rfl,(fun b' hb'=>by rw[I9 hp14 hs (by cases hc:chk (s.goes n)with | false=>rfl | true=>exact absurd (hans.1 hc) Yh)]at hb';cases hb'),fun _=>rfl,(HG.all H9).Af⟩
  have Ze:chk (s.goes n)=true:=by cases hc:chk (s.goes n)with | true=>rfl | false=>have:=hans.2 hc;omega
  refine Xr Ef<|J4 Y<|J6<|Rq<|Xf uO Y<|OV (EL oO Y (H8.cell (i:=0) Y Y))<|xB Ue wD (by decide) (H8.nil 97) 4 (Gw.nil 6) Y Y (rs:=pg) (m:=b.groups.length) hgl Y (hrg.to0 (HG.all H8)) hpg hong (by rw[Dq];omega) (by rw[Dq];omega) (by decide)<|fun w9 g2 cap2 sp2 H9 hG2=>?_
  rw[Gp pg]at H9 hG2 ⊢
  rw[hgl]
  obtain⟨gw,rfl⟩:=vK H9 (i:=4) rfl (by rw[Ae,hpg.len];omega)
  refine Xa Y<|Xr Ef<|Rq<|Xm Y<|Xf fl81_1 Y<|OV (EL ty3 Y (H9.cell (i:=1) Y Y))<|OV (EN wD Y (vs:=Bv (s.goes n) D1 e1 D2 e2 D3 e3) Y (H9.Ap (i:=3) Y Y))<|Ag Ef<|OV (uR Ue wD Y Y (len:=b.groups.length) (i:=n.group.toNat) (by omega) (by omega))<|OS wD H9 4 Y Y Y Y Y (by rw[Ae,hpg.len];show 0+n.group.toNat*6+6≤_;omega) Y<|fun w10 Df=>?_
  rw[nX (sz:=6) (vs:=Bv (s.goes n) D1 e1 D2 e2 D3 e3) hpg (by omega) rfl]at Df
  refine Xr Ef<|Rq<|Xm Y<|Xf uO Y<|OW oO Df 0 Y Y Y Y (by first | (simp;done) | simp[zJ]) Y<|fun Oa Ei=>Xr Ef<|Rq<|OV (EN xT Y (vs:=Bd (hd (some gw)) b cap2 A2 k2 A3 k3) Y (Ei.Ap (i:=0) Y Y))<|OS xT Ei 2 Y Y Y Y Y (by first|exact NL Y|simp[zJ]) Y<|fun w12 Fj=>Xa Y<|Xr Ef<|J5<|xS Y xT (cs:=Bd (hd (some gw)) b cap2 A2 k2 A3 k3) Y Y Y (Fj.Ap (i:=2) Y Y) ?_
  have HW:=HG.all Fj
  refine⟨_,_,_,_,_,_,_,_,_,true,Y,fun b' hb'=>?_,(fun h=>by rw[nP hp14 (by omega) hs Ze]at h;cases h),HW.Af⟩
  rw[nP hp14 (by omega) hs Ze]at hb'
  simp only[Option.some.injEq]at hb'
  subst hb'
  refine⟨Y,⟨hd (some gw),cap2,A2,k2,A3,k3,by rw[Kt],?_,hb2.toR HW vG,hb3.toM HW vG⟩,hc2⟩
  exact Sl.row HW (i:=4) Y (hpg.Ru Y) (by decide) ((h2g.imp (R':=Qz w12 (up ok w0.heap.size)) fun p x h=>h.to HW vG).set _ ⟨D1,e1,D2,e2,D3,e3,Y,hw1.Qn Fj hkk,hw2.to Fj hkk,hw3.Tt Fj hkk⟩) (wQ (ok:=ok) HW (i:=4) Y (fun _ h=>by cases h))
theorem NK (A:Option Addr) (k:Nat) (l:List Nt) (Ob:Nat→Prop) (w0:World) (hl:Sl (NtR w0 Ob) 16 w0 Ob A l) (hn:l.length≤840000000000):Aj 17 #[Ac A l.length k] w0 (fun r w'=>∃ cs e b,r=.tuple #[.agg cs.toArray,Aa e]∧Qq w' (up Ob w0.heap.size) cs b∧Rep l b e∧CapR cs∧Hp w0 w' [] []):=by
 refine zG Tryz.func17 Tryz.ntmps17 Y<|cR e29 ?_
 have H:=Hp.refl w0
 obtain⟨ps,hp,hr,ha,h2⟩:=id hl
 have hlen:=h2.len
 refine Rq<|OA xT H<|fun w1 gr H1 hgr=>Xa Y<|Xr e29<|Rq ?_
 have Z7:=Hp.fresh H1
 have hszr:=H1.size
 refine OQ (EC gf15 Y) (T9 _) ?_
 rintro _ w2 ⟨cse,rfl,hbe,Hd⟩
 have H2:=H1.Au Hd
 have hcl:∃ a b c d e f,cse=[Ac a 8 b,Ac c 0 d,Ac e 0 f]:=by
  obtain⟨_,_,_,_,_,_,rfl,_⟩:=hbe
  exact⟨_,_,_,_,_,_,Y⟩
 obtain⟨z1,y1,z2,y2,z3,y3,rfl⟩:=hcl
 have HB0:=H2
 have HL0:=HB0.here
 refine OA xT HL0<|fun w3 gb H3 hgb=>OS xT H3 1 Y Y Y Y Y (by first|exact NL Y|simp[zJ]) Y<|fun w4 H4=>Xr e29<|J1<|Rq<|Xa Y<|Xr e29<|J7<|zV (fun nQ lQ w=>∃ (i:Nat) (y:Int) (b:Bo) (cs:List Value),l.length - i=nQ∧xM (Hy [(0,Ac A l.length k),(2,Ah gr),(4,Ah gb),(5,Aa y)] 0 29) lQ∧y=(i:Int)∧i≤l.length∧vE Bo.empty (l.take i)=some b∧rE b i∧Qq w (fun x=>(Ob x∧x < w0.heap.size∨w0.heap.size≤x)∧x≠gr∧x≠gb) cs b∧CapR cs∧Hp w0 w [] [((some gr,41,[Dn,Dn,Dn]):Ent),(some gb,41,cs)]) (l.length) ?_ ?_
 exact⟨0,_,Bo.empty,_,rfl,(Jg rfl rfl rfl rfl rfl),rfl,Am _,rfl,rE.empty,hbe.to H4 (fun x hx hl=>⟨Z7 x hx,.inr (by omega),fun e=>by subst e;have h1:=H4.lt (i:=0) rfl;have h2:=Z7 _ hx;exact h2 (by simp[bl]),by omega⟩),(fun x A n k z e=>by simp only[List.cons.injEq,Value.slice.injEq]at e;omega),(HB0.all H4).pick [0,1] (by decide)⟩
 rintro nQ lQ w5 ⟨i,y,b,cs,rfl,hfit,rfl,hi,hrep,hgood,Zi,hcap,H5⟩
 obtain⟨j,rfl⟩:=hfit.open
 refine cR e29 ?_
 clear hfit
 have HB:=H5
 replace H5:=HB.here
 obtain⟨X1,x1,X2,x2,X3,x3,rfl,hx1,hx2,hx3⟩:=Zi
 have hgr0:w0.heap.size≤gr:=by
  rcases HB.place (i:=0) (g:=gr) rfl with h | h
  · cases h
  exact h
 have hgb0:w0.heap.size≤gb:=by
  rcases HB.place (i:=1) (g:=gb) rfl with h | h
  · cases h
  exact h
 have hszB:=HB.size
 have hgr1:=HB.lt (i:=0) rfl
 have hgb1:=HB.lt (i:=1) rfl
 obtain⟨wl,hwl⟩:∃ n,n=w5.heap.size:=⟨_,rfl⟩
 refine J1<|Rq<|Xm Y<|Xm Y<|OV (ES Lc Y)<|OT (zQ Y Y) (fun Pg=>?_) (fun Pg=>?_)
 have hil:i < l.length:=by omega
 obtain⟨nt,hx⟩:=yL hil
 obtain⟨p1,hp1,hR⟩:=h2.get hx
 obtain⟨B1,j1,B2,j2,rfl,hbv,Sm⟩:=hR
 obtain⟨a1,ha1⟩:=hr.some_ (by omega)
 subst ha1
 have htk:=qF hrep hx
 refine Xr e29<|J3 Y<|J6<|J1<|J7<|J1<|rT 11 (.p 0 (.p 1 (.p 2 (.p 3 (.p 4 (.two 5 (.p 6 (.p 7 (.p 8 (.o 9 (.o 10 (.o 11 .nil)))))) 9 (.o 5 (.p 6 (.p 7 (.p 8 (.o 10 (.o 11 .nil)))))))))))) H5 [0,1] yE (by decide) (by kernel_rfl) ?_
 rintro w6 hw6
 have H6:=Hp.drew H5;rw[← hw6]at H6
 refine TP Y<|MV (fun wz hz=>EN xT Y (vs:=Bd X1 b x1 X2 x2 X3 x3) Y (hz.Ap (i:=1) Y Y))<|Tm Y Y<|Tm Y Y<|TP Y<|MV (fun wz hz=>EI Lc xH Y Y (len:=l.length) (i:=i) (by omega) (by omega) Y)<|cT e29<|TP Y<|MV (fun wz hz=>EN xH Y (vs:=Ed nt B1 j1 B2 j2) Y ((hr.to0 (HB.all hz)).elem hp hp1))<|sD ?_ ?_
 refine TQ Y ?_
 have hszi:=H6.size
 have hnp:=Hp.fresh H6
 have hkb:∀ x,(fun x=>(Ob x∧x < w0.heap.size∨w0.heap.size≤x)∧x≠gr∧x≠gb) x→x < wl→x∉bl [((some gr,0,[]):Ent),(some gb,0,[])]∧(fun x=>(fun x=>(Ob x∧x < w0.heap.size∨w0.heap.size≤x)∧x≠gr∧x≠gb) x∧x≠gr) x:=fun x hx hl=>⟨fun hb=>by
  have:x=gr∨x=gb:=by simpa[bl]using hb
  rcases this with h | h
  · exact hx.2.1 h
  exact hx.2.2 h,hx,hx.2.1⟩
 have hkl:∀ x,Ob x→x < w0.heap.size→x∉([]:List Nat)∧(fun x=>(fun x=>(Ob x∧x < w0.heap.size∨w0.heap.size≤x)∧x≠gr∧x≠gb) x∧x≠gr) x:=fun x hx hl=>⟨by simp,⟨.inl ⟨hx,hl⟩,by omega,by omega⟩,by omega⟩
 refine OQ (EC gf48 Y) (O9 b X1 x1 X2 x2 X3 x3 nt B1 j1 B2 j2 (fun x=>(fun x=>(Ob x∧x < w0.heap.size∨w0.heap.size≤x)∧x≠gr∧x≠gb) x∧x≠gr) i _ (hx1.toS H6 fun x hx hl=>hkb x hx (by omega)) (hx2.toR H6 fun x hx hl=>hkb x hx (by omega)) (hx3.toM H6 fun x hx hl=>hkb x hx (by omega)) (hbv.to (HB.all H6) hkl) (Sm.to (HB.all H6) hkl) hgood (by omega) (hcap _ _ _ _ _ Y)) ?_
 rintro _ w7 ⟨Y1,m1,y1,Y2,m2,y2,Y3,m3,y3,fl,rfl,hyes,hno,Hd⟩
 have HG:=H6.Au Hd
 have HL:=HG.here
 have H7:=HG
 have hszw:=Hd.size
 have hreg:∀ x,up (fun x=>(fun x=>(Ob x∧x < w0.heap.size∨w0.heap.size≤x)∧x≠gr∧x≠gb) x∧x≠gr) w6.heap.size x→x∉bl [((some gr,0,[]):Ent),((some gb,0,[]):Ent)]:=fun x hx hb=>(show False from by
  rcases hx with hx | hx
  · have h1:=hx.1.2.1;have h2:=hx.1.2.2;have h3:=hx.2;have:x=gr∨x=gb:=by simpa[bl]using hb
    omega
  exact hnp x hx hb)
 have hreg2:∀ x,up (fun x=>(fun x=>(Ob x∧x < w0.heap.size∨w0.heap.size≤x)∧x≠gr∧x≠gb) x∧x≠gr) w6.heap.size x→(fun x=>(Ob x∧x < w0.heap.size∨w0.heap.size≤x)∧x≠gr∧x≠gb) x:=fun x hx=>by
  rcases hx with hx | hx
  · exact hx.1
  exact⟨.inr (by omega),by omega,by omega⟩
 cases hin:b.into nt
 obtain rfl:=hno hin
 refine OE ?_
 refine⟨fun hne=>H7.pick [0,1] (by decide),?_⟩
 refine Tm Y Y<|TP Y<|MV (fun wz hz=>xF Y Y)<|TP Y<|MV (fun wz hz=>xF Y Y)<|cT e29<|TQ Y<|OA xT HL<|fun w8 g6 HL2 _=>have H8:=HG.all HL2;OE<|⟨fun hne=>H8.pick [0,1] (by decide),?_⟩
 refine cT e29<|TQ Y<|OS xT HL2 2 (vs:=[Ac Y1 m1 y1,Ac Y2 m2 y2,Ac Y3 m3 y3]) Y Y Y Y Y (Ak 3) Y ?_
 have m2:=()
 rotate_left 1
 rename_i bn
 obtain⟨rfl,hB',hc'⟩:=hyes bn hin
 refine OE ?_
 refine⟨fun hne=>H7.pick [0,1] (by decide),?_⟩
 refine Tm Y Y<|TP Y<|MV (fun wz hz=>xF Y Y)<|TP Y<|MV (fun wz hz=>xF Y Y)<|cT e29<|TQ Y<|OA xT HL<|fun w8 g6 HL2 _=>have H8:=HG.all HL2;OE<|⟨fun hne=>H8.pick [0,1] (by decide),?_⟩
 refine cT e29<|TQ Y<|OS xT HL2 2 (vs:=[Ac Y1 m1 y1,Ac Y2 m2 y2,Ac Y3 m3 y3]) Y Y Y Y Y (Ak 3) Y ?_
 have m1:=()
 rotate_left 1
 refine TQ Y ?_
 have hszd:=H6.size
 refine OA xT H6<|fun w7 g6 H7 hg6=>OE<|⟨fun hne=>H7.pick [0,1] (by decide),?_⟩
 refine cT e29<|TQ Y ?_
 have hszi:=H7.size
 have hnp:=Hp.fresh H7
 have hkb:∀ x,(fun x=>(Ob x∧x < w0.heap.size∨w0.heap.size≤x)∧x≠gr∧x≠gb) x→x < wl→x∉bl [((some gr,0,[]):Ent),(some gb,0,[])]∧(fun x=>(fun x=>(Ob x∧x < w0.heap.size∨w0.heap.size≤x)∧x≠gr∧x≠gb) x∧x≠g6) x:=fun x hx hl=>⟨fun hb=>by
  have:x=gr∨x=gb:=by simpa[bl]using hb
  rcases this with h | h
  · exact hx.2.1 h
  exact hx.2.2 h,hx,by omega⟩
 have hkl:∀ x,Ob x→x < w0.heap.size→x∉([]:List Nat)∧(fun x=>(fun x=>(Ob x∧x < w0.heap.size∨w0.heap.size≤x)∧x≠gr∧x≠gb) x∧x≠g6) x:=fun x hx hl=>⟨by simp,⟨.inl ⟨hx,hl⟩,by omega,by omega⟩,by omega⟩
 refine OQ (EC gf48 Y) (O9 b X1 x1 X2 x2 X3 x3 nt B1 j1 B2 j2 (fun x=>(fun x=>(Ob x∧x < w0.heap.size∨w0.heap.size≤x)∧x≠gr∧x≠gb) x∧x≠g6) i _ (hx1.toS H7 fun x hx hl=>hkb x hx (by omega)) (hx2.toR H7 fun x hx hl=>hkb x hx (by omega)) (hx3.toM H7 fun x hx hl=>hkb x hx (by omega)) (hbv.to (HB.all H7) hkl) (Sm.to (HB.all H7) hkl) hgood (by omega) (hcap _ _ _ _ _ Y)) ?_
 rintro _ w8 ⟨Y1,m1,y1,Y2,m2,y2,Y3,m3,y3,fl,rfl,hyes,hno,Hd⟩
 have HG:=H7.Au Hd
 have HL:=HG.here
 have H8:=HG
 have hszw:=Hd.size
 have hreg:∀ x,up (fun x=>(fun x=>(Ob x∧x < w0.heap.size∨w0.heap.size≤x)∧x≠gr∧x≠gb) x∧x≠g6) w7.heap.size x→x∉bl [((some gr,0,[]):Ent),((some gb,0,[]):Ent),((some g6,0,[]):Ent)]:=fun x hx hb=>(show False from by
  rcases hx with hx | hx
  · have h1:=hx.1.2.1;have h2:=hx.1.2.2;have h3:=hx.2;have:x=gr∨x=gb∨x=g6:=by simpa[bl]using hb
    omega
  exact hnp x hx hb)
 have hreg2:∀ x,up (fun x=>(fun x=>(Ob x∧x < w0.heap.size∨w0.heap.size≤x)∧x≠gr∧x≠gb) x∧x≠g6) w7.heap.size x→(fun x=>(Ob x∧x < w0.heap.size∨w0.heap.size≤x)∧x≠gr∧x≠gb) x:=fun x hx=>by
  rcases hx with hx | hx
  · exact hx.1
  exact⟨.inr (by omega),by omega,by omega⟩
 cases hin:b.into nt
 obtain rfl:=hno hin
 refine OE ?_
 refine⟨fun hne=>H8.pick [0,1] (by decide),?_⟩
 refine Tm Y Y<|TP Y<|MV (fun wz hz=>xF Y Y)<|TP Y<|MV (fun wz hz=>xF Y Y)<|TQ Y<|OS xT HL 2 (vs:=[Ac Y1 m1 y1,Ac Y2 m2 y2,Ac Y3 m3 y3]) Y Y Y Y Y (Ak 3) Y ?_
 have m2:=()
 rotate_left 1
 rename_i bn
 obtain⟨rfl,hB',hc'⟩:=hyes bn hin
 refine OE ?_
 refine⟨fun hne=>H8.pick [0,1] (by decide),?_⟩
 refine Tm Y Y<|TP Y<|MV (fun wz hz=>xF Y Y)<|TP Y<|MV (fun wz hz=>xF Y Y)<|TQ Y<|OS xT HL 2 (vs:=[Ac Y1 m1 y1,Ac Y2 m2 y2,Ac Y3 m3 y3]) Y Y Y Y Y (Ak 3) Y ?_
 have m1:=()
 rotate_left 1
 obtain rfl:i=l.length:=by omega
 refine Xr e29<|J4 Y<|J8<|zU<|zS<|Rq<|OV (EN xT Y (vs:=Bd X1 b x1 X2 x2 X3 x3) Y (H5.Ap (i:=1) Y Y))<|OS xT H5 0 (vs:=Bd X1 b x1 X2 x2 X3 x3) Y Y Y Y Y (Ak 3) Y<|fun w6 H6=>Xa Y<|Xr e29<|J5<|xS Y xT (cs:=Bd X1 b x1 X2 x2 X3 x3) Y Y Y (H6.Ap (i:=0) Y Y) ?_
 rw[Bz]at hrep
 refine⟨_,_,b,Y,Qq.to (ok:=(fun x=>(Ob x∧x < w0.heap.size∨w0.heap.size≤x)∧x≠gr∧x≠gb)) ⟨X1,x1,X2,x2,X3,x3,Y,hx1,hx2,hx3⟩ H6 (fun x hx hl=>⟨fun hb=>?_,hx.1.imp (fun h=>h.1) id⟩),.inl ⟨hrep,Y,hgood⟩,hcap,(HB.all H6).Af⟩
 have:x=gr∨x=gb:=by simpa[bl]using hb
 rcases this with h | h
 exact hx.2.1 h
 exact hx.2.2 h
 any_goals
  clear m2
  intro w9 HL3
  have H9:=HG.all HL3
  refine OE ?_
  refine⟨fun hne=>H9.pick [0,1] (by decide),?_⟩
  refine cT e29<|TQ Y<|Xa Y ?_
  replace H9:=HL3
  refine OE ?_
  refine⟨fun hne=>absurd Y hne,?_⟩
  refine cT e29<|tH<|cR e29<|J1<|Rq<|Xm Y<|Xn Y<|Xr e29<|J3 Y<|Rq<|OV (EB xT ST Y Y)<|OS xT H9 0 (vs:=[Dn,Dn,Dn]) Y Y Y Y Y (Ak 3) Y<|fun w10 Df=>Xa Y<|Xr e29<|J5<|BR<|yN<|BR<|xS Y xT (cs:=[Dn,Dn,Dn]) Y Y Y (Df.Ap (i:=0) Y Y)<|⟨_,_,Bo.zero,Y,Qq.zero _ _,.inr ⟨kV (htk.trans hin),Y,Y⟩,(fun x A n k z e=>by simp only[List.cons.injEq,Value.slice.injEq]at e;omega),(HB.all (HG.all Df)).Af⟩
 any_goals
  clear m1
  intro w9 HL3
  have H9:=HG.all HL3
  refine OE ?_
  refine⟨fun hne=>H9.pick [0,1] (by decide),?_⟩
  refine cT e29<|TQ Y<|Xa Y ?_
  replace H9:=HL3
  refine OE ?_
  refine⟨fun hne=>absurd Y hne,?_⟩
  refine cT e29<|tH<|cR e29<|J1<|Rq<|Xm Y<|Xn Y<|Xr e29<|J4 Y<|J6<|J2<|OV (EN xT Y (vs:=[Ac Y1 m1 y1,Ac Y2 m2 y2,Ac Y3 m3 y3]) Y (H9.Ap (i:=2) Y Y))<|OS xT H9 1 (vs:=[Ac Y1 m1 y1,Ac Y2 m2 y2,Ac Y3 m3 y3]) Y Y Y Y Y (Ak 3) Y<|fun w10 Df=>Xr e29<|zA (zB ?_)
  refine J2<|Xm Y<|OV (zL Y Y (Ad _ (by omega)))<|Xa Y<|Xr e29<|zA (zH ?_)
  exact⟨l.length - (i+1),by omega,i+1,_,bn,[Ac Y1 m1 y1,Ac Y2 m2 y2,Ac Y3 m3 y3],Y,(Jg Y Y Y Y Y),by omega,by omega,htk.trans hin,hgood.into hin,hB'.to Df (fun x hx _=>⟨hreg x hx,hreg2 x hx⟩),(fun x A n k z e=>by simp only[List.cons.injEq,Value.slice.injEq]at e;omega),(HB.all (HG.all Df)).pick [0,1] (by decide)⟩
set_option maxHeartbeats 4000000
theorem UL (w0:World):Aj 10 #[] w0 (fun r w'=>r=.bool (decide (True))∧Hp w0 w' [] []):=by
 refine zG Tryz.func10 Tryz.ntmps10 Y<|cR e27 ?_
 have H:=Hp.refl w0
 refine Rq<|Xa Y<|Xr e27<|Rq<|OV (EB vA CD Y Y)<|OV (EB xH oA Y Y)<|zE Lc xH H (cs:=[Aa 1,Aa 1,Aa 2,Aa 1,Aa 0,Aa 0,Aa 0,Dn,Aa 0,Dn,Aa 0,.string ⟨#[]⟩,Aa 0,Aa 0,Aa 0,Aa 0]) Y (by decide) Y<|fun w1 g1 H1 hg1=>?_
 have hl:=Sl.row (R:=NtR w1 (fun _=>True)) (xs:=[awN]) (ok:=fun _=>True) H1 (i:=0) (sp:=[]) (ps:=[[Aa 1,Aa 1,Aa 2,Aa 1,Aa 0,Aa 0,Aa 0,Dn,Aa 0,Dn,Aa 0,.string ⟨#[]⟩,Aa 0,Aa 0,Aa 0,Aa 0]]) rfl (Pl.one rfl) (by decide) (wC.one ⟨none,0,none,0,rfl,Bs.none _ _,Bs.none _ _⟩) (fun _ _=>trivial)
 refine OQ (EC gf33 Y) (NJ _ 1 [awN] _ _ hl (by decide)) ?_
 rintro _ w2 ⟨cs,e,b9,rfl,hbo,hrep,Hd⟩
 obtain⟨hb9,rfl⟩:b9=awB∧e=0:=by
  rcases hrep with ⟨h1,h2,_⟩ | ⟨h1,_⟩
  · rw[Q5]at h1;cases h1;exact⟨rfl,h2⟩
  rw[Q5]at h1;cases h1
 subst hb9
 obtain⟨A1,k1,A2,k2,A3,k3,rfl,hv1,hv2,hv3⟩:=hbo
 have H2:=H1.Au Hd
 obtain⟨ps,hp,hr,ha,h2⟩:=id hv1
 obtain⟨a1,ha1⟩:=hr.some_ (by decide)
 subst ha1
 obtain⟨p1,hp1,hR⟩:=h2.get (i:=1) (b:=awS) rfl
 obtain⟨C1,q1,C2,q2,C3,q3,rfl,_,_,_⟩:=hR
 have HR:=H2.Af
 replace H2:=HR.here
 refine Ag e27<|Xm Y<|Xe Y Y<|Xe Y Y<|OA xT H2<|fun w3 g3 H3 hg3=>Ag e27<|OS xT H3 0 Y Y Y Y Y (by first|exact NL Y|simp[zJ]) Y<|fun w4 H4=>Xa Y<|Xr e27<|Rq<|Xm Y<|Ui (xR Y Y) (Y)<|Xm Y<|Ag e27<|OY Y<|Xf uO Y<|OY Y<|OV (EL oO Y (H4.cell (i:=0) Y Y))<|Ag e27<|OY Y<|OV (ES Ue Y)<|OY Y<|Ui (xR Y Y) (Y)<|Xt Y Y<|Xm Y<|Ag e27<|OY Y<|Xf uO Y<|OY Y<|OV (EL oO Y (H4.cell (i:=0) Y Y))<|Ag e27<|OY Y<|OV (EI Ue wD Y Y (len:=8) (i:=1) Y (by decide) Y)<|OY Y<|OV (yK vZ Y)<|Ag e27 ?_
 refine OY Y<|OV (aV rD Y)<|OY Y<|OV (EL ty3 Y (((hr.to0 H4).elem hp hp1) 0 _ Y))<|Ag e27<|OY Y<|Ui (xR Y Y) (Y)<|Xt Y Y<|Xa Y<|Xr e27<|J5<|Cm Y Y<|⟨bt trivial,(HR.all H4).Af⟩
set_option maxHeartbeats 32000000
theorem MS (A:Option Addr) (k:Nat) (l:List Nt) (Ob:Nat→Prop) (w0:World) (hl:Sl (NtR w0 Ob) 16 w0 Ob A l) (hn:l.length≤838000000000) (hnt:∀ n∈l,NtB n) (p am:Int) (hm1:-9223372036854775808≤am) (hm2:am≤9223372036854775807) (B:Option Addr) (keep:List Int) (c:Nat) (hkp:Rd w0 B keep.length 1 (aS keep)) (odd:Rt):Aj 5 #[Ac A l.length k,Aa p,Aa am,Ac B keep.length c,.agg (Ar odd).toArray] w0 (fun r w'=>r=.bool true∧Hp w0 w' [] []):=by
 refine zG Tryz.func5 Tryz.ntmps5 Y<|cR Dj ?_
 have H:=Hp.refl w0
 have hlo:Sl (NtR w0 (fun x=>x < w0.heap.size)) 16 w0 (fun x=>x < w0.heap.size) A l:=hl.toN (Hp.refl w0) (fun x _ hx=>⟨by simp,hx⟩)
 refine Rq<|yA Y Y H<|fun w1 go H1 _=>Xa Y<|Xr Dj<|Rq<|OQ (EC gf8 Y) (OI 4096 _ (by decide) (by decide)) ?_
 rintro _ w2 ⟨gd,gk,rfl,Hd⟩
 have H2:=(H1.call0 Hd).pick [1,2,3,0] (by decide)
 refine Xm Y<|Xe Y Y<|Xe Y Y<|Ag Dj<|Xa Y<|Xa Y<|Xr Dj<|Rq<|Xm Y ?_
 have HO:Hp w0 w2 [] (xD gd gk none 0 [] jZ++[((some go,35,Ar odd):Ent)]):=H2
 have hO:=newOk (n:=4096) (by decide) (by decide)
 refine OQ (EC gf7 Y) ((Rn.YZ gd gk none 0 [] jZ _ HO.less.here hO Y (Am _) (Wl.anew 0 0 0) 0 WK Y (Am _) (Am _) [] Y (fun n hn=>by cases hn) Bo.empty Y (Am _)).d (fun _ _ h=>h)) ?_
 rintro _ w3 ⟨v1,W1,rfl,e1,e2,f1,f2,f3,f4,f5,hlg1,hok1,Hd1⟩
 subst e1 e2
 have hv1:Ro w0 w3 [] noB v1 v1 jZ W1 Bo.empty [((some go,35,Ar odd):Ent)]:=Ro.opened HO hok1 Hd1
 have kp1:Qm jZ W1 Bo.empty [] 0 0 W1:=Qm.opened UJ rfl rfl (List.length_replicate ..) rfl (fun n hn=>by cases hn) rfl (Ak _) (Ak _) f1 f2 f3 (by rw[f4,f1]) f5 hlg1
 have lv1:=kp1.Qo
 have H3:=hv1.H.here
 refine Xm Y<|Xe Y Y<|Ag Dj<|Xe Y Y<|Xa Y<|Xa Y<|Xr Dj<|Rq<|Xm Y<|OQ (EC gf17 Y) (NK A k l (fun x=>x < w0.heap.size) _ (hlo.toN (hv1.H.all H3) k0) (by omega)) ?_
 rintro _ w4 ⟨csw,ew,wb,rfl,hbw,hrep,hcap,Hd⟩
 obtain⟨Y1,y1,Y2,y2,Y3,y3,rfl,hy1,hy2,hy3⟩:=hbw
 have hc2:wb.rights.length≤y2:=hcap _ _ _ _ _ rfl
 have hv2:=hv1.on (R':=[((some go,35,Ar odd):Ent)]) (H3.Au Hd)
 have hoY:∀ x,up (fun x=>x < w0.heap.size) w3.heap.size x→x < w4.heap.size→x∉bl (Dc v1 jZ W1++[((some go,35,Ar odd):Ent)])∧True:=fun x hx _=>⟨by
  rcases hx with hx | hx
  · exact CG hv2.H x hx
  exact CH (hv1.on (R':=[((some go,35,Ar odd):Ent)]) H3).H (Ak _) x hx,trivial⟩
 have H4:=hv2.H.here
 refine Xm Y<|Xe Y Y<|Ag Dj<|Xe Y Y<|OA xT H4<|fun w5 g7 H5 hg7=>OS xT H5 8 Y Y Y Y Y (by first|exact NL Y|simp[zJ]) Y<|fun w6 H6=>Xa Y<|Xr Dj<|J1<|Rq<|OC (EC gf10 Y) (UL _)<|fun w7 Hd=>have H7:=H6.Au Hd;Xn Y<|Xm Y<|Ag Dj<|OY Y<|Xm Y<|OY Y<|Jw (yR Y Y) (by decide)<|Xu Y Y<|Xm Y<|Ag Dj<|OY Y<|Xm Y<|OY Y<|Jw (yF U23 Y) (by simp)<|Xu Y Y<|Xr Dj<|J4 Y<|J6<|J1<|Rq<|Xm Y ?_
 refine OV (ES Lc Y)<|OT (yS Y Y) (fun ZU=>?_) (fun ZU=>?_)
 refine Xm Y<|Ag Dj<|Oz 2 Y<|Xt Y Y ?_
 have m4:=()
 rotate_left 1
 refine Xm Y<|Ag Dj<|OY Y<|Xm Y<|OY Y<|OT (yR Y Y) (fun Qk=>?_) (fun Qk=>?_)
 refine Xu Y Y ?_
 have m4:=()
 rotate_left 1
 obtain⟨hrp,_,hgw⟩:vE Bo.empty l=some wb∧ew=0∧rE wb l.length:=by
  rcases hrep with h | ⟨_,_,h⟩
  · exact h
  omega
 have Zj:BoB wb:=BoB.empty.YI hnt hrp
 have hnnw:=A5 hgw hrp
 have hl30:l.length≤30:=by omega
 refine Xu Y Y<|Xm Y<|Ag Dj<|OY Y<|Xm Y<|OY Y<|OV (EN xT Y (vs:=Bd Y1 wb y1 Y2 y2 Y3 y3) Y (H7.Ap (i:=8) Y Y))<|Ag Dj<|OY Y<|OX (EC gf18 Y) (XF A k l (fun x=>x < w0.heap.size) wb Y1 y1 Y2 y2 Y3 y3 l.length _ _ (hlo.toN (hv2.H.all H7) k0) (by omega) hnt (hy1.toS H7 hoY) (hy2.toR H7 hoY) hgw Zj (by omega) (by omega)) (fun Ut w8 Hd=>?_) (fun Ut w8 Hd=>?_)
 have H8:=H7.Au Hd
 have hsh:∀ n∈l,tO n:=fun n hn=>Ut.1 n (Oj _ hn)
 have hus:=Ut.2
 have hus1:used (W1.recs++l.map yV)≤2032:=by
  rw[lv1.recs]
  have h9:=kK (l++wb.notes) l.length
  rw[Ii rfl]at h9
  exact Ce h9 hus
 refine OY Y<|Xn Y<|Xu Y Y<|Xr Dj<|J4 Y<|J6<|J1<|Rq<|Xm Y<|Xm Y ?_
 have hv3:=hv2.on (R':=[((some go,35,Ar odd):Ent),((some g7,41,Bd Y1 wb y1 Y2 y2 Y3 y3):Ent)]) H8
 have hk3:∀ x,up (fun x=>x < w0.heap.size) _ x→x < _→x∉bl (Dc v1 jZ W1++[((some go,35,Ar odd):Ent)])∧x∉bl (Dc v1 jZ W1++[((some go,35,Ar odd):Ent),((some g7,41,Bd Y1 wb y1 Y2 y2 Y3 y3):Ent)]):=fun x hx hl=>⟨(hoY x hx hl).1,(off H8 x (hoY x hx hl).1 hl).2⟩
 have hbw3:Qq w8 (fun x=>x∉bl (Dc v1 jZ W1++[((some go,35,Ar odd):Ent),((some g7,41,Bd Y1 wb y1 Y2 y2 Y3 y3):Ent)])) (Bd Y1 wb y1 Y2 y2 Y3 y3) wb:=⟨Y1,y1,Y2,y2,Y3,y3,rfl,hy1.toS H8 hk3,hy2.toR H8 hk3,hy3.toM H8 hk3⟩
 refine OQ (EC gf11 Y) (RT v1 jZ W1 Bo.empty (fG w0 noB (Dc v1 jZ W1++[((some go,35,Ar odd):Ent),((some g7,41,Bd Y1 wb y1 Y2 y2 Y3 y3):Ent)])) _ hv3.H.less.here hv3.ok A l k (fun x=>x < w0.heap.size) (hlo.toN hv3.H k0) (fun x hx hb=>hb.elim (fun h=>h.1.elim) (CG hv3.H x hx)) hnt (fun x hx=> .inr (Ih hx)) (by omega) 0 rE.empty (Am _) 0 lv1.lg lv1.up lv1.dead (Am _) (Ce lv1.first (Am _)) (Ce lv1.turn (Am _))) ?_
 rintro _ w4 ⟨x,D2,W2,b2,rfl,hres,hpo⟩
 obtain⟨v2,g1,g2,g3,hv4,_,HX4⟩:=hv3.call hpo
 obtain⟨hx0,hb2,ha2,hw2,hr2,s2,XZ⟩:=kp1.saved (Am _) hres hnt hsh hrp hus1 rfl
 subst hx0
 subst b2
 obtain⟨⟨gd2,gk2,gw2,cw2,sp2,gv2,gr2,cr2,xs2,sr2,gp2,cp2,sq2⟩,gx2,cs2⟩:=v2
 obtain rfl:gd2=v1.m.gd:=g1
 obtain rfl:gk2=v1.m.gk:=g2
 obtain rfl:gx2=v1.gx:=g3
 have hbw4:=hbw3.to HX4 (off HX4)
 obtain⟨_,hq41,hq42,hq43⟩:=hbw4.of3
 obtain⟨ps,hp,hr,ha,h2⟩:=id hq42
 obtain⟨nf1,nf2,nf3,nf4⟩:=Rep.size (l:=l) (.inl ⟨hrp,rfl,hgw⟩) (by omega)
 have hfw:Few wb:=⟨nf1,nf2,nf3,nf4⟩
 have H9:=hv4.H.here
 refine Jw (yR Y Y) (by decide)<|Xr Dj<|J4 Y<|J6<|Rq<|Xa Y<|Xr Dj<|J1<|Rq<|Xa Y<|Xr Dj<|J7<|zV (fun nQ lQ w=>∃ (i:Nat) (y:Int) (hb:Bool),wb.rights.length - i=nQ∧xM (Hy [(1,Aa p),(2,Aa am),(3,Ac B keep.length c),(9,Ah go),(11,Ah v1.m.gd),(13,Ah v1.gx),(15,Ah g7),(17,.bool hb),(18,Aa y)] 0 186) lQ∧y=(i:Int)∧i≤wb.rights.length∧hb=decide (odd∈wb.rights.take i)∧Hp w4 w (bl (Dc (⟨⟨v1.m.gd,v1.m.gk,gw2,cw2,sp2,gv2,gr2,cr2,xs2,sr2,gp2,cp2,sq2⟩,v1.gx,cs2⟩:Vm) D2 W2++[((some go,35,Ar odd):Ent),((some g7,41,Bd Y1 wb y1 Y2 y2 Y3 y3):Ent)])) (Dc (⟨⟨v1.m.gd,v1.m.gk,gw2,cw2,sp2,gv2,gr2,cr2,xs2,sr2,gp2,cp2,sq2⟩,v1.gx,cs2⟩:Vm) D2 W2++[((some go,35,Ar odd):Ent),((some g7,41,Bd Y1 wb y1 Y2 y2 Y3 y3):Ent)])) (wb.rights.length) ?_ ?_
 exact⟨0,_,false,Y,(ft9 Y Y Y Y Y Y Y Y Y Y),Y,Am _,by simp,H9⟩
 rintro nQ lQ Uf ⟨i,y,hb,rfl,hfit,rfl,hi,hhb,Ip⟩
 obtain⟨j,rfl⟩:=hfit.open
 refine cR Dj ?_
 clear hfit
 have HB:=Ip
 replace Ip:=HB.here
 refine J1<|Rq<|Xm Y<|Xf sI Y<|OV (EL lF Y (Ip.cell (i:=8) Y Y))<|OV (ES Ht Y)<|Ag Dj<|OT (zQ Y Y) (fun hp70=>?_) (fun hp70=>?_)
 have hil:i < wb.rights.length:=by omega
 obtain⟨r,hx⟩:=yL hil
 obtain⟨p1,hp1,hR⟩:=h2.get hx
 unfold Nu at hR
 subst hR
 obtain⟨a1,ha1⟩:=hr.some_ (by omega)
 subst ha1
 refine Xr Dj<|J3 Y<|J6<|J1<|J7 ?_
 cases hb
 refine vW yE (by kernel_rfl) ?_
 rintro w10 Me
 have Df:=Hp.drew Ip;rw[← Me]at Df
 refine SV (zI Y)<|SV (zI Y)<|wX Dj<|yI Y<|SV (EF sI Y)<|yI Y<|SV (EL lF Y (Df.cell (i:=8) Y Y))<|wX Dj<|yI Y<|SV (zI Y)<|yI Y<|SV (EI Ht xA Y Y (len:=wb.rights.length) (i:=i) (by omega) (by omega) Y)<|wX Dj<|yI Y<|SV (EN xA Y (vs:=Ar r) Y ((hr.to (HB.all Df) (fun q hq hb=>ha (by omega) q hq hb)).elem hp hp1))<|yI Y<|SV (EN xA Y (vs:=Ar odd) Y (Df.Ap (i:=7) Y Y))<|wX Dj<|yI Y<|vB (mS Y Y) (fun YN=>?_) (fun YN=>?_)
 refine SV (xV Y Y)<|SV (zO Y)<|xJ<|cR Dj<|zA (zB ?_)
 refine J2<|Xm Y<|OV (zL Y Y (Ad _ (by omega)))<|Xa Y<|Xr Dj<|zA (zH ?_)
 exact⟨wb.rights.length - (i+1),by omega,i+1,_,true,Y,(ft9 Y Y Y Y Y Y Y Y Y Y),by omega,by omega,(decide_eq_true (by rw[yM hx,YN];simp)).symm,HB.all Df⟩
 refine SV (xV Y Y)<|SV (zO Y)<|xJ<|cR Dj<|zA (zB ?_)
 refine J2<|Xm Y<|OV (zL Y Y (Ad _ (by omega)))<|Xa Y<|Xr Dj<|zA (zH ?_)
 exact⟨wb.rights.length - (i+1),by omega,i+1,_,false,Y,(ft9 Y Y Y Y Y Y Y Y Y Y),by omega,by omega,(decide_eq_false (by
  rw[yM hx]
  intro h
  rcases Bq.1 h with h | h
  · exact of_decide_eq_false hhb.symm h
  exact YN (Az.1 h).symm)).symm,HB.all Df⟩
 refine vW yE (by kernel_rfl) ?_
 rintro w10 Me
 have Df:=Hp.drew Ip;rw[← Me]at Df
 refine SV (zI Y)<|SV (zI Y)<|wX Dj<|yU Y<|yU Y<|wX Dj<|yU Y<|yU Y<|wX Dj<|yU Y<|yU Y<|wX Dj<|yU Y<|SV (xG Y Y)<|SV (zO Y)<|xJ<|cR Dj<|zA (zB ?_)
 refine J2<|Xm Y<|OV (zL Y Y (Ad _ (by omega)))<|Xa Y<|Xr Dj<|zA (zH ?_)
 exact⟨wb.rights.length - (i+1),by omega,i+1,_,true,Y,(ft9 Y Y Y Y Y Y Y Y Y Y),by omega,by omega,(decide_eq_true (by rw[yM hx];exact Oj _ (of_decide_eq_true hhb.symm))).symm,HB.all Df⟩
 obtain rfl:i=wb.rights.length:=by omega
 rw[Bz]at hhb
 have hvB:=hv4.on (R':=[((some go,35,Ar odd):Ent),((some g7,41,Bd Y1 wb y1 Y2 y2 Y3 y3):Ent)]) HB
 have hbwB:=hbw4.to HB (off HB)
 refine Xr Dj<|J4 Y<|J8<|zU<|zS<|J1<|J1<|hZ (M:=fun lQ w=>∃ (v5:Vm),xM (Hy [(1,Aa p),(2,Aa am),(3,Ac B keep.length c),(9,Ah go),(11,Ah v1.m.gd),(13,Ah v1.gx),(15,Ah g7)] 0 186) lQ∧Ro w0 w [] noB v1 v5 D2 W2 wb [((some go,35,Ar odd):Ent),((some g7,41,Bd Y1 wb y1 Y2 y2 Y3 y3):Ent)]∧Qq w (fun x=>x∉bl (Dc v5 D2 W2++[((some go,35,Ar odd):Ent),((some g7,41,Bd Y1 wb y1 Y2 y2 Y3 y3):Ent)])) (Bd Y1 wb y1 Y2 y2 Y3 y3) wb) [_,_] ?_ ?_
 cases hb
 refine zR 15 [(true,0),(true,1),(true,2),(true,3),(true,4),(false,5),(false,6),(true,7),(true,8),(true,9),(true,11),(false,10),(false,12),(true,13),(true,14),(false,15)] Ip [7,8] yE (by decide) (by kernel_rfl) ?_
 rintro w10 Me
 have Df:=Hp.drew Ip;rw[← Me]at Df
 have hv5:=hvB.on (R':=[((some go,35,Ar odd):Ent),((some g7,41,Bd Y1 wb y1 Y2 y2 Y3 y3):Ent)]) Df
 have Wq:=hbwB.to Df (off Df)
 refine Zm Y Y<|MP Y<|MV (fun wz hz=>pX Y)<|Zm Y Y<|MP Y<|MY Y<|MV (fun wz hz=>zI Y)<|cZ Dj<|MP Y<|MY Y<|MV (fun wz hz=>EN xA Y (vs:=Ar odd) Y (hz.Ap (i:=0) Y Y))<|MO Y<|OY Y ?_
 have hno:odd∉wb.rights:=of_decide_eq_false hhb.symm
 have hgk0:=CH hv5.H (Ak _)
 refine zE Ht xA Df (cs:=Ar odd) Y (by decide) Y<|fun w17 gk XY hgk=>have hv6:=hvB.on (R':=[((some go,35,Ar odd):Ent),((some g7,41,Bd Y1 wb y1 Y2 y2 Y3 y3):Ent)]) XY.less;have Yj:=hbwB.to XY.less (off XY.less);OE<|⟨fun hne=>XY.pick [7,8] (by decide),?_⟩
 refine cZ Dj<|MO Y<|OY Y<|OQ (EC XC Y) (BY (⟨⟨v1.m.gd,v1.m.gk,gw2,cw2,sp2,gv2,gr2,cr2,xs2,sr2,gp2,cp2,sq2⟩,v1.gx,cs2⟩:Vm) D2 W2 wb _ _ hv6.H.less.here hv6.ok (fun x hx=> .inr (Ih hx)) _ [odd] 1 (fun x=>x=gk) (Sl.row XY (i:=9) (sp:=[]) Y (lL [odd]) (by decide) (kU [odd]) (fun b hb=>(Option.some.inj hb).symm)) (Ak _) (fun x hx hb=>hb.elim (fun h=>h.1.elim) (hgk0 x (by omega))) l.length hgw Zj (by omega) (by omega) s2 XZ.Qo.lg XZ.Qo.up XZ.Qo.dead (Ce XZ.Qo.wait (by decide)) (Ce XZ.Qo.first (by decide)) (Ce XZ.Qo.turn (by decide))) ?_
 rintro _ Oa ⟨x6,D6,W6,b6,rfl,ZP,hpo6⟩
 obtain⟨hx6,hD6,hW6,hb6⟩:x6=1∧D6=D2∧W6=W2∧b6=wb:=by
  rcases XZ.fold (by decide) ZP with ⟨a1,_,a2,a3,a4⟩ | ⟨a1,_⟩
  · exact⟨a1,a2,a3,a4⟩
  exact absurd a1 (fun a1=>hno ((pT a1).subset (List.mem_singleton_self _)))
 subst hx6
 subst D6
 subst W6
 subst b6
 obtain⟨v7,_,_,_,hv7,_,HX7⟩:=hv6.call hpo6
 have Zg:=Yj.to HX7 (off HX7)
 obtain⟨⟨gd7,gk7,gw7,cw7,sp7,gv7,gr7,cr7,xs7,sr7,gp7,cp7,sq7⟩,gx7,cs7⟩:=v7
 obtain rfl:gd7=v1.m.gd:=hv7.gd
 obtain rfl:gk7=v1.m.gk:=hv7.gk
 obtain rfl:gx7=v1.gx:=hv7.gx
 have Ei:=XY.less.all HX7
 refine OE ?_
 refine⟨fun hne=>Ei.pick [7,8] (by decide),?_⟩
 refine cZ Dj<|MP Y<|MY Y<|sE (fun wz hz=>yR Y Y) (by decide)<|MP Y<|MY Y<|MV (fun wz hz=>zI Y)<|MP Y<|MY Y<|MV (fun wz hz=>zI Y)<|MP Y<|MY Y<|MV (fun wz hz=>EN xT Y (vs:=Bd Y1 wb y1 Y2 y2 Y3 y3) Y (hz.Ap (i:=1) Y Y))<|cZ Dj<|MO Y<|OY Y<|OQ (EC TV Y) (dK (⟨⟨v1.m.gd,v1.m.gk,gw7,cw7,sp7,gv7,gr7,cr7,xs7,sr7,gp7,cp7,sq7⟩,v1.gx,cs7⟩:Vm) D2 W2 wb _ _ hv7.H.less.here hv7.ok l.length hgw (by omega) (fun x hx=> .inr (Ih hx))) ?_
 rintro _ Vu ⟨_,rfl,⟨Z1,z1,Z2,z2,Z3,z3,rfl,hz1,hz2,hz3⟩,Hd8⟩
 have Yq:=hv7.H.here.front Hd8
 have ZL:=hv7.on Yq
 have Xj:=Zg.to Yq (off Yq)
 have Ny:=Ei.front Hd8
 refine OE ?_
 refine⟨fun hne=>Ny.pick [7,8] (by decide),?_⟩
 refine cZ Dj<|MO Y<|OY Y ?_
 obtain⟨_,hq81,hq82,hq83⟩:=Xj.of3
 refine OQ (EC TW Y) (JR wb Z1 z1 Z2 z2 Z3 z3 wb Y1 y1 Y2 y2 Y3 y3 _ _ _ hz1 hz2 hz3 hq81 hq82 hq83 hfw hfw) ?_
 rintro _ YX ⟨rfl,Hd9⟩
 have Vl:=ZL.H.here.Au Hd9
 have Ry:=ZL.on Vl
 have Xi:=Xj.to Vl (off Vl)
 have Ph:=Ny.Au Hd9
 rw[decide_eq_true (rfl:wb=wb)]
 refine OE ?_
 refine⟨fun hne=>Ph.pick [7,8] (by decide),?_⟩
 refine cZ Dj<|MP Y<|MY Y<|MV (fun wz hz=>pX Y)<|MP Y<|MY Y<|MV (fun wz hz=>xV Y Y)<|MO Y<|Xt Y Y<|OE<|⟨fun hne=>absurd Y hne,?_⟩
 refine cZ Dj<|ME<|cR Dj<|J4 Y<|J6<|zA (zH ?_)
 exact⟨_,(ft7 Y Y Y Y Y Y Y Y),Ry,Xi⟩
 refine zR 15 [(true,0),(true,1),(true,2),(true,3),(true,4),(false,5),(false,6),(true,7),(true,8),(true,9),(true,11),(false,10),(false,12),(true,13),(true,14),(false,15)] Ip [7,8] yE (by decide) (by kernel_rfl) ?_
 rintro w10 Me
 have Df:=Hp.drew Ip;rw[← Me]at Df
 have hv5:=hvB.on (R':=[((some go,35,Ar odd):Ent),((some g7,41,Bd Y1 wb y1 Y2 y2 Y3 y3):Ent)]) Df
 have Wq:=hbwB.to Df (off Df)
 refine Zm Y Y<|MP Y<|MV (fun wz hz=>pX Y)<|Zm Y Y<|MP Y<|MZ Y<|cZ Dj<|MP Y<|MZ Y<|MO Y<|OZ Y<|OE<|⟨fun hne=>Df.pick [7,8] (by decide),?_⟩
 refine cZ Dj<|MO Y<|OZ Y<|OE<|⟨fun hne=>Df.pick [7,8] (by decide),?_⟩
 refine MP Y<|MZ Y<|cZ Dj<|MP Y<|MZ Y<|MP Y<|MZ Y<|cZ Dj<|MP Y<|MZ Y<|MO Y<|OZ Y<|OE<|⟨fun hne=>Df.pick [7,8] (by decide),?_⟩
 refine cZ Dj<|MO Y<|OZ Y<|OE<|⟨fun hne=>Df.pick [7,8] (by decide),?_⟩
 refine MP Y<|MZ Y<|cZ Dj<|MP Y<|MZ Y<|MO Y<|Xu Y Y<|OE<|⟨fun hne=>absurd Y hne,?_⟩
 refine cZ Dj<|ME<|cR Dj<|J4 Y<|J6<|zA (zH ?_)
 exact⟨_,(ft7 Y Y Y Y Y Y Y Y),hv5,Wq⟩
 rintro lQ w10 ⟨v5,hfit,hv5,Wq⟩
 obtain⟨j,rfl⟩:=hfit.open
 refine cR Dj ?_
 clear hfit
 obtain⟨⟨gd5,gk5,gw5,cw5,YC,gv5,gr5,cr5,xs5,sr5,gp5,cp5,sq5⟩,gx5,cs5⟩:=v5
 obtain rfl:gd5=v1.m.gd:=hv5.gd
 obtain rfl:gk5=v1.m.gk:=hv5.gk
 obtain rfl:gx5=v1.gx:=hv5.gx
 have Df:=hv5.H.here
 refine Rq<|Xf sI Y<|OV (EL lF Y (Df.cell (i:=8) Y Y))<|Xm Y ?_
 obtain⟨_,hq51,hq52,hq53⟩:=Wq.of3
 refine OQ (EC gf22 Y) (SN Y2 wb.rights y2 p _ _ hq52 (Ce hgw.few (by omega))) ?_
 rintro _ w17 ⟨X1,q,x1,rfl,hqc,Vr,Ud,Hd6⟩
 have HX6:=hv5.H.here.Au Hd6
 have hq6:=Vr.toR (ok':=fun x=>x∉bl (Dc (⟨⟨v1.m.gd,v1.m.gk,gw5,cw5,YC,gv5,gr5,cr5,xs5,sr5,gp5,cp5,sq5⟩,v1.gx,cs5⟩:Vm) D2 W2++[((some go,35,Ar odd):Ent),((some g7,41,Bd Y1 wb y1 Y2 y2 Y3 y3):Ent)])) (Hp.refl _) (fun x hx _=>⟨by simp,CH hv5.H (Ak _) x hx⟩)
 have hv6:=hv5.on HX6
 have Yj:=Wq.to HX6 (off HX6)
 have hq0:leftR wb.rights q=[]:=eG Ud (AJ hgw.rts)
 have Gi:=Ce Ud.length_le hgw.few
 have XY:=hv6.H.here
 refine Ag Dj<|Xa Y<|Xr Dj<|J1<|J1<|hZ (M:=fun lQ w=>∃ (v5:Vm),xM (Hy [(1,Aa p),(2,Aa am),(3,Ac B keep.length c),(9,Ah go),(11,Ah v1.m.gd),(13,Ah v1.gx),(15,Ah g7),(19,Ac X1 q.length x1)] 0 186) lQ∧Ro w0 w [] noB v1 v5 D2 W2 wb [((some go,35,Ar odd):Ent),((some g7,41,Bd Y1 wb y1 Y2 y2 Y3 y3):Ent)]∧Qq w (fun x=>x∉bl (Dc v5 D2 W2++[((some go,35,Ar odd):Ent),((some g7,41,Bd Y1 wb y1 Y2 y2 Y3 y3):Ent)])) (Bd Y1 wb y1 Y2 y2 Y3 y3) wb∧Sl Nu 4 w (fun x=>x∉bl (Dc v5 D2 W2++[((some go,35,Ar odd):Ent),((some g7,41,Bd Y1 wb y1 Y2 y2 Y3 y3):Ent)])) X1 q) [_,_] ?_ ?_
 refine rT 15 (.p 0 (.p 1 (.p 2 (.p 3 (.p 4 (.p 6 (.p 8 (.p 9 (.p 10 (.two 5 (.two 7 (.o 11 (.o 12 (.o 13 (.p 14 (.o 15 .nil))))) 11 (.o 7 (.o 12 (.o 13 (.p 14 (.o 15 .nil)))))) 11 (.o 5 (.o 7 (.o 12 (.o 13 (.p 14 (.o 15 .nil)))))))))))))))) XY [7,8] yE (by decide) (by kernel_rfl) ?_
 rintro Oa Vz
 have Ei:=Hp.drew XY;rw[← Vz]at Ei
 have hv7:=hv6.on (R':=[((some go,35,Ar odd):Ent),((some g7,41,Bd Y1 wb y1 Y2 y2 Y3 y3):Ent)]) Ei
 have Zg:=Yj.to Ei (off Ei)
 have hq7:=hq6.toR Ei (off Ei)
 refine Tm Y Y<|TP Y<|MV (fun wz hz=>ES Ht Y)<|TP Y<|vS (fun wz hz=>yS Y Y) (fun hp105=>?_) (fun hp105=>?_)
 obtain⟨z,q2,rfl⟩:∃ z q2,q=z::q2:=by
  cases q with
  | nil=>exact absurd hp105 (by simp)
  | cons z q2=>exact⟨z,q2,rfl⟩
 obtain⟨psq,hpq,hrq,haq0,h2q⟩:=id hq6
 rw[gA h2q]at hrq
 obtain⟨a1,ha1⟩:=hrq.some_ (by simp)
 subst ha1
 have haq:=fun p hp=>haq0 (by simp) p hp
 refine Tm Y Y<|TP Y<|MY Y<|MV (fun wz hz=>zI Y)<|cT Dj<|TP Y<|MY Y<|MV (fun wz hz=>zI Y)<|TP Y<|MY Y<|MV (fun wz hz=>zI Y)<|TP Y<|MY Y<|MV (fun wz hz=>EI Ht xA Y Y (len:=(z::q2).length) (i:=0) Y (by simp) Y)<|TP Y<|MY Y<|MV (fun wz hz=>EN xA Y (vs:=Ar z) Y ((hrq.to hz (fun p hp hb=>haq p hp hb)).elem (lL _) (i:=0) (p:=Jv z) Y))<|cT Dj<|sD ?_ ?_
 refine TQ Y<|OY Y<|zE Ht xA Ei (cs:=[]) Y (by decide) Y<|fun Vu g8 Ny _=>?_
 have hG8:Gw 4 (some g8) 0 [] []:=⟨Ak _,Ak _,(fun h=>by cases h),Pl.nil 4⟩
 refine OE ?_
 refine⟨fun hne=>Ny.pick [7,8] (by decide),?_⟩
 refine cT Dj<|sD ?_ ?_
 refine TQ Y<|OY Y<|xB Ht xA (by decide) Ny 9 (g:=some g8) (qs:=[]) hG8 Y Y (rs:=((z::q2).map Jv)) (Bg ..) Y (hrq.to Ny (fun p hp hb=>haq p hp hb)) (lL _) (dN _) (by simp only[Bg,Ae,Bj,Dq]at Gi ⊢;omega) (by simp only[Bg,Ae,Bj,Dq]at Gi ⊢;omega) (by decide)<|fun YX g2 cap2 sp2 Ph hG2=>OE<|⟨fun hne=>Ph.pick [7,8] (by decide),?_⟩
 refine cT Dj<|TQ Y<|OY Y<|zE Ht xA Ph (cs:=Ar z) Y (by decide) Y<|fun w20 gk H20 _=>have m1:=();?_
 rotate_left 1
 refine TQ Y<|OY Y<|zE Ht xA Ny (cs:=Ar z) Y (by decide) Y<|fun YX gk Ph _=>have m3:=();?_
 rotate_left 1
 refine TQ Y<|OY Y<|zE Ht xA Ei (cs:=Ar z) Y (by decide) Y<|fun Vu gk Ny _=>OE<|⟨fun hne=>Ny.pick [7,8] (by decide),?_⟩
 refine cT Dj<|TQ Y<|OY Y<|zE Ht xA Ny (cs:=[]) Y (by decide) Y<|fun YX g8 Ph _=>?_
 replace Ph:=Ph.pick [0,1,2,3,4,5,6,7,8,10,9] (by decide)
 have hG8:Gw 4 (some g8) 0 [] []:=⟨Ak _,Ak _,(fun h=>by cases h),Pl.nil 4⟩
 have m3:=()
 rotate_left 1
 refine Tm Y Y<|TP Y<|MZ Y<|cT Dj<|TP Y<|MZ Y<|TP Y<|MZ Y<|cT Dj<|TP Y<|MZ Y<|TP Y<|MZ Y<|cT Dj<|sD ?_ ?_
 refine TQ Y<|OZ Y<|OE<|⟨fun hne=>Ei.pick [7,8] (by decide),?_⟩
 refine sD ?_ ?_
 have m2:=()
 rotate_left 1
 have m2:=()
 rotate_left 1
 refine TQ Y<|OZ Y<|OE<|⟨fun hne=>Ei.pick [7,8] (by decide),?_⟩
 have m2:=()
 rotate_left 1
 rintro lQ Oa ⟨v5,hfit,hv5,Wq,hq5⟩
 obtain⟨j,rfl⟩:=hfit.open
 refine cR Dj ?_
 clear hfit
 obtain⟨⟨gd5,gk5,gw5,cw5,YC,gv5,gr5,cr5,xs5,sr5,gp5,cp5,sq5⟩,gx5,cs5⟩:=v5
 obtain rfl:gd5=v1.m.gd:=hv5.gd
 obtain rfl:gk5=v1.m.gk:=hv5.gk
 obtain rfl:gx5=v1.gx:=hv5.gx
 have Ei:=hv5.H.here
 refine Rq<|OV (EN xT Y (vs:=Bd Y1 wb y1 Y2 y2 Y3 y3) Y (Ei.Ap (i:=8) Y Y))<|OA xT Ei<|fun Vu gq Ny _=>OS xT Ny 9 Y Y Y Y Y (by first|exact NL Y|simp[zJ]) Y<|fun YX Ph=>Xr Dj<|Rq<|Xm Y<|Xf sI Y<|OW lF Ph 9 Y Y Y Y (by first|exact NL Y|simp[zJ]) Y<|fun w20 H20=>Xf tQ Y<|OW mY H20 9 Y Y Y Y (by first|exact NL Y|simp[zJ]) Y<|fun w16 Qx=>Xr Dj<|Rq<|Xm Y<|Xm Y ?_
 have hv6:=hv5.on (R':=[((some go,35,Ar odd):Ent),((some g7,41,Bd Y1 wb y1 Y2 y2 Y3 y3):Ent),((some gq,41,Fb Y1 wb y1 X1 q.length x1):Ent)]) Qx
 have Yj:=Wq.to Qx (off Qx)
 have hq6:=hq5.toR Qx (off Qx)
 refine OQ (EC gf23 Y) (UM v1.m.gd v1.m.gk gw5 cw5 YC D2 _ (hv6.H.pick [0,1,2] (by decide)).here hv6.ok.ok.d am hm1 hm2) ?_
 rintro _ w24 ⟨rfl,hpA⟩
 obtain⟨D3,hD3⟩:∃ D,D=(D2.arm am).1:=⟨_,rfl⟩
 rw[← hD3]at hpA
 obtain⟨hA1,hA2,hA3⟩:D3.kept=D2.kept∧D3.wait=D2.wait∧D3.down=false:=by rw[hD3,XT XZ.Qo.up];exact⟨rfl,rfl,XZ.Qo.up⟩
 have kp3:=XZ.arm hA1 hA2 hA3
 obtain⟨v7,_,_,hv7,HX7⟩:=hv6.log (D':=D3) (W':=W2) (Mc.disk hv6.ok.ok hv6.H.less.less hpA (by rw[hA1]))
 have Zg:=Yj.to HX7 (off HX7)
 have hq7:=hq6.toR HX7 (off HX7)
 obtain⟨⟨gd7,gk7,gw7,cw7,sp7,gv7,gr7,cr7,xs7,sr7,gp7,cp7,sq7⟩,gx7,cs7⟩:=v7
 obtain rfl:gd7=v1.m.gd:=hv7.gd
 obtain rfl:gk7=v1.m.gk:=hv7.gk
 obtain rfl:gx7=v1.gx:=hv7.gx
 have H24:=hv7.H.here
 refine Xr Dj<|Rq<|Xm Y<|OV (EB xA V9 Y Y)<|OQ (EC gf24 Y) (own_v X1 q x1 (⟨71,[],0,0⟩:Rt) _ _ hq7 (Ce Gi (by omega))) ?_
 rintro _ w28 ⟨gi,ci,si,rfl,hci,Hd8⟩
 have Yq:=hv7.H.here.Au Hd8.Af
 have HO8:=hv7.H.here.call0 Hd8
 have ZL:=hv7.on Yq
 have Xj:=Zg.to Yq (off Yq)
 have hq8:=hq7.toR Yq (off Yq)
 have how8:=Sl.row (ok:=fun x=>x∉bl (Dc (⟨⟨v1.m.gd,v1.m.gk,gw7,cw7,sp7,gv7,gr7,cr7,xs7,sr7,gp7,cp7,sq7⟩,v1.gx,cs7⟩:Vm) D3 W2++[((some go,35,Ar odd):Ent),((some g7,41,Bd Y1 wb y1 Y2 y2 Y3 y3):Ent),((some gq,41,Fb Y1 wb y1 X1 q.length x1):Ent)])) HO8 (i:=10) rfl (lL _) (by decide) (kU (q++[(⟨71,[],0,0⟩:Rt),(⟨71,[],0,0⟩:Rt)])) (fun x hx=>Fa HO8 (i:=10) (by rw[← hx];rfl) (is:=[0,1,2,3,4,5,6,7,8,9]) (by decide))
 have H28:=ZL.H.here
 refine Xa Y<|Xr Dj<|J1<|DW ?_ (fun _ _ h=>J1 h)
 refine DW ?_ (fun _ _ h=>J1 h)
 refine hZ (M:=fun lQ w=>∃ (v5:Vm) (D5:Dk) (W5:Wl) (b5:Bo) (x9:Int),xM (Hy [(3,Ac B keep.length c),(11,Ah v1.m.gd),(15,Ah g7),(20,Ah gq),(22,Aa x9)] 0 186) lQ∧Ro w0 w [] noB v1 v5 D5 W5 b5 [((some go,35,Ar odd):Ent),((some g7,41,Bd Y1 wb y1 Y2 y2 Y3 y3):Ent),((some gq,41,Fb Y1 wb y1 X1 q.length x1):Ent)]∧Qq w (fun x=>x∉bl (Dc v5 D5 W5++[((some go,35,Ar odd):Ent),((some g7,41,Bd Y1 wb y1 Y2 y2 Y3 y3):Ent),((some gq,41,Fb Y1 wb y1 X1 q.length x1):Ent)])) (Bd Y1 wb y1 Y2 y2 Y3 y3) wb∧Sl Nu 4 w (fun x=>x∉bl (Dc v5 D5 W5++[((some go,35,Ar odd):Ent),((some g7,41,Bd Y1 wb y1 Y2 y2 Y3 y3):Ent),((some gq,41,Fb Y1 wb y1 X1 q.length x1):Ent)])) X1 q∧Yz D5 (fun V=>V.first≤4097∧V.turn≤4097∧(V.recs=(wb.fold q).notes.map yV∨(x9=40∧V.recs=l.map yV)))) [_,_,_] ?_ ?_
 refine J2<|Xm Y<|Xm Y ?_
 have hqi:=how8.take (i:=q.length) (by rw[Ae];omega)
 rw[Ii rfl]at hqi
 refine OQ (EC XC Y) (BY (⟨⟨v1.m.gd,v1.m.gk,gw7,cw7,sp7,gv7,gr7,cr7,xs7,sr7,gp7,cp7,sq7⟩,v1.gx,cs7⟩:Vm) D3 W2 wb _ _ ZL.H.less.here ZL.ok (fun x hx=> .inr (Ih hx)) (hd gi) q ci _ hqi (by omega) (fun x hx hb=>hb.elim (fun h=>h.1.elim) hx) l.length hgw Zj (by omega) (by omega) s2 kp3.Qo.lg kp3.Qo.up kp3.Qo.dead (Ce kp3.Qo.wait (by decide)) (Ce kp3.Qo.first (by decide)) (Ce kp3.Qo.turn (by decide))) ?_
 rintro _ w21 ⟨x9,D9,W9,b9,rfl,hres9,hpo9⟩
 obtain⟨v9,_,_,_,Ry,_,Vl⟩:=ZL.call hpo9
 have Xi:=Xj.to Vl (off Vl)
 have hq9:=hq8.toR Vl (off Vl)
 have how9:=how8.toR Vl (off Vl)
 obtain⟨⟨gd9,gk9,gw9,cw9,sp9,gv9,gr9,cr9,xs9,sr9,gp9,cp9,sq9⟩,gx9,cs9⟩:=v9
 obtain rfl:gd9=v1.m.gd:=Ry.gd
 obtain rfl:gk9=v1.m.gk:=Ry.gk
 obtain rfl:gx9=v1.gx:=Ry.gx
 obtain⟨hx9,hfl9⟩:=kp3.trim (by decide) hres9 hq0 (by rw[hr2];exact KQ Ud hus)
 replace hfl9:Yz D9 fun V=>V.first≤4097∧V.turn≤4097∧(V.recs=(wb.fold q).notes.map yV∨(x9=40∧V.recs=l.map yV)):=hfl9.mono fun V hV=>⟨hV.1,hV.2.1,hV.2.2.imp_right fun h=>⟨h.1,by rw[h.2,XZ.bse.told,hr2,Bg,Bz];rfl⟩⟩
 have H21:=Ry.H.here
 rcases hx9 with ⟨ha9,hb9⟩ | ⟨ha9,hb9⟩
 subst x9
 subst b9
 refine Xa Y<|Xr Dj<|zR 23 [(true,0),(true,1),(true,2),(false,3),(true,4),(true,5),(true,6),(true,7),(true,8),(true,9),(true,10),(true,11),(true,12),(true,13),(true,14),(true,15),(true,16),(true,17),(true,19),(false,18),(false,20),(true,21),(true,22),(false,23)] H21 [7,8,9] yE (by decide) (by kernel_rfl) ?_
 rintro w12 ZI
 have Fj:=Hp.drew H21;rw[← ZI]at Fj
 have Vg:=Ry.on (R':=[((some go,35,Ar odd):Ent),((some g7,41,Bd Y1 wb y1 Y2 y2 Y3 y3):Ent),((some gq,41,Fb Y1 wb y1 X1 q.length x1):Ent)]) Fj
 have Xo:=Xi.to Fj (off Fj)
 have hq10:=hq9.toR Fj (off Fj)
 have Xb:=how9.toR Fj (off Fj)
 refine Zm Y Y<|Zm Y Y<|MP Y<|MV (fun wz hz=>EB xA V9 Y Y)<|MO Y ?_
 obtain⟨psk,hpk,hrk,hak,h2k⟩:=id Xb
 rw[gA h2k]at hrk
 have hqi:=Xb.take (i:=q.length) (by rw[Ae];omega)
 rw[Ii rfl]at hqi
 refine OC (EC gf25 Y) (O7 (hd gi) X1 q ci x1 (⟨71,[],0,0⟩:Rt) _ _ _ hrk hqi hq10 hci (Ce Gi (by omega)))<|fun w19 Hd11=>have Vb:=Vg.H.here.Au Hd11;have Uo:=Vg.on Vb;have Xl:=Xo.to Vb (off Vb);have hq11:=hq10.toR Vb (off Vb);have H19:=Fj.Au Hd11;OE<|⟨fun hne=>H19.pick [7,8,9] (by decide),?_⟩
 refine cZ Dj<|MP Y<|MV (fun wz hz=>pX Y)<|Zm Y Y<|MP Y<|MY Y<|MV (fun wz hz=>zI Y)<|MP Y<|MY Y<|sE (fun wz hz=>yR Y Y) (by decide)<|cZ Dj<|MP Y<|MY Y<|MV (fun wz hz=>zI Y)<|MP Y<|MZ Y<|cZ Dj<|MP Y<|MZ Y<|MP Y<|MY Y<|MV (fun wz hz=>xV Y Y)<|MP Y<|MV (fun wz hz=>xV Y Y)<|Zm Y Y<|cZ Dj<|MP Y<|MY Y<|MV (fun wz hz=>zI Y)<|MP Y<|MY Y<|qH (fun wz hz=>xR Y Y) (Y)<|MP Y<|MY Y<|MV (fun wz hz=>zI Y)<|MP Y<|MY Y<|MV (fun wz hz=>zI Y) ?_
 refine cZ Dj<|MP Y<|MY Y<|MV (fun wz hz=>EN xT Y (vs:=Fb Y1 wb y1 X1 q.length x1) Y (hz.Ap (i:=2) Y Y))<|MO Y<|OY Y<|OQ (EC TV Y) (dK (⟨⟨v1.m.gd,v1.m.gk,gw9,cw9,sp9,gv9,gr9,cr9,xs9,sr9,gp9,cp9,sq9⟩,v1.gx,cs9⟩:Vm) D9 W9 (wb.fold q) _ _ Uo.H.less.here Uo.ok l.length (hgw.fold Ud) (by omega) (fun x hx=> .inr (Ih hx))) ?_
 rintro _ w22 ⟨_,rfl,⟨Z1,z1,Z2,z2,Z3,z3,rfl,hz1,hz2,hz3⟩,Hd12⟩
 have Va:=Uo.H.here.front Hd12
 have ZM:=Uo.on Va
 have Xk:=Xl.to Va (off Va)
 have hq12:=hq11.toR Va (off Va)
 have H22:=H19.front Hd12
 refine OE ?_
 refine⟨fun hne=>H22.pick [7,8,9] (by decide),?_⟩
 refine cZ Dj<|MO Y<|OY Y ?_
 obtain⟨_,ZQ,_,_⟩:=Xk.of3
 refine OQ (EC TW Y) (JR (wb.fold q) Z1 z1 Z2 z2 Z3 z3 (wb.fold q) Y1 y1 X1 x1 none 0 _ _ _ hz1 hz2 hz3 ZQ hq12 (Sl.none _ _ _ _) ⟨nf1,Ce Ud.length_le nf2,Am _,nf4⟩ ⟨nf1,Ce Ud.length_le nf2,Am _,nf4⟩) ?_
 rintro _ w18 ⟨rfl,Hd13⟩
 have Wy:=ZM.H.here.Au Hd13
 have Yf:=ZM.on Wy
 have Zh:=Xk.to Wy (off Wy)
 have hq13:=hq12.toR Wy (off Wy)
 have Yy:=H22.Au Hd13
 rw[decide_eq_true (rfl:wb.fold q=wb.fold q)]
 refine OE ?_
 refine⟨fun hne=>Yy.pick [7,8,9] (by decide),?_⟩
 refine cZ Dj<|MP Y<|MY Y<|MV (fun wz hz=>pX Y)<|MP Y<|MY Y<|MV (fun wz hz=>xG Y Y)<|MO Y<|Xu Y Y<|OE<|⟨fun hne=>absurd Y hne,?_⟩
 refine cZ Dj<|ME<|cR Dj<|J4 Y<|J6<|zA (zH ?_)
 exact⟨_,_,_,_,_,(Oc Y Y Y Y Y Y),Yf,Zh,hq13,hfl9⟩
 subst x9
 subst b9
 refine Xa Y<|Xr Dj<|zR 23 [(true,0),(true,1),(true,2),(false,3),(true,4),(true,5),(true,6),(true,7),(true,8),(true,9),(true,10),(true,11),(true,12),(true,13),(true,14),(true,15),(true,16),(true,17),(true,19),(false,18),(false,20),(true,21),(true,22),(false,23)] H21 [7,8,9] yE (by decide) (by kernel_rfl) ?_
 rintro w12 ZI
 have Fj:=Hp.drew H21;rw[← ZI]at Fj
 have Vg:=Ry.on (R':=[((some go,35,Ar odd):Ent),((some g7,41,Bd Y1 wb y1 Y2 y2 Y3 y3):Ent),((some gq,41,Fb Y1 wb y1 X1 q.length x1):Ent)]) Fj
 have Xo:=Xi.to Fj (off Fj)
 have hq10:=hq9.toR Fj (off Fj)
 have Xb:=how9.toR Fj (off Fj)
 refine Zm Y Y<|Zm Y Y<|MP Y<|MV (fun wz hz=>EB xA V9 Y Y)<|MO Y ?_
 obtain⟨psk,hpk,hrk,hak,h2k⟩:=id Xb
 rw[gA h2k]at hrk
 have hqi:=Xb.take (i:=q.length) (by rw[Ae];omega)
 rw[Ii rfl]at hqi
 refine OC (EC gf25 Y) (O7 (hd gi) X1 q ci x1 (⟨71,[],0,0⟩:Rt) _ _ _ hrk hqi hq10 hci (Ce Gi (by omega)))<|fun w19 Hd11=>have Vb:=Vg.H.here.Au Hd11;have Uo:=Vg.on Vb;have Xl:=Xo.to Vb (off Vb);have hq11:=hq10.toR Vb (off Vb);have H19:=Fj.Au Hd11;OE<|⟨fun hne=>H19.pick [7,8,9] (by decide),?_⟩
 refine cZ Dj<|MP Y<|MV (fun wz hz=>pX Y)<|Zm Y Y<|MP Y<|MY Y<|MV (fun wz hz=>zI Y)<|MP Y<|MY Y<|qH (fun wz hz=>yR Y Y) (by decide)<|cZ Dj<|MP Y<|MY Y<|MV (fun wz hz=>zI Y)<|MP Y<|MY Y<|MV (fun wz hz=>zI Y)<|MP Y<|MY Y<|sE (fun wz hz=>yR Y Y) (by decide)<|MP Y<|MY Y<|MV (fun wz hz=>xG Y Y)<|cZ Dj<|MP Y<|MV (fun wz hz=>xV Y Y)<|Zm Y Y<|MP Y<|MY Y<|MV (fun wz hz=>zI Y)<|MP Y<|MY Y<|sE (fun wz hz=>xR Y Y) (by decide)<|cZ Dj<|MP Y<|MY Y<|MV (fun wz hz=>zI Y)<|MP Y ?_
 refine MZ Y<|cZ Dj<|MP Y<|MZ Y<|MO Y<|OZ Y<|OE<|⟨fun hne=>H19.pick [7,8,9] (by decide),?_⟩
 refine cZ Dj<|MO Y<|OZ Y<|OE<|⟨fun hne=>H19.pick [7,8,9] (by decide),?_⟩
 refine MP Y<|MZ Y<|cZ Dj<|MP Y<|MY Y<|MV (fun wz hz=>xV Y Y)<|MO Y<|Xu Y Y<|OE<|⟨fun hne=>absurd Y hne,?_⟩
 refine cZ Dj<|ME<|cR Dj<|J4 Y<|J6<|zA (zH ?_)
 exact⟨_,_,_,_,_,(Oc Y Y Y Y Y Y),Uo,Xl,hq11,hfl9⟩
 rintro lQ w21 ⟨v5,D5,W5,b5,x9,hfit,hv5,Wq,hq5,hfl5⟩
 obtain⟨j,rfl⟩:=hfit.open
 refine cR Dj ?_
 clear hfit
 obtain⟨⟨gd5,gk5,gw5,cw5,YC,gv5,gr5,cr5,xs5,sr5,gp5,cp5,sq5⟩,gx5,cs5⟩:=v5
 obtain rfl:gd5=v1.m.gd:=hv5.gd
 obtain rfl:gk5=v1.m.gk:=hv5.gk
 obtain rfl:gx5=v1.gx:=hv5.gx
 have H21:=hv5.H.here
 refine Rq<|Xm Y<|Xm Y ?_
 refine OQ (EC gf9 Y) (L0 v1.m.gd v1.m.gk gw5 cw5 YC D5 _ (hv5.H.pick [0,1,2] (by decide)).here hv5.ok.ok.d B keep c (hkp.to0 hv5.H) (fun h0 p hp hb=>by
  obtain⟨arr,T,z,h7⟩:=hkp.isc h0 (by decide) p hp
  exact CG (hv5.H.pick [0,1,2] (by decide)) _ (Dw.1 h7).1 hb) (Ce hfl5.2.1 (by decide))) ?_
 rintro _ w12 ⟨rfl,gw8,cw8,sp8,hD8,Hd8⟩
 have HP8:Hp w0 w21 [] (xD _ _ _ _ _ D5++[((some go,35,Ar odd):Ent),((some g7,41,Bd Y1 wb y1 Y2 y2 Y3 y3):Ent),((some gq,41,Fb Y1 wb y1 X1 q.length x1):Ent)]):=hv5.H.pick [0,1,2,7,8,9] (by decide)
 have Yq:=HP8.here.front Hd8
 have HD8:=HP8.front Hd8
 have Fj:=HD8.here
 have hk8:∀ x,x∉bl (Dc (⟨⟨v1.m.gd,v1.m.gk,gw5,cw5,YC,gv5,gr5,cr5,xs5,sr5,gp5,cp5,sq5⟩,v1.gx,cs5⟩:Vm) D5 W5++[((some go,35,Ar odd):Ent),((some g7,41,Bd Y1 wb y1 Y2 y2 Y3 y3):Ent),((some gq,41,Fb Y1 wb y1 X1 q.length x1):Ent)])→x < w21.heap.size→x∉bl _∧x∉bl _:=fun x hx hl=>off Yq x (fun hb=>hx (Hw (is:=[0,1,2,7,8,9]) hv5.H x hb)) hl
 have Xj:=Wq.to Yq hk8
 have hq8:=hq5.toR Yq hk8
 refine Xr Dj<|Rq<|Xm Y<|OQ (EC gf19 Y) (KZ v1.m.gd v1.m.gk gw8 cw8 sp8 (D5.crash keep) _ HD8.less.here hD8) ?_
 rintro _ w19 ⟨rfl,gw9,cw9,sp9,hD9,Hd9⟩
 have HP9:Hp w0 w12 [] (xD _ _ _ _ _ (D5.crash keep)++[((some go,35,Ar odd):Ent),((some g7,41,Bd Y1 wb y1 Y2 y2 Y3 y3):Ent),((some gq,41,Fb Y1 wb y1 X1 q.length x1):Ent)]):=HD8
 have Vl:=HP9.here.front Hd9
 have HD9:=HP9.front Hd9
 have H19:=HD9.here
 have Xi:=Xj.to Vl (off Vl)
 have hq9:=hq8.toR Vl (off Vl)
 obtain⟨V,sV,hbV,hV1,hV2,hV3⟩:=hfl5.2.2 keep
 obtain⟨hlgV,hupV,hwV,haV,hkV,hbV2⟩:=hbV.start hfl5.1
 obtain⟨L3,b3,hL1,hL2,hL3,hL4,hL5,hL6⟩:=GJ hrp hgw Zj hnt hsh hq0 hV3 (by omega)
 have hf3:Few b3:=by
  rcases hL5 with rfl | ⟨_,rfl⟩
  · exact⟨nf1,Ce Ud.length_le nf2,Am _,nf4⟩
  exact hfw
 refine Xr Dj<|Rq<|Xm Y<|OQ (EC gf7 Y) ((Rn.YZ v1.m.gd v1.m.gk gw9 cw9 sp9 (D5.crash keep).start _ HD9.less.here hD9 hupV (by rw[hwV];exact Am _) V sV hlgV hbV.told (Ce hV2 (by decide)) (Ce hV1 (by decide)) L3 hL1 hL2 b3 hL3 (by omega)).d (fun _ _ h=>h)) ?_
 rintro _ w22 ⟨v3,W3,rfl,e1,e2,f1',f2',f3',f4',f5',hlg3,Xd,Hd10⟩
 have Vg:Ro w0 w22 [] noB v3 v3 _ W3 b3 [((some go,35,Ar odd):Ent),((some g7,41,Bd Y1 wb y1 Y2 y2 Y3 y3):Ent),((some gq,41,Fb Y1 wb y1 X1 q.length x1):Ent)]:=Ro.opened HD9 Xd Hd10
 have HX10:=HD9.here.front Hd10
 have Xo:=Xi.to HX10 (off HX10)
 have hq10:=hq9.toR HX10 (off HX10)
 have H22:=Vg.H.here
 refine Xm Y<|Xe Y Y<|Ag Dj<|Xe Y Y<|Xa Y<|Xa Y<|Xr Dj<|J1<|Rq<|Xm Y<|Jw (yR Y Y) (by decide)<|Xm Y<|Ag Dj<|OY Y<|Xm Y<|OY Y<|Jw (yF U23 Y) (by simp)<|Xu Y Y<|Xr Dj<|J4 Y<|J6<|J1<|zR 14 [(true,0),(true,2),(false,1),(false,3),(true,4),(true,5),(true,6),(true,7),(true,8),(true,10),(false,9),(false,11),(true,12),(true,13),(false,14)] H22 [7,8,9] yE (by decide) (by kernel_rfl) ?_
 rintro w18 hw18
 have Yy:=Hp.drew H22;rw[← hw18]at Yy
 have Uo:=Vg.on (R':=[((some go,35,Ar odd):Ent),((some g7,41,Bd Y1 wb y1 Y2 y2 Y3 y3):Ent),((some gq,41,Fb Y1 wb y1 X1 q.length x1):Ent)]) Yy
 have Xl:=Xo.to Yy (off Yy)
 have hq11:=hq10.toR Yy (off Yy)
 refine Zm Y Y<|MP Y<|MV (fun wz hz=>EN xT Y (vs:=Fb Y1 wb y1 X1 q.length x1) Y (hz.Ap (i:=2) Y Y))<|MO Y<|OQ (EC TV Y) (dK v3 (D5.crash keep).start W3 b3 _ _ Uo.H.less.here Uo.ok l.length hL4 (by omega) (fun x hx=> .inr (Ih hx))) ?_
 rintro _ w25 ⟨_,rfl,⟨P1,p1,P2,p2,P3,p3,rfl,hp1,hp2,hp3⟩,Hd12⟩
 have Va:=Uo.H.here.front Hd12
 have ZM:=Uo.on Va
 have Xk:=Xl.to Va (off Va)
 have hq12:=hq11.toR Va (off Va)
 have H25:=Yy.front Hd12
 refine OE ?_
 refine⟨fun hne=>H25.pick [7,8,9] (by decide),?_⟩
 refine cZ Dj<|MO Y ?_
 obtain⟨_,ZQ,_,_⟩:=Xk.of3
 refine OQ (EC TW Y) (JR b3 P1 p1 P2 p2 P3 p3 (wb.fold q) Y1 y1 X1 x1 none 0 _ _ _ hp1 hp2 hp3 ZQ hq12 (Sl.none _ _ _ _) hf3 ⟨nf1,Ce Ud.length_le nf2,Am _,nf4⟩) ?_
 rintro _ w23 ⟨rfl,Hd13⟩
 have Wy:=ZM.H.here.Au Hd13
 have Yf:=ZM.on Wy
 have Zh:=Xk.to Wy (off Wy)
 have H23:=H25.Au Hd13
 by_cases hb3:b3=wb.fold q
 rw[decide_eq_true hb3]
 refine OE ?_
 refine⟨fun hne=>H23.pick [7,8,9] (by decide),?_⟩
 refine Zm Y Y<|MP Y<|MZ Y<|cZ Dj<|MP Y<|MZ Y<|MP Y<|MZ Y<|cZ Dj<|MP Y<|MZ Y<|MP Y<|MZ Y<|cZ Dj<|MO Y<|OZ Y<|OE<|⟨fun hne=>H23.pick [7,8,9] (by decide),?_⟩
 refine MO Y<|OZ Y<|OE<|⟨fun hne=>H23.pick [7,8,9] (by decide),?_⟩
 refine cZ Dj<|MP Y<|MZ Y<|MP Y<|MV (fun wz hz=>xG Y Y)<|MO Y<|Xa Y<|OE<|⟨fun hne=>absurd Y hne,?_⟩
 refine cZ Dj<|ME<|cR Dj<|J5<|Cm Y Y<|⟨Y,(Vg.H.all H23).Af⟩
 rw[decide_eq_false hb3]
 obtain⟨hx9,hb9⟩:=hL5.resolve_left hb3
 subst hx9
 refine OE ?_
 refine⟨fun hne=>H23.pick [7,8,9] (by decide),?_⟩
 refine Zm Y Y<|MP Y<|MY Y<|MV (fun wz hz=>zI Y)<|MP Y<|MY Y<|qH (fun wz hz=>xR Y Y) (Y)<|MP Y<|MY Y<|MV (fun wz hz=>zI Y)<|cZ Dj<|MP Y<|MY Y<|MV (fun wz hz=>zI Y)<|MP Y<|MY Y<|MV (fun wz hz=>EN xT Y (vs:=Bd Y1 wb y1 Y2 y2 Y3 y3) Y (hz.Ap (i:=1) Y Y))<|MO Y<|OY Y<|OQ (EC TV Y) (dK v3 (D5.crash keep).start W3 b3 _ _ Yf.H.less.here Yf.ok l.length hL4 (by omega) (fun x hx=> .inr (Ih hx))) ?_
 rintro _ w26 ⟨_,rfl,⟨Q1,q1,Q2,q2,Q3,q3,rfl,hq1,hq2,hq3⟩,Hd14⟩
 have HX14:=Yf.H.here.front Hd14
 have hv14:=Yf.on HX14
 have hbw14:=Zh.to HX14 (off HX14)
 have H26:=H23.front Hd14
 refine OE ?_
 refine⟨fun hne=>H26.pick [7,8,9] (by decide),?_⟩
 refine cZ Dj<|MO Y<|OY Y ?_
 obtain⟨_,hq141,hq142,hq143⟩:=hbw14.of3
 refine OQ (EC TW Y) (JR b3 Q1 q1 Q2 q2 Q3 q3 wb Y1 y1 Y2 y2 Y3 y3 _ _ _ hq1 hq2 hq3 hq141 hq142 hq143 hf3 hfw) ?_
 rintro _ w27 ⟨rfl,Hd15⟩
 have HX15:=hv14.H.here.Au Hd15
 have hv15:=hv14.on HX15
 have hbw15:=hbw14.to HX15 (off HX15)
 have H27:=H26.Au Hd15
 rw[decide_eq_true hb9]
 refine OE ?_
 refine⟨fun hne=>H27.pick [7,8,9] (by decide),?_⟩
 refine cZ Dj<|MP Y<|MY Y<|MV (fun wz hz=>xG Y Y)<|MP Y<|MV (fun wz hz=>xV Y Y)<|MO Y<|Xa Y<|OE<|⟨fun hne=>absurd Y hne,?_⟩
 refine cZ Dj<|ME<|cR Dj<|J5<|Cm Y Y<|⟨Y,(Vg.H.all H27).Af⟩
 have H8:=H7.Au Hd
 refine OY Y<|Xn Y<|Xu Y Y<|Xr Dj<|J3 Y<|Rq<|Xa Y<|Xr Dj<|J5<|Cm Y Y<|⟨Y,(hv2.H.all H8).Af⟩
 any_goals
  clear m4
  refine Xm Y<|Ag Dj<|Oz 4 Y<|Ag Dj<|Xt Y Y<|Xr Dj<|J3 Y<|Rq<|Xa Y<|Xr Dj<|J5<|Cm Y Y<|⟨Y,(hv2.H.all H7).Af⟩
 any_goals
  clear m3
  refine OE ?_
  refine⟨fun hne=>Ph.pick [7,8] (by decide),?_⟩
  refine cT Dj<|TQ Y<|OY Y<|xB Ht xA (by decide) Ph 9 (g:=some g8) (qs:=[]) hG8 Y Y (rs:=((z::q2).map Jv)) (Bg ..) Y (hrq.to Ph (fun p hp hb=>haq p hp hb)) (lL _) (dN _) (by simp only[Bg,Ae,Bj,Dq]at Gi ⊢;omega) (by simp only[Bg,Ae,Bj,Dq]at Gi ⊢;omega) (by decide)<|fun w20 g2 cap2 sp2 H20 hG2=>have m1:=();?_
  rotate_left 1
 any_goals
  clear m2
  refine TQ Y<|OZ Y<|OE<|⟨fun hne=>Ei.pick [7,8] (by decide),?_⟩
  refine cT Dj<|TQ Y<|OZ Y<|OE<|⟨fun hne=>Ei.pick [7,8] (by decide),?_⟩
  refine TQ Y<|OZ Y<|OE<|⟨fun hne=>Ei.pick [7,8] (by decide),?_⟩
  refine cT Dj<|TQ Y<|OZ Y<|OE<|⟨fun hne=>Ei.pick [7,8] (by decide),?_⟩
  refine TP Y<|MZ Y<|cT Dj<|TQ Y<|Xu Y Y<|OE<|⟨fun hne=>absurd Y hne,?_⟩
  refine cT Dj<|tH<|cR Dj<|J4 Y<|J6<|zA (zH ?_)
  exact⟨_,(ft8 Y Y Y Y Y Y Y Y Y),hv7,Zg,hq7⟩
 any_goals
  clear m1
  refine OE ?_
  refine⟨fun hne=>H20.pick [7,8] (by decide),?_⟩
  refine cT Dj<|TQ Y<|OY Y<|xB Ht xA (by decide) H20 9 (qs:=[]++(z::q2).map Jv) hG2 Y Y (rs:=[Ar z]) (m:=1) Y Y (H20.rd (i:=10) (o:=some _) (xs:=Ar z) (sp:=[]) Y Y (by decide)) (Pl.one Y) (fun p hp=>by rw[Az.1 hp];rfl) (by simp only[Bg,Ae,Bj,Dq]at Gi ⊢;omega) (by simp only[Bg,Ae,Bj,Dq]at Gi ⊢;omega) (by decide)<|fun w16 g9 cap9 sp9 Qx hG9=>?_
  have hm5:([]++(z::q2).map Jv)++[Ar z]=((z::q2)++[z]).map Jv:=by rw[Gp,Dx];rfl
  rw[hm5]at Qx hG9 ⊢
  obtain⟨g9,rfl⟩:=vK Qx (i:=9) rfl (by first | (simp[Jv];done) | (simp[Jv];omega))
  have hc5:=hG9.2.1
  rw[Bg]at hc5 ⊢
  refine OE ?_
  refine⟨fun hne=>Qx.pick [7,8] (by decide),?_⟩
  refine cT Dj<|TQ Y<|OY Y ?_
  have ZL:=hv6.on (R':=[((some go,35,Ar odd):Ent),((some g7,41,Bd Y1 wb y1 Y2 y2 Y3 y3):Ent)]) (Qx.pick [0,1,2,3,4,5,6,7,8] (by decide))
  have Xj:=Yj.to (Qx.pick [0,1,2,3,4,5,6,7,8] (by decide)) (off (Qx.pick [0,1,2,3,4,5,6,7,8] (by decide)))
  have hq8:=hq6.toR (Qx.pick [0,1,2,3,4,5,6,7,8] (by decide)) (off (Qx.pick [0,1,2,3,4,5,6,7,8] (by decide)))
  refine OQ (EC XC Y) (BY (⟨⟨v1.m.gd,v1.m.gk,gw5,cw5,YC,gv5,gr5,cr5,xs5,sr5,gp5,cp5,sq5⟩,v1.gx,cs5⟩:Vm) D2 W2 wb _ _ ZL.H.less.here ZL.ok (fun x hx=> .inr (Ih hx)) _ ((z::q2)++[z]) cap9 (fun x=>x=g9) (Sl.row Qx (i:=9) Y (lL _) (by decide) (kU _) (fun b hb=>(Option.some.inj hb).symm)) hc5 (fun x hx hb=>hb.elim (fun h=>h.1.elim) (by rw[hx];exact Fa Qx (i:=9) Y (is:=[0,1,2,3,4,5,6,7,8]) (by decide))) l.length hgw Zj (by omega) (by omega) s2 XZ.Qo.lg XZ.Qo.up XZ.Qo.dead (Ce XZ.Qo.wait (by decide)) (Ce XZ.Qo.first (by decide)) (Ce XZ.Qo.turn (by decide))) ?_
  rintro _ w24 ⟨x6,D6,W6,b6,rfl,ZP,hpo6⟩
  obtain⟨hx6,hD6,hW6,hb6⟩:x6=1∧D6=D2∧W6=W2∧b6=wb:=by
   rcases XZ.fold (by decide) ZP with ⟨a1,_,a2,a3,a4⟩ | ⟨a1,_⟩
   · exact⟨a1,a2,a3,a4⟩
   exact absurd a1 (fun a1=>absurd ((AJ hgw.rts).sublist (pT a1)) (by simp))
  subst hx6
  subst D6
  subst W6
  subst b6
  obtain⟨v9,_,_,_,Ry,_,Vl⟩:=ZL.call hpo6
  have Xi:=Xj.to Vl (off Vl)
  obtain⟨⟨gd9,gk9,gw9,cw9,sp9,gv9,gr9,cr9,xs9,sr9,gp9,cp9,sq9⟩,gx9,cs9⟩:=v9
  obtain rfl:gd9=v1.m.gd:=Ry.gd
  obtain rfl:gk9=v1.m.gk:=Ry.gk
  obtain rfl:gx9=v1.gx:=Ry.gx
  have hq9:=hq8.toR Vl (off Vl)
  have H24:=(Qx.pick [0,1,2,3,4,5,6,7,8] (by decide)).all Vl
  refine OE ?_
  refine⟨fun hne=>H24.pick [7,8] (by decide),?_⟩
  refine cT Dj<|TP Y<|MY Y<|sE (fun wz hz=>yR Y Y) (by decide)<|TQ Y<|Xt Y Y<|OE<|⟨fun hne=>absurd Y hne,?_⟩
  refine cT Dj<|tH<|cR Dj<|J4 Y<|J6<|zA (zH ?_)
  exact⟨_,(ft8 Y Y Y Y Y Y Y Y Y),Ry,Xi,hq9⟩
end Go.Proofs.YtjoeklkmnfaabaaGreat
