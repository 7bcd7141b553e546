/-
  Parts of the walk, one behind the other.
-/
import Derived.Test.YtjoeklkmnfaabaaGreatK4
namespace Go.Proofs.YtjoeklkmnfaabaaGreat
set_option maxRecDepth 100000
set_option maxHeartbeats 4000000
open Go Go.RowKit
set_option linter.unusedVariables false
attribute [local irreducible] yT Ops zP Cd
theorem QP (v:Vm) (D:Dk) (W:Wl) (b:Bo) (bad:Nat→Prop) (w0:World) (H0:Hp w0 w0 (bl (Aj v D W)) (Aj v D W)) (h:Px w0 v D W b bad) (A:Option Addr) (l:List Nt) (k:Nat) (Es:Nat→Prop) (hl:Sl (NtR w0 Es) 16 w0 Es A l) (Qo:∀ x,Es x→¬bad x) (hnt:∀ n∈l,NtB n) (hv:∀ x∈bl (Aj v D W),bad x) (hn:l.length≤1000) (NB:Nat) (hg:rJ b NB) (hN:NB≤800000000000) (s:Nat) (Me:Lg D.show D.kept.length W s) (hup:D.down=false) (Gx:W.dead=false) (hwt:D.wait.length≤100000000) (hfl:W.first≤2^50) (htl:W.turn≤2^50):zP Tryz.prog 11 #[.pointer (some ⟨v.gx,0,none⟩),.slice A l.length k] w0 (fun r w'=>∃ x D' W' b',r=.int .i64 x∧UN s D W b l x D' W' b'∧I8 w0 w' v bad (bl (Aj v D W)) D' W' b'):=by
 refine zE Tryz.func11 Tryz.ntmps11 Y<|cR Ef ?_
 have H:=H0
 have hv0:=Il.start h H0 hv
 obtain⟨A1,k1,A2,k2,A3,k3,hcs,hb1,hb2,hb3⟩:=id h.bo
 obtain⟨ps,hp,hr,ha,h2⟩:=id hl
 have hlen:=h2.len
 have hkl:∀ x,Es x→x < w0.heap.size→x∉bl (Aj v D W)∧(Es x∧x < w0.heap.size):=fun x hx hl=>⟨fun hb=>Qo x hx (hv x hb),hx,hl⟩
 refine Rq<|Xa Y<|Xr Ef<|J1<|Rq<|Xm Y<|Dy (yE Tryz.underlying23 Y) (by simp)<|Xr Ef<|J4 Y<|J6<|Rq ?_
 replace H:=H.nil 73
 refine Xa Y<|Xr Ef<|J1<|Rq<|Xm Y<|OV (ES Tryz.underlying22 Y)<|Xm Y<|Xr Ef<|J7<|zU (fun nQ lQ w=>∃ (i:Nat) (y:Int) (gt:Option Nat) (ct:Nat) (xs sp:List Value),l.length - i=nQ∧xN (Dj [(0,.pointer (some ⟨v.gx,0,none⟩)),(1,.slice A l.length k),(5,.slice (hd gt) i ct),(18,.slice A l.length k),(19,.int .i64 (l.length:Int)),(20,.int .i64 y)] 0 85) lQ∧y=(i:Int)∧i≤l.length∧xs.length=i∧i≤ct∧ct≤(xs++sp).length∧(gt=none→ct=0)∧(∀ n∈l.take i,rN n)∧Qh w0.heap.size w (Aj v D W++[((gt,73,xs++sp):Ent)]) xs ((l.take i).map xG)∧Il w0 w (bl (Aj v D W)) bad v v D W b [((gt,73,xs++sp):Ent)]) (l.length) ?_ ?_
 exact⟨0,_,none,0,[],[],Y,(Pg Y Y Y Y Y Y Y),Y,Nat.zero_le _,Y,Nat.le_refl _,Nat.zero_le _,fun _=>Y,(fun n hn=>by simp at hn),Qh.nil _ _ _,hv0.on H⟩
 rintro nQ lQ w1 ⟨i,y,gt,ct,xs,sp,rfl,hfit,rfl,hi,hxl,hct,hcs1,hcn,hsh,Wx,hv1⟩
 obtain⟨j,rfl⟩:=hfit.open
 refine cR Ef ?_
 clear hfit
 have H1:=hv1.H.here
 refine Rq<|OT (zQ Y Y) (fun hp21=>?_) (fun hp21=>?_)
 have hil:i < l.length:=by omega
 obtain⟨nt,hx⟩:=yM hil
 obtain⟨p1,hp1,hR⟩:=h2.get hx
 obtain⟨B1,j1,B2,j2,rfl,hbv,Ih⟩:=hR
 obtain⟨a1,ha1⟩:=hr.some_ (by omega)
 subst ha1
 refine Xr Ef<|J1<|J3 Y<|J6<|J1<|J7<|Rq<|OV (EI Tryz.underlying22 xE Y Y Y hil Y)<|OV (EN xE Y (vs:=[.int .i64 nt.kind,.int .i64 nt.group,.int .i64 nt.b.r,.int .i64 nt.b.n,.int .i64 nt.Ag.slot,.int .i64 nt.Ag.b.r,.int .i64 nt.Ag.b.n,.slice B1 nt.Ag.val.length j1,.int .i64 nt.entry.slot,.slice B2 nt.entry.val.length j2,.int .i64 nt.right.g,yC nt.right.key,.int .i64 nt.right.Ai,.int .i64 nt.right.net,.int .i64 nt.client,.int .i64 nt.seq]) Y ((hr.to (hv1.H.all H1) (fun p e hb=>Qo _ (ha (by omega) p e) (hv _ hb))).elem hp hp1))<|OA xE H1<|fun w2 g2 H2 hg2=>OS xE H2 8 Y Y Y Y Y (by first|exact NL Y|simp[zH]) Y<|fun w3 H3=>Xr Ef<|Rq<|OV (EN xE Y (vs:=[.int .i64 nt.kind,.int .i64 nt.group,.int .i64 nt.b.r,.int .i64 nt.b.n,.int .i64 nt.Ag.slot,.int .i64 nt.Ag.b.r,.int .i64 nt.Ag.b.n,.slice B1 nt.Ag.val.length j1,.int .i64 nt.entry.slot,.slice B2 nt.entry.val.length j2,.int .i64 nt.right.g,yC nt.right.key,.int .i64 nt.right.Ai,.int .i64 nt.right.net,.int .i64 nt.client,.int .i64 nt.seq]) Y (H3.Ad (i:=8) Y Y)) ?_
 have hszn:=(hv1.H.all H3).size
 have hkw:∀ x,Es x→x < w0.heap.size→x∉bl (Aj v D W)∧True:=fun x hx hl=>⟨(hkl x hx hl).1,trivial⟩
 refine OQ (EC gf34 Y) (G5 (Fq nt) _ _ (U9 (ok:=fun _=>True) ⟨B1,j1,B2,j2,Y,hbv.to (hv1.H.all H3) hkw,Ih.to (hv1.H.all H3) hkw⟩ (hnt nt (mem_of hx)))) ?_
 rintro _ w4 ⟨gn,cn,sn,rfl,hn1,hn2,hn3,hn4,Y8⟩
 have H4:=H3.call0 Y8
 change Hp _ _ _ (_++[(gn,5,u8s (xG nt)++sn)])at H4
 refine Xm Y<|Xe Y Y<|Aa Ef<|Xe Y Y<|Xa Y<|Xa Y<|Xr Ef<|J1<|Rq<|Xm Y<|OT (yS Y Y) (fun hp30=>?_) (fun hp30=>?_)
 refine Xm Y<|Aa Ef<|Oz 3 Y<|Aa Ef<|Xt Y Y<|Xr Ef<|J3 Y<|Rq<|Xa Y<|Xr Ef<|J5<|BR<|yR<|BR<|Ak Y Y<|⟨22,D,W,b,Y,.inl ⟨⟨nt,mem_of hx,fun hs=>hp30 (by show((Gn nt:Nat):Int)=0;rw[hs.1];rfl)⟩,Y,Y,Y,Y⟩,(hv1.on (H4.pick [0,1,2,3,4,5,6] (by decide))).post⟩
 refine Xm Y<|Aa Ef<|OY Y<|Xm Y<|OY Y<|OV (ES Tryz.underlying73 Y)<|Aa Ef<|OY Y<|OT (yO Y Y) (fun Le=>?_) (fun Le=>?_)
 refine Xu Y Y<|Xr Ef<|J3 Y<|Rq<|Xa Y<|Xr Ef<|J5<|BR<|yR<|BR<|Ak Y Y ?_
 exact⟨22,D,W,b,Y,.inl ⟨⟨nt,mem_of hx,fun hs=>by
  have h8:=hs.2
  have h9:16384 < ((xG nt).length:Int):=Le
  omega⟩,rfl,rfl,rfl,rfl⟩,(hv1.on (H4.pick [0,1,2,3,4,5,6] (by decide))).post⟩
 refine Xu Y Y<|Xr Ef<|J4 Y<|J6<|J2<|Xm Y<|Xm Y<|zG Tryz.underlying98 xK H4 Y (by decide) Y<|fun w5 g5 H5 hg5=>yX Tryz.underlying98 xK (by decide) H5 7 (g:=gt) (n:=i) (cap:=ct) (xs:=xs) (sp:=sp) Y Y (by rw[hxl,Nat.mul_one]) (by rw[Nat.mul_one];exact hcs1) hct hcn Y (H5.rd (i:=10) (o:=some _) (xs:=[.slice (hd gn) (xG nt).length cn]) (sp:=[]) Y Y (by decide)) Y (by omega) (by omega) (by decide)<|fun w6 gt2 ct2 sp2 H6 hcs2 hct2 hcn2=>?_
 rw[Nat.mul_one]at hcs2
 refine Aa Ef ?_
 replace H6:=H6.nil 73
 refine Xa Y<|Xr Ef<|zA (zB ?_)
 refine J2<|OV (zL Y Y (IntWalk.i64_in _ (by omega)))<|Xm Y<|Xr Ef<|zA (zI ?_)
 have htk:=yU hx
 have hfr:=lK Y8 0 rfl (by simp)
 have hHx:Hp _ _ _ (Aj v D W++[((gt2,73,(xs++[.slice (hd gn) (xG nt).length cn])++sp2):Ent)]):=H6.pick [0,1,2,3,4,5,6,7] (by decide)
 refine⟨l.length - (i+1),by omega,i+1,_,gt2,ct2,xs++[.slice (hd gn) (xG nt).length cn],sp2,Y,(Pg Y Y Y Y Y Y Y),by omega,by omega,by rw[List.length_append,hxl];rfl,hct2,hcs2,hcn2,fun n hn=>?_,?_,hv1.on hHx⟩
 rw[htk]at hn
 rcases List.mem_append.1 hn with h1 | h1
 exact hsh n h1
 rw[List.mem_singleton.1 h1]
 have h8:¬(((Gn nt:Nat):Int)≠0):=hp30
 have h9:¬(16384 < ((xG nt).length:Int)):=Le
 exact⟨by omega,by omega⟩
 rw[htk,List.map_append]
 exact(Wx.on hHx).snoc (H6.rd (i:=9) (o:=gn) (xs:=u8s (xG nt)) (sp:=sn) Y (yV _) (by decide)) (fun p hp=>⟨by have:=hfr p hp;omega,FH H6 9 [0,1,2,3,4,5,6,7] Y Y (by decide) p hp⟩)
 obtain rfl:i=l.length:=by omega
 rw[List.take_length]at hsh Wx
 refine Xr Ef<|J1<|J4 Y<|J8<|zT<|zS<|Rq<|Xm Y<|Xc Y<|Xf jY Y<|OV (EN xQ Y (vs:=[.slice A1 b.groups.length k1,.slice A2 b.rights.length k2,.slice A3 b.last.length k3]) Y (H1.Ad (i:=6) Y (by rw[gK,hcs];rfl)))<|Aa Ef<|OA xQ H1<|fun w2 gb H2 hgb=>OS xQ H2 8 Y Y Y Y Y (by first|exact NL Y|simp[zH]) Y<|fun w3 H3=>Xr Ef<|J1<|Rq<|Xm Y<|OV (ES Tryz.underlying22 Y)<|Xm Y<|Xr Ef<|J7<|zU (fun nQ lQ w=>∃ (i:Nat) (y:Int) (b2:Bo) (cs:List Value),l.length - i=nQ∧xN (Dj [(0,.pointer (some ⟨v.gx,0,none⟩)),(1,.slice A l.length k),(5,.slice (hd gt) l.length ct),(10,.pointer (some ⟨gb,0,none⟩)),(45,.slice A l.length k),(46,.int .i64 (l.length:Int)),(47,.int .i64 y)] 0 85) lQ∧y=(i:Int)∧i≤l.length∧vR b (l.take i)=some b2∧rJ b2 (NB+i)∧Hl w (fun x=>x∉bl (Aj v D W++[((gt,73,xs++sp):Ent),((some gb,41,cs):Ent)])) cs b2∧Qh w0.heap.size w (Aj v D W++[((gt,73,xs++sp):Ent),((some gb,41,cs):Ent)]) xs (l.map xG)∧Il w0 w (bl (Aj v D W)) bad v v D W b [((gt,73,xs++sp):Ent),((some gb,41,cs):Ent)]) (l.length) ?_ ?_
 have HA:=hv1.H.all H3
 have hkb:∀ x,¬bad x→x < w0.heap.size→x∉bl (Aj v D W)∧x∉bl (Aj v D W++[((gt,73,xs++sp):Ent),((some gb,41,[]):Ent)]):=fun x hx hl=>⟨fun hb=>hx (hv x hb),fun hb=>by
 rcases bl_place HA x hb with h1 | h1
 exact hx (hv x h1)
 omega⟩
 exact⟨0,_,b,_,Y,(WW Y Y Y Y Y Y Y Y),Y,Nat.zero_le _,Y,hg,⟨A1,k1,A2,k2,A3,k3,Y,hb1.toS HA hkb,hb2.toR HA hkb,hb3.toM HA hkb⟩,Wx.on H3,hv1.on H3⟩
 rintro nQ lQ w4 ⟨i,y,b2,cs,rfl,hfit,rfl,hi,Jk,Tz,Ue,ZF,hv2⟩
 obtain⟨j,rfl⟩:=hfit.open
 refine cR Ef ?_
 clear hfit
 have H4:=hv2.H.here
 obtain⟨X1,x1,X2,x2,X3,x3,rfl,hx1,hx2,hx3⟩:=Ue
 refine Rq<|OT (zQ Y Y) (fun hp48=>?_) (fun hp48=>?_)
 have hil:i < l.length:=by omega
 obtain⟨nt,hx⟩:=yM hil
 obtain⟨p1,hp1,hR⟩:=h2.get hx
 obtain⟨B1,j1,B2,j2,rfl,hbv,Ih⟩:=hR
 obtain⟨a1,ha1⟩:=hr.some_ (by omega)
 subst ha1
 refine Xr Ef<|J1<|J3 Y<|J6<|J1<|J7<|Rq<|OV (EI Tryz.underlying22 xE Y Y Y hil Y)<|OV (EN xE Y (vs:=[.int .i64 nt.kind,.int .i64 nt.group,.int .i64 nt.b.r,.int .i64 nt.b.n,.int .i64 nt.Ag.slot,.int .i64 nt.Ag.b.r,.int .i64 nt.Ag.b.n,.slice B1 nt.Ag.val.length j1,.int .i64 nt.entry.slot,.slice B2 nt.entry.val.length j2,.int .i64 nt.right.g,yC nt.right.key,.int .i64 nt.right.Ai,.int .i64 nt.right.net,.int .i64 nt.client,.int .i64 nt.seq]) Y ((hr.to (hv2.H.all H4) (fun p e hb=>Qo _ (ha (by omega) p e) (hv _ hb))).elem hp hp1))<|OA xE H4<|fun w5 g5 H5 hg5=>OS xE H5 9 Y Y Y Y Y (by first|exact NL Y|simp[zH]) Y<|fun w6 H6=>Xr Ef<|Rq<|OV (EN xE Y (vs:=[.int .i64 nt.kind,.int .i64 nt.group,.int .i64 nt.b.r,.int .i64 nt.b.n,.int .i64 nt.Ag.slot,.int .i64 nt.Ag.b.r,.int .i64 nt.Ag.b.n,.slice B1 nt.Ag.val.length j1,.int .i64 nt.entry.slot,.slice B2 nt.entry.val.length j2,.int .i64 nt.right.g,yC nt.right.key,.int .i64 nt.right.Ai,.int .i64 nt.right.net,.int .i64 nt.client,.int .i64 nt.seq]) Y (H6.Ad (i:=9) Y Y)) ?_
 have hHg:=H6
 have Ht:=hv2.H.place (i:=8) rfl
 have hszg:=H6.size
 refine OQ (EC SO Y) (BU none gb b2 X1 x1 X2 x2 X3 x3 nt B1 j1 B2 j2 (fun x=>Es x∧x < w0.heap.size) _ _ (H6.at (i:=8) Y) (fun x=>x∉bl (Aj v D W++[((gt,73,xs++sp):Ent),((some gb,41,[]):Ent)])) (fun hh=>hh (Fh (List.mem_filterMap.2 ⟨_,List.mem_cons_of_mem _ List.mem_cons_self,Y⟩))) (hx1.toS H6 fun x hx _=>⟨hx,hx⟩) (hx2.toR H6 fun x hx _=>⟨hx,hx⟩) (hx3.toM H6 fun x hx _=>⟨hx,hx⟩) (fun hh=>Ht.elim (fun h=>Qo _ hh.1 (hv _ h)) (fun h=>by have:=hh.2;omega)) (hbv.to (hv2.H.all H6) hkl) (Ih.to (hv2.H.all H6) hkl) Tz (by omega)) ?_
 rintro r w7 ⟨hyes,hno⟩
 have htk:=qB Jk hx
 cases hin:b2.into nt
 obtain⟨rfl,Hd⟩:=hno hin
 have Rh:=(hHg.Am [8] rfl Hd).pick [0,1,2,3,4,5,6] (by decide)
 refine Xn Y<|Xr Ef<|J3 Y<|Rq<|Xa Y<|Xr Ef<|J5<|BR<|yR<|BR<|Ak Y Y<|⟨21,D,W,b,Y,.inr (.inl ⟨hsh,kD (htk.trans hin),Y,Y,Y,Y⟩),(hv2.on Rh).post⟩
 obtain⟨rfl,cs',Hd,hB'⟩:=hyes _ hin
 have Rh:=(hHg.Am [8] rfl Hd).pick [0,1,2,3,4,5,6,7,10] (by decide)
 refine Xn Y<|Xr Ef<|J4 Y<|J6<|zA (zB ?_)
 refine J2<|OV (zL Y Y (IntWalk.i64_in _ (by omega)))<|Xm Y<|Xr Ef<|zA (zI ?_)
 exact⟨l.length - (i+1),by omega,i+1,_,_,cs',Y,(WW Y Y Y Y Y Y Y Y),by omega,by omega,htk.trans hin,Tz.into hin,hB'.to (Hp.refl _) (fun x hx _=>⟨by simp,hx.elim id fun h1 hb=>by have:=oE hv2.H hb;omega⟩),ZF.on Rh,hv2.on Rh⟩
 obtain rfl:i=l.length:=by omega
 rw[List.take_length]at Jk
 refine Xr Ef<|J1<|J4 Y<|J8<|zT<|zS<|J1<|Rq<|Xm Y<|OV (ES Tryz.underlying98 Y)<|Xm Y<|Xr Ef<|J7<|zU (fun nQ lQ w=>∃ (i:Nat) (y:Int) (v1:Vm) (D1:Dk) (W1:Wl) (b1:Bo),l.length - i=nQ∧xN (Dj [(0,.pointer (some ⟨v.gx,0,none⟩)),(1,.slice A l.length k),(55,.slice (hd gt) l.length ct),(56,.int .i64 (l.length:Int)),(57,.int .i64 y)] 0 85) lQ∧y=(i:Int)∧i≤l.length∧vR b (l.take i)=some b1∧rJ b1 (NB+i)∧jG s D W ((l.take i).map xG) D1 W1∧Qh w0.heap.size w (Aj v1 D1 W1++[((gt,73,xs++sp):Ent)]) xs (l.map xG)∧Il w0 w (bl (Aj v D W)) bad v v1 D1 W1 b1 [((gt,73,xs++sp):Ent)]) (l.length) ?_ ?_
 have HP3:=H4.pick [0,1,2,3,4,5,6,7] (by decide)
 exact⟨0,_,v,D,W,b,Y,(Ez Y Y Y Y Y Y),Y,Nat.zero_le _,Y,hg,jG.none Me hup Gx,ZF.on HP3,hv2.on HP3⟩
 rintro nQ lQ w5 ⟨i,y,v1,D1,W1,b1,rfl,hfit,rfl,hi,Kr,Tv,hgr,ZE,hv3⟩
 obtain⟨j,rfl⟩:=hfit.open
 refine cR Ef ?_
 clear hfit
 obtain⟨m1,gx1,cs1⟩:=v1
 obtain rfl:gx1=v.gx:=hv3.gx
 have H5:=hv3.H.here
 obtain⟨ws,hw1,hw2,_⟩:=id hgr.wait
 have Ru:D1.wait.length≤1000000000:=by
  rw[List.length_map,List.length_take]at hw2
  rw[hw1,List.length_append];omega
 refine Rq<|OT (zQ Y Y) (fun hp58=>?_) (fun hp58=>?_)
 have hil:i < l.length:=by omega
 obtain⟨nt,hx⟩:=yM hil
 obtain⟨p1,hp1,hR⟩:=h2.get hx
 obtain⟨B1,j1,B2,j2,rfl,hbv,Ih⟩:=hR
 obtain⟨a1,ha1⟩:=hr.some_ (by omega)
 subst ha1
 obtain⟨B,c,hxi,hrd,hap⟩:=ZE.get (i:=i) (t:=xG nt) (by rw[List.getElem?_map,hx];rfl)
 obtain⟨gt1,hgt1⟩:=vK H5 (i:=7) rfl (by rw[List.length_append];omega)
 subst hgt1
 refine Xr Ef<|J1<|J3 Y<|J6<|J1<|J7<|Rq<|Xm Y<|OV (EI Tryz.underlying98 xK Y Y Y hil (Nat.mul_one _)) ?_
 rw[fW]
 refine OV (EL xK Y (H5.cell (i:=7) (o:=i) Y (by rw[List.getElem?_append_left (lt_of_get hxi)];exact hxi))) ?_
 refine Xa Y<|Aa Ef<|Xa Y<|Xr Ef<|J1<|Rq<|Xm Y<|Xc Y<|Xf jZ Y<|OV (EL uC Y (H5.cell (i:=6) Y Y))<|Aa Ef<|Xm Y<|OQ (EC gf35 Y) (bL m1 D1 W1 _ hv3.H.less.less.here hv3.ok.ok B (xG nt) c hrd (fun h0 p hp hb=>(hap h0 p hp).2 (pU hb)) (by have:=kI nt;omega) Ru) ?_
 rintro _ w6 ⟨x,D2,W2,rfl,hres,hwp⟩
 obtain⟨v2,hcs2,hgx2,hv5,Qu⟩:=hv3.log hwp
 obtain⟨m2,YE,cs2⟩:=v2
 obtain rfl:YE=v.gx:=hgx2
 have htx5:=ZE.on Qu
 have H6:=hv5.H.here
 rcases hgr.app hres (hsh nt (mem_of hx)).2 with ⟨hx0,hfit,Xd⟩ | ⟨hx0,hfull,hD2,hW2⟩ | ⟨hx0,harm,hdn,hkp,_,ws2,hws,_,Xo⟩
 refine Xa Y<|Xr Ef<|Rq<|Xm Y<|Dy (yS Y Y) (by omega)<|Xr Ef<|J4 Y<|J6<|zR 7 [(true,0),(true,1),(true,2),(true,3),(true,4),(true,5),(true,6),(false,7)] H6 [0,1,2,3,4,5,6,7] yG (by decide) (by kernel_rfl) ?_
 rintro w7 hw7
 have H7:=Hp.drew H6;rw[← hw7]at H7
 refine Zm Y Y<|Zc Y Y<|Zf Y jY Y<|Zm Y Y<|cZ Ef<|Zm Y Y<|MP Y<|MV (fun wz hz=>EI Tryz.underlying22 xE Y Y Y hil Y)<|MP Y<|MV (fun wz hz=>EN xE Y (vs:=[.int .i64 nt.kind,.int .i64 nt.group,.int .i64 nt.b.r,.int .i64 nt.b.n,.int .i64 nt.Ag.slot,.int .i64 nt.Ag.b.r,.int .i64 nt.Ag.b.n,.slice B1 nt.Ag.val.length j1,.int .i64 nt.entry.slot,.slice B2 nt.entry.val.length j2,.int .i64 nt.right.g,yC nt.right.key,.int .i64 nt.right.Ai,.int .i64 nt.right.net,.int .i64 nt.client,.int .i64 nt.seq]) Y ((hr.to (hv5.H.all hz) (fun p e hb=>Qo _ (ha (by omega) p e) (hv _ hb))).elem hp hp1))<|MO Y ?_
 obtain⟨b3,hin⟩:∃ b3,b1.into nt=some b3:=by
  obtain⟨c,hc⟩:=eA (i+1) Jk
  exact⟨c,(qB Kr hx).symm.trans hc⟩
 obtain⟨X1,x1,X2,x2,X3,x3,hcs3,hx1,hx2,hx3⟩:=hv5.ok.bo
 obtain rfl:cs2=[.slice X1 b1.groups.length x1,.slice X2 b1.rights.length x2,.slice X3 b1.last.length x3]:=hcs3
 have hv6:=hv5.on H7
 have htx6:=htx5.on H7
 have hgx6:v.gx∈bl (Aj v D W)∨w0.heap.size≤v.gx:=hv5.H.place (i:=6) rfl
 have hin6:v.gx∈bl (Aj (⟨m2,v.gx,[.slice X1 b1.groups.length x1,.slice X2 b1.rights.length x2,.slice X3 b1.last.length x3]⟩:Vm) D2 W2++[((some gt1,73,xs++sp):Ent)]):=Dt (Fh (List.mem_filterMap.2 ⟨_,List.mem_cons_self,rfl⟩))
 refine OQ (EC SO Y) (BU (some (.pointer (some ⟨m2.gv,0,none⟩))) v.gx b1 X1 x1 X2 x2 X3 x3 nt B1 j1 B2 j2 (fun x=>Es x∧x < w0.heap.size) _ _ (H7.at (i:=6) Y) _ (fun hh=>hh (.inr hin6)) (hx1.toS H7 fun x hx _=>⟨fun hb=>hx (.inr hb),hx⟩) (hx2.toR H7 fun x hx _=>⟨fun hb=>hx (.inr hb),hx⟩) (hx3.toM H7 fun x hx _=>⟨fun hb=>hx (.inr hb),hx⟩) (fun hh=>hgx6.elim (fun h=>Qo _ hh.1 (hv _ h)) (fun h=>by have:=hh.2;omega)) (hbv.to (hv5.H.all H7) hkl) (Ih.to (hv5.H.all H7) hkl) Tv (by omega)) ?_
 rintro r w8 ⟨hyes,_⟩
 obtain⟨rfl,cs',Hd,hB'⟩:=hyes _ hin
 obtain⟨hv7,Zz⟩:=hv6.book Hd hB'
 have htx7:=htx6.on Zz
 have H8:=hv7.H.here
 refine OE ?_
 refine⟨fun hne=>absurd Y hne,?_⟩
 refine cZ Ef<|ME<|cR Ef<|zA (zB ?_)
 refine J2<|OV (zL Y Y (IntWalk.i64_in _ (by omega)))<|Xm Y<|Xr Ef<|zA (zI ?_)
 exact⟨l.length - (i+1),by omega,i+1,_,_,D2,W2,b3,Y,(Ez Y Y Y Y Y Y),by omega,by omega,(qB Kr hx).trans hin,Tv.into hin,by rw[yU hx,List.map_append];exact Xd,htx7.on H8,hv7.on H8⟩
 refine Xa Y<|Xr Ef<|Rq<|Xm Y<|Ij (yS Y Y) (by omega)<|Xr Ef<|J3 Y<|Rq<|Xm Y<|Xa Y<|Xr Ef<|J5<|BR<|yR<|BR<|Ak Y Y<|⟨x,D2,W2,b1,Y,.inr (.inr ⟨hsh,_,Jk,.inl ⟨i,nt,D1,W1,hx,hgr,Kr,.inl ⟨hx0,hfull,hD2,hW2⟩⟩⟩),(hv5.on H6).post⟩
 refine Xa Y<|Xr Ef<|Rq<|Xm Y<|Ij (yS Y Y) (by omega)<|Xr Ef<|J3 Y<|Rq<|Xm Y<|Xa Y<|Xr Ef<|J5<|BR<|yR<|BR<|Ak Y Y<|⟨x,D2,W2,b1,Y,.inr (.inr ⟨hsh,_,Jk,.inl ⟨i,nt,D1,W1,hx,hgr,Kr,.inr ⟨hx0,harm,hdn,hkp,ws2,hws,Xo⟩⟩⟩),(hv5.on H6).post⟩
 obtain rfl:i=l.length:=by omega
 rw[List.take_length]at hgr Kr
 refine Xr Ef<|J1<|J4 Y<|J8<|zT<|zS<|Rq<|Xm Y<|Xc Y<|Xf jZ Y<|OV (EL uC Y (H5.cell (i:=6) Y Y))<|Aa Ef<|OQ (EC gf36 Y) (L0 m1 D1 W1 _ hv3.H.less.less.here hv3.ok.ok Ru (by rw[hgr.first];exact hfl) (by rw[hgr.turn];exact htl)) ?_
 rintro _ w6 ⟨x,D2,W2,rfl,hres,hwp⟩
 obtain⟨v2,_,_,hv5,_⟩:=hv3.log hwp
 have H6:=hv5.H.here
 refine Xa Y<|Xr Ef<|J5<|Ak Y Y<|⟨x,D2,W2,b1,Y,.inr (.inr ⟨hsh,_,Jk,.inr ⟨D1,W1,hgr,Option.some.inj (Kr.symm.trans Jk),hres⟩⟩),(hv5.on H6).post⟩
end Go.Proofs.YtjoeklkmnfaabaaGreat
namespace Go.Proofs.YtjoeklkmnfaabaaGreat
set_option maxRecDepth 100000
set_option maxHeartbeats 4000000
open Go Go.RowKit
set_option linter.unusedVariables false
attribute [local irreducible] yT Ops zP Cd
theorem UY (A:Option Addr) (l:List Rt) (k:Nat) (Es:Nat→Prop) (B:Option Addr) (q:List Rt) (c:Nat) (Yn:Nat→Prop) (w0:World) (hl:Sl Fb 4 w0 Es A l) (hq:Sl Fb 4 w0 Yn B q) (hc:q.length≤c) (hn:l.length≤1000000000000):zP Tryz.prog 37 #[.slice A l.length k,.slice B q.length c] w0 (fun r w'=>r=.bool (decide (leftR l q=[]))∧Hp w0 w' [] []):=by
 refine zE Tryz.func37 Tryz.ntmps37 Y<|cR e29 ?_
 have H:=Hp.refl w0
 obtain⟨ps,hp,hr,ha,h2⟩:=id hl
 have hlen:=h2.len
 refine Rq<|Xa Y<|Xr e29<|J1<|Rq<|Xm Y<|OV (ES Tryz.underlying38 Y)<|Xm Y<|Xr e29<|J7<|zU (fun nQ lQ w=>∃ (i:Nat) (y:Int) (B1:Option Addr) (rs:List Rt) (c1:Nat),l.length - i=nQ∧xN (Dj [(1,.slice B1 rs.length c1),(7,.slice A l.length k),(8,.int .i64 (l.length:Int)),(9,.int .i64 y)] 0 29) lQ∧y=(i:Int)∧i≤l.length∧rs=leftR (l.take i) q∧rs.length≤c1∧Sl Fb 4 w0 (fun _=>True) B1 rs∧Hp w0 w [] []) (l.length) ?_ ?_
 exact⟨0,_,B,q,c,Y,(Dv Y Y Y Y Y),Y,Nat.zero_le _,Y,hc,hq.to (by decide) (Hp.refl _) kT (fun _ _ h=>h),Hp.refl _⟩
 rintro nQ lQ w1 ⟨i,y,B1,rs,c1,rfl,hfit,rfl,hi,hrs,hc1,hq1,H1⟩
 obtain⟨j,rfl⟩:=hfit.open
 refine cR e29 ?_
 clear hfit
 refine Rq<|OT (zQ Y Y) (fun hp10=>?_) (fun hp10=>?_)
 have hil:i < l.length:=by omega
 obtain⟨r,hx⟩:=yM hil
 obtain⟨p1,hp1,hR⟩:=h2.get hx
 unfold Fb at hR
 subst hR
 obtain⟨a1,ha1⟩:=hr.some_ (by omega)
 subst ha1
 refine Xr e29<|J1<|J3 Y<|J6<|J1<|J7<|Rq<|OV (EI Tryz.underlying38 xR Y Y Y hil Y)<|OV (EN xR Y (vs:=[.int .i64 r.g,yC r.key,.int .i64 r.Ai,.int .i64 r.net]) Y ((hr.to0 H1).elem hp hp1))<|OA xR H1<|fun w2 g2 H2 hg2=>OS xR H2 0 Y Y Y Y Y (by first|exact NL Y|simp[zH]) Y<|fun w3 H3=>Xr e29<|J1<|uT yG (by kernel_rfl) ?_
 rintro w4 hw4
 have H4:=Hp.drew H3;rw[← hw4]at H4
 refine SV (zK Y)<|SV (ES Tryz.underlying38 Y)<|vQ (yO Y Y) (fun Gj=>?_) (fun Gj=>?_)
 obtain⟨z,rs,rfl⟩:∃ z rs2,rs=z::rs2:=by
  cases rs with
  | nil=>exact absurd Gj (by simp)
  | cons z r2=>exact⟨z,r2,rfl⟩
 obtain⟨qs,hqp,hqr,hqa,hq2⟩:=id hq1
 obtain⟨p2,hp2,hR2⟩:=hq2.get (i:=0) (b:=z) rfl
 unfold Fb at hR2
 subst hR2
 obtain⟨a2,ha2⟩:=hqr.some_ (by simp)
 subst ha2
 refine SV (zK Y)<|vJ e29<|yQ Y<|SV (zK Y)<|yQ Y<|SV (EI Tryz.underlying38 xR Y Y (len:=(z::rs).length) (i:=0) Y (by simp) Y)<|vJ e29<|yQ Y<|SV (EN xR Y (vs:=[.int .i64 z.g,yC z.key,.int .i64 z.Ai,.int .i64 z.net]) Y ((hqr.to0 H4).elem hqp hp2))<|yQ Y<|SV (EN xR Y (vs:=[.int .i64 r.g,yC r.key,.int .i64 r.Ai,.int .i64 r.net]) Y (H4.Ad (i:=0) Y Y))<|vJ e29<|yQ Y<|SV (F6 (r:=z) (q:=r) Y Y)<|SV (xS Y Y)<|xU<|cR e29<|wU Y (fun Xz=>?_) (fun Xz=>?_)
 have hzr:z=r:=by simpa using Xz
 refine J2<|Xm Y<|OV (vA Tryz.underlying38 xR Y Y ⟨by decide,by omega⟩)<|Xa Y<|Xr e29<|zA (zB ?_)
 refine J2<|OV (zL Y Y (IntWalk.i64_in _ (by omega)))<|Xm Y<|Xr e29<|zA (zI ?_)
 have htk:=yU hx
 have hls:=nX (l.take i) r q
 rw[← htk,← hrs]at hls
 exact⟨l.length - (i+1),by omega,i+1,_,_,rs,_,Y,(Dv Y Y Y Y Y),by omega,by omega,by rw[hls];exact(if_pos hzr).symm,by have:=hc1;simp only[List.length_cons]at this;show _≤c1 - 1;omega,hq1.tail hc1,H4.Ac⟩
 have hzr:¬z=r:=by simpa using Xz
 refine J6<|zA (zB ?_)
 refine J2<|OV (zL Y Y (IntWalk.i64_in _ (by omega)))<|Xm Y<|Xr e29<|zA (zI ?_)
 have htk:=yU hx
 have hls:=nX (l.take i) r q
 rw[← htk,← hrs]at hls
 exact⟨l.length - (i+1),by omega,i+1,_,_,z::rs,_,Y,(Dv Y Y Y Y Y),by omega,by omega,by rw[hls];exact(if_neg hzr).symm,hc1,hq1,H4.Ac⟩
 refine SV (zK Y)<|vJ e29<|yY Y<|yY Y<|vJ e29<|yY Y<|yY Y<|vJ e29<|yY Y<|SV (wT Y Y)<|xU<|cR e29<|J4 Y<|J6<|zA (zB ?_)
 refine J2<|OV (zL Y Y (IntWalk.i64_in _ (by omega)))<|Xm Y<|Xr e29<|zA (zI ?_)
 have htk:=yU hx
 have hls:=nX (l.take i) r q
 rw[← htk,← hrs]at hls
 exact⟨l.length - (i+1),by omega,i+1,_,_,rs,_,Y,(Dv Y Y Y Y Y),by omega,by omega,by rw[hls,List.eq_nil_of_length_eq_zero (show rs.length=0 by omega)],hc1,hq1,H4.Ac⟩
 obtain rfl:i=l.length:=by omega
 refine Xr e29<|J1<|J4 Y<|J8<|zT<|zS<|Rq<|Xm Y<|OV (ES Tryz.underlying38 Y)<|OT (xP Y Y) (fun XU=>?_) (fun XU=>?_)
 refine Xa Y<|Xr e29<|J5<|Ak Y Y ?_
 rw[List.take_length]at hrs
 subst hrs
 exact⟨by rw[decide_eq_true (List.eq_nil_of_length_eq_zero (by omega))],H1.Ac⟩
 refine Xa Y<|Xr e29<|J5<|Ak Y Y ?_
 rw[List.take_length]at hrs
 subst hrs
 exact⟨by rw[decide_eq_false (fun e=>by rw[e]at XU;exact XU Y)],H1.Ac⟩
end Go.Proofs.YtjoeklkmnfaabaaGreat
namespace Go.Proofs.YtjoeklkmnfaabaaGreat
set_option maxRecDepth 100000
set_option maxHeartbeats 32000000
open Go Go.RowKit
set_option linter.unusedVariables false
attribute [local irreducible] yT Ops zP Cd
theorem R4 (b:Bo) (A1:Option Addr) (k1:Nat) (A2:Option Addr) (k2:Nat) (A3:Option Addr) (k3:Nat) (N:Nat) (ok:Nat→Prop) (w0:World) (hb1:Sl (Gz w0 ok) 6 w0 ok A1 b.groups) (hb2:Sl Fb 4 w0 ok A2 b.rights) (hb3:Sl Fp 7 w0 ok A3 b.last) (hg:rJ b N) (hN:N≤900000000000) (hnn:b.notes.length≤1200000000000):zP Tryz.prog 40 #[.agg [.slice A1 b.groups.length k1,.slice A2 b.rights.length k2,.slice A3 b.last.length k3].toArray] w0 (fun r w'=>∃ A k,r=.slice A b.notes.length k∧Sl (NtR w' (fun x=>w0.heap.size≤x)) 16 w' (fun x=>w0.heap.size≤x) A b.notes∧Hp w0 w' [] []):=by
 refine zE Tryz.func40 Tryz.ntmps40 Y<|cR Du ?_
 have H:=Hp.refl w0
 refine Rq<|yA Y Y H<|fun w1 gb H1 _=>Xa Y<|Xr Du<|Rq<|Xa Y<|Xr Du<|Rq<|OV (EN xQ Y (vs:=[.slice A1 b.groups.length k1,.slice A2 b.rights.length k2,.slice A3 b.last.length k3]) Y (H1.Ad (i:=0) Y Y)) ?_
 obtain⟨n1,hn1⟩:∃ n,n=w1.heap.size:=⟨_,rfl⟩
 have hgb:=H1.lt (i:=0) rfl
 have Xk:=H1.new (i:=0) rfl
 have hsz0:=H1.size
 refine OQ (EC gf46 Y) (EJ b A1 k1 A2 k2 A3 k3 N ok _ (hb1.toS H1 k0) (hb2.toR H1 k0) (hb3.toM H1 k0) hg hN) ?_
 rintro _ w2 ⟨_,rfl,⟨B1,j1,B2,j2,B3,j3,rfl,hc1,hc2,hc3⟩,Hd⟩
 have HC:=H1.Af Hd
 obtain⟨n2,hn2⟩:∃ n,n=w2.heap.size:=⟨_,rfl⟩
 have H2:=HC.here
 refine OS xQ H2 0 (vs:=[.slice B1 b.groups.length j1,.slice B2 b.rights.length j2,.slice B3 b.last.length j3]) Y Y Y Y Y (Nat.le_refl 3) Y<|fun w3 H3=>Xr Du<|J1<|Rq ?_
 have hz8:=hg.eight
 have HSz:=H3.size
 have HS:=HC.all H3
 have hk9:∀ (T:TypeId) (cs:List Value) (x:Nat),n1≤x→x∉bl [((some gb,T,cs):Ent)]:=fun T cs x hx hb=>by
  have:gb=x:=by simpa using WA hb
  omega
 have hd1:=hc1.toS (ok':=(fun x=>n1≤x∧x < n2)) H3 fun x hx hl=>⟨hk9 _ _ x (by omega),by omega,by omega⟩
 have hd2:=hc2.toR (ok':=(fun x=>n1≤x∧x < n2)) H3 fun x hx hl=>⟨hk9 _ _ x (by omega),by omega,by omega⟩
 obtain⟨ps,hp,hr,ha,h2⟩:=id hd1
 obtain⟨pr,hpr,hrr,har,h2r⟩:=id hd2
 obtain⟨a1,rfl⟩:=hr.some_ (by omega)
 replace H3:=HS.here
 have hsS:=HS.size
 have hsS2:n2≤w3.heap.size:=by rw[hn2];exact HSz
 have Je:∀ x,(fun x=>n1≤x∧x < n2) x→x < w3.heap.size→x∉bl [((some gb,41,[.slice (some a1) b.groups.length j1,.slice B2 b.rights.length j2,.slice B3 b.last.length j3]):Ent)]∧(fun x=>n1≤x∧x < n2) x:=fun x hx _=>⟨hk9 _ _ x hx.1,hx⟩
 refine Xf vO Y<|OV (EL qH Y (H3.cell (i:=0) Y Y))<|OV (ES Tryz.underlying37 Y)<|Xm Y<|Xr Du<|J7<|zU (fun nQ lQ w=>∃ (i:Nat) (y:Int) (g:Option Nat) (cap:Nat) (qs:List (List Value)) (sp:List Value),b.groups.length - i=nQ∧xN (Dj [(1,.pointer (some ⟨gb,0,none⟩)),(3,.slice (hd g) qs.length cap),(15,.slice (some a1) b.groups.length j1),(16,.int .i64 (b.groups.length:Int)),(17,.int .i64 y)] 0 89) lQ∧y=(i:Int)∧i≤b.groups.length∧Gw 16 g cap qs sp∧wC (NtR w3 (fun x=>n1≤x∧x < n2)) qs (gN (b.groups.take i))∧Hp w3 w (bl [((some gb,41,[.slice (some a1) b.groups.length j1,.slice B2 b.rights.length j2,.slice B3 b.last.length j3]):Ent)]) [((some gb,41,[.slice (some a1) b.groups.length j1,.slice B2 b.rights.length j2,.slice B3 b.last.length j3]):Ent),(g,81,qs.flatten++sp)]) (b.groups.length) ?_ ?_
 exact⟨0,_,none,0,[],[],Y,(Ez Y Y Y Y Y Y),Y,Nat.zero_le _,Gw.nil 16,trivial,H3.nil 81⟩
 rintro nQ lQ w4 ⟨i,y,g,cap,qs,sp,rfl,hfit,rfl,hi,hG,hA,H4⟩
 obtain⟨j,rfl⟩:=hfit.open
 refine cR Du ?_
 clear hfit
 refine Rq<|OT (zQ Y Y) (fun hp18=>?_) (fun hp18=>?_)
 have hil:i < b.groups.length:=by omega
 obtain⟨s,hx⟩:=yM hil
 obtain⟨p1,hp1,hR⟩:=h2.get hx
 obtain⟨D1,e1,D2,e2,D3,e3,rfl,hv,hm,he⟩:=hR
 obtain⟨R,hRr⟩:=UI hx
 have hnl:b.notes.length=(gN (b.groups.take i)).length+(tS i s).length+s.entries.length+(sF i s).length+s.Ae.length+R.length+b.rights.length:=by
  unfold Bo.notes
  rw[hRr]
  unfold Ko
  simp only[List.length_append,List.length_map]
  omega
 obtain⟨vs,hpv,Ju,hav,h2v⟩:=id hv
 obtain⟨en,hpe,hre,hae,h2e⟩:=id he
 have Cb:=hA.len
 try simp only[List.length_append,List.length_map,List.length_take]at Cb
 refine Xr Du<|J1<|J3 Y<|J6<|J1<|J7<|Rq<|Xm Y<|OV (EI Tryz.underlying37 xW Y Y Y hil Y)<|OV (EN xW Y (vs:=[.int .i64 s.p.r,.int .i64 s.p.n,.slice D1 s.Ae.length e1,.int .i64 s.index,.slice D2 s.image.length e2,.slice D3 s.entries.length e3]) Y (((hr.move (by decide) ha H4 Je).1).elem hp hp1))<|OA xW H4<|fun w5 g5 H5 _=>Aa Du<|Xa Y<|OS xW H5 2 (vs:=[.int .i64 s.p.r,.int .i64 s.p.n,.slice D1 s.Ae.length e1,.int .i64 s.index,.slice D2 s.image.length e2,.slice D3 s.entries.length e3]) Y Y Y Y Y (Nat.le_refl 6) Y<|fun w6 H6=>Xr Du<|J1<|Rq<|Xf wR Y<|OV (EL ty3 Y (H6.cell (i:=2) Y Y))<|OT (yS Y Y) (fun hp24=>?_) (fun hp24=>?_)
 have him:tS i s=[Yp i s]:=if_pos hp24
 have hil1:(tS i s).length=1:=by rw[him];rfl
 refine Xr Du<|J3 Y<|J2<|Xm Y<|Xm Y<|Xf wR Y<|OV (EL ty3 Y (H6.cell (i:=2) Y Y))<|Aa Du<|Xf uU Y<|OV (EL xK Y (H6.cell (i:=2) Y Y))<|OV (EB wD RW Y Y)<|OV (EB xE pS Y (cs:=[.int .i64 4,.int .i64 (i:Int),.int .i64 0,.int .i64 0,.int .i64 0,.int .i64 0,.int .i64 0,.slice none 0 0,.int .i64 s.index,.slice D2 s.image.length e2,.int .i64 0,yC [],.int .i64 0,.int .i64 0,.int .i64 0,.int .i64 0]) (by kernel_rfl))<|Aa Du<|zG Tryz.underlying22 xE H6 (cs:=[.int .i64 4,.int .i64 (i:Int),.int .i64 0,.int .i64 0,.int .i64 0,.int .i64 0,.int .i64 0,.slice none 0 0,.int .i64 s.index,.slice D2 s.image.length e2,.int .i64 0,yC [],.int .i64 0,.int .i64 0,.int .i64 0,.int .i64 0]) Y (by decide) (by kernel_rfl)<|fun w7 gk H7 _=>xD Tryz.underlying22 xE (by decide) H7 1 hG Y Y (rs:=[[.int .i64 4,.int .i64 (i:Int),.int .i64 0,.int .i64 0,.int .i64 0,.int .i64 0,.int .i64 0,.slice none 0 0,.int .i64 s.index,.slice D2 s.image.length e2,.int .i64 0,yC [],.int .i64 0,.int .i64 0,.int .i64 0,.int .i64 0]]) (m:=1) Y Y (H7.rd (i:=3) (o:=some _) (xs:=[.int .i64 4,.int .i64 (i:Int),.int .i64 0,.int .i64 0,.int .i64 0,.int .i64 0,.int .i64 0,.slice none 0 0,.int .i64 s.index,.slice D2 s.image.length e2,.int .i64 0,yC [],.int .i64 0,.int .i64 0,.int .i64 0,.int .i64 0]) (sp:=[]) Y Y (by decide)) (Pl.one Y) (fun p hp=>by rw[List.mem_singleton.1 hp];rfl) (by omega) (by omega) (by decide)<|fun w8 g cap sp H8 hG=>?_
 obtain⟨qs,Hq⟩:∃ q,q=qs++[[.int .i64 4,.int .i64 (i:Int),.int .i64 0,.int .i64 0,.int .i64 0,.int .i64 0,.int .i64 0,.slice none 0 0,.int .i64 s.index,.slice D2 s.image.length e2,.int .i64 0,yC [],.int .i64 0,.int .i64 0,.int .i64 0,.int .i64 0]]:=⟨_,rfl⟩
 rw[← Hq]at hG H8 ⊢
 replace hA:wC (NtR w3 (fun x=>n1≤x∧x < n2)) qs (gN (b.groups.take i)++tS i s):=by
  rw[Hq,him]
  exact hA.app (wC.one ⟨none,0,D2,e2,Y,Bs.none _ _,hm⟩)
 clear Hq
 refine Xa Y<|Xr Du<|J1<|Rq<|Xf xZ Y<|OV (EL uZ Y (H8.cell (i:=2) Y Y))<|OV (ES Tryz.underlying95 Y)<|Xm Y<|Xr Du<|J7<|zU (fun nQ lQ w=>∃ (q:Nat) (z:Int) (g:Option Nat) (cap:Nat) (qs:List (List Value)) (sp:List Value),s.entries.length - q=nQ∧xN (Dj [(1,.pointer (some ⟨gb,0,none⟩)),(3,.slice (hd g) qs.length cap),(4,.int .i64 (i:Int)),(5,.pointer (some ⟨g5,0,none⟩)),(15,.slice (some a1) b.groups.length j1),(16,.int .i64 (b.groups.length:Int)),(17,.int .i64 (i:Int)),(36,.slice D3 s.entries.length e3),(37,.int .i64 (s.entries.length:Int)),(38,.int .i64 z)] 0 89) lQ∧z=(q:Int)∧q≤s.entries.length∧Gw 16 g cap qs sp∧wC (NtR w3 (fun x=>n1≤x∧x < n2)) qs (gN (b.groups.take i)++tS i s++(s.entries.take q).map (Ji i))∧Hp w3 w (bl [((some gb,41,[.slice (some a1) b.groups.length j1,.slice B2 b.rights.length j2,.slice B3 b.last.length j3]):Ent)]) [((some gb,41,[.slice (some a1) b.groups.length j1,.slice B2 b.rights.length j2,.slice B3 b.last.length j3]):Ent),(g,81,qs.flatten++sp),(some g5,97,[.int .i64 s.p.r,.int .i64 s.p.n,.slice D1 s.Ae.length e1,.int .i64 s.index,.slice D2 s.image.length e2,.slice D3 s.entries.length e3])]) (s.entries.length) ?_ ?_
 exact⟨0,_,g,cap,qs,sp,Y,(bS Y Y Y Y Y Y Y Y Y Y Y),Y,Nat.zero_le _,hG,by simpa using hA,H8.pick [0,1,2] (by decide)⟩
 rintro nQ lQ w9 ⟨q,z,g,cap,qs,sp,rfl,hfit,rfl,hqi,hG,hA,H9⟩
 obtain⟨j,rfl⟩:=hfit.open
 refine cR Du ?_
 clear hfit
 refine Rq<|OT (zQ Y Y) (fun Hr=>?_) (fun Hr=>?_)
 have Fz:q < s.entries.length:=by omega
 obtain⟨v,hxv⟩:=yM Fz
 obtain⟨pv,hpv1,hRv⟩:=h2e.get hxv
 obtain⟨G1,f1,rfl,hbv⟩:=hRv
 obtain⟨a3,Jr⟩:=hre.some_ (by omega)
 subst Jr
 have Cb:=hA.len
 try simp only[List.length_append,List.length_map,List.length_take]at Cb
 refine Xr Du<|J1<|J3 Y<|J6<|J1<|J7<|Rq<|OV (EI Tryz.underlying95 wD Y Y Y Fz Y)<|OV (EN wD Y (vs:=[.int .i64 v.slot,.slice G1 v.val.length f1]) Y (((hre.move (by decide) hae H9 Je).1).elem hpe hpv1))<|OA wD H9<|fun w10 g7 Ar _=>OS wD Ar 3 (vs:=[.int .i64 v.slot,.slice G1 v.val.length f1]) Y Y Y Y Y (Nat.le_refl 2) Y<|fun Gm Bd=>Xr Du<|J2<|Xm Y<|Xm Y<|OV (EN wD Y (vs:=[.int .i64 v.slot,.slice G1 v.val.length f1]) Y (Bd.Ad (i:=3) Y Y))<|OV (EB xE pS Y (cs:=[.int .i64 3,.int .i64 (i:Int),.int .i64 0,.int .i64 0,.int .i64 0,.int .i64 0,.int .i64 0,.slice none 0 0,.int .i64 v.slot,.slice G1 v.val.length f1,.int .i64 0,yC [],.int .i64 0,.int .i64 0,.int .i64 0,.int .i64 0]) (by kernel_rfl))<|Aa Du<|zG Tryz.underlying22 xE Bd (cs:=[.int .i64 3,.int .i64 (i:Int),.int .i64 0,.int .i64 0,.int .i64 0,.int .i64 0,.int .i64 0,.slice none 0 0,.int .i64 v.slot,.slice G1 v.val.length f1,.int .i64 0,yC [],.int .i64 0,.int .i64 0,.int .i64 0,.int .i64 0]) Y (by decide) (by kernel_rfl)<|fun w12 gk Bc _=>xD Tryz.underlying22 xE (by decide) Bc 1 hG Y Y (rs:=[[.int .i64 3,.int .i64 (i:Int),.int .i64 0,.int .i64 0,.int .i64 0,.int .i64 0,.int .i64 0,.slice none 0 0,.int .i64 v.slot,.slice G1 v.val.length f1,.int .i64 0,yC [],.int .i64 0,.int .i64 0,.int .i64 0,.int .i64 0]]) (m:=1) Y Y (Bc.rd (i:=4) (o:=some _) (xs:=[.int .i64 3,.int .i64 (i:Int),.int .i64 0,.int .i64 0,.int .i64 0,.int .i64 0,.int .i64 0,.slice none 0 0,.int .i64 v.slot,.slice G1 v.val.length f1,.int .i64 0,yC [],.int .i64 0,.int .i64 0,.int .i64 0,.int .i64 0]) (sp:=[]) Y Y (by decide)) (Pl.one Y) (fun p hp=>by rw[List.mem_singleton.1 hp];rfl) (by omega) (by omega) (by decide)<|fun Io g cap sp Ce hG=>Xa Y<|Xr Du<|zA (zB ?_)
 refine J2<|OV (zL Y Y (IntWalk.i64_in _ (by omega)))<|Xm Y<|Xr Du<|zA (zI ?_)
 exact⟨s.entries.length - (q+1),by omega,q+1,_,g,cap,_,sp,Y,(bS Y Y Y Y Y Y Y Y Y Y Y),by omega,by omega,hG,by rw[yU hxv,List.map_append,← List.append_assoc];exact hA.app (wC.one ⟨none,0,_,_,Y,Bs.none _ _,hbv⟩),Ce.pick [0,1,2] (by decide)⟩
 obtain rfl:q=s.entries.length:=by omega
 rw[List.take_length]at hA
 refine Xr Du<|J1<|J4 Y<|J8<|zT<|zS<|J1<|Rq<|Xf vW Y<|OV (EN wX Y (vs:=[.int .i64 s.p.r,.int .i64 s.p.n]) Y (H9.Ad (i:=2) Y Y))<|OV (EB wX BG Y Y)<|OT (sB Y Y) (fun Ey=>?_) (fun Ey=>?_)
 have hpm:sF i s=[WG i s.p]:=if_pos Ey
 have X9:(sF i s).length=1:=by rw[hpm];rfl
 have Cb:=hA.len
 try simp only[List.length_append,List.length_map,List.length_take]at Cb
 refine Xr Du<|J3 Y<|J2<|Xm Y<|Xm Y<|Xf vW Y<|OV (EN wX Y (vs:=[.int .i64 s.p.r,.int .i64 s.p.n]) Y (H9.Ad (i:=2) Y Y))<|Aa Du<|OV (EB xE pS Y (cs:=[.int .i64 1,.int .i64 (i:Int),.int .i64 s.p.r,.int .i64 s.p.n,.int .i64 0,.int .i64 0,.int .i64 0,.slice none 0 0,.int .i64 0,.slice none 0 0,.int .i64 0,yC [],.int .i64 0,.int .i64 0,.int .i64 0,.int .i64 0]) (by kernel_rfl))<|zG Tryz.underlying22 xE H9 (cs:=[.int .i64 1,.int .i64 (i:Int),.int .i64 s.p.r,.int .i64 s.p.n,.int .i64 0,.int .i64 0,.int .i64 0,.slice none 0 0,.int .i64 0,.slice none 0 0,.int .i64 0,yC [],.int .i64 0,.int .i64 0,.int .i64 0,.int .i64 0]) Y (by decide) (by kernel_rfl)<|fun w10 gk Ar _=>xD Tryz.underlying22 xE (by decide) Ar 1 hG Y Y (rs:=[[.int .i64 1,.int .i64 (i:Int),.int .i64 s.p.r,.int .i64 s.p.n,.int .i64 0,.int .i64 0,.int .i64 0,.slice none 0 0,.int .i64 0,.slice none 0 0,.int .i64 0,yC [],.int .i64 0,.int .i64 0,.int .i64 0,.int .i64 0]]) (m:=1) Y Y (Ar.rd (i:=3) (o:=some _) (xs:=[.int .i64 1,.int .i64 (i:Int),.int .i64 s.p.r,.int .i64 s.p.n,.int .i64 0,.int .i64 0,.int .i64 0,.slice none 0 0,.int .i64 0,.slice none 0 0,.int .i64 0,yC [],.int .i64 0,.int .i64 0,.int .i64 0,.int .i64 0]) (sp:=[]) Y Y (by decide)) (Pl.one Y) (fun p hp=>by rw[List.mem_singleton.1 hp];rfl) (by omega) (by omega) (by decide)<|fun Gm g cap sp Bd hG=>?_
 obtain⟨qs,Hq⟩:∃ q,q=qs++[[.int .i64 1,.int .i64 (i:Int),.int .i64 s.p.r,.int .i64 s.p.n,.int .i64 0,.int .i64 0,.int .i64 0,.slice none 0 0,.int .i64 0,.slice none 0 0,.int .i64 0,yC [],.int .i64 0,.int .i64 0,.int .i64 0,.int .i64 0]]:=⟨_,rfl⟩
 rw[← Hq]at hG Bd ⊢
 replace hA:wC (NtR w3 (fun x=>n1≤x∧x < n2)) qs (gN (b.groups.take i)++tS i s++s.entries.map (Ji i)++sF i s):=by
  rw[Hq,hpm]
  exact hA.app (wC.one ⟨none,0,none,0,Y,Bs.none _ _,Bs.none _ _⟩)
 clear Hq
 refine Xa Y<|Xr Du<|Rq<|Xf xV Y<|OV (EL uP Y (Bd.cell (i:=2) Y Y))<|OV (ES Tryz.underlying94 Y)<|Xm Y<|Xr Du<|J7<|zU (fun nQ lQ w=>∃ (q:Nat) (z:Int) (g:Option Nat) (cap:Nat) (qs:List (List Value)) (sp:List Value),s.Ae.length - q=nQ∧xN (Dj [(1,.pointer (some ⟨gb,0,none⟩)),(3,.slice (hd g) qs.length cap),(4,.int .i64 (i:Int)),(5,.pointer (some ⟨g5,0,none⟩)),(15,.slice (some a1) b.groups.length j1),(16,.int .i64 (b.groups.length:Int)),(17,.int .i64 (i:Int)),(61,.slice D1 s.Ae.length e1),(62,.int .i64 (s.Ae.length:Int)),(63,.int .i64 z)] 0 89) lQ∧z=(q:Int)∧q≤s.Ae.length∧Gw 16 g cap qs sp∧wC (NtR w3 (fun x=>n1≤x∧x < n2)) qs (gN (b.groups.take i)++tS i s++s.entries.map (Ji i)++sF i s++(s.Ae.take q).map (Uw i))∧Hp w3 w (bl [((some gb,41,[.slice (some a1) b.groups.length j1,.slice B2 b.rights.length j2,.slice B3 b.last.length j3]):Ent)]) [((some gb,41,[.slice (some a1) b.groups.length j1,.slice B2 b.rights.length j2,.slice B3 b.last.length j3]):Ent),(g,81,qs.flatten++sp),(some g5,97,[.int .i64 s.p.r,.int .i64 s.p.n,.slice D1 s.Ae.length e1,.int .i64 s.index,.slice D2 s.image.length e2,.slice D3 s.entries.length e3])]) (s.Ae.length) ?_ ?_
 exact⟨0,_,g,cap,qs,sp,Y,(bS Y Y Y Y Y Y Y Y Y Y Y),Y,Nat.zero_le _,hG,by simpa using hA,Bd.pick [0,1,2] (by decide)⟩
 rintro nQ lQ w12 ⟨q,z,g,cap,qs,sp,rfl,hfit,rfl,hqi,hG,hA,Bc⟩
 obtain⟨j,rfl⟩:=hfit.open
 refine cR Du ?_
 clear hfit
 refine Rq<|OT (zQ Y Y) (fun Lc=>?_) (fun Lc=>?_)
 have Fz:q < s.Ae.length:=by omega
 obtain⟨v,hxv⟩:=yM Fz
 obtain⟨pv,hpv1,hRv⟩:=h2v.get hxv
 obtain⟨G1,f1,rfl,hbv⟩:=hRv
 obtain⟨a3,Jr⟩:=Ju.some_ (by omega)
 subst Jr
 have Cb:=hA.len
 try simp only[List.length_append,List.length_map,List.length_take]at Cb
 refine Xr Du<|J1<|J3 Y<|J6<|J1<|J7<|Rq<|OV (EI Tryz.underlying94 yZ Y Y Y Fz Y)<|OV (EN yZ Y (vs:=[.int .i64 v.slot,.int .i64 v.b.r,.int .i64 v.b.n,.slice G1 v.val.length f1]) Y (((Ju.move (by decide) hav Bc Je).1).elem hpv hpv1))<|OA yZ Bc<|fun Io g7 Ce _=>OS yZ Ce 3 (vs:=[.int .i64 v.slot,.int .i64 v.b.r,.int .i64 v.b.n,.slice G1 v.val.length f1]) Y Y Y Y Y (Nat.le_refl 4) Y<|fun Md Ei=>Xr Du<|J2<|Xm Y<|Xm Y<|OV (EN yZ Y (vs:=[.int .i64 v.slot,.int .i64 v.b.r,.int .i64 v.b.n,.slice G1 v.val.length f1]) Y (Ei.Ad (i:=3) Y Y))<|OV (EB xE pS Y (cs:=[.int .i64 2,.int .i64 (i:Int),.int .i64 0,.int .i64 0,.int .i64 v.slot,.int .i64 v.b.r,.int .i64 v.b.n,.slice G1 v.val.length f1,.int .i64 0,.slice none 0 0,.int .i64 0,yC [],.int .i64 0,.int .i64 0,.int .i64 0,.int .i64 0]) (by kernel_rfl))<|Aa Du<|zG Tryz.underlying22 xE Ei (cs:=[.int .i64 2,.int .i64 (i:Int),.int .i64 0,.int .i64 0,.int .i64 v.slot,.int .i64 v.b.r,.int .i64 v.b.n,.slice G1 v.val.length f1,.int .i64 0,.slice none 0 0,.int .i64 0,yC [],.int .i64 0,.int .i64 0,.int .i64 0,.int .i64 0]) Y (by decide) (by kernel_rfl)<|fun Mc gk Fa _=>xD Tryz.underlying22 xE (by decide) Fa 1 hG Y Y (rs:=[[.int .i64 2,.int .i64 (i:Int),.int .i64 0,.int .i64 0,.int .i64 v.slot,.int .i64 v.b.r,.int .i64 v.b.n,.slice G1 v.val.length f1,.int .i64 0,.slice none 0 0,.int .i64 0,yC [],.int .i64 0,.int .i64 0,.int .i64 0,.int .i64 0]]) (m:=1) Y Y (Fa.rd (i:=4) (o:=some _) (xs:=[.int .i64 2,.int .i64 (i:Int),.int .i64 0,.int .i64 0,.int .i64 v.slot,.int .i64 v.b.r,.int .i64 v.b.n,.slice G1 v.val.length f1,.int .i64 0,.slice none 0 0,.int .i64 0,yC [],.int .i64 0,.int .i64 0,.int .i64 0,.int .i64 0]) (sp:=[]) Y Y (by decide)) (Pl.one Y) (fun p hp=>by rw[List.mem_singleton.1 hp];rfl) (by omega) (by omega) (by decide)<|fun w16 g cap sp Jf hG=>Xa Y<|Xr Du<|zA (zB ?_)
 refine J2<|OV (zL Y Y (IntWalk.i64_in _ (by omega)))<|Xm Y<|Xr Du<|zA (zI ?_)
 exact⟨s.Ae.length - (q+1),by omega,q+1,_,g,cap,_,sp,Y,(bS Y Y Y Y Y Y Y Y Y Y Y),by omega,by omega,hG,by rw[yU hxv,List.map_append,← List.append_assoc];exact hA.app (wC.one ⟨_,_,none,0,Y,hbv,Bs.none _ _⟩),Jf.pick [0,1,2] (by decide)⟩
 obtain rfl:q=s.Ae.length:=by omega
 rw[List.take_length]at hA
 refine Xr Du<|J1<|J4 Y<|J8<|zT<|zS<|zA (zB ?_)
 refine J2<|OV (zL Y Y (IntWalk.i64_in _ (by omega)))<|Xm Y<|Xr Du<|zA (zI ?_)
 have hti:(b.groups.take i).length=i:=by rw[List.length_take];omega
 exact⟨b.groups.length - (i+1),by omega,i+1,_,g,cap,qs,sp,Y,(Ez Y Y Y Y Y Y),by omega,by omega,hG,by rw[yU hx,pY,hti];unfold Ko;simpa only[List.append_assoc]using hA,Bc.pick [0,1] (by decide)⟩
 have hpm:sF i s=[]:=if_neg Ey
 replace hA:wC (NtR w3 (fun x=>n1≤x∧x < n2)) qs (gN (b.groups.take i)++tS i s++s.entries.map (Ji i)++sF i s):=by rw[hpm,List.append_nil];exact hA
 refine Xr Du<|J4 Y<|J6 ?_
 have m1:=()
 rotate_left 1
 have him:tS i s=[]:=if_neg hp24
 replace hA:wC (NtR w3 (fun x=>n1≤x∧x < n2)) qs (gN (b.groups.take i)++tS i s):=by rw[him,List.append_nil];exact hA
 refine Xr Du<|J4 Y<|J6<|J1<|Rq<|Xf xZ Y<|OV (EL uZ Y (H6.cell (i:=2) Y Y))<|OV (ES Tryz.underlying95 Y)<|Xm Y<|Xr Du<|J7<|zU (fun nQ lQ w=>∃ (q:Nat) (z:Int) (g:Option Nat) (cap:Nat) (qs:List (List Value)) (sp:List Value),s.entries.length - q=nQ∧xN (Dj [(1,.pointer (some ⟨gb,0,none⟩)),(3,.slice (hd g) qs.length cap),(4,.int .i64 (i:Int)),(5,.pointer (some ⟨g5,0,none⟩)),(15,.slice (some a1) b.groups.length j1),(16,.int .i64 (b.groups.length:Int)),(17,.int .i64 (i:Int)),(36,.slice D3 s.entries.length e3),(37,.int .i64 (s.entries.length:Int)),(38,.int .i64 z)] 0 89) lQ∧z=(q:Int)∧q≤s.entries.length∧Gw 16 g cap qs sp∧wC (NtR w3 (fun x=>n1≤x∧x < n2)) qs (gN (b.groups.take i)++tS i s++(s.entries.take q).map (Ji i))∧Hp w3 w (bl [((some gb,41,[.slice (some a1) b.groups.length j1,.slice B2 b.rights.length j2,.slice B3 b.last.length j3]):Ent)]) [((some gb,41,[.slice (some a1) b.groups.length j1,.slice B2 b.rights.length j2,.slice B3 b.last.length j3]):Ent),(g,81,qs.flatten++sp),(some g5,97,[.int .i64 s.p.r,.int .i64 s.p.n,.slice D1 s.Ae.length e1,.int .i64 s.index,.slice D2 s.image.length e2,.slice D3 s.entries.length e3])]) (s.entries.length) ?_ ?_
 exact⟨0,_,g,cap,qs,sp,Y,(bS Y Y Y Y Y Y Y Y Y Y Y),Y,Nat.zero_le _,hG,by simpa using hA,H6.pick [0,1,2] (by decide)⟩
 rintro nQ lQ w7 ⟨q,z,g,cap,qs,sp,rfl,hfit,rfl,hqi,hG,hA,H7⟩
 obtain⟨j,rfl⟩:=hfit.open
 refine cR Du ?_
 clear hfit
 refine Rq<|OT (zQ Y Y) (fun Hr=>?_) (fun Hr=>?_)
 have Fz:q < s.entries.length:=by omega
 obtain⟨v,hxv⟩:=yM Fz
 obtain⟨pv,hpv1,hRv⟩:=h2e.get hxv
 obtain⟨G1,f1,rfl,hbv⟩:=hRv
 obtain⟨a3,Jr⟩:=hre.some_ (by omega)
 subst Jr
 have Cb:=hA.len
 try simp only[List.length_append,List.length_map,List.length_take]at Cb
 refine Xr Du<|J1<|J3 Y<|J6<|J1<|J7<|Rq<|OV (EI Tryz.underlying95 wD Y Y Y Fz Y)<|OV (EN wD Y (vs:=[.int .i64 v.slot,.slice G1 v.val.length f1]) Y (((hre.move (by decide) hae H7 Je).1).elem hpe hpv1))<|OA wD H7<|fun w8 g7 H8 _=>OS wD H8 3 (vs:=[.int .i64 v.slot,.slice G1 v.val.length f1]) Y Y Y Y Y (Nat.le_refl 2) Y<|fun w9 H9=>Xr Du<|J2<|Xm Y<|Xm Y<|OV (EN wD Y (vs:=[.int .i64 v.slot,.slice G1 v.val.length f1]) Y (H9.Ad (i:=3) Y Y))<|OV (EB xE pS Y (cs:=[.int .i64 3,.int .i64 (i:Int),.int .i64 0,.int .i64 0,.int .i64 0,.int .i64 0,.int .i64 0,.slice none 0 0,.int .i64 v.slot,.slice G1 v.val.length f1,.int .i64 0,yC [],.int .i64 0,.int .i64 0,.int .i64 0,.int .i64 0]) (by kernel_rfl))<|Aa Du<|zG Tryz.underlying22 xE H9 (cs:=[.int .i64 3,.int .i64 (i:Int),.int .i64 0,.int .i64 0,.int .i64 0,.int .i64 0,.int .i64 0,.slice none 0 0,.int .i64 v.slot,.slice G1 v.val.length f1,.int .i64 0,yC [],.int .i64 0,.int .i64 0,.int .i64 0,.int .i64 0]) Y (by decide) (by kernel_rfl)<|fun w10 gk Ar _=>xD Tryz.underlying22 xE (by decide) Ar 1 hG Y Y (rs:=[[.int .i64 3,.int .i64 (i:Int),.int .i64 0,.int .i64 0,.int .i64 0,.int .i64 0,.int .i64 0,.slice none 0 0,.int .i64 v.slot,.slice G1 v.val.length f1,.int .i64 0,yC [],.int .i64 0,.int .i64 0,.int .i64 0,.int .i64 0]]) (m:=1) Y Y (Ar.rd (i:=4) (o:=some _) (xs:=[.int .i64 3,.int .i64 (i:Int),.int .i64 0,.int .i64 0,.int .i64 0,.int .i64 0,.int .i64 0,.slice none 0 0,.int .i64 v.slot,.slice G1 v.val.length f1,.int .i64 0,yC [],.int .i64 0,.int .i64 0,.int .i64 0,.int .i64 0]) (sp:=[]) Y Y (by decide)) (Pl.one Y) (fun p hp=>by rw[List.mem_singleton.1 hp];rfl) (by omega) (by omega) (by decide)<|fun Gm g cap sp Bd hG=>Xa Y<|Xr Du<|zA (zB ?_)
 refine J2<|OV (zL Y Y (IntWalk.i64_in _ (by omega)))<|Xm Y<|Xr Du<|zA (zI ?_)
 exact⟨s.entries.length - (q+1),by omega,q+1,_,g,cap,_,sp,Y,(bS Y Y Y Y Y Y Y Y Y Y Y),by omega,by omega,hG,by rw[yU hxv,List.map_append,← List.append_assoc];exact hA.app (wC.one ⟨none,0,_,_,Y,Bs.none _ _,hbv⟩),Bd.pick [0,1,2] (by decide)⟩
 obtain rfl:q=s.entries.length:=by omega
 rw[List.take_length]at hA
 refine Xr Du<|J1<|J4 Y<|J8<|zT<|zS<|J1<|Rq<|Xf vW Y<|OV (EN wX Y (vs:=[.int .i64 s.p.r,.int .i64 s.p.n]) Y (H7.Ad (i:=2) Y Y))<|OV (EB wX BG Y Y)<|OT (sB Y Y) (fun Ey=>?_) (fun Ey=>?_)
 have hpm:sF i s=[WG i s.p]:=if_pos Ey
 have X9:(sF i s).length=1:=by rw[hpm];rfl
 have Cb:=hA.len
 try simp only[List.length_append,List.length_map,List.length_take]at Cb
 refine Xr Du<|J3 Y<|J2<|Xm Y<|Xm Y<|Xf vW Y<|OV (EN wX Y (vs:=[.int .i64 s.p.r,.int .i64 s.p.n]) Y (H7.Ad (i:=2) Y Y))<|Aa Du<|OV (EB xE pS Y (cs:=[.int .i64 1,.int .i64 (i:Int),.int .i64 s.p.r,.int .i64 s.p.n,.int .i64 0,.int .i64 0,.int .i64 0,.slice none 0 0,.int .i64 0,.slice none 0 0,.int .i64 0,yC [],.int .i64 0,.int .i64 0,.int .i64 0,.int .i64 0]) (by kernel_rfl))<|zG Tryz.underlying22 xE H7 (cs:=[.int .i64 1,.int .i64 (i:Int),.int .i64 s.p.r,.int .i64 s.p.n,.int .i64 0,.int .i64 0,.int .i64 0,.slice none 0 0,.int .i64 0,.slice none 0 0,.int .i64 0,yC [],.int .i64 0,.int .i64 0,.int .i64 0,.int .i64 0]) Y (by decide) (by kernel_rfl)<|fun w8 gk H8 _=>xD Tryz.underlying22 xE (by decide) H8 1 hG Y Y (rs:=[[.int .i64 1,.int .i64 (i:Int),.int .i64 s.p.r,.int .i64 s.p.n,.int .i64 0,.int .i64 0,.int .i64 0,.slice none 0 0,.int .i64 0,.slice none 0 0,.int .i64 0,yC [],.int .i64 0,.int .i64 0,.int .i64 0,.int .i64 0]]) (m:=1) Y Y (H8.rd (i:=3) (o:=some _) (xs:=[.int .i64 1,.int .i64 (i:Int),.int .i64 s.p.r,.int .i64 s.p.n,.int .i64 0,.int .i64 0,.int .i64 0,.slice none 0 0,.int .i64 0,.slice none 0 0,.int .i64 0,yC [],.int .i64 0,.int .i64 0,.int .i64 0,.int .i64 0]) (sp:=[]) Y Y (by decide)) (Pl.one Y) (fun p hp=>by rw[List.mem_singleton.1 hp];rfl) (by omega) (by omega) (by decide)<|fun w9 g cap sp H9 hG=>?_
 obtain⟨qs,Hq⟩:∃ q,q=qs++[[.int .i64 1,.int .i64 (i:Int),.int .i64 s.p.r,.int .i64 s.p.n,.int .i64 0,.int .i64 0,.int .i64 0,.slice none 0 0,.int .i64 0,.slice none 0 0,.int .i64 0,yC [],.int .i64 0,.int .i64 0,.int .i64 0,.int .i64 0]]:=⟨_,rfl⟩
 rw[← Hq]at hG H9 ⊢
 replace hA:wC (NtR w3 (fun x=>n1≤x∧x < n2)) qs (gN (b.groups.take i)++tS i s++s.entries.map (Ji i)++sF i s):=by
  rw[Hq,hpm]
  exact hA.app (wC.one ⟨none,0,none,0,Y,Bs.none _ _,Bs.none _ _⟩)
 clear Hq
 refine Xa Y<|Xr Du ?_
 have m1:=()
 rotate_left 1
 have hpm:sF i s=[]:=if_neg Ey
 replace hA:wC (NtR w3 (fun x=>n1≤x∧x < n2)) qs (gN (b.groups.take i)++tS i s++s.entries.map (Ji i)++sF i s):=by rw[hpm,List.append_nil];exact hA
 refine Xr Du<|J4 Y<|J6<|Rq<|Xf xV Y<|OV (EL uP Y (H7.cell (i:=2) Y Y))<|OV (ES Tryz.underlying94 Y)<|Xm Y<|Xr Du<|J7<|zU (fun nQ lQ w=>∃ (q:Nat) (z:Int) (g:Option Nat) (cap:Nat) (qs:List (List Value)) (sp:List Value),s.Ae.length - q=nQ∧xN (Dj [(1,.pointer (some ⟨gb,0,none⟩)),(3,.slice (hd g) qs.length cap),(4,.int .i64 (i:Int)),(5,.pointer (some ⟨g5,0,none⟩)),(15,.slice (some a1) b.groups.length j1),(16,.int .i64 (b.groups.length:Int)),(17,.int .i64 (i:Int)),(61,.slice D1 s.Ae.length e1),(62,.int .i64 (s.Ae.length:Int)),(63,.int .i64 z)] 0 89) lQ∧z=(q:Int)∧q≤s.Ae.length∧Gw 16 g cap qs sp∧wC (NtR w3 (fun x=>n1≤x∧x < n2)) qs (gN (b.groups.take i)++tS i s++s.entries.map (Ji i)++sF i s++(s.Ae.take q).map (Uw i))∧Hp w3 w (bl [((some gb,41,[.slice (some a1) b.groups.length j1,.slice B2 b.rights.length j2,.slice B3 b.last.length j3]):Ent)]) [((some gb,41,[.slice (some a1) b.groups.length j1,.slice B2 b.rights.length j2,.slice B3 b.last.length j3]):Ent),(g,81,qs.flatten++sp),(some g5,97,[.int .i64 s.p.r,.int .i64 s.p.n,.slice D1 s.Ae.length e1,.int .i64 s.index,.slice D2 s.image.length e2,.slice D3 s.entries.length e3])]) (s.Ae.length) ?_ ?_
 exact⟨0,_,g,cap,qs,sp,Y,(bS Y Y Y Y Y Y Y Y Y Y Y),Y,Nat.zero_le _,hG,by simpa using hA,H7.pick [0,1,2] (by decide)⟩
 rintro nQ lQ w8 ⟨q,z,g,cap,qs,sp,rfl,hfit,rfl,hqi,hG,hA,H8⟩
 obtain⟨j,rfl⟩:=hfit.open
 refine cR Du ?_
 clear hfit
 refine Rq<|OT (zQ Y Y) (fun Lc=>?_) (fun Lc=>?_)
 have Fz:q < s.Ae.length:=by omega
 obtain⟨v,hxv⟩:=yM Fz
 obtain⟨pv,hpv1,hRv⟩:=h2v.get hxv
 obtain⟨G1,f1,rfl,hbv⟩:=hRv
 obtain⟨a3,Jr⟩:=Ju.some_ (by omega)
 subst Jr
 have Cb:=hA.len
 try simp only[List.length_append,List.length_map,List.length_take]at Cb
 refine Xr Du<|J1<|J3 Y<|J6<|J1<|J7<|Rq<|OV (EI Tryz.underlying94 yZ Y Y Y Fz Y)<|OV (EN yZ Y (vs:=[.int .i64 v.slot,.int .i64 v.b.r,.int .i64 v.b.n,.slice G1 v.val.length f1]) Y (((Ju.move (by decide) hav H8 Je).1).elem hpv hpv1))<|OA yZ H8<|fun w9 g7 H9 _=>OS yZ H9 3 (vs:=[.int .i64 v.slot,.int .i64 v.b.r,.int .i64 v.b.n,.slice G1 v.val.length f1]) Y Y Y Y Y (Nat.le_refl 4) Y<|fun w10 Ar=>Xr Du<|J2<|Xm Y<|Xm Y<|OV (EN yZ Y (vs:=[.int .i64 v.slot,.int .i64 v.b.r,.int .i64 v.b.n,.slice G1 v.val.length f1]) Y (Ar.Ad (i:=3) Y Y))<|OV (EB xE pS Y (cs:=[.int .i64 2,.int .i64 (i:Int),.int .i64 0,.int .i64 0,.int .i64 v.slot,.int .i64 v.b.r,.int .i64 v.b.n,.slice G1 v.val.length f1,.int .i64 0,.slice none 0 0,.int .i64 0,yC [],.int .i64 0,.int .i64 0,.int .i64 0,.int .i64 0]) (by kernel_rfl))<|Aa Du<|zG Tryz.underlying22 xE Ar (cs:=[.int .i64 2,.int .i64 (i:Int),.int .i64 0,.int .i64 0,.int .i64 v.slot,.int .i64 v.b.r,.int .i64 v.b.n,.slice G1 v.val.length f1,.int .i64 0,.slice none 0 0,.int .i64 0,yC [],.int .i64 0,.int .i64 0,.int .i64 0,.int .i64 0]) Y (by decide) (by kernel_rfl)<|fun Gm gk Bd _=>xD Tryz.underlying22 xE (by decide) Bd 1 hG Y Y (rs:=[[.int .i64 2,.int .i64 (i:Int),.int .i64 0,.int .i64 0,.int .i64 v.slot,.int .i64 v.b.r,.int .i64 v.b.n,.slice G1 v.val.length f1,.int .i64 0,.slice none 0 0,.int .i64 0,yC [],.int .i64 0,.int .i64 0,.int .i64 0,.int .i64 0]]) (m:=1) Y Y (Bd.rd (i:=4) (o:=some _) (xs:=[.int .i64 2,.int .i64 (i:Int),.int .i64 0,.int .i64 0,.int .i64 v.slot,.int .i64 v.b.r,.int .i64 v.b.n,.slice G1 v.val.length f1,.int .i64 0,.slice none 0 0,.int .i64 0,yC [],.int .i64 0,.int .i64 0,.int .i64 0,.int .i64 0]) (sp:=[]) Y Y (by decide)) (Pl.one Y) (fun p hp=>by rw[List.mem_singleton.1 hp];rfl) (by omega) (by omega) (by decide)<|fun w12 g cap sp Bc hG=>Xa Y<|Xr Du<|zA (zB ?_)
 refine J2<|OV (zL Y Y (IntWalk.i64_in _ (by omega)))<|Xm Y<|Xr Du<|zA (zI ?_)
 exact⟨s.Ae.length - (q+1),by omega,q+1,_,g,cap,_,sp,Y,(bS Y Y Y Y Y Y Y Y Y Y Y),by omega,by omega,hG,by rw[yU hxv,List.map_append,← List.append_assoc];exact hA.app (wC.one ⟨_,_,none,0,Y,hbv,Bs.none _ _⟩),Bc.pick [0,1,2] (by decide)⟩
 obtain rfl:q=s.Ae.length:=by omega
 rw[List.take_length]at hA
 refine Xr Du<|J1<|J4 Y<|J8<|zT<|zS<|zA (zB ?_)
 refine J2<|OV (zL Y Y (IntWalk.i64_in _ (by omega)))<|Xm Y<|Xr Du<|zA (zI ?_)
 have hti:(b.groups.take i).length=i:=by rw[List.length_take];omega
 exact⟨b.groups.length - (i+1),by omega,i+1,_,g,cap,qs,sp,Y,(Ez Y Y Y Y Y Y),by omega,by omega,hG,by rw[yU hx,pY,hti];unfold Ko;simpa only[List.append_assoc]using hA,H8.pick [0,1] (by decide)⟩
 obtain rfl:i=b.groups.length:=by omega
 rw[List.take_length]at hA
 refine Xr Du<|J1<|J4 Y<|J8<|zT<|zS<|J1<|Rq<|Xf sU Y<|OV (EL kX Y (H4.cell (i:=0) Y Y))<|OV (ES Tryz.underlying38 Y)<|Xm Y<|Xr Du<|J7<|zU (fun nQ lQ w=>∃ (q:Nat) (z:Int) (g:Option Nat) (cap:Nat) (qs:List (List Value)) (sp:List Value),b.rights.length - q=nQ∧xN (Dj [(1,.pointer (some ⟨gb,0,none⟩)),(3,.slice (hd g) qs.length cap),(76,.slice B2 b.rights.length j2),(77,.int .i64 (b.rights.length:Int)),(78,.int .i64 z)] 0 89) lQ∧z=(q:Int)∧q≤b.rights.length∧Gw 16 g cap qs sp∧wC (NtR w3 (fun x=>n1≤x∧x < n2)) qs (gN b.groups++(b.rights.take q).map ntF)∧Hp w3 w (bl [((some gb,41,[.slice (some a1) b.groups.length j1,.slice B2 b.rights.length j2,.slice B3 b.last.length j3]):Ent)]) [((some gb,41,[.slice (some a1) b.groups.length j1,.slice B2 b.rights.length j2,.slice B3 b.last.length j3]):Ent),(g,81,qs.flatten++sp)]) (b.rights.length) ?_ ?_
 exact⟨0,_,g,cap,qs,sp,Y,(Ez Y Y Y Y Y Y),Y,Nat.zero_le _,hG,by simpa using hA,H4⟩
 rintro nQ lQ w5 ⟨q,z,g,cap,qs,sp,rfl,hfit,rfl,hqi,hG,hA,H5⟩
 obtain⟨j,rfl⟩:=hfit.open
 refine cR Du ?_
 clear hfit
 refine Rq<|OT (zQ Y Y) (fun hp79=>?_) (fun hp79=>?_)
 have Fz:q < b.rights.length:=by omega
 obtain⟨v,hxv⟩:=yM Fz
 obtain⟨pv,hpv1,hRv⟩:=h2r.get hxv
 unfold Fb at hRv
 subst hRv
 obtain⟨a3,Jr⟩:=hrr.some_ (by omega)
 subst Jr
 have hnl:b.notes.length=(gN b.groups).length+b.rights.length:=by unfold Bo.notes;simp only[List.length_append,List.length_map]
 have Cb:=hA.len
 try simp only[List.length_append,List.length_map,List.length_take]at Cb
 refine Xr Du<|J1<|J3 Y<|J6<|J1<|J7<|Rq<|OV (EI Tryz.underlying38 xR Y Y Y Fz Y)<|OV (EN xR Y (vs:=[.int .i64 v.g,yC v.key,.int .i64 v.Ai,.int .i64 v.net]) Y (((hrr.move (by decide) har H5 Je).1).elem hpr hpv1))<|OA xR H5<|fun w6 g7 H6 _=>OS xR H6 2 (vs:=[.int .i64 v.g,yC v.key,.int .i64 v.Ai,.int .i64 v.net]) Y Y Y Y Y (Nat.le_refl 4) Y<|fun w7 H7=>Xr Du<|J2<|Xm Y<|OV (EN xR Y (vs:=[.int .i64 v.g,yC v.key,.int .i64 v.Ai,.int .i64 v.net]) Y (H7.Ad (i:=2) Y Y))<|OV (EB xE pS Y (cs:=[.int .i64 5,.int .i64 0,.int .i64 0,.int .i64 0,.int .i64 0,.int .i64 0,.int .i64 0,.slice none 0 0,.int .i64 0,.slice none 0 0,.int .i64 v.g,yC v.key,.int .i64 v.Ai,.int .i64 v.net,.int .i64 0,.int .i64 0]) (by kernel_rfl))<|zG Tryz.underlying22 xE H7 (cs:=[.int .i64 5,.int .i64 0,.int .i64 0,.int .i64 0,.int .i64 0,.int .i64 0,.int .i64 0,.slice none 0 0,.int .i64 0,.slice none 0 0,.int .i64 v.g,yC v.key,.int .i64 v.Ai,.int .i64 v.net,.int .i64 0,.int .i64 0]) Y (by decide) (by kernel_rfl)<|fun w8 gk H8 _=>Aa Du<|xD Tryz.underlying22 xE (by decide) H8 1 hG Y Y (rs:=[[.int .i64 5,.int .i64 0,.int .i64 0,.int .i64 0,.int .i64 0,.int .i64 0,.int .i64 0,.slice none 0 0,.int .i64 0,.slice none 0 0,.int .i64 v.g,yC v.key,.int .i64 v.Ai,.int .i64 v.net,.int .i64 0,.int .i64 0]]) (m:=1) Y Y (H8.rd (i:=3) (o:=some _) (xs:=[.int .i64 5,.int .i64 0,.int .i64 0,.int .i64 0,.int .i64 0,.int .i64 0,.int .i64 0,.slice none 0 0,.int .i64 0,.slice none 0 0,.int .i64 v.g,yC v.key,.int .i64 v.Ai,.int .i64 v.net,.int .i64 0,.int .i64 0]) (sp:=[]) Y Y (by decide)) (Pl.one Y) (fun p hp=>by rw[List.mem_singleton.1 hp];rfl) (by omega) (by omega) (by decide)<|fun w9 g cap sp H9 hG=>Xa Y<|Xr Du<|zA (zB ?_)
 refine J2<|OV (zL Y Y (IntWalk.i64_in _ (by omega)))<|Xm Y<|Xr Du<|zA (zI ?_)
 exact⟨b.rights.length - (q+1),by omega,q+1,_,g,cap,_,sp,Y,(Ez Y Y Y Y Y Y),by omega,by omega,hG,by rw[yU hxv,List.map_append,← List.append_assoc];exact hA.app (wC.one ⟨none,0,none,0,Y,Bs.none _ _,Bs.none _ _⟩),H9.pick [0,1] (by decide)⟩
 obtain rfl:q=b.rights.length:=by omega
 rw[List.take_length]at hA
 refine Xr Du<|J1<|J4 Y<|J8<|zT<|zS<|Rq<|Xm Y<|Xa Y<|Xr Du<|J5<|Ak Y Y ?_
 have hlq:qs.length=b.notes.length:=hA.len
 have HW:=HS.all H5
 rw[hlq]
 exact⟨hd g,cap,rfl,Sl.row HW (i:=1) rfl hG.2.2.2 (by decide) (hA.imp fun p x h=>NtR.to h H5 fun x hx _=>⟨(Je x hx (by omega)).1,by omega⟩) (fun k hk=>by subst hk;exact HW.new (i:=1) rfl),HW.Ac⟩
 any_goals
  clear m1
  refine Rq<|Xf xV Y<|OV (EL uP Y (H9.cell (i:=2) Y Y))<|OV (ES Tryz.underlying94 Y)<|Xm Y<|Xr Du<|J7<|zU (fun nQ lQ w=>∃ (q:Nat) (z:Int) (g:Option Nat) (cap:Nat) (qs:List (List Value)) (sp:List Value),s.Ae.length - q=nQ∧xN (Dj [(1,.pointer (some ⟨gb,0,none⟩)),(3,.slice (hd g) qs.length cap),(4,.int .i64 (i:Int)),(5,.pointer (some ⟨g5,0,none⟩)),(15,.slice (some a1) b.groups.length j1),(16,.int .i64 (b.groups.length:Int)),(17,.int .i64 (i:Int)),(61,.slice D1 s.Ae.length e1),(62,.int .i64 (s.Ae.length:Int)),(63,.int .i64 z)] 0 89) lQ∧z=(q:Int)∧q≤s.Ae.length∧Gw 16 g cap qs sp∧wC (NtR w3 (fun x=>n1≤x∧x < n2)) qs (gN (b.groups.take i)++tS i s++s.entries.map (Ji i)++sF i s++(s.Ae.take q).map (Uw i))∧Hp w3 w (bl [((some gb,41,[.slice (some a1) b.groups.length j1,.slice B2 b.rights.length j2,.slice B3 b.last.length j3]):Ent)]) [((some gb,41,[.slice (some a1) b.groups.length j1,.slice B2 b.rights.length j2,.slice B3 b.last.length j3]):Ent),(g,81,qs.flatten++sp),(some g5,97,[.int .i64 s.p.r,.int .i64 s.p.n,.slice D1 s.Ae.length e1,.int .i64 s.index,.slice D2 s.image.length e2,.slice D3 s.entries.length e3])]) (s.Ae.length) ?_ ?_
  exact⟨0,_,g,cap,qs,sp,Y,(bS Y Y Y Y Y Y Y Y Y Y Y),Y,Nat.zero_le _,hG,by simpa using hA,H9.pick [0,1,2] (by decide)⟩
  rintro nQ lQ w10 ⟨q,z,g,cap,qs,sp,rfl,hfit,rfl,hqi,hG,hA,Ar⟩
  obtain⟨j,rfl⟩:=hfit.open
  refine cR Du ?_
  clear hfit
  refine Rq<|OT (zQ Y Y) (fun Lc=>?_) (fun Lc=>?_)
  have Fz:q < s.Ae.length:=by omega
  obtain⟨v,hxv⟩:=yM Fz
  obtain⟨pv,hpv1,hRv⟩:=h2v.get hxv
  obtain⟨G1,f1,rfl,hbv⟩:=hRv
  obtain⟨a3,Jr⟩:=Ju.some_ (by omega)
  subst Jr
  have Cb:=hA.len
  try simp only[List.length_append,List.length_map,List.length_take]at Cb
  refine Xr Du<|J1<|J3 Y<|J6<|J1<|J7<|Rq<|OV (EI Tryz.underlying94 yZ Y Y Y Fz Y)<|OV (EN yZ Y (vs:=[.int .i64 v.slot,.int .i64 v.b.r,.int .i64 v.b.n,.slice G1 v.val.length f1]) Y (((Ju.move (by decide) hav Ar Je).1).elem hpv hpv1))<|OA yZ Ar<|fun Gm g7 Bd _=>OS yZ Bd 3 (vs:=[.int .i64 v.slot,.int .i64 v.b.r,.int .i64 v.b.n,.slice G1 v.val.length f1]) Y Y Y Y Y (Nat.le_refl 4) Y<|fun w12 Bc=>Xr Du<|J2<|Xm Y<|Xm Y<|OV (EN yZ Y (vs:=[.int .i64 v.slot,.int .i64 v.b.r,.int .i64 v.b.n,.slice G1 v.val.length f1]) Y (Bc.Ad (i:=3) Y Y))<|OV (EB xE pS Y (cs:=[.int .i64 2,.int .i64 (i:Int),.int .i64 0,.int .i64 0,.int .i64 v.slot,.int .i64 v.b.r,.int .i64 v.b.n,.slice G1 v.val.length f1,.int .i64 0,.slice none 0 0,.int .i64 0,yC [],.int .i64 0,.int .i64 0,.int .i64 0,.int .i64 0]) (by kernel_rfl))<|Aa Du<|zG Tryz.underlying22 xE Bc (cs:=[.int .i64 2,.int .i64 (i:Int),.int .i64 0,.int .i64 0,.int .i64 v.slot,.int .i64 v.b.r,.int .i64 v.b.n,.slice G1 v.val.length f1,.int .i64 0,.slice none 0 0,.int .i64 0,yC [],.int .i64 0,.int .i64 0,.int .i64 0,.int .i64 0]) Y (by decide) (by kernel_rfl)<|fun Io gk Ce _=>xD Tryz.underlying22 xE (by decide) Ce 1 hG Y Y (rs:=[[.int .i64 2,.int .i64 (i:Int),.int .i64 0,.int .i64 0,.int .i64 v.slot,.int .i64 v.b.r,.int .i64 v.b.n,.slice G1 v.val.length f1,.int .i64 0,.slice none 0 0,.int .i64 0,yC [],.int .i64 0,.int .i64 0,.int .i64 0,.int .i64 0]]) (m:=1) Y Y (Ce.rd (i:=4) (o:=some _) (xs:=[.int .i64 2,.int .i64 (i:Int),.int .i64 0,.int .i64 0,.int .i64 v.slot,.int .i64 v.b.r,.int .i64 v.b.n,.slice G1 v.val.length f1,.int .i64 0,.slice none 0 0,.int .i64 0,yC [],.int .i64 0,.int .i64 0,.int .i64 0,.int .i64 0]) (sp:=[]) Y Y (by decide)) (Pl.one Y) (fun p hp=>by rw[List.mem_singleton.1 hp];rfl) (by omega) (by omega) (by decide)<|fun Md g cap sp Ei hG=>Xa Y<|Xr Du<|zA (zB ?_)
  refine J2<|OV (zL Y Y (IntWalk.i64_in _ (by omega)))<|Xm Y<|Xr Du<|zA (zI ?_)
  exact⟨s.Ae.length - (q+1),by omega,q+1,_,g,cap,_,sp,Y,(bS Y Y Y Y Y Y Y Y Y Y Y),by omega,by omega,hG,by rw[yU hxv,List.map_append,← List.append_assoc];exact hA.app (wC.one ⟨_,_,none,0,Y,hbv,Bs.none _ _⟩),Ei.pick [0,1,2] (by decide)⟩
  obtain rfl:q=s.Ae.length:=by omega
  rw[List.take_length]at hA
  refine Xr Du<|J1<|J4 Y<|J8<|zT<|zS<|zA (zB ?_)
  refine J2<|OV (zL Y Y (IntWalk.i64_in _ (by omega)))<|Xm Y<|Xr Du<|zA (zI ?_)
  have hti:(b.groups.take i).length=i:=by rw[List.length_take];omega
  exact⟨b.groups.length - (i+1),by omega,i+1,_,g,cap,qs,sp,Y,(Ez Y Y Y Y Y Y),by omega,by omega,hG,by rw[yU hx,pY,hti];unfold Ko;simpa only[List.append_assoc]using hA,Ar.pick [0,1] (by decide)⟩
end Go.Proofs.YtjoeklkmnfaabaaGreat
namespace Go.Proofs.YtjoeklkmnfaabaaGreat
set_option maxRecDepth 100000
set_option maxHeartbeats 4000000
open Go Go.RowKit
set_option linter.unusedVariables false
attribute [local irreducible] yT Ops zP Cd
theorem QU (v:Vm) (D:Dk) (W:Wl) (b:Bo) (bad:Nat→Prop) (w0:World) (H0:Hp w0 w0 (bl (Aj v D W)) (Aj v D W)) (h:Px w0 v D W b bad) (hv:∀ x∈bl (Aj v D W),bad x) (B:Option Addr) (q:List Rt) (c:Nat) (Yn:Nat→Prop) (hq:Sl Fb 4 w0 Yn B q) (hc:q.length≤c) (hokq:∀ x,Yn x→¬bad x) (NB:Nat) (hg:rJ b NB) (hbb:BoB b) (hN:NB≤800000000000) (hnn:b.notes.length≤1000000000000) (s:Nat) (Me:Lg D.show D.kept.length W s) (hup:D.down=false) (Gx:W.dead=false) (hwt:D.wait.length≤100000000) (hfl:W.first≤2^50) (htl:W.turn≤2^50):zP Tryz.prog 12 #[.pointer (some ⟨v.gx,0,none⟩),.slice B q.length c] w0 (fun r w'=>∃ x D' W' b',r=.int .i64 x∧UR s D W b q x D' W' b'∧I8 w0 w' v bad (bl (Aj v D W)) D' W' b'):=by
 refine zE Tryz.func12 Tryz.ntmps12 Y<|cR Gl ?_
 have H:=H0
 have hv0:=Il.start h H0 hv
 have hmo:=h.ok.most
 have hfi:=h.ok.first
 obtain⟨A1,k1,A2,k2,A3,k3,hcs,hb1,hb2,hb3⟩:=id h.bo
 obtain⟨pq,hpq,hrq,haq,h2q⟩:=id hq
 refine Rq<|Xa Y<|Xr Gl<|J1<|Rq<|Xm Y<|Dy (yE Tryz.underlying23 Y) (by simp)<|Xr Gl<|J4 Y<|J6<|J1<|Rq<|Xm Y<|Xc Y<|Xf jY Y<|Xf sU Y<|Aa Gl<|OV (EL kX Y (H.cell (i:=6) (o:=2) Y (by rw[gK,hcs];rfl)))<|Xm Y<|OX (EC gf37 Y) (UY A2 b.rights k2 _ B q c _ _ hb2 hq hc (by have:=hg.few;omega)) (fun hp21 w1 Hd=>?_) (fun hp21 w1 Hd=>?_)
 have H1:=H.Af Hd
 have hsub:=lH hp21
 have Cb:=hsub.length_le
 have hgf:=hg.few
 have hgn:=hg.fold hsub
 have hown:=fD hgn (hbb.fold hsub)
 have hnl:=ON hsub
 refine Xn Y<|Xr Gl<|J4 Y<|J6<|Rq<|Xm Y<|Xc Y<|Xf jY Y<|OV (EN xQ Y (vs:=[.slice A1 b.groups.length k1,.slice A2 b.rights.length k2,.slice A3 b.last.length k3]) Y (H1.Ad (i:=6) Y (by rw[gK,hcs];rfl)))<|Aa Gl<|OA xQ H1<|fun w2 gb H2 hgb=>OS xQ H2 7 Y Y Y Y Y (by first|exact NL Y|simp[zH]) Y<|fun w3 H3=>Xr Gl<|Rq<|Xm Y ?_
 have hkq:∀ x,Yn x→x < w0.heap.size→x∉bl (Aj v D W)∧True:=fun x hx _=>⟨fun hb=>hokq x hx (hv x hb),trivial⟩
 refine OQ (EC VY Y) (F9 B q.length c pq.flatten _ (hrq.move (ok':=fun _=>True) (by decide) haq H3 hkq).1 (xF (h2q.ones fun _ _ h=>h.ones)) (by omega)) ?_
 rintro _ w4 ⟨gv,cv,sv,rfl,hmv,hcv,Ie,Hc⟩
 have hszc:=H3.size
 have hfrv:=lK Hc 0 rfl (by simp)
 have H4:=H3.call0 Hc
 refine Xf sU Y<|OW kX H4 7 Y Y Y Y (by first|exact NL Y|simp[zH]) Y<|fun w5 H5=>Xf tJ Y<|Aa Gl<|OW mM H5 7 Y Y Y Y (by first|exact NL Y|simp[zH]) Y<|fun w6 H6=>Xr Gl<|Rq<|Xm Y<|Xc Y<|Xf jZ Y<|OV (EL uC Y (H6.cell (i:=6) Y Y))<|Aa Gl<|OC (EC N8 Y) (lD v.m.gv W.first W.recs.length v.m.cr (hd v.m.gr) _ (H6.cell (i:=3) Y Y) (H6.cell (i:=3) Y Y) (by omega))<|fun w7 Hc2=>have H7:=H6.Af Hc2;Xa Y<|Xr Gl<|J1<|Rq<|OV (EN xQ Y (vs:=[.slice A1 b.groups.length k1,.slice (hd gv) q.length cv,.slice none 0 0]) Y (H7.Ad (i:=7) Y Y)) ?_
 have HA:=H7
 have hv1:=hv0.on (R':=[((some gb,41,[.slice A1 b.groups.length k1,.slice (hd gv) q.length cv,.slice none 0 0]):Ent)]) (HA.pick [0,1,2,3,4,5,6,7] (by decide))
 have hkb:∀ x,¬bad x→x < w0.heap.size→x∉bl (Aj v D W)∧¬gG w0 bad (Aj v D W++[((some gb,41,[.slice A1 b.groups.length k1,.slice (hd gv) q.length cv,.slice none 0 0]):Ent)]) x:=fun x hx hl=>⟨fun hb=>hx (hv x hb),fun hb=>by
  rcases hb with hb | hb
  · exact hx hb.1
  · rcases bl_place (HA.pick [0,1,2,3,4,5,6,7] (by decide)) x hb with h1 | h1
    · exact hx (hv x h1)
    · omega⟩
 have hq1:=hb1.toS HA hkb
 have hq2:Sl Fb 4 w7 (fun x=>¬gG w0 bad (Aj v D W++[((some gb,41,[.slice A1 b.groups.length k1,.slice (hd gv) q.length cv,.slice none 0 0]):Ent)]) x) (hd gv) q:=Sl.row HA (i:=8) rfl hpq (by decide) h2q (fun k hk hb=>by
  have h1:=hfrv ⟨k,0,none⟩ (by rw[hk];rfl)
  rcases hb with hb | hb
  · have h2:=hb.2
    simp only at h1
    omega
  · exact FH HA 8 [0,1,2,3,4,5,6,7] Y Y (by decide) ⟨k,0,none⟩ (by rw[hk];rfl) hb)
 have hbn1:Hl w7 (fun x=>¬gG w0 bad (Aj v D W++[((some gb,41,[.slice A1 b.groups.length k1,.slice (hd gv) q.length cv,.slice none 0 0]):Ent)]) x) [.slice A1 b.groups.length k1,.slice (hd gv) q.length cv,.slice none 0 0] (b.fold q):=⟨A1,k1,hd gv,cv,none,0,rfl,hq1,hq2,Sl.none _ _ _ _⟩
 have HZ:=hv1.H.here
 refine OQ (EC gf40 Y) (R4 (b.fold q) A1 k1 (hd gv) cv none 0 NB _ _ hq1 hq2 (Sl.none _ _ _ _) hgn (by omega) (by omega)) ?_
 rintro _ w8 ⟨A9,k9,rfl,hns,Hd⟩
 have H8:=HZ.Af Hd
 refine OV (ES Tryz.underlying22 Y)<|Xm Y<|Xr Gl<|J7<|zU (fun nQ lQ w=>∃ (i:Nat) (y:Int) (v1:Vm) (D1:Dk) (W1:Wl),(b.fold q).notes.length - i=nQ∧xN (Dj [(0,.pointer (some ⟨v.gx,0,none⟩)),(1,.slice B q.length c),(5,.pointer (some ⟨gb,0,none⟩)),(6,.int .i64 ((W.first+W.recs.length:Nat):Int)),(37,.slice A9 (b.fold q).notes.length k9),(38,.int .i64 ((b.fold q).notes.length:Int)),(39,.int .i64 y)] 0 74) lQ∧y=(i:Int)∧i≤(b.fold q).notes.length∧jG s D W (((b.fold q).notes.take i).map xG) D1 W1∧Hl w (fun x=>¬gG w0 bad (Aj v1 D1 W1++[((some gb,41,[.slice A1 b.groups.length k1,.slice (hd gv) q.length cv,.slice none 0 0]):Ent)]) x) [.slice A1 b.groups.length k1,.slice (hd gv) q.length cv,.slice none 0 0] (b.fold q)∧Sl (NtR w (fun x=>¬gG w0 bad (Aj v1 D1 W1++[((some gb,41,[.slice A1 b.groups.length k1,.slice (hd gv) q.length cv,.slice none 0 0]):Ent)]) x)) 16 w (fun x=>¬gG w0 bad (Aj v1 D1 W1++[((some gb,41,[.slice A1 b.groups.length k1,.slice (hd gv) q.length cv,.slice none 0 0]):Ent)]) x) A9 (b.fold q).notes∧Il w0 w (bl (Aj v D W)) bad v v1 D1 W1 b [((some gb,41,[.slice A1 b.groups.length k1,.slice (hd gv) q.length cv,.slice none 0 0]):Ent)]) ((b.fold q).notes.length) ?_ ?_
 exact⟨0,_,v,D,W,Y,(WW Y Y Y Y Y Y Y Y),Y,Nat.zero_le _,jG.none Me hup Gx,hbn1.to H8 (nG H8),hns.toN (Hp.refl _) (fun x hx _=>⟨by simp,PZ hv1.H (Nat.le_refl _) x hx⟩),hv1.on H8⟩
 rintro nQ lQ w9 ⟨i,y,v1,D1,W1,rfl,hfit,rfl,hi,hgr,Zd,ZL,hv2⟩
 obtain⟨j,rfl⟩:=hfit.open
 refine cR Gl ?_
 clear hfit
 obtain⟨m1,gx1,cs1⟩:=v1
 obtain rfl:gx1=v.gx:=hv2.gx
 have H9:=hv2.H.here
 have Ru:D1.wait.length≤1000000000:=by have:=(hgr.few h.ok.ring).2;omega
 refine Rq<|OT (zQ Y Y) (fun XQ=>?_) (fun XQ=>?_)
 have hil:i < (b.fold q).notes.length:=by omega
 obtain⟨nt,hx⟩:=yM hil
 obtain⟨pn,hpn,hrn,han,h2n⟩:=id ZL
 obtain⟨p1,hp1,hR⟩:=h2n.get hx
 obtain⟨B1,j1,B2,j2,rfl,hbv,Ih⟩:=hR
 obtain⟨a1,ha1⟩:=hrn.some_ (by omega)
 subst ha1
 have hnt:=hown nt (mem_of hx)
 refine Xr Gl<|J1<|J3 Y<|J6<|J1<|J7<|Rq<|OV (EI Tryz.underlying22 xE Y Y Y hil Y)<|OV (EN xE Y (vs:=[.int .i64 nt.kind,.int .i64 nt.group,.int .i64 nt.b.r,.int .i64 nt.b.n,.int .i64 nt.Ag.slot,.int .i64 nt.Ag.b.r,.int .i64 nt.Ag.b.n,.slice B1 nt.Ag.val.length j1,.int .i64 nt.entry.slot,.slice B2 nt.entry.val.length j2,.int .i64 nt.right.g,yC nt.right.key,.int .i64 nt.right.Ai,.int .i64 nt.right.net,.int .i64 nt.client,.int .i64 nt.seq]) Y (hrn.elem hpn hp1))<|OA xE H9<|fun w10 g10 Ar hg10=>OS xE Ar 8 Y Y Y Y Y (by first|exact NL Y|simp[zH]) Y<|fun Gm Bd=>Xr Gl<|Rq<|OV (EN xE Y (vs:=[.int .i64 nt.kind,.int .i64 nt.group,.int .i64 nt.b.r,.int .i64 nt.b.n,.int .i64 nt.Ag.slot,.int .i64 nt.Ag.b.r,.int .i64 nt.Ag.b.n,.slice B1 nt.Ag.val.length j1,.int .i64 nt.entry.slot,.slice B2 nt.entry.val.length j2,.int .i64 nt.right.g,yC nt.right.key,.int .i64 nt.right.Ai,.int .i64 nt.right.net,.int .i64 nt.client,.int .i64 nt.seq]) Y (Bd.Ad (i:=8) Y Y))<|OQ (EC gf34 Y) (G5 (Fq nt) _ _ (U9 (ok:=fun _=>True) ⟨B1,j1,B2,j2,Y,hbv.to Bd (fun x hx hl=>⟨fun hb=>hx (.inr hb),trivial⟩),Ih.to Bd (fun x hx hl=>⟨fun hb=>hx (.inr hb),trivial⟩)⟩ hnt.1)) ?_
 rintro _ w12 ⟨gn,cn,sn,rfl,hn1,hn2,hn3,hn4,Y8⟩
 have Bc:=Bd.call0 Y8
 change Hp _ _ _ (_++[(gn,5,u8s (xG nt)++sn)])at Bc
 refine Xm Y<|Xe Y Y<|Aa Gl<|Xe Y Y<|Xa Y<|Xa Y<|Xr Gl<|J1<|Rq<|Xm Y<|Dy (yS Y Y) (fun hh=>hh (by show((Gn nt:Nat):Int)=0;rw[hnt.2.1];rfl))<|Xr Gl<|J4 Y<|J6<|Rq<|Xm Y<|Xc Y<|Xf jZ Y<|OV (EL uC Y (Bc.cell (i:=6) Y Y))<|Aa Gl<|Xm Y ?_
 have HB3:=Bc.pick [0,1,2,3,4,5,6,7] (by decide)
 have hv3:=hv2.on (R':=[((some gb,41,[.slice A1 b.groups.length k1,.slice (hd gv) q.length cv,.slice none 0 0]):Ent)]) HB3
 refine OQ (EC gf35 Y) (bL m1 D1 W1 _ hv3.H.less.less.here hv3.ok.ok (hd gn) (xG nt) cn (Bc.rd (i:=9) (o:=gn) (xs:=u8s (xG nt)) (sp:=sn) Y (yV _) (by decide)) (fun _ p hp hb=>FH Bc 9 [0,1,2,3,4,5] Y Y (by decide) p hp hb) (by have:=kI nt;omega) Ru) ?_
 rintro _ Io ⟨x,D2,W2,rfl,hres,hwp⟩
 obtain⟨v2,hcs2,hgx2,hv5,Qu⟩:=hv3.log hwp
 obtain⟨m2,YE,cs2⟩:=v2
 obtain rfl:YE=v.gx:=hgx2
 have Xx:=(Zd.to HB3 (nG HB3)).to Qu (nG Qu)
 have hns5:=(ZL.toN HB3 (nG HB3)).toN Qu (nG Qu)
 have Ce:=hv5.H.here
 rcases hgr.app hres hnt.2.2 with ⟨hx0,hfit,Xd⟩ | ⟨hx0,hfull,hD2,hW2⟩ | ⟨hx0,harm,hdn,hkp,_,ws2,hws,_,Xo⟩
 refine Xa Y<|Xr Gl<|Rq<|Xm Y<|Dy (yS Y Y) (by omega)<|Xr Gl<|J4 Y<|J6<|zA (zB ?_)
 refine J2<|OV (zL Y Y (IntWalk.i64_in _ (by omega)))<|Xm Y<|Xr Gl<|zA (zI ?_)
 exact⟨(b.fold q).notes.length - (i+1),by omega,i+1,_,_,D2,W2,Y,(WW Y Y Y Y Y Y Y Y),by omega,by omega,by rw[yU hx,List.map_append];exact Xd,Xx,hns5,hv5.on Ce⟩
 refine Xa Y<|Xr Gl<|Rq<|Xm Y<|Ij (yS Y Y) (by omega)<|Xr Gl<|J3 Y<|Rq<|Xm Y<|Xa Y<|Xr Gl<|J5<|BR<|yR<|BR<|Ak Y Y<|⟨x,D2,W2,b,Y,.inr ⟨hp21,.inl ⟨i,nt,D1,W1,hx,hgr,Y,.inl ⟨hx0,hfull,hD2,hW2⟩⟩⟩,(hv5.on Ce).post⟩
 refine Xa Y<|Xr Gl<|Rq<|Xm Y<|Ij (yS Y Y) (by omega)<|Xr Gl<|J3 Y<|Rq<|Xm Y<|Xa Y<|Xr Gl<|J5<|BR<|yR<|BR<|Ak Y Y<|⟨x,D2,W2,b,Y,.inr ⟨hp21,.inl ⟨i,nt,D1,W1,hx,hgr,Y,.inr ⟨hx0,harm,hdn,hkp,ws2,hws,Xo⟩⟩⟩,(hv5.on Ce).post⟩
 obtain rfl:i=(b.fold q).notes.length:=by omega
 rw[List.take_length]at hgr
 refine Xr Gl<|J1<|J4 Y<|J8<|zT<|zS<|J1<|Rq<|Xm Y<|Xc Y<|Xf jZ Y<|OV (EL uC Y (H9.cell (i:=6) Y Y))<|Aa Gl<|Xm Y ?_
 refine OQ (EC gf41 Y) ((S1 ((W.first+W.recs.length:Nat):Int) m1 D1 W1 _ hv2.H.less.less.here hv2.ok.ok Ru (by rw[hgr.first];exact hfl) (by rw[hgr.turn];exact htl)).mono (fun r wz hq=>by
  have hrl:W1.recs.length=W.recs.length+((b.fold q).notes.map xG).length:=by rw[hgr.recs,List.length_append]
  have hfl2:=hgr.first
  rcases hq with ⟨hq,_⟩ | ⟨gone,hq,hle,hq2⟩
  · exfalso;omega
  · obtain rfl:gone=W.recs.length:=by omega
    exact hq2)) ?_
 rintro _ w10 ⟨x,D2,W2,rfl,hres,hwp⟩
 obtain⟨v2,hcs2,hgx2,hv5,Qu⟩:=hv2.log hwp
 obtain⟨m2,YE,cs2⟩:=v2
 obtain rfl:YE=v.gx:=hgx2
 have Xx:=Zd.to Qu (nG Qu)
 have Ar:=hv5.H.here
 refine Xa Y<|Xr Gl<|Rq<|Xm Y<|OT (yS Y Y) (fun ZJ=>?_) (fun ZJ=>?_)
 refine Xr Gl<|J3 Y<|Rq<|Xm Y<|Xa Y<|Xr Gl<|J5<|Ak Y Y<|⟨x,D2,W2,b,Y,.inr ⟨hp21,.inr ⟨D1,W1,hgr,hres,fun h0=>absurd h0 ZJ,fun _=>Y⟩⟩,(hv5.on Ar).post⟩
 obtain rfl:x=0:=by omega
 obtain⟨X1,x1,X2,x2,X3,x3,hcs3,hx1,hx2,hx3⟩:=hv5.ok.bo
 obtain rfl:cs2=[.slice X1 b.groups.length x1,.slice X2 b.rights.length x2,.slice X3 b.last.length x3]:=hcs3
 refine Xr Gl<|J4 Y<|J6<|Rq<|Xm Y<|OV (EN xQ Y (vs:=[.slice A1 b.groups.length k1,.slice (hd gv) q.length cv,.slice none 0 0]) Y (Ar.Ad (i:=7) Y Y))<|Xc Y<|Xf jY Y<|Aa Gl ?_
 have HO:=Hp.old (Ar.at (i:=6) rfl)
 refine OS xQ HO 0 Y Y Y Y Y (Nat.le_refl 4) Y<|fun Gm Hd=>?_
 obtain⟨hv7,_⟩:=hv5.book Hd (Xx.to Hd (fun x hx hl=>⟨fun hb=>hx (.inr (by rw[List.mem_singleton.1 hb];exact Dt (Fh (List.mem_filterMap.2 ⟨_,List.mem_cons_self,rfl⟩)))),.inl hx⟩))
 have Bd:=hv7.H.here
 refine Xr Gl<|Rq<|Xa Y<|Xr Gl<|J5<|Ak Y Y<|⟨0,D2,W2,b.fold q,Y,.inr ⟨hp21,.inr ⟨D1,W1,hgr,hres,fun _=>Y,fun h=>absurd Y h⟩⟩,(hv7.on Bd).post⟩
 have H1:=H.Af Hd
 refine Xn Y<|Xr Gl<|J3 Y<|Rq<|Xa Y<|Xr Gl<|J5<|Ak Y Y<|⟨1,D,W,b,Y,.inl ⟨hp21,Y,Y,Y,Y⟩,(hv0.on H1).post⟩
end Go.Proofs.YtjoeklkmnfaabaaGreat
namespace Go.Proofs.YtjoeklkmnfaabaaGreat
set_option maxRecDepth 100000
set_option maxHeartbeats 16000000
open Go Go.RowKit
set_option linter.unusedVariables false
attribute [local irreducible] yT Ops zP Cd
theorem wV {w:World} {ok:Nat→Prop}:Gz w ok [.int .i64 0,.int .i64 0,.slice none 0 0,.int .i64 0,.slice none 0 0,.slice none 0 0] Sv.none:=⟨none,0,none,0,none,0,rfl,Sl.none _ _ _ _,Bs.none _ _,Sl.none _ _ _ _⟩
theorem IY (w0:World):zP Tryz.prog 29 #[] w0 (fun r w'=>∃ cs,r=.agg cs.toArray∧Hl w' (fun x=>w0.heap.size≤x) cs Bo.empty∧Hp w0 w' [] []):=by
 refine zE Tryz.func29 Tryz.ntmps29 Y<|cR e3 ?_
 have H:=Hp.refl w0
 refine Rq<|OA xQ H<|fun w1 g1 H1 hg1=>Xr e3<|Rq<|fF Tryz.underlying37 xW H1 (n:=8) (c:=8) Y Y (Nat.le_refl _) (by decide) (by decide)<|fun w2 ge H2 _=>OV (EB xQ RX Y Y)<|OS xQ H2 0 (vs:=[.slice (hd (some ge)) 8 8,.slice none 0 0,.slice none 0 0]) Y Y Y Y Y (Nat.le_refl 3) Y<|fun w3 H3=>Xr e3<|J5<|uM Y xQ (cs:=[.slice (hd (some ge)) 8 8,.slice none 0 0,.slice none 0 0]) Y Y (H3.Ad (i:=0) Y Y) ?_
 have HZ:Hp w0 w3 [] [((some g1,41,[.slice (hd (some ge)) 8 8,.slice none 0 0,.slice none 0 0]):Ent),((some ge,97,(List.replicate 8 [.int .i64 0,.int .i64 0,.slice none 0 0,.int .i64 0,.slice none 0 0,.slice none 0 0]).flatten++[]):Ent)]:=by rw[List.append_nil];exact H3
 refine⟨_,Y,⟨hd (some ge),8,none,0,none,0,Y,Sl.row HZ (i:=1) Y (fun p hp=>by rw[(List.mem_replicate.1 hp).2];rfl) (by decide) ?_ (fun b hb=>?_),Sl.none _ _ _ _,Sl.none _ _ _ _⟩,H3.Ac⟩
 exact⟨wV,wV,wV,wV,wV,wV,wV,wV,trivial⟩
 rcases HZ.place (i:=1) (g:=b) (by cases hb;rfl)with h | h
 cases h
 exact h
theorem SY (w0:World):zP Tryz.prog 15 #[] w0 (fun r w'=>∃ cs,r=.agg cs.toArray∧Hl w' (fun x=>w0.heap.size≤x) cs Bo.empty∧Hp w0 w' [] []):=by
 refine zE Tryz.func15 Tryz.ntmps15 Y<|cR e3 ?_
 have H:=Hp.refl w0
 refine Rq<|OA xQ H<|fun w1 g1 H1 hg1=>Xr e3<|Rq<|fF Tryz.underlying37 xW H1 (n:=8) (c:=8) Y Y (Nat.le_refl _) (by decide) (by decide)<|fun w2 ge H2 _=>OV (EB xQ RX Y Y)<|OS xQ H2 0 (vs:=[.slice (hd (some ge)) 8 8,.slice none 0 0,.slice none 0 0]) Y Y Y Y Y (Nat.le_refl 3) Y<|fun w3 H3=>Xr e3<|J5<|uM Y xQ (cs:=[.slice (hd (some ge)) 8 8,.slice none 0 0,.slice none 0 0]) Y Y (H3.Ad (i:=0) Y Y) ?_
 have HZ:Hp w0 w3 [] [((some g1,41,[.slice (hd (some ge)) 8 8,.slice none 0 0,.slice none 0 0]):Ent),((some ge,97,(List.replicate 8 [.int .i64 0,.int .i64 0,.slice none 0 0,.int .i64 0,.slice none 0 0,.slice none 0 0]).flatten++[]):Ent)]:=by rw[List.append_nil];exact H3
 refine⟨_,Y,⟨hd (some ge),8,none,0,none,0,Y,Sl.row HZ (i:=1) Y (fun p hp=>by rw[(List.mem_replicate.1 hp).2];rfl) (by decide) ?_ (fun b hb=>?_),Sl.none _ _ _ _,Sl.none _ _ _ _⟩,H3.Ac⟩
 exact⟨wV,wV,wV,wV,wV,wV,wV,wV,trivial⟩
 rcases HZ.place (i:=1) (g:=b) (by cases hb;rfl)with h | h
 cases h
 exact h
theorem MD (A:Option Addr) (k:Nat) (l:List Nt) (Es:Nat→Prop) (w0:World) (hl:Sl (NtR w0 Es) 16 w0 Es A l) (hn:l.length≤840000000000):zP Tryz.prog 33 #[.slice A l.length k] w0 (fun r w'=>∃ cs e b,r=.tuple #[.agg cs.toArray,.int .i64 e]∧Hl w' (fun x=>w0.heap.size≤x) cs b∧Rep l b e∧Hp w0 w' [] []):=by
 refine zE Tryz.func33 Tryz.ntmps33 Y<|cR e20 ?_
 have H:=Hp.refl w0
 obtain⟨ps,hp,hr,ha,h2⟩:=id hl
 have hlen:=h2.len
 refine Rq<|OA xQ H<|fun w1 gr H1 hgr=>Xa Y<|Xr e20<|Rq ?_
 have Tq:=Hp.fresh H1
 have hszr:=H1.size
 refine OQ (EC gf29 Y) (IY _) ?_
 rintro _ w2 ⟨cse,rfl,hbe,Hd⟩
 have H2:=H1.Af Hd
 have hcl:∃ a b c d e f,cse=[.slice a 8 b,.slice c 0 d,.slice e 0 f]:=by
  obtain⟨_,_,_,_,_,_,rfl,_⟩:=hbe
  exact⟨_,_,_,_,_,_,Y⟩
 obtain⟨z1,y1,z2,y2,z3,y3,rfl⟩:=hcl
 have HB0:=H2
 have HL0:=HB0.here
 refine OA xQ HL0<|fun w3 gb H3 hgb=>OS xQ H3 1 Y Y Y Y Y (by first|exact NL Y|simp[zH]) Y<|fun w4 H4=>Xr e20<|J1<|Rq<|Xm Y<|OV (ES Tryz.underlying22 Y)<|Xm Y<|Xr e20<|J7<|zU (fun nQ lQ w=>∃ (i:Nat) (y:Int) (b:Bo) (cs:List Value),l.length - i=nQ∧xN (Dj [(2,.pointer (some ⟨gr,0,none⟩)),(4,.pointer (some ⟨gb,0,none⟩)),(8,.slice A l.length k),(9,.int .i64 (l.length:Int)),(10,.int .i64 y)] 0 20) lQ∧y=(i:Int)∧i≤l.length∧vR Bo.empty (l.take i)=some b∧rJ b i∧Hl w (fun x=>w0.heap.size≤x∧x≠gr∧x≠gb) cs b∧Hp w0 w [] [((some gr,41,[.slice none 0 0,.slice none 0 0,.slice none 0 0]):Ent),(some gb,41,cs)]) (l.length) ?_ ?_
 exact⟨0,_,Bo.empty,_,rfl,(Ez rfl rfl rfl rfl rfl rfl),rfl,Nat.zero_le _,rfl,rJ.empty,hbe.to H4 (fun x hx hl=>⟨Tq x hx,by omega,fun e=>by subst e;have h1:=H4.lt (i:=0) rfl;have h2:=Tq _ hx;exact h2 (by simp[bl]),by omega⟩),(HB0.all H4).pick [0,1] (by decide)⟩
 rintro nQ lQ w5 ⟨i,y,b,cs,rfl,hfit,rfl,hi,hrep,hgood,Ue,H5⟩
 obtain⟨j,rfl⟩:=hfit.open
 refine cR e20 ?_
 clear hfit
 have HB:=H5
 replace H5:=HB.here
 obtain⟨X1,x1,X2,x2,X3,x3,rfl,hx1,hx2,hx3⟩:=Ue
 refine Rq<|OT (zQ Y Y) (fun hp11=>?_) (fun hp11=>?_)
 have hil:i < l.length:=by omega
 obtain⟨nt,hx⟩:=yM hil
 obtain⟨p1,hp1,hR⟩:=h2.get hx
 obtain⟨B1,j1,B2,j2,rfl,hbv,Ih⟩:=hR
 obtain⟨a1,ha1⟩:=hr.some_ (by omega)
 subst ha1
 refine Xr e20<|J1<|J3 Y<|J6<|J1<|J7<|Rq<|OV (EI Tryz.underlying22 xE Y Y Y hil Y)<|OV (EN xE Y (vs:=[.int .i64 nt.kind,.int .i64 nt.group,.int .i64 nt.b.r,.int .i64 nt.b.n,.int .i64 nt.Ag.slot,.int .i64 nt.Ag.b.r,.int .i64 nt.Ag.b.n,.slice B1 nt.Ag.val.length j1,.int .i64 nt.entry.slot,.slice B2 nt.entry.val.length j2,.int .i64 nt.right.g,yC nt.right.key,.int .i64 nt.right.Ai,.int .i64 nt.right.net,.int .i64 nt.client,.int .i64 nt.seq]) Y ((hr.to0 (HB.all H5)).elem hp hp1))<|OA xE H5<|fun w6 g6 H6 Vo=>OS xE H6 2 Y Y Y Y Y (by first|exact NL Y|simp[zH]) Y<|fun w7 H7=>Xr e20<|Rq<|OV (EN xE Y (vs:=[.int .i64 nt.kind,.int .i64 nt.group,.int .i64 nt.b.r,.int .i64 nt.b.n,.int .i64 nt.Ag.slot,.int .i64 nt.Ag.b.r,.int .i64 nt.Ag.b.n,.slice B1 nt.Ag.val.length j1,.int .i64 nt.entry.slot,.slice B2 nt.entry.val.length j2,.int .i64 nt.right.g,yC nt.right.key,.int .i64 nt.right.Ai,.int .i64 nt.right.net,.int .i64 nt.client,.int .i64 nt.seq]) Y (H7.Ad (i:=2) Y Y)) ?_
 have HP:=H7
 have hkb:∀ x,(fun x=>w0.heap.size≤x∧x≠gr∧x≠gb) x→x∉bl [((some gr,0,[]):Ent),(some gb,0,[])]∧(fun x=>w0.heap.size≤x∧x≠gr∧x≠gb) x:=fun x hx=>⟨fun hb=>by
  have:x=gr∨x=gb:=by simpa[bl]using hb
  rcases this with h | h
  · exact hx.2.1 h
  · exact hx.2.2 h,hx⟩
 have hkl:∀ x,Es x→x < w0.heap.size→x∉([]:List Nat)∧(Es x∧x < w0.heap.size):=fun x hx hl=>⟨by simp,hx,hl⟩
 have hgr0:=HB.place (i:=0) rfl
 have Xk:=HB.place (i:=1) rfl
 have hnp:=Hp.fresh H7
 have Ol:=(HB.all H7).size
 refine OQ (EC SO rfl) (BU none gb b X1 x1 X2 x2 X3 x3 nt B1 j1 B2 j2 (fun x=>Es x∧x < w0.heap.size) i _ (H7.at (i:=1) rfl) (fun x=>w0.heap.size≤x∧x≠gr∧x≠gb) (fun hh=>hh.2.2 rfl) (hx1.toS H7 fun x hx _=>hkb x hx) (hx2.toR H7 fun x hx _=>hkb x hx) (hx3.toM H7 fun x hx _=>hkb x hx) (fun hh=>by rcases Xk with h | h;cases h;have:=hh.2;omega) (hbv.to (HB.all H7) hkl) (Ih.to (HB.all H7) hkl) hgood (by omega)) ?_
 rintro r w8 ⟨hyes,hno⟩
 have htk:=qB hrep hx
 cases hin:b.into nt
 obtain⟨rfl,Hd⟩:=hno hin
 have Rh:=(HP.Am [1] rfl Hd).pick [0] (by decide)
 refine Xn Y<|Xr e20<|J3 Y<|Rq<|OV (EB xQ RX Y Y)<|OS xQ Rh 0 Y Y Y Y Y (by decide) Y<|fun w9 H9=>Xa Y<|Xr e20<|J5<|BR<|yR<|BR<|xO Y xQ (cs:=[.slice none 0 0,.slice none 0 0,.slice none 0 0]) Y Y Y (H9.Ad (i:=0) Y Y)<|⟨_,_,Bo.zero,Y,Hl.zero _ _,.inr ⟨kD (htk.trans hin),Y,Y⟩,(HB.all H9).Ac⟩
 obtain⟨rfl,cs',Hd,hB'⟩:=hyes _ hin
 have Rh:=(HP.Am [1] rfl Hd).pick [0,3] (by decide)
 refine Xn Y<|Xr e20<|J4 Y<|J6<|zA (zB ?_)
 refine J2<|OV (zL Y Y (IntWalk.i64_in _ (by omega)))<|Xm Y<|Xr e20<|zA (zI ?_)
 refine⟨l.length - (i+1),by omega,i+1,_,_,cs',Y,(Ez Y Y Y Y Y Y),by omega,by omega,htk.trans hin,hgood.into hin,hB'.to (Hp.refl _) (fun x hx hl=>⟨by simp,?_⟩),(HB.all Rh).pick [0,1] (by decide)⟩
 rcases hx with hx | hx
 exact hx
 exact⟨by omega,fun e=>by subst e;have:=HP.lt (i:=0) rfl;omega,fun e=>by subst e;have:=HP.lt (i:=1) rfl;omega⟩
 obtain rfl:i=l.length:=by omega
 refine Xr e20<|J1<|J4 Y<|J8<|zT<|zS<|Rq<|OV (EN xQ Y (vs:=[.slice X1 b.groups.length x1,.slice X2 b.rights.length x2,.slice X3 b.last.length x3]) Y (H5.Ad (i:=1) Y Y))<|OS xQ H5 0 Y Y Y Y Y (Nat.le_refl 3) Y<|fun w6 H6=>Xa Y<|Xr e20<|J5<|xO Y xQ (cs:=[.slice X1 b.groups.length x1,.slice X2 b.rights.length x2,.slice X3 b.last.length x3]) Y Y Y (H6.Ad (i:=0) Y Y) ?_
 rw[List.take_length]at hrep
 refine⟨_,_,b,Y,Hl.to (ok:=(fun x=>w0.heap.size≤x∧x≠gr∧x≠gb)) ⟨X1,x1,X2,x2,X3,x3,Y,hx1,hx2,hx3⟩ H6 (fun x hx hl=>⟨fun hb=>?_,hx.1⟩),.inl ⟨hrep,Y,hgood⟩,(HB.all H6).Ac⟩
 have:x=gr∨x=gb:=by simpa[bl]using hb
 rcases this with h | h
 exact hx.2.1 h
 exact hx.2.2 h
end Go.Proofs.YtjoeklkmnfaabaaGreat
namespace Go.Proofs.YtjoeklkmnfaabaaGreat
set_option maxRecDepth 100000
set_option maxHeartbeats 4000000
open Go Go.RowKit
set_option linter.unusedVariables false
attribute [local irreducible] yT Ops zP Cd
theorem pl69 :wY Tryz.prog 69=some [(0,1),(1,3)]:=by kernel_rfl
namespace Rn
attribute [local irreducible] Cd
theorem Pz (gd gk:Nat) (gw:Option Nat) (cw:Nat) (sp:List Value) (D:Dk) (w0:World) (H0:Hp w0 w0 (bl (xC gd gk gw cw sp D)) (xC gd gk gw cw sp D)) (hD:Hw D gw cw sp) (hup:D.down=false) (hwt:D.wait.length≤1000000000) (W:Wl) (s:Nat) (Me:Lg D.show D.kept.length W s) (ht:W.told=W.recs.length) (htu:W.turn≤2^50) (hfi:W.first≤2^50) (L:List Nt) (hL:W.recs=L.map xG) (hNt:∀ n∈L,NtB n∧Gn n=0) (b:Bo) (hrep:vR Bo.empty L=some b) (hn:L.length≤100000):rV Tryz.prog 7 #[.pointer (some ⟨gd,0,none⟩)] w0 (fun r w'=>∃ (v:Vm) (W':Wl),r=.tuple #[.pointer (some ⟨v.gx,0,none⟩),.int .i64 0]∧v.m.gd=gd∧v.m.gk=gk∧W'.recs=W.recs∧W'.first=W.first∧W'.turn=W.turn∧W'.told=W'.recs.length∧W'.dead=false∧Lg D.show D.kept.length W' s∧Px w' v D W' b (fun x=>x < w0.heap.size∨x∈bl (Aj v D W'))∧Hp w0 w' (bl (xC gd gk gw cw sp D)) (Aj v D W')) (fun _ _=>False):=by
 refine zE Tryz.func7 Tryz.ntmps7 Y ?_
 change Run _ _ _ _ [.pointer (some ⟨gd,0,none⟩),undef,undef,undef,undef,undef,undef,undef,undef,undef,undef,undef,undef,undef,undef,undef,undef,undef,undef,undef,undef,undef,undef,undef,undef,undef,undef,undef,undef,undef,undef,undef,undef,undef,undef,undef,undef,undef,undef,undef,undef,undef,undef] _
 have H:=H0
 refine zN<|zJ Y (fun _ _ h=>h)<|OA FA H<|fun w1 g2 H1 hg2=>OA pR H1<|fun w2 g3 H2 hg3=>OE ?_
 change Run _ _ _ _ [_,_,_,_,_,_,_,_,_,_,_,_,_,_,_,_,_,_,_,_,_,_,_,_,_,_,_,_,_,_,_,_,_,_,_,_,_,_,_,_,_,_,_] _
 refine zN<|zJ Y (fun _ _ h=>h)<|Xm Y<|OQ (EC gf28 Y) (FO gd gk gw cw sp D _ (H2.pick [0,1,2] (by decide)).here hD hup hwt W s Me ht htu hfi) ?_
 have hszo:=H2.size
 have hg2o:=H2.lt (i:=3) rfl
 have hg3o:=H2.lt (i:=4) rfl
 rintro _ w3 ⟨m,W1,rfl,e1,e2,hxs,hok,Hd,f1,f2,f3,f4,f5,X5⟩
 have H3:=(H2.Am [0,1,2] rfl Hd).pick [5,6,7,8,9,10,3,4] (by decide)
 have hls1:=Lu.new hxs hok
 have hb8:∀ x∈bl (Ah m D W1++[((some g2,23,[.pointer none]):Ent),(some g3,24,[.int .i64 (0:Int)])]),x < w2.heap.size∨x∈bl (Ah m D W1)∨w3.heap.size≤x:=fun x hx=>by
  rw[uI]at hx
  rcases List.mem_append.1 hx with hx | hx
  · exact .inr (.inl hx)
  · have h1:x=g2∨x=g3:=by simpa[bl]using hx
    rcases h1 with rfl | rfl
    · exact .inl hg2o
    · exact .inl hg3o
 refine Xm Y<|Xe Y Y<|Aa e43<|Xe Y Y<|Xa Y<|Xa Y<|OE ?_
 change Run _ _ _ _ [_,_,_,_,_,_,_,_,_,_,_,_,_,_,_,_,_,_,_,_,_,_,_,_,_,_,_,_,_,_,_,_,_,_,_,_,_,_,_,_,_,_,_] _
 refine zN<|zN<|zJ Y (fun _ _ h=>h)<|Xm Y<|Dy (yS Y Y) (by decide)<|OE ?_
 change Run _ _ _ _ [_,_,_,_,_,_,_,_,_,_,_,_,_,_,_,_,_,_,_,_,_,_,_,_,_,_,_,_,_,_,_,_,_,_,_,_,_,_,_,_,_,_,_] _
 refine zW Y<|xH<|zN<|zJ Y (fun _ _ h=>h)<|Xm Y ?_
 have HE:=H3
 obtain⟨z0,hz0⟩:∃ z,z=w3.heap.size:=⟨_,rfl⟩
 refine OQ (EC gf29 Y) (IY _) ?_
 rintro _ w4 ⟨_,rfl,⟨E1,e1',E2,e2',E3,e3',rfl,hE1,hE2,hE3⟩,Hd0⟩
 have H4:=H3.Af Hd0
 have HW:=H4
 replace H4:=HW.here
 refine OV (EB ty69 pl69 Y Y)<|yA Y Y H4<|fun w5 gx H5 hgx=>Aa e43<|OA FA H5<|fun w6 g6 H6 Vo=>OW FA H6 9 Y Y Y Y (by decide) Y<|fun w7 H7=>OE ?_
 change Run _ _ _ _ [_,_,_,_,_,_,_,_,_,_,_,_,_,_,_,_,_,_,_,_,_,_,_,_,_,_,_,_,_,_,_,_,_,_,_,_,_,_,_,_,_,_,_] _
 refine zN<|zN<|zJ Y (fun _ _ h=>h)<|Xm Y<|OQ (EC gf30 Y) (TD (.pointer (some ⟨m.gv,0,none⟩)) _ Y) ?_
 rintro r wS ⟨gb,hr,Hc⟩
 rw[hr]
 have Vy:=H7.call0 Hc
 refine OE ?_
 change Run _ _ _ _ [_,_,_,_,_,_,_,_,_,_,_,_,_,_,_,_,_,_,_,_,_,_,_,_,_,_,_,_,_,_,_,_,_,_,_,_,_,_,_,_,_,_,_] _
 refine wH ?_
 have HS:=HW.all Vy
 have hszS:=HS.size
 have hszE:=HE.size
 have hz6:=Hd0.size
 rw[← hz0]at hz6
 have hS8:∀ x∈bl (Ah m D W1++[((some g2,23,[.pointer none]):Ent),(some g3,24,[.int .i64 (0:Int)])]),x < z0:=fun x hx=>by rw[hz0];exact oE HE hx
 have hgx0:=lK Vy 8 rfl (fun p hp=>by simp only[hd,Option.map_some,Option.some.injEq]at hp;subst hp;exact Bh Vy (i:=8) rfl (is:=[0,1,2,3,4,5,6,7]) (by decide)) ⟨gx,0,none⟩ rfl
 have hg60:=lK Vy 9 rfl (fun p hp=>by simp only[hd,Option.map_some,Option.some.injEq]at hp;subst hp;exact Bh Vy (i:=9) rfl (is:=[0,1,2,3,4,5,6,7]) (by decide)) ⟨g6,0,none⟩ rfl
 simp only at hgx0 hg60
 have hgxl:=HS.lt (i:=8) rfl
 have hg6l:=HS.lt (i:=9) rfl
 have hgbl:=HS.lt (i:=10) rfl
 have hgvl:=HS.lt (i:=3) rfl
 have hne1:gx≠gb:=HS.ne (i:=8) (j:=10) rfl rfl (by decide)
 have hne2:g6≠gb:=HS.ne (i:=9) (j:=10) rfl rfl (by decide)
 have hne3:gx≠m.gv:=HS.ne (i:=8) (j:=3) rfl rfl (by decide)
 have hne4:g6≠m.gv:=HS.ne (i:=9) (j:=3) rfl rfl (by decide)
 have Wy:∀ x∈Nc m.xs,x < z0:=fun x hx=>by rw[hz0];exact MG hok.lst x hx
 have hkE:∀ x,z0≤x→x < w4.heap.size→x∉bl (Ah m D W1++[((some g2,23,[.pointer none]):Ent),(some g3,24,[.int .i64 (0:Int)])])∧(z0≤x∧x∉[gx,g6]):=fun x hx hl=>⟨fun hb=>by have:=hS8 x hb;omega,hx,fun hm=>by
  simp only[List.mem_cons,List.not_mem_nil,or_false]at hm
  omega⟩
 have ZN:=(hls1.keep Hd0 (fun _ hb=>by cases hb) (fun _ hb _=>hb)).keep Vy (fun x hx=>hb8 x hx) (fun _ hb _=>hb)
 have hokS:Eo wS m D W1:={ hok with lst:=ZN.lsw (fun x hx=> .inr (.inl hx)) }
 have HS89:Hp wS wS [gx,g6] [((some gx,69,.pointer (some ⟨m.gv,0,none⟩)::[.slice E1 Bo.empty.groups.length e1',.slice E2 Bo.empty.rights.length e2',.slice E3 Bo.empty.last.length e3']):Ent),(some g6,23,[.pointer (some ⟨gx,0,none⟩)])]:=(HS.pick [8,9] (by decide)).here
 rw[← hz0]at hE1 hE2 hE3
 have hbE:Hl wS (fun x=>(z0≤x∧x∉[gx,g6])∧isC wS x) [.slice E1 Bo.empty.groups.length e1',.slice E2 Bo.empty.rights.length e2',.slice E3 Bo.empty.last.length e3'] Bo.empty:=⟨E1,e1',E2,e2',E3,e3',rfl,(hE1.toS Vy hkE).Jv (by decide) fun _ _ h=>h.Jv,(hE2.toR Vy hkE).Jv (by decide) fun _ _ h=>h,(hE3.toM Vy hkE).Jv (by decide) fun _ _ h=>h⟩
 refine aG (ps:=[25,26]) (gf:=60) (lb:=[.pointer (some ⟨gb,0,none⟩)]) (N:=W1.recs.length) (B:=(gb::m.gv::Nc m.xs)) Tryz.func7 Y gf60
  (It:=US wS.heap.size W1)
  (fun w1 Hw1=>P6 gb m D W1 w1 ((HS.Af Hw1).pick [0,1,2,3,4,5] (by decide)).here (hokS.Yw Hw1) ((HS.Af Hw1).cell (i:=10) (o:=0) rfl rfl) wS.heap.size Hw1.size)
  (fun x hx=>by
   simp only[List.mem_cons]at hx
   rcases hx with rfl | rfl | hx
   · exact hgbl
   · exact hgvl
   · have:=Wy x hx;omega)
  (fun k W2 O=>∃ (cs:List Value) (bk:Bo),O=[gx,g6]∧vR Bo.empty (L.take k)=some bk∧Hl W2 (fun x=>(z0≤x∧x∉[gx,g6])∧isC W2 x) cs bk∧Hp wS W2 [gx,g6] [((some gx,69,.pointer (some ⟨m.gv,0,none⟩)::cs):Ent),(some g6,23,[.pointer (some ⟨gx,0,none⟩)])])
  (fun _ _=>False) (fun _ _=>False)
  [gx,g6]
  (fun x hx=>by
   simp only[List.mem_cons,List.not_mem_nil,or_false]at hx
   rcases hx with rfl | rfl
   · exact EM hne1 hne3 (fun h9=>by have:=Wy _ h9;omega)
   · exact EM hne2 hne4 (fun h9=>by have:=Wy _ h9;omega))
  (fun l args=>((l.set 25 (args.getD 0 undef)).set 26 (args.getD 1 undef)).set 8 (args.getD 1 undef))
  (fun k W2 O hJ x hx=>by
   obtain⟨cs,bk,rfl,_,_,HJ⟩:=hJ
   exact sE HJ x hx)
  (fun k W2 O W3 L' hJ hL' HL hnl=>by
   obtain⟨cs,bk,rfl,h1,h2,HJ⟩:=hJ
   refine⟨cs,bk,Y,h1,h2.to HL (fun x hx _=>?_),HJ.loop HL hnl hL'⟩
   have hxL:x∉[L']:=fun hm=>by
    obtain⟨arr,T,z,hz⟩:=hx.2
    rw[List.mem_singleton.1 hm]at hz
    exact hnl _ _ _ hz
   exact⟨hxL,hx.1,hx.2.to HL hxL⟩)
  (fun _ _ _ _ hx=>hx.elim)
  (fun k W2 args G hI=>by
   obtain⟨bb,g,cap,sp',i1,rfl,i2,i3,i4,rfl,i5,i6⟩:=hI
   refine⟨Y,sE i5,fun W3 L' HL hL' hnl=>⟨bb,g,cap,sp',i1,Y,i2,i3,i4,Y,?_,i6⟩⟩
   exact(((i5.widen (S':=bl [((g,5,u8s bb++sp'):Ent)]++[L']) (fun x hx=>List.mem_append.2 (.inl hx))).past HL (fun x hx=> .inl (List.mem_append.2 (.inr hx))) (fun x hx hx2=>by
    obtain⟨arr,T,z,hz⟩:=sE i5 x hx
    rw[List.mem_singleton.1 hx2]at hz
    exact hnl _ _ _ hz))).here)
  ⟨_,Bo.empty,rfl,rfl,hbE,HS89⟩ ?_ ?_ ?_ (fun _ _ _ hx=>hx.elim) (fun _ _ _ hx=>hx.elim)
 rintro k W2 args G L' ⟨bb,gn,cn,sn,_,rfl,_⟩
 change Run _ _ _ _ [_,_,_,_,_,_,_,_,_,_,_,_,_,_,_,_,_,_,_,_,_,_,_,_,_,_,_,_,_,_,_,_,_,_,_,_,_,_,_,_,_,_,_] _
 refine zJ Y (fun _ _ h=>(by cases h.1))<|Xa Y<|OE ?_
 change Run _ _ _ _ [_,_,_,_,_,_,_,_,_,_,_,_,_,_,_,_,_,_,_,_,_,_,_,_,_,_,_,_,_,_,_,_,_,_,_,_,_,_,_,_,_,_,_] _
 refine zA<|⟨Y,Y,Y,Y⟩
 rintro k W2 O args G L' hk ⟨cs,bk,rfl,hrk,Zb,HJ⟩ ⟨bb,gn,cn,sn,hbk,rfl,i2,i3,i4,rfl,i5,i6⟩ hGO
 obtain⟨X1,x1,X2,x2,X3,x3,rfl,hx1,hx2,hx3⟩:=id Zb
 have hkL:k < L.length:=by rw[f1,hL,List.length_map]at hk;exact hk
 obtain⟨nt,hx⟩:=yM hkL
 obtain rfl:xG nt=bb:=by
  rw[f1,hL,List.getElem?_map,hx]at hbk
  exact Option.some.inj hbk
 have hnt:=hNt nt (mem_of hx)
 obtain⟨hr0,hgot⟩:=R6 hnt.1 hnt.2
 obtain⟨b3,hin⟩:∃ b3,bk.into nt=some b3:=by
  obtain⟨c,hc⟩:=eA (k+1) hrep
  exact⟨c,(qB hrk hx).symm.trans hc⟩
 have hgood:rJ bk k:=by
  have h9:=rJ.Oe rJ.empty hrk
  rw[Nat.zero_add,List.length_take,Nat.min_eq_left (by omega)]at h9
  exact h9
 have hszJ:=HJ.size
 have HB:=HJ.here
 change Run _ _ _ _ [_,_,_,_,_,_,_,_,_,_,_,_,_,_,_,_,_,_,_,_,_,_,_,_,_,_,_,_,_,_,_,_,_,_,_,_,_,_,_,_,_,_,_] _
 refine wH<|zN<|zJ Y (fun _ _ h=>h)<|Xm Y<|BI (EC gf31 Y) (R5 (hd gn) (xG nt) cn _ (i5.rd (i:=0) (o:=gn) (xs:=u8s (xG nt)) (sp:=sn) Y (yV _) (by decide)) (by have:=kI nt;omega))<|fun w8 cr hM Hd=>?_
 rw[hgot]at hM
 rw[hr0]
 have hvl:=KK hnt.2
 have hnr:=M_nt hM hvl.1 hvl.2
 obtain⟨B1,j1,B2,j2,rfl,hbv,hbe⟩:=hnr
 have HR1:=HB.Af Hd
 have H8:=HR1.here
 refine Xm Y<|Xe Y Y<|Aa e43<|Xe Y Y<|OA xE H8<|fun w9 g9 H9 WQ=>OS xE H9 2 Y Y Y Y Y (Nat.le_refl 16) Y<|fun w10 Ar=>Xa Y<|OE ?_
 change Run _ _ _ _ [_,_,_,_,_,_,_,_,_,_,_,_,_,_,_,_,_,_,_,_,_,_,_,_,_,_,_,_,_,_,_,_,_,_,_,_,_,_,_,_,_,_,_] _
 refine zN<|zR 9 [(true,0),(true,1),(true,2),(true,3),(true,4),(true,5),(true,6),(false,7),(true,8),(false,9)] Ar [1,2] yG (by decide) (by kernel_rfl) Y ?_
 rintro Gm hw11
 have Bd:=Hp.drew Ar;rw[← hw11]at Bd
 refine Zm Y Y<|MP Y<|tW (fun wz hz=>yS Y Y) (by decide)<|Zm Y Y<|MP Y<|MY Y<|MV (fun wz hz=>EL FA Y (hz.cell (i:=0) Y Y))<|cZ e43<|MP Y<|MY Y<|MV (fun wz hz=>yI Y)<|MP Y<|MY Y<|MV (fun wz hz=>EF jY Y)<|MP Y<|MY Y<|MV (fun wz hz=>EN xE Y (vs:=[.int .i64 nt.kind,.int .i64 nt.group,.int .i64 nt.b.r,.int .i64 nt.b.n,.int .i64 nt.Ag.slot,.int .i64 nt.Ag.b.r,.int .i64 nt.Ag.b.n,.slice B1 nt.Ag.val.length j1,.int .i64 nt.entry.slot,.slice B2 nt.entry.val.length j2,.int .i64 nt.right.g,yC nt.right.key,.int .i64 nt.right.Ai,.int .i64 nt.right.net,.int .i64 nt.client,.int .i64 nt.seq]) Y (hz.Ad (i:=1) Y Y))<|MO Y<|OY Y ?_
 have hHg:=Bd
 have hszg:=Bd.size
 have hszR:=HR1.size
 have hkX:∀ x,((z0≤x∧x∉[gx,g6])∧isC W2 x)→x < W2.heap.size→x∉[gx,g6]∧(z0≤x∧x∉[gx,g6]):=fun x hx _=>⟨hx.1.2,hx.1⟩
 have hkn:∀ x,W2.heap.size≤x→x∉[gx,g6]∧W2.heap.size≤x:=fun x hx=>⟨fun hm=>by
  have h1:=HJ.lt (i:=0) rfl
  have h2:=HJ.lt (i:=1) rfl
  simp only[List.mem_cons,List.not_mem_nil,or_false]at hm
  omega,hx⟩
 have HX:=HR1.all Bd
 refine OQ (EC SO Y) (BU (some (.pointer (some ⟨m.gv,0,none⟩))) gx bk X1 x1 X2 x2 X3 x3 nt B1 j1 B2 j2 (fun x=>W2.heap.size≤x) k _ (Bd.at (i:=0) Y) (fun x=>z0≤x∧x∉[gx,g6]) (fun hh=>hh.2 (by simp)) (hx1.toS HX hkX) (hx2.toR HX hkX) (hx3.toM HX hkX) (fun hh=>by have:=HJ.lt (i:=0) Y;omega) (hbv.to Bd fun x hx _=>hkn x hx.1) (hbe.to Bd fun x hx _=>hkn x hx.1) hgood (by omega)) ?_
 rintro r w12 ⟨hyes,_⟩
 obtain⟨rfl,cs',Hd2,hB'⟩:=hyes _ hin
 have Bc:=(hHg.Am [0] rfl Hd2).pick [3,1,2] (by decide)
 refine OE ?_
 refine⟨fun hne=>Bc.pick [1,2] (by decide),?_⟩
 refine cZ e43<|MP Y<|MY Y<|MV (fun wz hz=>iA Y)<|MO Y<|Xu Y Y<|OE<|⟨fun hne=>absurd Y hne,?_⟩
 refine cZ e43<|ME ?_
 change Run _ _ _ _ [_,_,_,_,_,_,_,_,_,_,_,_,_,_,_,_,_,_,_,_,_,_,_,_,_,_,_,_,_,_,_,_,_,_,_,_,_,_,_,_,_,_,_] _
 refine zW Y<|xH<|zA (zB ?_)
 refine zA ?_
 have HZ:=Bc.pick [0,1] (by decide)
 have hHz:=HR1.all HZ
 have hszz:=hHz.size
 refine⟨Y,hHz.Ac.widen (fun x hx=>List.mem_append.2 (.inl hx)),_,fun x hx=> .inl (List.mem_append.2 (.inl hx)),cs',b3,Y,(qB hrk hx).trans hin,?_,HJ.all hHz⟩
 refine(hB'.Jv).to (Hp.refl _) (fun x hx _=>⟨by simp,⟨?_,?_⟩,hx.2⟩)
 rcases hx.1 with h1 | h1
 exact h1.1
 omega
 rcases hx.1 with h1 | h1
 exact h1.2
 intro hm
 have h2:=HJ.lt (i:=0) rfl
 have h3:=HJ.lt (i:=1) rfl
 simp only[List.mem_cons,List.not_mem_nil,or_false]at hm
 omega
 rintro Dm W2 O ⟨cs,bk,rfl,hrk,Zb,HJ⟩ Vs hDl
 have hNl:W1.recs.length=L.length:=by rw[f1,hL,List.length_map]
 rw[hNl,List.take_length,hrep]at hrk
 obtain rfl:b=bk:=Option.some.inj hrk
 have HF:=(HS.Am [8,9] rfl HJ).pick [0,1,2,3,4,5,6,7,11,12] (by decide)
 have HFh:=HF.here
 refine zA (zB ?_)
 refine zN<|zJ Y (fun _ _ h=>h)<|OV (EL FA Y (HFh.cell (i:=9) Y Y))<|OW FA HFh 6 Y Y Y Y (by simp) Y<|fun w8 H8=>OW pR H8 7 Y Y Y Y (by simp) Y<|fun w9 H9=>OE ?_
 change Run _ _ _ _ [_,_,_,_,_,_,_,_,_,_,_,_,_,_,_,_,_,_,_,_,_,_,_,_,_,_,_,_,_,_,_,_,_,_,_,_,_,_,_,_,_,_,_] _
 refine wF ?_
 have Rf:=keepD Vs H9 (fun x hx=>sE HF x hx)
 have H8:=(HF.all H9).loop (Hp.Qi (.deferred none) Rf) (NG Rf) (by omega)
 refine⟨Dm,_,Y,run_takeDeferred Rf,_,jB Y FA pR Y Y (H8.cell (i:=6) (o:=0) Y Y) (H8.cell (i:=7) (o:=0) Y Y),⟨m,gx,cs⟩,W1,Y,e1,e2,f1,f2,f3,by rw[f4,f1],f5,X5,?_,H8.pick [0,1,2,3,4,5,8] (by decide)⟩
 have hdn:∀ arr T z,w9.heap[Dm]?≠some (.cells arr T z):=NG Rf
 have hrF:∀ x,x∈bl ((Ah m D W1++[((some g2,23,[.pointer none]):Ent),(some g3,24,[.int .i64 (0:Int)])])++[((some gx,69,.pointer (some ⟨m.gv,0,none⟩)::cs):Ent),(some g6,23,[.pointer (some ⟨gx,0,none⟩)])])→x < z0∨x=gx∨x=g6:=fun x hx=>by
  rw[uI]at hx
  rcases List.mem_append.1 hx with hx | hx
  · exact .inl (hS8 x hx)
  · have h1:x=gx∨x=g6:=by simpa[bl]using hx
    exact .inr h1
 have hbF:∀ x,x∈bl ((Ah m D W1++[((some g2,23,[.pointer none]):Ent),(some g3,24,[.int .i64 (0:Int)])])++[((some gx,69,.pointer (some ⟨m.gv,0,none⟩)::cs):Ent),(some g6,23,[.pointer (some ⟨gx,0,none⟩)])])→x < w2.heap.size∨x∈bl (Ah m D W1)∨w3.heap.size≤x:=fun x hx=>by
  rw[uI]at hx
  rcases List.mem_append.1 hx with hx | hx
  · exact hb8 x hx
  · have h1:x=gx∨x=g6:=by simpa[bl]using hx
    right;right;omega
 have hls:=((ZN.keep HJ (fun x hx=> .inr (.inr (by simp only[List.mem_cons,List.not_mem_nil,or_false]at hx;omega))) (fun x hx _=>hx)).keep H9 (fun x hx=>hbF x hx) (fun x hx _=>hx)).loop (Hp.Qi (.deferred none) Rf) hdn
 have hbo2:=(Zb.to H9 (ok':=fun x=>(z0≤x∧x∉[gx,g6])∧isC w9 x) (fun x hx _=>by
  have h1:x∉bl _:=fun hb=>by
   rcases hrF x hb with h2 | h2
   · have:=hx.1.1;omega
   · exact hx.1.2 (by simpa using h2)
  exact⟨h1,hx.1,hx.2.to H9 h1⟩)).to (Hp.Qi (.deferred none) Rf) (ok':=fun x=>¬(x < w0.heap.size∨x∈bl (Aj ⟨m,gx,cs⟩ D W1))) (fun x hx _=>⟨fun hm=>by
  obtain⟨arr,T,z,hz⟩:=hx.2
  rw[List.mem_singleton.1 hm]at hz
  exact hdn _ _ _ hz,fun hb=>by
  rcases hb with hb | hb
  · have:=hx.1.1;omega
  · rw[uI]at hb
    rcases List.mem_append.1 hb with hb | hb
    · have:=hS8 x (Dt hb);have:=hx.1.1;omega
    · have h1:x=gx:=by simpa[bl]using hb
      exact hx.1.2 (by simp[h1])⟩)
 have ZO:Lu (w9.putObj Dm (.deferred none)) (fun x=>x < w0.heap.size∨x∈bl (Aj ⟨m,gx,cs⟩ D W1)) m.xs W1.recs:=hls.keep (Hp.refl _) (fun _ hb=>by cases hb) (fun x hb _=>by
  rcases hb with hb | hb
  · left;omega
  · rw[uI]at hb
    rcases List.mem_append.1 hb with hb | hb
    · exact .inr (.inl hb)
    · have h1:x=gx:=by simpa[bl]using hb
      right;right;omega)
 exact⟨{ hok with lst:=ZO.lsw fun x hx=> .inr (Dt hx) },ZO,hbo2⟩
end Rn
end Go.Proofs.YtjoeklkmnfaabaaGreat
namespace Go.Proofs.YtjoeklkmnfaabaaGreat
set_option maxRecDepth 100000
set_option maxHeartbeats 4000000
open Go Go.RowKit
set_option linter.unusedVariables false
attribute [local irreducible] yT Ops zP Cd
theorem dR (v:Nat) (w0:World) (hv:v < 2^64):zP Tryz.prog 214 #[.int .u64 v] w0 (fun r w'=>Own w0 w' r (enc v)):=by
 refine zE Tryz.func214 Tryz.ntmps214 Y<|cR e20 ?_
 have H:=Hp.refl w0
 refine Rq<|Xa Y<|Xr e20<|Rq<|Xa Y<|Xr e20<|J1<|J7<|zU (fun nQ lQ w=>∃ (v1:Nat) (pre:List UInt8) (x:Int) (g:Option Nat) (m cap:Nat) (xs sp:List Value),v1=nQ∧xN (Dj [(0,.int .u64 x),(2,.slice none 0 0),(3,.slice (hd g) m cap)] 0 20) lQ∧x=v1∧v1≤v∧m=pre.length∧xs=u8s pre∧enc v=pre++enc v1∧m≤cap∧cap*1≤(xs++sp).length∧(g=none→cap=0)∧Hp w0 w [] [(g,5,xs++sp)]) (v) ?_ ?_
 exact⟨v,[],_,none,0,0,[],[],Y,(Jc Y Y Y Y),Y,Nat.le_refl _,Y,Y,Y,Nat.le_refl _,by simp,fun _=>Y,H.nil 5⟩
 rintro nQ lQ w1 ⟨v1,pre,x,g,m,cap,xs,sp,rfl,hfit,rfl,hle,rfl,rfl,henc,hmc,hcap,hg0,H1⟩
 obtain⟨j,rfl⟩:=hfit.open
 refine cR e20 ?_
 clear hfit
 have hl10:=uY hv
 have hlp:pre.length+(enc v1).length=(enc v).length:=by rw[henc];simp
 have hpos:=IW v1
 refine J1<|Rq<|Xm Y<|OT (yO Y Y) (fun hp5=>?_) (fun hp5=>?_)
 refine Xr e20<|J3 Y<|J6<|J7<|Rq<|Xm Y<|Xm Y<|OV (fP Y Y (by omega) (aC v1 128))<|OV (zL Y Y ((IntWalk.u64_in _ (by omega)).trans (show(((v1 % 128:Nat):Int)+128)=((v1 % 128+128:Nat):Int) by omega)))<|Aa e20<|OV (xJ Tryz.underlying5 Tryz.underlying118 Y (IntWalk.u8_in _ (by omega)))<|zG Tryz.underlying73 ty5 H1 Y (by decide) Y<|fun w2 g2 H2 hg2=>yX Tryz.underlying73 ty5 (by decide) H2 0 Y Y (yV pre) hcap hmc hg0 Y (H2.rd (i:=1) (o:=some g2) (xs:=[Value.int .u8 ((v1 % 128+128:Nat):Int)]) (sp:=[]) Y Y (by decide)) Y (by omega) (by omega) (by decide)<|fun w3 g3 cap3 sp3 H3 hcap3 hmc3 hg3=>Xa Y<|Xr e20<|J2<|Xm Y<|OV (bB Y Y (by omega) (tdivN .u64 v1 128 (IntWalk.u64_in _ (by omega))))<|Xa Y<|Xr e20<|zA (zB ?_)
 refine zA (zI ?_)
 exact⟨v1 / 128,by omega,v1 / 128,pre++[UInt8.ofNat (v1 % 128+128)],_,g3,_,cap3,u8s pre++[Value.int .u8 ((v1 % 128+128:Nat):Int)],sp3,Y,(Jc Y Y Y Y),Y,by omega,by simp,by rw[vD,eP,u8n (by omega)],by rw[henc,bH (by omega)];simp,hmc3,hcap3,hg3,H3.pick [0] (by decide)⟩
 refine Xr e20<|J4 Y<|J8<|zT<|zS<|Rq<|Xm Y<|Xm Y<|OV (xJ Tryz.underlying5 Tryz.underlying118 Y (u8w v1))<|zG Tryz.underlying73 ty5 H1 Y (by decide) Y<|fun w2 g2 H2 hg2=>Aa e20<|yX Tryz.underlying73 ty5 (by decide) H2 0 Y Y (yV pre) hcap hmc hg0 Y (H2.rd (i:=1) (o:=some g2) (xs:=[Value.int .u8 ((v1 % 256:Nat):Int)]) (sp:=[]) Y Y (by decide)) Y (by omega) (by omega) (by decide)<|fun w3 g3 cap3 sp3 H3 hcap3 hmc3 hg3=>Xa Y<|Xr e20<|J5<|Ak Y Y ?_
 have e1:enc v=pre++[UInt8.ofNat v1]:=by rw[henc,enc_lt (by omega)]
 have e2:u8s (enc v)=u8s pre++[.int .u8 ((v1 % 256:Nat):Int)]:=by rw[e1,vD,eP,u8n (by omega),Nat.mod_eq_of_lt (by omega)]
 have e3:(enc v).length=pre.length+1:=by rw[e1];simp
 unfold Own
 rw[e2,e3]
 exact⟨g3,cap3,sp3,Y,hmc3,hcap3,hg3,H3.pick [0] (by decide)⟩
theorem MC (n:Int) (w0:World) (hlo:-9223372036854775808≤n) (hhi:n≤9223372036854775807):zP Tryz.prog 200 #[.int .i64 n] w0 (fun r w'=>Own w0 w' r (vX n)):=by
 refine zE Tryz.func200 Tryz.ntmps200 Y<|cR e16 ?_
 have H:=Hp.refl w0
 refine Rq<|Xa Y<|Xr e16<|J1<|Rq<|Xm Y<|OT (wL Y Y) (fun hp4=>?_) (fun hp4=>?_)
 obtain⟨m,rfl⟩:=Int.eq_ofNat_of_zero_le (show 0≤n by omega)
 refine Xr e16<|J3 Y<|Rq<|Xm Y<|OV (xJ Tryz.underlying118 Tryz.underlying3 Y (IntWalk.u64_in _ (by omega)))<|OV (bC Y Y ((IntWalk.u64_in _ (by omega)).trans (show(2*(m:Int))=((2*m:Nat):Int) by omega)))<|yW (EC N9 Y) (dR (2*m) _ (by omega))<|fun w1 g1 c1 sp1 hm1 hc1 hg1 H1=>Aa e16<|Xa Y<|Xr e16<|J5<|Ak Y Y ?_
 have e:vX (m:Int)=enc (2*m):=by rw[rG];unfold zig;rw[if_neg (by omega)];congr 1
 rw[e]
 exact⟨g1,c1,sp1,Y,hm1,hc1,hg1,H1⟩
 refine Xr e16<|J4 Y<|J6<|Rq<|Xm Y<|OV (zL Y Y (IntWalk.i64_in _ (by omega)))<|OV (V4 Y ((IntWalk.i64_in _ (by omega)).trans (show(0:Int) - (n+1)=(((-n - 1).toNat:Nat):Int) by omega)))<|OV (xJ Tryz.underlying118 Tryz.underlying3 Y (IntWalk.u64_in _ (by omega)))<|Aa e16<|OV (bC Y Y ((IntWalk.u64_in _ (by omega)).trans (show(2*(((-n - 1).toNat:Nat):Int))=((2*(-n - 1).toNat:Nat):Int) by omega)))<|OV (zL Y Y ((IntWalk.u64_in _ (by omega)).trans (show(((2*(-n - 1).toNat:Nat):Int)+1)=((2*(-n - 1).toNat+1:Nat):Int) by omega)))<|yW (EC N9 Y) (dR (2*(-n - 1).toNat+1) _ (by omega))<|fun w1 g1 c1 sp1 hm1 hc1 hg1 H1=>Xa Y<|Xr e16<|J5<|Ak Y Y ?_
 have e:vX n=enc (2*(-n - 1).toNat+1):=by rw[rG];unfold zig;rw[if_pos (by omega)];congr 1;omega
 rw[e]
 exact⟨g1,c1,sp1,Y,hm1,hc1,hg1,H1⟩
theorem JW (A:Option Addr) (b:List UInt8) (c:Nat) (w0:World) (hr:Rd w0 A b.length 1 (u8s b)) (hb:b.length≤211106232532900):zP Tryz.prog 203 #[.slice A b.length c] w0 (fun r w'=>Own w0 w' r (xY b)):=by
 have hl10:=uY (v:=b.length) (by omega)
 refine zE Tryz.func203 Tryz.ntmps203 Y<|cR e9 ?_
 have H:=Hp.refl w0
 refine Rq<|Xa Y<|Xr e9<|Rq<|Xm Y<|OV (ES Tryz.underlying73 Y)<|OV (xJ Tryz.underlying118 Tryz.underlying3 Y ((IntWalk.u64_in _ (by omega))))<|yW (EC N9 Y) (dR b.length _ (by omega))<|fun w1 g1 c1 sp1 hm1 hc1 hg1 H1=>Aa e9<|Xm Y<|yX Tryz.underlying73 ty5 (by decide) H1 0 Y Y (yV _) hc1 hm1 hg1 Y (hr.to0 H1) (uK b) (by omega) (by omega) (by decide)<|fun w2 g3 cap3 sp3 H2 hcap3 hmc3 hg3=>Xa Y<|Xr e9<|J5<|Ak Y Y ?_
 unfold Own
 rw[rA,vD,List.length_append]
 exact⟨g3,cap3,sp3,Y,hmc3,hcap3,hg3,H2⟩
theorem LS (gp go o:Nat) (g0:Option Nat) (cap0:Nat) (sp0:List Value) (st:WS) (T:TypeId) (cs vs:List Value) (fd:List Fv) (w0:World) (H0:Hp w0 w0 (bl (vw gp g0 cap0 sp0 st++[(some go,T,cs)])) (vw gp g0 cap0 sp0 st++[(some go,T,cs)])) (M:Nat) (hM:M+65545*fd.length≤1000000000000) (hP:POk M g0 cap0 sp0 st) (hF:YU w0 (vw gp g0 cap0 sp0 st++[(some go,T,cs)]) fd vs) (hat:At cs o vs) (hk:fd.map Fv.kd=[.int]):zP Tryz.prog 177 #[.pointer (some ⟨gp,0,none⟩),.pointer (some ⟨go,o,none⟩)] w0 (fun r w'=>∃ g1 cap1 sp1,POk (M+65545*fd.length) g1 cap1 sp1 (qM fd st)∧Hp w0 w' (bl (vw gp g0 cap0 sp0 st++[(some go,T,cs)])) (vw gp g1 cap1 sp1 (qM fd st)++[(some go,T,cs)])):=by
 refine zE Tryz.func177 Tryz.ntmps177 Y<|cR e28 ?_
 obtain⟨nn,rfl⟩:=R2 hk
 have H:=H0
 obtain⟨v,Ry,hv2⟩:=hF.head
 subst Ry
 have hcq:=hat 0 v rfl
 rw[Nat.add_zero]at hcq
 have hfit:=lt_of_get hcq
 have Dh:=hP.most
 simp only[List.length_cons,List.length_nil]at hM
 obtain⟨rfl,hn1,hn2⟩:=hv2
 have hxl:=gA (f:=.int nn) ⟨hn1,hn2⟩ rfl
 rw[show rI (.int nn)=vX nn from rfl]at hxl
 refine J1<|Rq<|Xm Y<|Xc Y<|Xf BX Y<|OV (EL LX Y (H.cell (i:=0) Y Y))<|Aa e28<|Ij (yE Tryz.underlying165 Y) (Y)<|Xr e28<|J3 Y<|J1<|zR 12 [(true,0),(true,1),(true,2),(true,3),(true,4),(true,5),(true,6),(true,7),(false,8),(false,9),(true,10),(true,11),(false,12)] H [0,2] yG (by decide) (by kernel_rfl) ?_
 rintro w1 hw1
 have H1:=Hp.drew H;rw[← hw1]at H1
 refine Zm Y Y<|Zm Y Y<|Zc Y Y<|Zf Y kP Y<|cZ e28<|MP Y<|MV (fun wz hz=>EL xK Y (hz.cell (i:=0) Y Y))<|Zm Y Y<|Zc Y Y<|MP Y<|MV (fun wz hz=>EL ty3 Y (hz.cell (i:=1) Y hcq))<|cZ e28<|MO Y<|yW (EC gf200 Y) (MC nn _ hn1 hn2)<|fun w2 g1 c1 sp1 hm1 hc1 hg1 Hd=>have H2:=H1.call0 Hd;OE<|⟨fun hne=>H2.pick [0,2] (by decide),?_⟩
 refine cZ e28<|MO Y<|lC Tryz.underlying73 ty5 H2 1 (L:=st.out) (M:=(vX nn)) (g:=g0) (sp:=sp0) Y Y hP.room hP.le hP.nil Y (H2.rd (i:=3) (o:=g1) (xs:=u8s (vX nn)) (sp:=sp1) Y (yV _) (by decide)) (by omega)<|fun w3 g3 cap3 sp3 H3 hmc3 hcap3 hg3=>OE<|⟨fun hne=>H3.pick [0,2] (by decide),?_⟩
 refine cZ e28<|Zc Y Y<|Zf Y kP Y<|MO Y<|OW xK H3 0 Y Y Y Y (by first|exact NL Y|simp[zH]) Y<|fun w4 H4=>OE<|⟨fun hne=>absurd Y hne,?_⟩
 refine cZ e28<|ME<|cR e28<|J5<|rQ Y<|⟨g3,cap3,sp3,⟨hmc3,hcap3,hg3,by have hll:(st.out++vX nn).length=(st.out).length+(vX nn).length:=List.length_append;show(st.out++vX nn).length≤_;simp only[List.length_cons,List.length_nil]at hll ⊢;omega⟩,H4.pick [0,1,2] (by decide)⟩
theorem QQ (gp go o:Nat) (g0:Option Nat) (cap0:Nat) (sp0:List Value) (st:WS) (T:TypeId) (cs vs:List Value) (fd:List Fv) (w0:World) (H0:Hp w0 w0 (bl (vw gp g0 cap0 sp0 st++[(some go,T,cs)])) (vw gp g0 cap0 sp0 st++[(some go,T,cs)])) (M:Nat) (hM:M+65545*fd.length≤1000000000000) (hP:POk M g0 cap0 sp0 st) (hF:YU w0 (vw gp g0 cap0 sp0 st++[(some go,T,cs)]) fd vs) (hat:At cs o vs) (A:Option Addr) (m c:Nat) (hm:m≤1000000) (hk:fd.map Fv.kd=List.replicate m .int) (hA:Rd w0 A m 1 (fB go o m)) (hS:∀ p,A=some p→p.block∉bl (vw gp g0 cap0 sp0 st++[(some go,T,cs)])):zP Tryz.prog 141 #[.pointer (some ⟨gp,0,none⟩),.slice A m c] w0 (fun r w'=>∃ g1 cap1 sp1,POk (M+65545*fd.length) g1 cap1 sp1 (qM fd st)∧Hp w0 w' (bl (vw gp g0 cap0 sp0 st++[(some go,T,cs)])) (vw gp g1 cap1 sp1 (qM fd st)++[(some go,T,cs)])):=by
 refine zE Tryz.func141 Tryz.ntmps141 Y<|cR e17 ?_
 have H:=H0
 have hlen:fd.length=m:=by have:=congrArg List.length hk;simpa using this
 refine Rq<|Xa Y<|Xr e17<|J7<|zU (fun nQ lQ w=>∃ (q:Nat) (y:Int) (g:Option Nat) (cap:Nat) (sp:List Value),m - q=nQ∧xN (Dj [(0,.pointer (some ⟨gp,0,none⟩)),(1,.slice A m c),(4,.int .i64 y)] 0 17) lQ∧y=q∧q≤m∧POk (M+65545*q) g cap sp (qM (fd.take q) st)∧Hp w0 w (bl (vw gp g0 cap0 sp0 st++[(some go,T,cs)])) (vw gp g cap sp (qM (fd.take q) st)++[(some go,T,cs)])) (m) ?_ ?_
 exact⟨0,_,g0,cap0,sp0,Y,(Jc Y Y Y Y),Y,Nat.zero_le _,hP,H⟩
 rintro nQ lQ w1 ⟨q,y,g,cap,sp,rfl,hfit,rfl,hq,hP,H1⟩
 obtain⟨j,rfl⟩:=hfit.open
 refine cR e17 ?_
 clear hfit
 refine J1<|Rq<|Xm Y<|Xm Y<|OV (ES Tryz.underlying220 Y)<|OT (zQ Y Y) (fun hp8=>?_) (fun hp8=>?_)
 have Cb:q < m:=by omega
 have Qz:q < fd.length:=by omega
 obtain⟨v,hv1,hv2⟩:=hF.each q Qz
 have hsn:=JK Qz st
 have hcq:=hat q v hv1
 obtain⟨pa,hpa⟩:=hA.some_ (by omega)
 subst hpa
 have hkd:fd[q].kd=.int:=by
  have:=congrArg (fun l=>l[q]?) hk
  simpa[Qz,Cb]using this
 obtain⟨nn,YZ⟩:∃ x,fd[q]=.int x:=by
  generalize fd[q]=fq at hkd
  cases fq <;>first | exact⟨_,rfl⟩ | cases hkd
 rw[YZ]at hv2 hsn
 obtain⟨st1,hst⟩:∃ x,qM (fd.take q) st=x:=⟨_,rfl⟩
 rw[hst]at hsn H1 hP
 refine Xr e17<|J3 Y<|J6<|J1<|J7<|J2<|Xm Y<|Xm Y<|Xm Y<|OV (EI Tryz.underlying220 tK Y Y Y Cb (Nat.mul_one _))<|Aa e17<|OV (EL tK Y ((hA.to H1 hS).cells pa Y q _ (dY Cb))) ?_
 have hk1:=LS gp go (o+q) g cap sp st1 T cs [v] [.int nn] _ H1.here (M+65545*q) (by simp only[List.length_cons,List.length_nil];omega) hP (FPs.one (FC.to (f:=.int nn) (es:=vw gp g0 cap0 sp0 st++[(some go,T,cs)]) hv2 H1)) (fun i u hu=>by cases i with | zero=>cases hu;exact hcq | succ i=>simp at hu) rfl
 refine OQ (EC IG Y) hk1 ?_
 rintro _ w2 ⟨g,cap,sp,hP,Hd⟩
 have H2:=H1.all Hd
 refine Xr e17<|zA (zB ?_)
 refine J2<|Xm Y<|OV (zL Y Y (IntWalk.i64_in _ (by omega)))<|Xa Y<|Xr e17<|zA (zI ?_)
 exact⟨m - (q+1),by omega,q+1,_,g,cap,sp,Y,(Jc Y Y Y Y),Y,by omega,by rw[hsn];exact hP.mono (by simp only[List.length_cons,List.length_nil];omega),by rw[hsn];exact H2⟩
 have hqm:q=m:=by omega
 subst hqm
 rw[List.take_of_length_le (by omega)]at H1 hP
 rw[← hlen]at hP
 refine Xr e17<|J4 Y<|J8<|zT<|zS<|zA<|yN Y<|⟨g,cap,sp,hP,H1⟩
theorem CK (gp go o:Nat) (g0:Option Nat) (cap0:Nat) (sp0:List Value) (st:WS) (T:TypeId) (cs vs:List Value) (fd:List Fv) (w0:World) (H0:Hp w0 w0 (bl (vw gp g0 cap0 sp0 st++[(some go,T,cs)])) (vw gp g0 cap0 sp0 st++[(some go,T,cs)])) (M:Nat) (hM:M+65545*fd.length≤1000000000000) (hP:POk M g0 cap0 sp0 st) (hF:YU w0 (vw gp g0 cap0 sp0 st++[(some go,T,cs)]) fd vs) (hat:At cs o vs) (hk:fd.map Fv.kd=[.bytes]):zP Tryz.prog 178 #[.pointer (some ⟨gp,0,none⟩),.pointer (some ⟨go,o,none⟩)] w0 (fun r w'=>∃ g1 cap1 sp1,POk (M+65545*fd.length) g1 cap1 sp1 (qM fd st)∧Hp w0 w' (bl (vw gp g0 cap0 sp0 st++[(some go,T,cs)])) (vw gp g1 cap1 sp1 (qM fd st)++[(some go,T,cs)])):=by
 refine zE Tryz.func178 Tryz.ntmps178 Y<|cR e47 ?_
 obtain⟨x,rfl⟩:=aX hk
 have H:=H0
 obtain⟨Ej,Jg⟩:=st
 obtain⟨v,Ry,hv2⟩:=hF.head
 subst Ry
 have hcq:=hat 0 v rfl
 rw[Nat.add_zero]at hcq
 have hfit:=lt_of_get hcq
 have Dh:=hP.most
 simp only[List.length_cons,List.length_nil]at hM
 simp only at Dh
 obtain⟨B,c,Ry,hrd,hap⟩:=hv2
 subst Ry
 refine J1<|Rq<|Xm Y<|Xc Y<|Xf BX Y<|OV (EL LX Y (H.cell (i:=0) Y Y))<|Aa e47<|Dy (uX Tryz.underlying165 Y) (by simp)<|Xr e47<|J4 Y<|J6<|J1 ?_
 cases Jg
 refine J2<|Xm Y<|Xm Y<|Xc Y<|Xf vZ Y<|Aa e47<|OV (EL ty4 Y (H.cell (i:=0) Y Y))<|Xm Y<|Aa e47<|OY Y<|Xm Y<|OY Y<|Xc Y<|Aa e47<|OY Y<|OV (EL xK Y (H.cell (i:=2) Y hcq))<|OY Y<|OV (ES Tryz.underlying73 Y)<|Aa e47<|OY Y<|OT (yO Y Y) (fun Gu=>?_) (fun Gu=>?_)
 refine Xu Y Y<|Xc Y<|Xf vZ Y<|OW ty4 H 0 Y Y Y Y (by first|exact NL Y|simp[zH]) Y<|fun w1 H1=>Xr e47<|Rq<|Xm Y<|Xc Y<|Xf vZ Y<|OV (EL ty4 Y (H1.cell (i:=0) Y Y))<|Aa e47<|Xn Y<|Xr e47<|J4 Y<|J6<|zA<|yN Y ?_
 rw[mL (st:=⟨Ej,false⟩) (.inr (by simp[wM];omega))]
 exact⟨g0,cap0,sp0,⟨hP.1,hP.2,hP.3,by have:=hP.4;simp only at this ⊢;omega⟩,H1.pick [0,1,2] (by decide)⟩
 refine Xu Y Y<|Xc Y<|Xf vZ Y<|OW ty4 H 0 Y Y Y Y (by first|exact NL Y|simp[zH]) Y<|fun w1 H1=>Xr e47<|Rq<|Xm Y<|Xc Y<|Xf vZ Y<|OV (EL ty4 Y (H1.cell (i:=0) Y Y))<|Aa e47<|Xn Y<|Xr e47<|J3 Y<|zR 12 [(true,0),(true,1),(true,2),(true,3),(true,4),(true,5),(true,6),(true,7),(false,8),(false,9),(true,10),(true,11),(false,12)] H1 [0,2] yG (by decide) (by kernel_rfl) ?_
 rintro w2 hw2
 have H2:=Hp.drew H1;rw[← hw2]at H2
 refine Zm Y Y<|Zm Y Y<|Zc Y Y<|Zf Y kP Y<|cZ e47<|MP Y<|MV (fun wz hz=>EL xK Y (hz.cell (i:=0) Y Y))<|Zm Y Y<|Zc Y Y<|MP Y<|MV (fun wz hz=>EL xK Y (hz.cell (i:=1) Y hcq))<|cZ e47<|MO Y ?_
 have hxl:=gA (f:=.bytes x) trivial (by simp[wM];omega)
 rw[show rI (.bytes x)=xY x from rfl]at hxl
 refine yW (EC gf203 Y) (JW B x c _ (hrd.fc H2 hap) (by omega))<|fun w3 g1 c1 sp1 hm1 hc1 hg1 Hd=>have H3:=H2.call0 Hd;OE<|⟨fun hne=>H3.pick [0,2] (by decide),?_⟩
 refine cZ e47<|MO Y<|lC Tryz.underlying73 ty5 H3 1 (L:=Ej) (M:=(xY x)) (g:=g0) (sp:=sp0) Y Y hP.room hP.le hP.nil Y (H3.rd (i:=3) (o:=g1) (xs:=u8s (xY x)) (sp:=sp1) Y (yV _) (by decide)) (by omega)<|fun w4 g3 cap3 sp3 H4 hmc3 hcap3 hg3=>OE<|⟨fun hne=>H4.pick [0,2] (by decide),?_⟩
 refine cZ e47<|Zc Y Y<|Zf Y kP Y<|MO Y<|OW xK H4 0 Y Y Y Y (by first|exact NL Y|simp[zH]) Y<|fun w5 H5=>OE<|⟨fun hne=>absurd Y hne,?_⟩
 refine cZ e47<|ME<|cR e47<|zA<|yN Y ?_
 rw[dJ (st:=⟨Ej,false⟩) rfl (by simp[wM];omega)]
 exact⟨g3,cap3,sp3,⟨hmc3,hcap3,hg3,by have hll:(Ej++xY x).length=(Ej).length+(xY x).length:=List.length_append;show(Ej++xY x).length≤_;simp only[List.length_cons,List.length_nil]at hll ⊢;omega⟩,H5.pick [0,1,2] (by decide)⟩
 refine J2<|Xm Y<|Xm Y<|Xc Y<|Xf vZ Y<|Aa e47<|OV (EL ty4 Y (H.cell (i:=0) Y Y))<|Xm Y<|Aa e47<|Oz 5 Y<|Aa e47<|Xt Y Y<|Xc Y<|Xf vZ Y<|Aa e47<|OW ty4 H 0 Y Y Y Y (by first|exact NL Y|simp[zH]) Y<|fun w1 H1=>Xr e47<|Rq<|Xm Y<|Xc Y<|Xf vZ Y<|OV (EL ty4 Y (H1.cell (i:=0) Y Y))<|Aa e47<|Xn Y<|Xr e47<|J4 Y<|J6<|zA<|yN Y ?_
 rw[mL (st:=⟨Ej,true⟩) (.inl rfl)]
 exact⟨g0,cap0,sp0,⟨hP.1,hP.2,hP.3,by have:=hP.4;simp only at this ⊢;omega⟩,H1.pick [0,1,2] (by decide)⟩
theorem QL (gp go o:Nat) (g0:Option Nat) (cap0:Nat) (sp0:List Value) (st:WS) (T:TypeId) (cs vs:List Value) (fd:List Fv) (w0:World) (H0:Hp w0 w0 (bl (vw gp g0 cap0 sp0 st++[(some go,T,cs)])) (vw gp g0 cap0 sp0 st++[(some go,T,cs)])) (M:Nat) (hM:M+65545*fd.length≤1000000000000) (hP:POk M g0 cap0 sp0 st) (hF:YU w0 (vw gp g0 cap0 sp0 st++[(some go,T,cs)]) fd vs) (hat:At cs o vs) (hk:fd.map Fv.kd=[.text]):zP Tryz.prog 179 #[.pointer (some ⟨gp,0,none⟩),.pointer (some ⟨go,o,none⟩)] w0 (fun r w'=>∃ g1 cap1 sp1,POk (M+65545*fd.length) g1 cap1 sp1 (qM fd st)∧Hp w0 w' (bl (vw gp g0 cap0 sp0 st++[(some go,T,cs)])) (vw gp g1 cap1 sp1 (qM fd st)++[(some go,T,cs)])):=by
 refine zE Tryz.func179 Tryz.ntmps179 Y<|cR e38 ?_
 obtain⟨x,rfl⟩:=NA hk
 have H:=H0
 obtain⟨Ej,Jg⟩:=st
 obtain⟨v,Ry,hv2⟩:=hF.head
 subst Ry
 have hcq:=hat 0 v rfl
 rw[Nat.add_zero]at hcq
 have hfit:=lt_of_get hcq
 have Dh:=hP.most
 simp only[List.length_cons,List.length_nil]at hM
 simp only at Dh
 obtain rfl:v=yC x:=hv2
 refine Rq<|OA xK H<|fun w1 gv H1 hgv=>OW xK H1 3 Y Y Y Y (by decide) Y<|fun w2 H2=>Xr e38<|J1<|Rq<|Xm Y<|Xc Y<|Xf BX Y<|OV (EL LX Y (H2.cell (i:=0) Y Y))<|Aa e38<|Ij (yE Tryz.underlying165 Y) (Y)<|Xr e38<|J3 Y<|J1 ?_
 cases Jg
 refine J2<|Xm Y<|Xm Y<|Xc Y<|Xf vZ Y<|Aa e38<|OV (EL ty4 Y (H2.cell (i:=0) Y Y))<|Xm Y<|Aa e38<|OY Y<|Xm Y<|OY Y<|Xc Y<|Aa e38<|OY Y<|OV (EL ty9 Y (H2.cell (i:=2) Y hcq))<|OY Y<|OV (oR Tryz.underlying9 Y) ?_
 rw[gV]
 refine Aa e38<|OY Y<|OT (yO Y Y) (fun hp20=>?_) (fun hp20=>?_)
 refine Xu Y Y<|Xc Y<|Xf vZ Y<|OW ty4 H2 0 Y Y Y Y (by first|exact NL Y|simp[zH]) Y<|fun w3 H3=>Xr e38<|J1<|Rq<|Xm Y<|Xc Y<|Xf vZ Y<|OV (EL ty4 Y (H3.cell (i:=0) Y Y))<|Xr e38<|J3 Y<|J5<|rQ Y ?_
 rw[mS (st:=⟨Ej,false⟩) (.inr (by simp[wM];omega))]
 exact⟨g0,cap0,sp0,⟨hP.1,hP.2,hP.3,by have:=hP.4;simp only at this ⊢;omega⟩,H3.pick [0,1,2] (by decide)⟩
 refine Xu Y Y<|Xc Y<|Xf vZ Y<|OW ty4 H2 0 Y Y Y Y (by first|exact NL Y|simp[zH]) Y<|fun w3 H3=>Xr e38<|J1<|Rq<|Xm Y<|Xc Y<|Xf vZ Y<|OV (EL ty4 Y (H3.cell (i:=0) Y Y))<|Xr e38<|J4 Y<|J6<|J2<|Xm Y<|Xc Y<|OV (EL ty9 Y (H3.cell (i:=2) Y hcq)) ?_
 have hgn:=fN H3 (g:=w3.heap.size) (Nat.le_refl _)
 refine nS Tryz.underlying9 Tryz.underlying73 Tryz.underlying5 H3 (s:=x) Y<|fun w4 gs cs1 HB hrs hgs hsz=>?_
 rw[← hgs]at hgn
 have H4:=HB.here
 refine Aa e38<|OW xK H4 3 Y Y Y Y (by decide) Y<|fun w5 H5=>Xr e38<|Rq<|Xm Y ?_
 have HQ:Hp _ w5 _ ((vw gp g0 cap0 sp0 ⟨Ej,false⟩++[(some gv,73,[Value.slice (some ⟨gs,0,none⟩) x.length cs1])])++[(some go,T,cs)]):=H5.pick [0,1,3,2] (by decide)
 have hk1:=CK gp gv 0 g0 cap0 sp0 ⟨Ej,false⟩ 73 [Value.slice (some ⟨gs,0,none⟩) x.length cs1] [Value.slice (some ⟨gs,0,none⟩) x.length cs1] [.bytes x] _ HQ.less.here M hM hP (FPs.one ⟨_,_,rfl,hrs.fc HQ.less (fun _ p hp=>by cases hp;exact hgn),fun h0=>bK hrs h0 (fun p hp=>by cases hp;exact hgn) HQ.less⟩) (fun i u hu=>by rw[Nat.zero_add];exact hu) rfl
 have hrs2:=hrs.fc HQ.less (fun _ p hp=>by cases hp;exact hgn)
 refine OQ (EC OF Y) hk1 ?_
 rintro _ w6 ⟨g,cap,sp,hP,Hd⟩
 have hrs3:=hrs2.fc Hd (fun h0=>bK hrs h0 (fun p hp=>by cases hp;exact hgn) HQ.less)
 have H6:=(HB.all (HQ.front Hd)).pick [0,1,3,2] (by decide)
 refine Xr e38<|J2<|Xm Y<|OV (EL xK Y (H6.cell (i:=3) Y Y))<|OV (eI Tryz.underlying73 Tryz.underlying5 Tryz.underlying9 Y hrs3)<|Xc Y<|Aa e38<|OW ty9 H6 2 Y Y Y Y hfit Y<|fun w7 H7=>Xr e38<|zA<|yN Y ?_
 have hsame:cs.set o (.string ⟨x.toArray⟩)=cs:=by
  apply List.ext_getElem?
  intro i
  rw[List.getElem?_set]
  split
  · rename_i hi
    subst hi
    first
    | (rw[if_pos hfit,hcq];rfl)
    | (rw[hcq];rfl)
  · rfl
 have HN:=(show ∀ (wa wb:World) (SS:List Nat),Hp wa wb SS (vw gp g cap sp (qM [.bytes x] ⟨Ej,false⟩)++[(some go,T,cs.set o (.string ⟨x.toArray⟩))])→Hp wa wb SS (vw gp g cap sp (qM [.bytes x] ⟨Ej,false⟩)++[(some go,T,cs)]) from fun wa wb SS h=>by rw[hsame]at h;exact h) _ _ _ (H7.pick [0,1,2] (by decide))
 exact⟨g,cap,sp,hP,HN⟩
 refine J2<|Xm Y<|Xm Y<|Xc Y<|Xf vZ Y<|Aa e38<|OV (EL ty4 Y (H2.cell (i:=0) Y Y))<|Xm Y<|Aa e38<|Oz 5 Y<|Aa e38<|Xt Y Y<|Xc Y<|Xf vZ Y<|Aa e38<|OW ty4 H2 0 Y Y Y Y (by first|exact NL Y|simp[zH]) Y<|fun w3 H3=>Xr e38<|J1<|Rq<|Xm Y<|Xc Y<|Xf vZ Y<|OV (EL ty4 Y (H3.cell (i:=0) Y Y))<|Xr e38<|J3 Y<|J5<|rQ Y ?_
 rw[mS (st:=⟨Ej,true⟩) (.inl rfl)]
 exact⟨g0,cap0,sp0,⟨hP.1,hP.2,hP.3,by have:=hP.4;simp only at this ⊢;omega⟩,H3.pick [0,1,2] (by decide)⟩
theorem iE {gp go:Nat} {T:TypeId} {cs:List Value} {fd:List Fv} {a st:WS} {m n:Nat} {w0 w':World} {S:List Nat} (ha:rW a st) (hn:fd.length=n) (h:∃ g1 cap1 sp1,POk (m+65545*fd.length) g1 cap1 sp1 (qM fd st)∧Hp w0 w' S (vw gp g1 cap1 sp1 (qM fd st)++[(some go,T,cs)])):gJ (m+65545*n) gp (xX fd a) go T cs w0 S w':=by
 subst hn
 obtain⟨g1,cap1,sp1,hP,H⟩:=h
 exact⟨_,g1,cap1,sp1,LF fd ha,hP,H⟩
theorem nY {fd:List Fv} {ks:List Kd} (h:fd.map Fv.kd=ks):fd.length=ks.length:=by rw[← h];simp
theorem HV {fd:List Fv} {n:Nat} {k:Kd} (h:fd.map Fv.kd=List.replicate n k):fd.length=n:=by rw[nY h];simp
theorem eO :P7 Tryz.prog 141 .int:=fun gp go o n c g cap sp st T cs x vs w0 m a A hn H0 hm hP ha hM hat hA hS=>(QQ gp go o g cap sp st T cs vs x w0 H0 m (by rw[HV hM.1];omega) hP hM.2 hat A n c hn hM.1 hA hS).mono fun _ _ h=>iE ha (HV hM.1) h
theorem E8 :gI Tryz.prog 177 (Th.flat [.int]):=fun gp go o g cap sp st T cs x vs w0 m a H0 hm hP ha hM hat=>(LS gp go o g cap sp st T cs vs x w0 H0 m (by rw[nY hM.1];change m+65545≤_ at hm;show m+65545*1≤_;omega) hP hM.2 hat hM.1).mono fun _ _ h=>iE ha (nY hM.1) h
theorem CL :gI Tryz.prog 178 (Th.flat [.bytes]):=fun gp go o g cap sp st T cs x vs w0 m a H0 hm hP ha hM hat=>(CK gp go o g cap sp st T cs vs x w0 H0 m (by rw[nY hM.1];change m+65545≤_ at hm;show m+65545*1≤_;omega) hP hM.2 hat hM.1).mono fun _ _ h=>iE ha (nY hM.1) h
theorem QM :gI Tryz.prog 179 (Th.flat [.text]):=fun gp go o g cap sp st T cs x vs w0 m a H0 hm hP ha hM hat=>(QL gp go o g cap sp st T cs vs x w0 H0 m (by rw[nY hM.1];change m+65545≤_ at hm;show m+65545*1≤_;omega) hP hM.2 hat hM.1).mono fun _ _ h=>iE ha (nY hM.1) h
end Go.Proofs.YtjoeklkmnfaabaaGreat
namespace Go.Proofs.YtjoeklkmnfaabaaGreat
set_option maxRecDepth 100000
set_option maxHeartbeats 4000000
open Go Go.RowKit
set_option linter.unusedVariables false
attribute [local irreducible] yT Ops zP Cd
end Go.Proofs.YtjoeklkmnfaabaaGreat
namespace Go.Proofs.YtjoeklkmnfaabaaGreat
set_option maxRecDepth 100000
set_option maxHeartbeats 4000000
open Go Go.RowKit
set_option linter.unusedVariables false
attribute [local irreducible] yT Ops zP Cd
theorem JH (gp go o:Nat) (g:Option Nat) (cap:Nat) (sp:List Value) (st:WS) (U:TypeId) (cs:List Value) (x:oW.X) (vs:List Value) (w0:World) (m:Nat) (a:WS) (H0:Hp w0 w0 (bl (vwo gp g cap sp st go U cs)) (vwo gp g cap sp st go U cs)) (hm:m+oW.mx≤1000000000) (hP:POk m g cap sp st) (ha:rW a st) (hM:oW.M w0 (fun b=>b∉bl (vwo gp g cap sp st go U cs)) x vs) (hat:At cs o vs):zP Tryz.prog 142 #[.pointer (some ⟨gp,0,none⟩),.pointer (some ⟨go,o,none⟩)] w0 (fun _ w'=>gJ (m+oW.mx) gp (xX (oW.fl x) a) go U cs w0 (bl (vwo gp g cap sp st go U cs)) w'):=by
 refine zE Tryz.func142 Tryz.ntmps142 Y<|cR e13 ?_
 change m+131090≤1000000000 at hm
 have HS:Hf gp go o w0 (bl (vwo gp g cap sp st go U cs)) w0 (m+0) a st oW x vs U cs g cap sp:=⟨H0,hP,ha,hM,hat⟩
 have H:=HS.H.here
 refine zR 8 [(true,0),(true,1),(true,2),(true,3),(true,4),(true,5),(true,6),(false,7),(false,8)] H [0,1,2] yG (by decide) (by kernel_rfl) ?_
 rintro w1 hw1
 have H1:=Hp.drew H;rw[← hw1]at H1
 refine Zm Y Y<|Zm Y Y<|Zc Y Y<|cZ e13<|Zf Y sT Y<|Zm Y Y<|Zc Y Y<|cZ e13<|Zf Y qD Y<|MO Y<|zG Tryz.underlying220 tK H1 Y (by decide) Y<|fun w2 g2 H2 hg2=>OE<|⟨fun hne=>H2.pick [0,1,2] (by decide),?_⟩
 refine cZ e13<|MO Y<|OQ (EC IK Y) (HS.grp (p:=0) eO H2 (by decide) (show m+0+131090≤_ by omega) (fun _ _ hM=>(Th.part hM 0 2)) (At.cast (At.trans (At.self _) (At.sub _ 0 2)) (by decide))) ?_
 rintro _ w3 ⟨st,g,cap,sp,Ik⟩
 have HS:=Hf.re Ik (m2:=m+131090) (by show m+0+131090=m+131090;omega)
 have H3:=HS.H.here
 refine OE ?_
 refine⟨fun hne=>absurd Y hne,?_⟩
 refine cZ e13<|ME<|cR e13<|zA<|yN Y ?_
 have hw0:List.take 2 x=x:=Th.whole hM
 refine HS.Rl ?_ Y
 show _=xX (x) a
 simp only[List.drop_zero,tI,wW,Nat.reduceAdd,hw0]
theorem aA :gI Tryz.prog 142 oW:=JH
theorem QJ (gp go o:Nat) (g:Option Nat) (cap:Nat) (sp:List Value) (st:WS) (U:TypeId) (cs:List Value) (x:gU.X) (vs:List Value) (w0:World) (m:Nat) (a:WS) (H0:Hp w0 w0 (bl (vwo gp g cap sp st go U cs)) (vwo gp g cap sp st go U cs)) (hm:m+gU.mx≤1000000000) (hP:POk m g cap sp st) (ha:rW a st) (hM:gU.M w0 (fun b=>b∉bl (vwo gp g cap sp st go U cs)) x vs) (hat:At cs o vs):zP Tryz.prog 143 #[.pointer (some ⟨gp,0,none⟩),.pointer (some ⟨go,o,none⟩)] w0 (fun _ w'=>gJ (m+gU.mx) gp (xX (gU.fl x) a) go U cs w0 (bl (vwo gp g cap sp st go U cs)) w'):=by
 refine zE Tryz.func143 Tryz.ntmps143 Y<|cR e19 ?_
 change m+262180≤1000000000 at hm
 have HS:Hf gp go o w0 (bl (vwo gp g cap sp st go U cs)) w0 (m+0) a st gU x vs U cs g cap sp:=⟨H0,hP,ha,hM,hat⟩
 have H:=HS.H.here
 refine Rq<|Xm Y<|Xm Y<|Xc Y<|Aa e19<|Xf vB Y<|OQ (EC IG Y) (HS.one (p:=0) E8 (show m+0+65545≤_ by omega) (fun _ _ hM=>(Th.part hM 0 1)) (At.cast (At.trans (At.self _) (At.sub _ 0 1)) (by decide))) ?_
 rintro _ w1 ⟨st,g,cap,sp,Ik⟩
 have HS:=Hf.re Ik (m2:=m+65545) (by show m+0+65545=m+65545;omega)
 have H1:=HS.H.here
 refine Xr e19<|Rq<|Xm Y<|Xm Y<|Xc Y<|Aa e19<|Xf tZ Y<|OQ (EC T5 Y) (HS.one (p:=1) aA (show m+65545+131090≤_ by omega) (fun _ _ hM=>(Th.part hM 1 2)) (At.cast (At.trans (At.self _) (At.sub _ 1 2)) (by decide))) ?_
 rintro _ w2 ⟨st,g,cap,sp,Ik⟩
 have HS:=Hf.re Ik (m2:=m+196635) (by show m+65545+131090=m+196635;omega)
 have H2:=HS.H.here
 refine Xr e19<|J2<|Xm Y<|Xm Y<|Xc Y<|Aa e19<|Xf sS Y<|OQ (EC OF Y) (HS.one (p:=3) CL (show m+196635+65545≤_ by omega) (fun _ _ hM=>(Th.part hM 3 1)) (At.cast (At.trans (At.self _) (At.sub _ 3 1)) (by decide))) ?_
 rintro _ w3 ⟨st,g,cap,sp,Ik⟩
 have HS:=Hf.re Ik (m2:=m+262180) (by show m+196635+65545=m+262180;omega)
 have H3:=HS.H.here
 refine Xr e19<|zA<|yN Y ?_
 have hw0:List.take 4 x=x:=Th.whole hM
 refine HS.Rl ?_ Y
 show _=xX (x) a
 simp only[List.drop_zero,tI,wW,Nat.reduceAdd,hw0]
theorem QK :gI Tryz.prog 143 gU:=QJ
theorem LU (gp go o:Nat) (g:Option Nat) (cap:Nat) (sp:List Value) (st:WS) (U:TypeId) (cs:List Value) (x:kA.X) (vs:List Value) (w0:World) (m:Nat) (a:WS) (H0:Hp w0 w0 (bl (vwo gp g cap sp st go U cs)) (vwo gp g cap sp st go U cs)) (hm:m+kA.mx≤1000000000) (hP:POk m g cap sp st) (ha:rW a st) (hM:kA.M w0 (fun b=>b∉bl (vwo gp g cap sp st go U cs)) x vs) (hat:At cs o vs):zP Tryz.prog 144 #[.pointer (some ⟨gp,0,none⟩),.pointer (some ⟨go,o,none⟩)] w0 (fun _ w'=>gJ (m+kA.mx) gp (xX (kA.fl x) a) go U cs w0 (bl (vwo gp g cap sp st go U cs)) w'):=by
 refine zE Tryz.func144 Tryz.ntmps144 Y<|cR e14 ?_
 change m+131090≤1000000000 at hm
 have HS:Hf gp go o w0 (bl (vwo gp g cap sp st go U cs)) w0 (m+0) a st kA x vs U cs g cap sp:=⟨H0,hP,ha,hM,hat⟩
 have H:=HS.H.here
 refine Rq<|Xm Y<|Xm Y<|Xc Y<|Aa e14<|Xf wE Y<|OQ (EC IG Y) (HS.one (p:=0) E8 (show m+0+65545≤_ by omega) (fun _ _ hM=>(Th.part hM 0 1)) (At.cast (At.trans (At.self _) (At.sub _ 0 1)) (by decide))) ?_
 rintro _ w1 ⟨st,g,cap,sp,Ik⟩
 have HS:=Hf.re Ik (m2:=m+65545) (by show m+0+65545=m+65545;omega)
 have H1:=HS.H.here
 refine Xr e14<|J2<|Xm Y<|Xm Y<|Xc Y<|Aa e14<|Xf uV Y<|OQ (EC OF Y) (HS.one (p:=1) CL (show m+65545+65545≤_ by omega) (fun _ _ hM=>(Th.part hM 1 1)) (At.cast (At.trans (At.self _) (At.sub _ 1 1)) (by decide))) ?_
 rintro _ w2 ⟨st,g,cap,sp,Ik⟩
 have HS:=Hf.re Ik (m2:=m+131090) (by show m+65545+65545=m+131090;omega)
 have H2:=HS.H.here
 refine Xr e14<|zA<|yN Y ?_
 have hw0:List.take 2 x=x:=Th.whole hM
 refine HS.Rl ?_ Y
 show _=xX (x) a
 simp only[List.drop_zero,tI,wW,Nat.reduceAdd,hw0]
theorem LV :gI Tryz.prog 144 kA:=LU
theorem LQ (gp go o:Nat) (g:Option Nat) (cap:Nat) (sp:List Value) (st:WS) (U:TypeId) (cs:List Value) (x:lZ.X) (vs:List Value) (w0:World) (m:Nat) (a:WS) (H0:Hp w0 w0 (bl (vwo gp g cap sp st go U cs)) (vwo gp g cap sp st go U cs)) (hm:m+lZ.mx≤1000000000) (hP:POk m g cap sp st) (ha:rW a st) (hM:lZ.M w0 (fun b=>b∉bl (vwo gp g cap sp st go U cs)) x vs) (hat:At cs o vs):zP Tryz.prog 145 #[.pointer (some ⟨gp,0,none⟩),.pointer (some ⟨go,o,none⟩)] w0 (fun _ w'=>gJ (m+lZ.mx) gp (xX (lZ.fl x) a) go U cs w0 (bl (vwo gp g cap sp st go U cs)) w'):=by
 refine zE Tryz.func145 Tryz.ntmps145 Y<|cR e23 ?_
 change m+262180≤1000000000 at hm
 have HS:Hf gp go o w0 (bl (vwo gp g cap sp st go U cs)) w0 (m+0) a st lZ x vs U cs g cap sp:=⟨H0,hP,ha,hM,hat⟩
 have H:=HS.H.here
 refine Rq<|Xm Y<|Xm Y<|Xc Y<|Aa e23<|Xf qE Y<|OQ (EC IG Y) (HS.one (p:=0) E8 (show m+0+65545≤_ by omega) (fun _ _ hM=>(Th.part hM 0 1)) (At.cast (At.trans (At.self _) (At.sub _ 0 1)) (by decide))) ?_
 rintro _ w1 ⟨st,g,cap,sp,Ik⟩
 have HS:=Hf.re Ik (m2:=m+65545) (by show m+0+65545=m+65545;omega)
 have H1:=HS.H.here
 refine Xr e23<|Rq<|Xm Y<|Xm Y<|Xc Y<|Aa e23<|Xf oP Y<|OQ (EC gf179 Y) (HS.one (p:=1) QM (show m+65545+65545≤_ by omega) (fun _ _ hM=>(Th.part hM 1 1)) (At.cast (At.trans (At.self _) (At.sub _ 1 1)) (by decide))) ?_
 rintro _ w2 ⟨st,g,cap,sp,Ik⟩
 have HS:=Hf.re Ik (m2:=m+131090) (by show m+65545+65545=m+131090;omega)
 have H2:=HS.H.here
 refine Xr e23<|zR 8 [(true,0),(true,1),(true,2),(true,3),(true,4),(true,5),(true,6),(false,7),(false,8)] H2 [0,1,2] yG (by decide) (by kernel_rfl) ?_
 rintro w3 hw3
 have H3:=Hp.drew H2;rw[← hw3]at H3
 refine Zm Y Y<|Zm Y Y<|Zc Y Y<|cZ e23<|Zf Y cX Y<|Zm Y Y<|Zc Y Y<|cZ e23<|Zf Y F3 Y<|MO Y<|zG Tryz.underlying220 tK H3 Y (by decide) Y<|fun w4 g4 H4 hg4=>OE<|⟨fun hne=>H4.pick [0,1,2] (by decide),?_⟩
 refine cZ e23<|MO Y<|OQ (EC IK Y) (HS.grp (p:=2) eO H4 (by decide) (show m+131090+131090≤_ by omega) (fun _ _ hM=>(Th.part hM 2 2)) (At.cast (At.trans (At.self _) (At.sub _ 2 2)) (by decide))) ?_
 rintro _ w5 ⟨st,g,cap,sp,Ik⟩
 have HS:=Hf.re Ik (m2:=m+262180) (by show m+131090+131090=m+262180;omega)
 have H5:=HS.H.here
 refine OE ?_
 refine⟨fun hne=>absurd Y hne,?_⟩
 refine cZ e23<|ME<|cR e23<|zA<|yN Y ?_
 have hw0:List.take 4 x=x:=Th.whole hM
 refine HS.Rl ?_ Y
 show _=xX (x) a
 simp only[List.drop_zero,tI,wW,Nat.reduceAdd,hw0]
theorem LR :gI Tryz.prog 145 lZ:=LQ
theorem QR (gp go o:Nat) (g:Option Nat) (cap:Nat) (sp:List Value) (st:WS) (U:TypeId) (cs:List Value) (x:rM.X) (vs:List Value) (w0:World) (m:Nat) (a:WS) (H0:Hp w0 w0 (bl (vwo gp g cap sp st go U cs)) (vwo gp g cap sp st go U cs)) (hm:m+rM.mx≤1000000000) (hP:POk m g cap sp st) (ha:rW a st) (hM:rM.M w0 (fun b=>b∉bl (vwo gp g cap sp st go U cs)) x vs) (hat:At cs o vs):zP Tryz.prog 97 #[.pointer (some ⟨gp,0,none⟩),.pointer (some ⟨go,o,none⟩)] w0 (fun _ w'=>gJ (m+rM.mx) gp (xX (rM.fl x) a) go U cs w0 (bl (vwo gp g cap sp st go U cs)) w'):=by
 refine zE Tryz.func97 Tryz.ntmps97 Y<|cR e42 ?_
 change m+1048720≤1000000000 at hm
 have HS:Hf gp go o w0 (bl (vwo gp g cap sp st go U cs)) w0 (m+0) a st rM x vs U cs g cap sp:=⟨H0,hP,ha,hM,hat⟩
 have H:=HS.H.here
 refine J1<|zR 8 [(true,0),(true,1),(true,2),(true,3),(true,4),(true,5),(true,6),(false,7),(false,8)] H [0,1,2] yG (by decide) (by kernel_rfl) ?_
 rintro w1 hw1
 have H1:=Hp.drew H;rw[← hw1]at H1
 refine Zm Y Y<|Zm Y Y<|Zc Y Y<|cZ e42<|Zf Y oO Y<|Zm Y Y<|Zc Y Y<|cZ e42<|Zf Y fl81_1 Y<|MO Y<|zG Tryz.underlying220 tK H1 Y (by decide) Y<|fun w2 g2 H2 hg2=>OE<|⟨fun hne=>H2.pick [0,1,2] (by decide),?_⟩
 refine cZ e42<|MO Y<|OQ (EC IK Y) (HS.grp (p:=0) eO H2 (by decide) (show m+0+131090≤_ by omega) (fun _ _ hM=>(Th.part hM 0 2)) (At.cast (At.trans (At.self _) (At.sub _ 0 2)) (by decide))) ?_
 rintro _ w3 ⟨st,g,cap,sp,Ik⟩
 have HS:=Hf.re Ik (m2:=m+131090) (by show m+0+131090=m+131090;omega)
 have H3:=HS.H.here
 refine OE ?_
 refine⟨fun hne=>absurd Y hne,?_⟩
 refine cZ e42<|ME<|cR e42<|Rq<|Xm Y<|Xm Y<|Xc Y<|Aa e42<|Xf jX Y<|OQ (EC T5 Y) (HS.one (p:=2) aA (show m+131090+131090≤_ by omega) (fun _ _ hM=>(Th.part hM 2 2)) (At.cast (At.trans (At.self _) (At.sub _ 2 2)) (by decide))) ?_
 rintro _ w4 ⟨st,g,cap,sp,Ik⟩
 have HS:=Hf.re Ik (m2:=m+262180) (by show m+131090+131090=m+262180;omega)
 have H4:=HS.H.here
 refine Xr e42<|Rq<|Xm Y<|Xm Y<|Xc Y<|Aa e42<|Xf oN Y<|OQ (EC gf143 Y) (HS.one (p:=4) QK (show m+262180+262180≤_ by omega) (fun _ _ hM=>(Th.part hM 4 4)) (At.cast (At.trans (At.self _) (At.sub _ 4 4)) (by decide))) ?_
 rintro _ w5 ⟨st,g,cap,sp,Ik⟩
 have HS:=Hf.re Ik (m2:=m+524360) (by show m+262180+262180=m+524360;omega)
 have H5:=HS.H.here
 refine Xr e42<|Rq<|Xm Y<|Xm Y<|Xc Y<|Aa e42<|Xf uE Y<|OQ (EC gf144 Y) (HS.one (p:=8) LV (show m+524360+131090≤_ by omega) (fun _ _ hM=>(Th.part hM 8 2)) (At.cast (At.trans (At.self _) (At.sub _ 8 2)) (by decide))) ?_
 rintro _ w6 ⟨st,g,cap,sp,Ik⟩
 have HS:=Hf.re Ik (m2:=m+655450) (by show m+524360+131090=m+655450;omega)
 have H6:=HS.H.here
 refine Xr e42<|Rq<|Xm Y<|Xm Y<|Xc Y<|Aa e42<|Xf fO Y<|OQ (EC gf145 Y) (HS.one (p:=10) LR (show m+655450+262180≤_ by omega) (fun _ _ hM=>(Th.part hM 10 4)) (At.cast (At.trans (At.self _) (At.sub _ 10 4)) (by decide))) ?_
 rintro _ w7 ⟨st,g,cap,sp,Ik⟩
 have HS:=Hf.re Ik (m2:=m+917630) (by show m+655450+262180=m+917630;omega)
 have H7:=HS.H.here
 refine Xr e42<|zR 8 [(true,0),(true,1),(true,2),(true,3),(true,4),(true,5),(true,6),(false,7),(false,8)] H7 [0,1,2] yG (by decide) (by kernel_rfl) ?_
 rintro w8 hw8
 have H8:=Hp.drew H7;rw[← hw8]at H8
 refine Zm Y Y<|Zm Y Y<|Zc Y Y<|cZ e42<|Zf Y tA Y<|Zm Y Y<|Zc Y Y<|cZ e42<|Zf Y sQ Y<|MO Y<|zG Tryz.underlying220 tK H8 Y (by decide) Y<|fun w9 g9 H9 WQ=>OE<|⟨fun hne=>H9.pick [0,1,2] (by decide),?_⟩
 refine cZ e42<|MO Y<|OQ (EC IK Y) (HS.grp (p:=14) eO H9 (by decide) (show m+917630+131090≤_ by omega) (fun _ _ hM=>(Th.part hM 14 2)) (At.cast (At.trans (At.self _) (At.sub _ 14 2)) (by decide))) ?_
 rintro _ w10 ⟨st,g,cap,sp,Ik⟩
 have HS:=Hf.re Ik (m2:=m+1048720) (by show m+917630+131090=m+1048720;omega)
 have Ar:=HS.H.here
 refine OE ?_
 refine⟨fun hne=>absurd Y hne,?_⟩
 refine cZ e42<|ME<|cR e42<|zA<|yN Y ?_
 have hw0:List.take 16 x=x:=Th.whole hM
 refine HS.Rl ?_ Y
 show _=xX (x) a
 simp only[List.drop_zero,tI,wW,Nat.reduceAdd,hw0]
theorem QS :gI Tryz.prog 97 rM:=QR
end Go.Proofs.YtjoeklkmnfaabaaGreat
namespace Go.Proofs.YtjoeklkmnfaabaaGreat
set_option maxRecDepth 100000
set_option maxHeartbeats 4000000
open Go Go.RowKit
set_option linter.unusedVariables false
attribute [local irreducible] yT Ops zP Cd
theorem PK (gp:Nat) (g:Option Nat) (cap:Nat) (sp:List Value) (st:WS) (go:Nat) (U:TypeId) (cs:List Value) (w0:World) (H0:Hp w0 w0 (bl (vwo gp g cap sp st go U cs)) (vwo gp g cap sp st go U cs)) (m:Nat) (hP:POk m g cap sp st) (a:WS) (hL:rW a st):zP Tryz.prog 98 #[.pointer (some ⟨gp,0,none⟩)] w0 (fun r w'=>∃ g2 cap2 sp2,r=.tuple #[.slice (hd g2) (sY a).length cap2,.int .i64 (errOf a:Int)]∧(sY a).length≤cap2∧cap2*1≤(u8s (sY a)++sp2).length∧(g2=none→cap2=0)∧(sY a).length≤65536∧Hp w0 w' (bl (vwo gp g cap sp st go U cs)) [(g2,5,u8s (sY a)++sp2)]):=by
 refine zE Tryz.func98 Tryz.ntmps98 Y<|cR e20 ?_
 have H:=H0
 obtain⟨Ej,Jg⟩:=st
 obtain⟨q1,q2⟩:=LD hL
 refine Rq<|Xa Y<|Xa Y<|Xr e20<|J1<|J1 ?_
 cases Jg
 refine J2<|Xm Y<|Xc Y<|Xf vZ Y<|OV (EL ty4 Y (H.cell (i:=0) Y Y))<|Aa e20<|Xm Y<|OY Y<|Xm Y<|Aa e20<|OY Y<|Xc Y<|OY Y<|Xf kP Y<|Aa e20<|OY Y<|OV (EL xK Y (H.cell (i:=0) Y Y))<|OY Y<|OV (ES Tryz.underlying73 Y)<|Aa e20<|OY Y<|OT (yO Y Y) (fun hp14=>?_) (fun hp14=>?_)
 have hl:=q1 (.inr (by dsimp only at hp14 ⊢;omega))
 refine Xu Y Y<|Xr e20<|J3 Y<|Rq<|Xa Y<|Xa Y<|Xr e20<|J5<|Ea Y Y Y ?_
 obtain⟨r1,r2⟩:=mJ hl
 exact⟨none,0,[],by rw[r1,r2];rfl,by rw[r1];exact Nat.le_refl 0,Nat.zero_le _,fun _=>Y,by rw[r1];decide,by rw[r1];exact Hp.nil (H.pick [] (by decide)) 5⟩
 obtain⟨hl,ho⟩:=q2 (by rintro(h | h);cases h;dsimp only at h hp14;omega)
 refine Xu Y Y<|Xr e20<|J4 Y<|J6<|Rq<|Xm Y<|Xc Y<|Xf kP Y<|OV (EL xK Y (H.cell (i:=0) Y Y))<|Aa e20<|Xa Y<|Xa Y<|Xr e20<|J5<|Ea Y Y Y ?_
 obtain⟨r1,r2⟩:=hU hl
 simp only at ho
 exact⟨g,cap,sp,by rw[r1,r2,ho];rfl,by rw[r1,ho];exact hP.le,by rw[r1,ho];exact hP.room,hP.nil,by rw[r1,ho];dsimp only at hp14;omega,by rw[r1,ho];exact H.pick [1] (by decide)⟩
 refine J2<|Xm Y<|Xc Y<|Xf vZ Y<|OV (EL ty4 Y (H.cell (i:=0) Y Y))<|Aa e20<|Xm Y<|Oz 6 Y<|Aa e20<|Xt Y Y<|Xr e20<|J3 Y<|Rq<|Xa Y<|Xa Y<|Xr e20<|J5<|Ea Y Y Y ?_
 have hl:=q1 (.inl rfl)
 obtain⟨r1,r2⟩:=mJ hl
 exact⟨none,0,[],by rw[r1,r2];rfl,by rw[r1];exact Nat.le_refl 0,Nat.zero_le _,fun _=>Y,by rw[r1];decide,by rw[r1];exact Hp.nil (H.pick [] (by decide)) 5⟩
end Go.Proofs.YtjoeklkmnfaabaaGreat
namespace Go.Proofs.YtjoeklkmnfaabaaGreat
set_option maxRecDepth 100000
set_option maxHeartbeats 4000000
open Go Go.RowKit
set_option linter.unusedVariables false
attribute [local irreducible] yT Ops zP Cd
theorem NF (x:rM.X) (cells:List Value) (w0:World) (hM:rM.M w0 (fun _=>True) x cells):zP Tryz.prog 50 #[.agg cells.toArray] w0 (fun r w'=>I7 w0 w' r (xX (rM.fl x) W0)):=by
 refine zE Tryz.func50 Tryz.ntmps50 Y<|cR e13 ?_
 have hlen:cells.length=16:=rM.len hM
 have H:=Hp.refl w0
 refine Rq<|yA Y Y H<|fun w1 g1 H1 hg1=>Xa Y<|Xa Y<|Xr e13<|Rq<|OV (EB ty167 U1 Y Y)<|yA Y Y H1<|fun w2 gk H2 hgk=>Xa Y<|Xr e13<|Rq<|Xm Y ?_
 have hM1:=rM.to hM H2 (fun _ _=>by simp)
 have HP:Hp w0 w2 [] (vwo gk none 0 [] W0 g1 81 cells):=(H2.nil 5).pick [1,2,0] (by decide)
 have hM2:=rM.to hM HP (fun _ _=>by simp)
 refine OQ (EC gf97 Y) (QS gk g1 0 none 0 [] W0 81 cells x cells _ 0 W0 HP.here (by decide) ⟨Nat.le_refl _,Nat.le_refl _,fun _=>Y,Nat.le_refl _⟩ (.inr ⟨Y,Y,Y,Nat.zero_le _⟩) (rM.mono hM2 fun _ h=>h.2) (At.self _)) ?_
 rintro _ w3 ⟨st,g,cap,sp,hL,hPk,Hd⟩
 have H3:=HP.all Hd
 refine Xr e13<|Rq<|Xm Y<|OQ (EC gf98 Y) (PK gk g cap sp st g1 81 cells _ H3.here 1000000000 (hPk.mono (by decide)) _ hL) ?_
 rintro _ w4 ⟨g2,cap2,sp2,rfl,q1,q2,q3,q4,Hd⟩
 have H4:=H3.all Hd
 refine Xe Y Y<|Xe Y Y<|Aa e13<|Xa Y<|Xa Y<|Xr e13<|J5<|Ea Y Y Y<|⟨g2,cap2,sp2,Y,q1,q2,q3,q4,H4⟩
end Go.Proofs.YtjoeklkmnfaabaaGreat
namespace Go.Proofs.YtjoeklkmnfaabaaGreat
set_option maxRecDepth 100000
set_option maxHeartbeats 32000000
open Go Go.RowKit
set_option linter.unusedVariables false
attribute [local irreducible] yT Ops zP Cd
theorem V7 (A:Option Addr) (k:Nat) (l:List Nt) (Es:Nat→Prop) (w0:World) (hl:Sl (NtR w0 Es) 16 w0 Es A l) (hn:l.length≤840000000000):zP Tryz.prog 49 #[.slice A l.length k] w0 (fun r w'=>∃ g cap qs sp,r=.slice (hd g) l.length cap∧Gw 16 g cap qs sp∧wC (YM w' w0.heap.size g) qs l∧Hp w0 w' [] [((g,81,qs.flatten++sp):Ent)]):=by
 refine zE Tryz.func49 Tryz.ntmps49 Y<|cR e56 ?_
 have H:=Hp.refl w0
 obtain⟨ps,hp,hr,ha,h2⟩:=id hl
 have hlen:=h2.len
 refine Rq<|Xa Y<|Xr e56<|Rq<|Xa Y<|Xr e56<|J1<|Rq<|Xa Y<|Xr e56<|J7<|zU (fun nQ lQ w=>∃ (i:Nat) (y:Int) (g:Option Nat) (cap:Nat) (qs:List (List Value)) (sp:List Value),l.length - i=nQ∧xN (Dj [(0,.slice A l.length k),(3,.slice (hd g) qs.length cap),(4,.int .i64 y)] 0 56) lQ∧y=(i:Int)∧i≤l.length∧Gw 16 g cap qs sp∧wC (YM w w0.heap.size g) qs (l.take i)∧Hp w0 w [] [((g,81,qs.flatten++sp):Ent)]) (l.length) ?_ ?_
 exact⟨0,_,none,0,[],[],Y,(Jc Y Y Y Y),Y,Nat.zero_le _,Gw.nil 16,trivial,H.nil 81⟩
 rintro nQ lQ w1 ⟨i,y,g,cap,qs,sp,rfl,hfit,rfl,hi,hG,hA,H1⟩
 obtain⟨j,rfl⟩:=hfit.open
 refine cR e56 ?_
 clear hfit
 have HB:=H1
 replace H1:=HB.here
 refine J1<|Rq<|Xm Y<|Xm Y<|OV (ES Tryz.underlying22 Y)<|OT (zQ Y Y) (fun hp11=>?_) (fun hp11=>?_)
 have hil:i < l.length:=by omega
 obtain⟨nt,hx⟩:=yM hil
 obtain⟨p1,hp1,hR⟩:=h2.get hx
 obtain⟨B1,j1,B2,j2,rfl,hbv,hbe⟩:=hR
 obtain⟨a1,ha1⟩:=hr.some_ (by omega)
 subst ha1
 have Cb:qs.length=i:=by rw[hA.len,List.length_take];omega
 refine Xr e56<|J3 Y<|J6<|J1<|J7<|Rq<|Xm Y<|Xm Y<|OV (EI Tryz.underlying22 xE Y Y Y hil Y)<|OV (EN xE Y (vs:=[.int .i64 nt.kind,.int .i64 nt.group,.int .i64 nt.b.r,.int .i64 nt.b.n,.int .i64 nt.Ag.slot,.int .i64 nt.Ag.b.r,.int .i64 nt.Ag.b.n,.slice B1 nt.Ag.val.length j1,.int .i64 nt.entry.slot,.slice B2 nt.entry.val.length j2,.int .i64 nt.right.g,yC nt.right.key,.int .i64 nt.right.Ai,.int .i64 nt.right.net,.int .i64 nt.client,.int .i64 nt.seq]) Y ((hr.to0 (HB.all H1)).elem hp hp1))<|Aa e56<|OA xE H1<|fun w2 gn H2 _=>OS xE H2 1 (vs:=[.int .i64 nt.kind,.int .i64 nt.group,.int .i64 nt.b.r,.int .i64 nt.b.n,.int .i64 nt.Ag.slot,.int .i64 nt.Ag.b.r,.int .i64 nt.Ag.b.n,.slice B1 nt.Ag.val.length j1,.int .i64 nt.entry.slot,.slice B2 nt.entry.val.length j2,.int .i64 nt.right.g,yC nt.right.key,.int .i64 nt.right.Ai,.int .i64 nt.right.net,.int .i64 nt.client,.int .i64 nt.seq]) Y Y Y Y Y (Nat.le_refl 16) Y<|fun w3 H3=>Xr e56<|J1<|qI 12 (.p 0 (.p 1 (.p 2 (.p 3 (.p 4 (.p 5 (.p 6 (.p 7 (.p 8 (.two 9 (.p 10 (.o 11 (.o 12 .nil))) 11 (.o 9 (.p 10 (.o 12 .nil))))))))))))) H3 [0,1] yG (by decide) (by kernel_rfl) ?_
 rintro w4 hw4
 have H4:=Hp.drew H3;rw[← hw4]at H4
 refine Tf Y oN Y<|Tf Y vB Y<|TP Y<|MV (fun wz hz=>EL ty3 Y (hz.cell (i:=1) Y Y))<|Tf Y oN Y<|cT e56<|Tf Y tZ Y<|TP Y<|MV (fun wz hz=>EN wX Y (vs:=[.int .i64 nt.Ag.b.r,.int .i64 nt.Ag.b.n]) Y (hz.Ad (i:=1) Y Y))<|Tf Y oN Y<|Tf Y sS Y<|cT e56<|TP Y<|MV (fun wz hz=>EL xK Y (hz.cell (i:=1) Y Y))<|pO ?_ ?_
 refine TQ Y<|yX Tryz.underlying73 ty5 (by decide) (H4.nil 5) 2 (g:=none) (n:=0) (cap:=0) (xs:=[]) (sp:=[]) Y Y Y (by decide) (by decide) (fun _=>Y) Y (hbv.1.to0 (HB.all H4)) (uK _) (by have:=hbv.2.2;omega) (by have:=hbv.2.2;omega) (by decide)<|fun w5 gv cv sv H5 _ _ _=>?_
 rw[Nat.zero_add nt.Ag.val.length]
 refine OE ?_
 refine⟨fun hne=>H5.pick [0,1] (by decide),?_⟩
 refine cT e56<|TP Y<|MV (fun wz hz=>EB yZ Yi Y Y)<|TQ Y<|OA yZ H5<|fun w6 g6 H6 _=>?_
 replace H6:=H6.pick [0,1,3,2] (by decide)
 refine OE ?_
 refine⟨fun hne=>H6.pick [0,1] (by decide),?_⟩
 refine cT e56 ?_
 have m2:=()
 rotate_left 1
 refine TQ Y<|OA yZ H4<|fun w5 g6 H5 _=>OE<|⟨fun hne=>H5.pick [0,1] (by decide),?_⟩
 refine cT e56<|TQ Y<|yX Tryz.underlying73 ty5 (by decide) (H5.nil 5) 3 (g:=none) (n:=0) (cap:=0) (xs:=[]) (sp:=[]) Y Y Y (by decide) (by decide) (fun _=>Y) Y (hbv.1.to0 (HB.all H5)) (uK _) (by have:=hbv.2.2;omega) (by have:=hbv.2.2;omega) (by decide)<|fun w6 gv cv sv H6 _ _ _=>?_
 rw[Nat.zero_add nt.Ag.val.length]
 refine OE ?_
 refine⟨fun hne=>H6.pick [0,1] (by decide),?_⟩
 refine cT e56<|TP Y<|MV (fun wz hz=>EB yZ Yi Y Y) ?_
 have m2:=()
 rotate_left 1
 obtain rfl:i=l.length:=by omega
 refine Xr e56<|J4 Y<|J8<|zT<|zS<|Rq<|Xm Y<|Xa Y<|Xr e56<|J5<|Ak Y Y ?_
 rw[List.take_length]at hA
 have hlq:=hA.len
 rw[hlq]
 exact⟨g,cap,qs,sp,Y,hG,hA,(HB.all H1).pick [0] (by decide)⟩
 any_goals
  clear m2
  refine TQ Y<|OS yZ H6 2 (vs:=[.int .i64 nt.Ag.slot,.int .i64 nt.Ag.b.r,.int .i64 nt.Ag.b.n,.slice (hd gv) nt.Ag.val.length cv]) Y Y Y Y Y (Nat.le_refl 4) Y<|fun w7 H7=>OE<|⟨fun hne=>absurd Y hne,?_⟩
  refine cT e56<|sZ<|cR e56<|J1<|qI 9 (.p 0 (.p 1 (.p 2 (.p 3 (.p 4 (.p 5 (.two 6 (.p 7 (.o 8 (.o 9 .nil))) 8 (.o 6 (.p 7 (.o 9 .nil)))))))))) H7 [0,1,2,3] yG (by decide) (by kernel_rfl) ?_
  rintro w8 hw8
  have H8:=Hp.drew H7;rw[← hw8]at H8
  refine Tf Y uE Y<|Tf Y wE Y<|TP Y<|MV (fun wz hz=>EL ty3 Y (hz.cell (i:=1) Y Y))<|Tf Y uE Y<|cT e56<|Tf Y uV Y<|TP Y<|MV (fun wz hz=>EL xK Y (hz.cell (i:=1) Y Y))<|pO ?_ ?_
  refine TQ Y<|yX Tryz.underlying73 ty5 (by decide) (H8.nil 5) 4 (g:=none) (n:=0) (cap:=0) (xs:=[]) (sp:=[]) Y Y Y (by decide) (by decide) (fun _=>Y) Y (hbe.1.to0 (HB.all H8)) (uK _) (by have:=hbe.2.2;omega) (by have:=hbe.2.2;omega) (by decide)<|fun w9 gq cq sq H9 _ _ _=>?_
  rw[Nat.zero_add nt.entry.val.length]
  refine OE ?_
  refine⟨fun hne=>H9.pick [0,1,2,3] (by decide),?_⟩
  refine cT e56<|TP Y<|MV (fun wz hz=>EB wD RW Y Y)<|TQ Y<|OA wD H9<|fun w10 g7 Ar _=>?_
  replace Ar:=Ar.pick [0,1,2,3,5,4] (by decide)
  refine OE ?_
  refine⟨fun hne=>Ar.pick [0,1,2,3] (by decide),?_⟩
  refine cT e56 ?_
  have m1:=()
  rotate_left 1
  refine TQ Y<|OA wD H8<|fun w9 g7 H9 _=>OE<|⟨fun hne=>H9.pick [0,1,2,3] (by decide),?_⟩
  refine cT e56<|TQ Y<|yX Tryz.underlying73 ty5 (by decide) (H9.nil 5) 5 (g:=none) (n:=0) (cap:=0) (xs:=[]) (sp:=[]) Y Y Y (by decide) (by decide) (fun _=>Y) Y (hbe.1.to0 (HB.all H9)) (uK _) (by have:=hbe.2.2;omega) (by have:=hbe.2.2;omega) (by decide)<|fun w10 gq cq sq Ar _ _ _=>?_
  rw[Nat.zero_add nt.entry.val.length]
  refine OE ?_
  refine⟨fun hne=>Ar.pick [0,1,2,3] (by decide),?_⟩
  refine cT e56<|TP Y<|MV (fun wz hz=>EB wD RW Y Y) ?_
  have m1:=()
  rotate_left 1
 any_goals
  clear m1
  refine TQ Y<|OS wD Ar 4 (vs:=[.int .i64 nt.entry.slot,.slice (hd gq) nt.entry.val.length cq]) Y Y Y Y Y (Nat.le_refl 2) Y<|fun Gm Bd=>OE<|⟨fun hne=>absurd Y hne,?_⟩
  refine cT e56<|sZ<|cR e56<|J2<|Xm Y<|Xf oO Y<|OV (EL ty3 Y (Bd.cell (i:=1) Y Y))<|Xf fl81_1 Y<|Aa e56<|OV (EL ty3 Y (Bd.cell (i:=1) Y Y))<|Xf jX Y<|OV (EN wX Y (vs:=[.int .i64 nt.b.r,.int .i64 nt.b.n]) Y (Bd.Ad (i:=1) Y Y))<|OV (EN yZ Y (vs:=[.int .i64 nt.Ag.slot,.int .i64 nt.Ag.b.r,.int .i64 nt.Ag.b.n,.slice (hd gv) nt.Ag.val.length cv]) Y (Bd.Ad (i:=2) Y Y))<|Aa e56<|OV (EN wD Y (vs:=[.int .i64 nt.entry.slot,.slice (hd gq) nt.entry.val.length cq]) Y (Bd.Ad (i:=4) Y Y))<|Xf fO Y<|OV (EN xR Y (vs:=[.int .i64 nt.right.g,yC nt.right.key,.int .i64 nt.right.Ai,.int .i64 nt.right.net]) Y (Bd.Ad (i:=1) Y Y))<|Xf tA Y<|Aa e56<|OV (EL ty3 Y (Bd.cell (i:=1) Y Y))<|Xf sQ Y<|OV (EL ty3 Y (Bd.cell (i:=1) Y Y))<|OV (EB xE pS Y (cs:=[.int .i64 nt.kind,.int .i64 nt.group,.int .i64 nt.b.r,.int .i64 nt.b.n,.int .i64 nt.Ag.slot,.int .i64 nt.Ag.b.r,.int .i64 nt.Ag.b.n,.slice (hd gv) nt.Ag.val.length cv,.int .i64 nt.entry.slot,.slice (hd gq) nt.entry.val.length cq,.int .i64 nt.right.g,yC nt.right.key,.int .i64 nt.right.Ai,.int .i64 nt.right.net,.int .i64 nt.client,.int .i64 nt.seq]) (by kernel_rfl))<|Aa e56<|zG Tryz.underlying22 xE Bd (cs:=[.int .i64 nt.kind,.int .i64 nt.group,.int .i64 nt.b.r,.int .i64 nt.b.n,.int .i64 nt.Ag.slot,.int .i64 nt.Ag.b.r,.int .i64 nt.Ag.b.n,.slice (hd gv) nt.Ag.val.length cv,.int .i64 nt.entry.slot,.slice (hd gq) nt.entry.val.length cq,.int .i64 nt.right.g,yC nt.right.key,.int .i64 nt.right.Ai,.int .i64 nt.right.net,.int .i64 nt.client,.int .i64 nt.seq]) Y (by decide) (by kernel_rfl)<|fun w12 gk Bc _=>xD Tryz.underlying22 xE (by decide) Bc 0 hG Y Y (rs:=[[.int .i64 nt.kind,.int .i64 nt.group,.int .i64 nt.b.r,.int .i64 nt.b.n,.int .i64 nt.Ag.slot,.int .i64 nt.Ag.b.r,.int .i64 nt.Ag.b.n,.slice (hd gv) nt.Ag.val.length cv,.int .i64 nt.entry.slot,.slice (hd gq) nt.entry.val.length cq,.int .i64 nt.right.g,yC nt.right.key,.int .i64 nt.right.Ai,.int .i64 nt.right.net,.int .i64 nt.client,.int .i64 nt.seq]]) (m:=1) Y Y (Bc.rd (i:=6) (o:=some _) (xs:=[.int .i64 nt.kind,.int .i64 nt.group,.int .i64 nt.b.r,.int .i64 nt.b.n,.int .i64 nt.Ag.slot,.int .i64 nt.Ag.b.r,.int .i64 nt.Ag.b.n,.slice (hd gv) nt.Ag.val.length cv,.int .i64 nt.entry.slot,.slice (hd gq) nt.entry.val.length cq,.int .i64 nt.right.g,yC nt.right.key,.int .i64 nt.right.Ai,.int .i64 nt.right.net,.int .i64 nt.client,.int .i64 nt.seq]) (sp:=[]) Y Y (by decide)) (Pl.one Y) (fun p hp=>by rw[List.mem_singleton.1 hp];rfl) (by omega) (by omega) (by decide)<|fun Io g2 cap2 sp2 Ce hG2=>Xa Y<|Xr e56<|zA (zB ?_)
  refine J2<|Xm Y<|OV (zL Y Y (IntWalk.i64_in _ (by omega)))<|Xa Y<|Xr e56<|zA (zI ?_)
  have HW:=HB.all Ce
  have hplB:=fun x (hb:g2=some x)=>Ce.place (i:=0) (g:=x) (by rw[← hb];rfl)
  exact⟨l.length - (i+1),by omega,i+1,_,g2,cap2,_,sp2,Y,(Jc Y Y Y Y),by omega,by omega,hG2,by
   rw[yU hx]
   refine(hA.imp fun p x h=>h.to Ce (Y6:=g2) fun k hk hne hlt=>⟨fun hb=>?_,fun e=>?_⟩).app (wC.one ⟨gv,cv,gq,cq,Y,LI.row HW (i:=3) (j:=0) Y Y (by decide) (fun k hk=>by cases hk) (Nat.le_refl _) hbv.2.2,LI.row HW (i:=5) (j:=0) Y Y (by decide) (fun k hk=>by cases hk) (Nat.le_refl _) hbe.2.2⟩)
   · cases g with
     | none=>simp[bl]at hb
     | some q=>exact hne (by rw[show k=q by simpa[bl]using hb])
   · rcases hplB k e with h | h
     · cases g with
       | none=>simp[bl]at h
       | some q=>exact hne (by rw[show k=q by simpa[bl]using h])
     · omega,HW.pick [0] (by decide)⟩
end Go.Proofs.YtjoeklkmnfaabaaGreat
namespace Go.Proofs.YtjoeklkmnfaabaaGreat
set_option maxRecDepth 100000
set_option maxHeartbeats 32000000
open Go Go.RowKit
set_option linter.unusedVariables false
attribute [local irreducible] yT Ops zP Cd
theorem G4 (b:Bo) (A1:Option Addr) (k1:Nat) (A2:Option Addr) (k2:Nat) (A3:Option Addr) (m3 k3:Nat) (N:Nat) (ok:Nat→Prop) (w0:World) (hb1:Sl (Gz w0 ok) 6 w0 ok A1 b.groups) (hb2:Sl Fb 4 w0 ok A2 b.rights) (hg:rJ b N) (hN:N≤900000000000) (hnn:b.notes.length≤1200000000000):zP Tryz.prog 21 #[.agg [.slice A1 b.groups.length k1,.slice A2 b.rights.length k2,.slice A3 m3 k3].toArray] w0 (fun r w'=>∃ A k,r=.slice A b.notes.length k∧Sl (NtR w' (up (fun x=>ok x∧x < w0.heap.size) w0.heap.size)) 16 w' (up (fun x=>ok x∧x < w0.heap.size) w0.heap.size) A b.notes∧Hp w0 w' [] []):=by
 refine zE Tryz.func21 Tryz.ntmps21 Y<|cR Dp ?_
 have hz8:=hg.eight
 obtain⟨ps,hp,hr,ha,h2⟩:=hb1.toS (ok':=(fun x=>ok x∧x < w0.heap.size)) (Hp.refl _) fun x hx hl=>⟨by simp,hx,hl⟩
 obtain⟨pr,hpr,hrr,har,h2r⟩:=hb2.toR (ok':=(fun x=>ok x∧x < w0.heap.size)) (Hp.refl _) fun x hx hl=>⟨by simp,hx,hl⟩
 obtain⟨a1,rfl⟩:=hr.some_ (by omega)
 have Je:∀ x,(fun x=>ok x∧x < w0.heap.size) x→x < w0.heap.size→x∉([]:List Nat)∧(fun x=>ok x∧x < w0.heap.size) x:=fun x hx _=>⟨by simp,hx⟩
 have H:=Hp.refl w0
 refine Rq<|yA Y Y H<|fun w1 gb H1 _=>Xa Y<|Xr Dp<|Rq<|Xa Y<|Xr Dp<|J1<|Rq<|Xa Y<|Xr Dp<|J7<|zU (fun nQ lQ w=>∃ (i:Nat) (y:Int) (g:Option Nat) (cap:Nat) (qs:List (List Value)) (sp:List Value),b.groups.length - i=nQ∧xN (Dj [(1,.pointer (some ⟨gb,0,none⟩)),(3,.slice (hd g) qs.length cap),(4,.int .i64 y)] 0 96) lQ∧y=(i:Int)∧i≤b.groups.length∧Gw 16 g cap qs sp∧wC (NtR w0 (fun x=>ok x∧x < w0.heap.size)) qs (gN (b.groups.take i))∧Hp w0 w ([]) [((some gb,41,[.slice (some a1) b.groups.length k1,.slice A2 b.rights.length k2,.slice A3 m3 k3]):Ent),(g,81,qs.flatten++sp)]) (b.groups.length) ?_ ?_
 exact⟨0,_,none,0,[],[],Y,(Jc Y Y Y Y),Y,Nat.zero_le _,Gw.nil 16,trivial,H1.nil 81⟩
 rintro nQ lQ w2 ⟨i,y,g,cap,qs,sp,rfl,hfit,rfl,hi,hG,hA,H2⟩
 obtain⟨j,rfl⟩:=hfit.open
 refine cR Dp ?_
 clear hfit
 refine J1<|Rq<|Xm Y<|Xf vO Y<|OV (EL qH Y (H2.cell (i:=0) Y Y))<|OV (ES Tryz.underlying37 Y)<|Aa Dp<|OT (zQ Y Y) (fun Gh=>?_) (fun Gh=>?_)
 have hil:i < b.groups.length:=by omega
 obtain⟨s,hx⟩:=yM hil
 obtain⟨p1,hp1,hR⟩:=h2.get hx
 obtain⟨D1,e1,D2,e2,D3,e3,rfl,hv,hm,he⟩:=hR
 obtain⟨R,hRr⟩:=UI hx
 have hnl:b.notes.length=(gN (b.groups.take i)).length+(tS i s).length+s.entries.length+(sF i s).length+s.Ae.length+R.length+b.rights.length:=by
  unfold Bo.notes
  rw[hRr]
  unfold Ko
  simp only[List.length_append,List.length_map]
  omega
 obtain⟨vs,hpv,Ju,hav,h2v⟩:=id hv
 obtain⟨en,hpe,hre,hae,h2e⟩:=id he
 have Cb:=hA.len
 try simp only[List.length_append,List.length_map,List.length_take]at Cb
 refine Xr Dp<|J3 Y<|J6<|J1<|J7<|Rq<|Xf vO Y<|OV (EL qH Y (H2.cell (i:=0) Y Y))<|Xm Y<|OV (EI Tryz.underlying37 xW Y Y Y hil Y)<|Aa Dp<|OV (EN xW Y (vs:=[.int .i64 s.p.r,.int .i64 s.p.n,.slice D1 s.Ae.length e1,.int .i64 s.index,.slice D2 s.image.length e2,.slice D3 s.entries.length e3]) Y (((hr.move (by decide) ha H2 Je).1).elem hp hp1))<|OA xW H2<|fun w3 g5 H3 _=>OS xW H3 2 (vs:=[.int .i64 s.p.r,.int .i64 s.p.n,.slice D1 s.Ae.length e1,.int .i64 s.index,.slice D2 s.image.length e2,.slice D3 s.entries.length e3]) Y Y Y Y Y (Nat.le_refl 6) Y<|fun w4 H4=>Xr Dp<|J1<|Rq<|Xf wR Y<|OV (EL ty3 Y (H4.cell (i:=2) Y Y))<|OT (yS Y Y) (fun hp23=>?_) (fun hp23=>?_)
 have him:tS i s=[Yp i s]:=if_pos hp23
 have hil1:(tS i s).length=1:=by rw[him];rfl
 refine Xr Dp<|J3 Y<|J2<|Xm Y<|Xm Y<|Xf wR Y<|OV (EL ty3 Y (H4.cell (i:=2) Y Y))<|Aa Dp<|Xf uU Y<|OV (EL xK Y (H4.cell (i:=2) Y Y))<|OV (EB wD RW Y Y)<|OV (EB xE pS Y (cs:=[.int .i64 4,.int .i64 (i:Int),.int .i64 0,.int .i64 0,.int .i64 0,.int .i64 0,.int .i64 0,.slice none 0 0,.int .i64 s.index,.slice D2 s.image.length e2,.int .i64 0,yC [],.int .i64 0,.int .i64 0,.int .i64 0,.int .i64 0]) (by kernel_rfl))<|Aa Dp<|zG Tryz.underlying22 xE H4 (cs:=[.int .i64 4,.int .i64 (i:Int),.int .i64 0,.int .i64 0,.int .i64 0,.int .i64 0,.int .i64 0,.slice none 0 0,.int .i64 s.index,.slice D2 s.image.length e2,.int .i64 0,yC [],.int .i64 0,.int .i64 0,.int .i64 0,.int .i64 0]) Y (by decide) (by kernel_rfl)<|fun w5 gk H5 _=>xD Tryz.underlying22 xE (by decide) H5 1 hG Y Y (rs:=[[.int .i64 4,.int .i64 (i:Int),.int .i64 0,.int .i64 0,.int .i64 0,.int .i64 0,.int .i64 0,.slice none 0 0,.int .i64 s.index,.slice D2 s.image.length e2,.int .i64 0,yC [],.int .i64 0,.int .i64 0,.int .i64 0,.int .i64 0]]) (m:=1) Y Y (H5.rd (i:=3) (o:=some _) (xs:=[.int .i64 4,.int .i64 (i:Int),.int .i64 0,.int .i64 0,.int .i64 0,.int .i64 0,.int .i64 0,.slice none 0 0,.int .i64 s.index,.slice D2 s.image.length e2,.int .i64 0,yC [],.int .i64 0,.int .i64 0,.int .i64 0,.int .i64 0]) (sp:=[]) Y Y (by decide)) (Pl.one Y) (fun p hp=>by rw[List.mem_singleton.1 hp];rfl) (by omega) (by omega) (by decide)<|fun w6 g cap sp H6 hG=>?_
 obtain⟨qs,Hq⟩:∃ q,q=qs++[[.int .i64 4,.int .i64 (i:Int),.int .i64 0,.int .i64 0,.int .i64 0,.int .i64 0,.int .i64 0,.slice none 0 0,.int .i64 s.index,.slice D2 s.image.length e2,.int .i64 0,yC [],.int .i64 0,.int .i64 0,.int .i64 0,.int .i64 0]]:=⟨_,rfl⟩
 rw[← Hq]at hG H6 ⊢
 replace hA:wC (NtR w0 (fun x=>ok x∧x < w0.heap.size)) qs (gN (b.groups.take i)++tS i s):=by
  rw[Hq,him]
  exact hA.app (wC.one ⟨none,0,D2,e2,Y,Bs.none _ _,hm⟩)
 clear Hq
 refine Xa Y<|Xr Dp<|J1<|Rq<|Xa Y<|Xr Dp<|J7<|zU (fun nQ lQ w=>∃ (q:Nat) (z:Int) (g:Option Nat) (cap:Nat) (qs:List (List Value)) (sp:List Value),s.entries.length - q=nQ∧xN (Dj [(1,.pointer (some ⟨gb,0,none⟩)),(3,.slice (hd g) qs.length cap),(4,.int .i64 (i:Int)),(5,.pointer (some ⟨g5,0,none⟩)),(6,.int .i64 z)] 0 96) lQ∧z=(q:Int)∧q≤s.entries.length∧Gw 16 g cap qs sp∧wC (NtR w0 (fun x=>ok x∧x < w0.heap.size)) qs (gN (b.groups.take i)++tS i s++(s.entries.take q).map (Ji i))∧Hp w0 w ([]) [((some gb,41,[.slice (some a1) b.groups.length k1,.slice A2 b.rights.length k2,.slice A3 m3 k3]):Ent),(g,81,qs.flatten++sp),(some g5,97,[.int .i64 s.p.r,.int .i64 s.p.n,.slice D1 s.Ae.length e1,.int .i64 s.index,.slice D2 s.image.length e2,.slice D3 s.entries.length e3])]) (s.entries.length) ?_ ?_
 exact⟨0,_,g,cap,qs,sp,Y,(Ez Y Y Y Y Y Y),Y,Nat.zero_le _,hG,by simpa using hA,H6.pick [0,1,2] (by decide)⟩
 rintro nQ lQ w7 ⟨q,z,g,cap,qs,sp,rfl,hfit,rfl,hqi,hG,hA,H7⟩
 obtain⟨j,rfl⟩:=hfit.open
 refine cR Dp ?_
 clear hfit
 refine J1<|Rq<|Xm Y<|Xf xZ Y<|OV (EL uZ Y (H7.cell (i:=2) Y Y))<|OV (ES Tryz.underlying95 Y)<|Aa Dp<|OT (zQ Y Y) (fun hp38=>?_) (fun hp38=>?_)
 have Fz:q < s.entries.length:=by omega
 obtain⟨v,hxv⟩:=yM Fz
 obtain⟨pv,hpv1,hRv⟩:=h2e.get hxv
 obtain⟨G1,f1,rfl,hbv⟩:=hRv
 obtain⟨a3,Jr⟩:=hre.some_ (by omega)
 subst Jr
 have Cb:=hA.len
 try simp only[List.length_append,List.length_map,List.length_take]at Cb
 refine Xr Dp<|J3 Y<|J6<|J1<|J7<|J2<|Xm Y<|Xm Y<|Xf xZ Y<|OV (EL uZ Y (H7.cell (i:=2) Y Y))<|Aa Dp<|Xm Y<|OV (EI Tryz.underlying95 wD Y Y Y Fz Y)<|OV (EN wD Y (vs:=[.int .i64 v.slot,.slice G1 v.val.length f1]) Y (((hre.move (by decide) hae H7 Je).1).elem hpe hpv1))<|OV (EB xE pS Y (cs:=[.int .i64 3,.int .i64 (i:Int),.int .i64 0,.int .i64 0,.int .i64 0,.int .i64 0,.int .i64 0,.slice none 0 0,.int .i64 v.slot,.slice G1 v.val.length f1,.int .i64 0,yC [],.int .i64 0,.int .i64 0,.int .i64 0,.int .i64 0]) (by kernel_rfl))<|Aa Dp<|zG Tryz.underlying22 xE H7 (cs:=[.int .i64 3,.int .i64 (i:Int),.int .i64 0,.int .i64 0,.int .i64 0,.int .i64 0,.int .i64 0,.slice none 0 0,.int .i64 v.slot,.slice G1 v.val.length f1,.int .i64 0,yC [],.int .i64 0,.int .i64 0,.int .i64 0,.int .i64 0]) Y (by decide) (by kernel_rfl)<|fun w8 gk H8 _=>xD Tryz.underlying22 xE (by decide) H8 1 hG Y Y (rs:=[[.int .i64 3,.int .i64 (i:Int),.int .i64 0,.int .i64 0,.int .i64 0,.int .i64 0,.int .i64 0,.slice none 0 0,.int .i64 v.slot,.slice G1 v.val.length f1,.int .i64 0,yC [],.int .i64 0,.int .i64 0,.int .i64 0,.int .i64 0]]) (m:=1) Y Y (H8.rd (i:=3) (o:=some _) (xs:=[.int .i64 3,.int .i64 (i:Int),.int .i64 0,.int .i64 0,.int .i64 0,.int .i64 0,.int .i64 0,.slice none 0 0,.int .i64 v.slot,.slice G1 v.val.length f1,.int .i64 0,yC [],.int .i64 0,.int .i64 0,.int .i64 0,.int .i64 0]) (sp:=[]) Y Y (by decide)) (Pl.one Y) (fun p hp=>by rw[List.mem_singleton.1 hp];rfl) (by omega) (by omega) (by decide)<|fun w9 g cap sp H9 hG=>Xa Y<|Xr Dp<|zA (zB ?_)
 refine J2<|Xm Y<|OV (zL Y Y (IntWalk.i64_in _ (by omega)))<|Xa Y<|Xr Dp<|zA (zI ?_)
 exact⟨s.entries.length - (q+1),by omega,q+1,_,g,cap,_,sp,Y,(Ez Y Y Y Y Y Y),by omega,by omega,hG,by rw[yU hxv,List.map_append,← List.append_assoc];exact hA.app (wC.one ⟨none,0,_,_,Y,Bs.none _ _,hbv⟩),H9.pick [0,1,2] (by decide)⟩
 obtain rfl:q=s.entries.length:=by omega
 rw[List.take_length]at hA
 refine Xr Dp<|J4 Y<|J8<|zT<|zS<|J1<|Rq<|Xf vW Y<|OV (EN wX Y (vs:=[.int .i64 s.p.r,.int .i64 s.p.n]) Y (H7.Ad (i:=2) Y Y))<|OV (EB wX BG Y Y)<|OT (sB Y Y) (fun Gt=>?_) (fun Gt=>?_)
 have hpm:sF i s=[WG i s.p]:=if_pos Gt
 have X9:(sF i s).length=1:=by rw[hpm];rfl
 have Cb:=hA.len
 try simp only[List.length_append,List.length_map,List.length_take]at Cb
 refine Xr Dp<|J3 Y<|J2<|Xm Y<|Xm Y<|Xf vW Y<|OV (EN wX Y (vs:=[.int .i64 s.p.r,.int .i64 s.p.n]) Y (H7.Ad (i:=2) Y Y))<|Aa Dp<|OV (EB xE pS Y (cs:=[.int .i64 1,.int .i64 (i:Int),.int .i64 s.p.r,.int .i64 s.p.n,.int .i64 0,.int .i64 0,.int .i64 0,.slice none 0 0,.int .i64 0,.slice none 0 0,.int .i64 0,yC [],.int .i64 0,.int .i64 0,.int .i64 0,.int .i64 0]) (by kernel_rfl))<|zG Tryz.underlying22 xE H7 (cs:=[.int .i64 1,.int .i64 (i:Int),.int .i64 s.p.r,.int .i64 s.p.n,.int .i64 0,.int .i64 0,.int .i64 0,.slice none 0 0,.int .i64 0,.slice none 0 0,.int .i64 0,yC [],.int .i64 0,.int .i64 0,.int .i64 0,.int .i64 0]) Y (by decide) (by kernel_rfl)<|fun w8 gk H8 _=>xD Tryz.underlying22 xE (by decide) H8 1 hG Y Y (rs:=[[.int .i64 1,.int .i64 (i:Int),.int .i64 s.p.r,.int .i64 s.p.n,.int .i64 0,.int .i64 0,.int .i64 0,.slice none 0 0,.int .i64 0,.slice none 0 0,.int .i64 0,yC [],.int .i64 0,.int .i64 0,.int .i64 0,.int .i64 0]]) (m:=1) Y Y (H8.rd (i:=3) (o:=some _) (xs:=[.int .i64 1,.int .i64 (i:Int),.int .i64 s.p.r,.int .i64 s.p.n,.int .i64 0,.int .i64 0,.int .i64 0,.slice none 0 0,.int .i64 0,.slice none 0 0,.int .i64 0,yC [],.int .i64 0,.int .i64 0,.int .i64 0,.int .i64 0]) (sp:=[]) Y Y (by decide)) (Pl.one Y) (fun p hp=>by rw[List.mem_singleton.1 hp];rfl) (by omega) (by omega) (by decide)<|fun w9 g cap sp H9 hG=>?_
 obtain⟨qs,Hq⟩:∃ q,q=qs++[[.int .i64 1,.int .i64 (i:Int),.int .i64 s.p.r,.int .i64 s.p.n,.int .i64 0,.int .i64 0,.int .i64 0,.slice none 0 0,.int .i64 0,.slice none 0 0,.int .i64 0,yC [],.int .i64 0,.int .i64 0,.int .i64 0,.int .i64 0]]:=⟨_,rfl⟩
 rw[← Hq]at hG H9 ⊢
 replace hA:wC (NtR w0 (fun x=>ok x∧x < w0.heap.size)) qs (gN (b.groups.take i)++tS i s++s.entries.map (Ji i)++sF i s):=by
  rw[Hq,hpm]
  exact hA.app (wC.one ⟨none,0,none,0,Y,Bs.none _ _,Bs.none _ _⟩)
 clear Hq
 refine Xa Y<|Xr Dp<|Rq<|Xa Y<|Xr Dp<|J7<|zU (fun nQ lQ w=>∃ (q:Nat) (z:Int) (g:Option Nat) (cap:Nat) (qs:List (List Value)) (sp:List Value),s.Ae.length - q=nQ∧xN (Dj [(1,.pointer (some ⟨gb,0,none⟩)),(3,.slice (hd g) qs.length cap),(4,.int .i64 (i:Int)),(5,.pointer (some ⟨g5,0,none⟩)),(7,.int .i64 z)] 0 96) lQ∧z=(q:Int)∧q≤s.Ae.length∧Gw 16 g cap qs sp∧wC (NtR w0 (fun x=>ok x∧x < w0.heap.size)) qs (gN (b.groups.take i)++tS i s++s.entries.map (Ji i)++sF i s++(s.Ae.take q).map (Uw i))∧Hp w0 w ([]) [((some gb,41,[.slice (some a1) b.groups.length k1,.slice A2 b.rights.length k2,.slice A3 m3 k3]):Ent),(g,81,qs.flatten++sp),(some g5,97,[.int .i64 s.p.r,.int .i64 s.p.n,.slice D1 s.Ae.length e1,.int .i64 s.index,.slice D2 s.image.length e2,.slice D3 s.entries.length e3])]) (s.Ae.length) ?_ ?_
 exact⟨0,_,g,cap,qs,sp,Y,(Ez Y Y Y Y Y Y),Y,Nat.zero_le _,hG,by simpa using hA,H9.pick [0,1,2] (by decide)⟩
 rintro nQ lQ w10 ⟨q,z,g,cap,qs,sp,rfl,hfit,rfl,hqi,hG,hA,Ar⟩
 obtain⟨j,rfl⟩:=hfit.open
 refine cR Dp ?_
 clear hfit
 refine J1<|Rq<|Xm Y<|Xf xV Y<|OV (EL uP Y (Ar.cell (i:=2) Y Y))<|OV (ES Tryz.underlying94 Y)<|Aa Dp<|OT (zQ Y Y) (fun Sm=>?_) (fun Sm=>?_)
 have Fz:q < s.Ae.length:=by omega
 obtain⟨v,hxv⟩:=yM Fz
 obtain⟨pv,hpv1,hRv⟩:=h2v.get hxv
 obtain⟨G1,f1,rfl,hbv⟩:=hRv
 obtain⟨a3,Jr⟩:=Ju.some_ (by omega)
 subst Jr
 have Cb:=hA.len
 try simp only[List.length_append,List.length_map,List.length_take]at Cb
 refine Xr Dp<|J3 Y<|J6<|J1<|J7<|J2<|Xm Y<|Xm Y<|Xf xV Y<|OV (EL uP Y (Ar.cell (i:=2) Y Y))<|Aa Dp<|Xm Y<|OV (EI Tryz.underlying94 yZ Y Y Y Fz Y)<|OV (EN yZ Y (vs:=[.int .i64 v.slot,.int .i64 v.b.r,.int .i64 v.b.n,.slice G1 v.val.length f1]) Y (((Ju.move (by decide) hav Ar Je).1).elem hpv hpv1))<|OV (EB xE pS Y (cs:=[.int .i64 2,.int .i64 (i:Int),.int .i64 0,.int .i64 0,.int .i64 v.slot,.int .i64 v.b.r,.int .i64 v.b.n,.slice G1 v.val.length f1,.int .i64 0,.slice none 0 0,.int .i64 0,yC [],.int .i64 0,.int .i64 0,.int .i64 0,.int .i64 0]) (by kernel_rfl))<|Aa Dp<|zG Tryz.underlying22 xE Ar (cs:=[.int .i64 2,.int .i64 (i:Int),.int .i64 0,.int .i64 0,.int .i64 v.slot,.int .i64 v.b.r,.int .i64 v.b.n,.slice G1 v.val.length f1,.int .i64 0,.slice none 0 0,.int .i64 0,yC [],.int .i64 0,.int .i64 0,.int .i64 0,.int .i64 0]) Y (by decide) (by kernel_rfl)<|fun Gm gk Bd _=>xD Tryz.underlying22 xE (by decide) Bd 1 hG Y Y (rs:=[[.int .i64 2,.int .i64 (i:Int),.int .i64 0,.int .i64 0,.int .i64 v.slot,.int .i64 v.b.r,.int .i64 v.b.n,.slice G1 v.val.length f1,.int .i64 0,.slice none 0 0,.int .i64 0,yC [],.int .i64 0,.int .i64 0,.int .i64 0,.int .i64 0]]) (m:=1) Y Y (Bd.rd (i:=3) (o:=some _) (xs:=[.int .i64 2,.int .i64 (i:Int),.int .i64 0,.int .i64 0,.int .i64 v.slot,.int .i64 v.b.r,.int .i64 v.b.n,.slice G1 v.val.length f1,.int .i64 0,.slice none 0 0,.int .i64 0,yC [],.int .i64 0,.int .i64 0,.int .i64 0,.int .i64 0]) (sp:=[]) Y Y (by decide)) (Pl.one Y) (fun p hp=>by rw[List.mem_singleton.1 hp];rfl) (by omega) (by omega) (by decide)<|fun w12 g cap sp Bc hG=>Xa Y<|Xr Dp<|zA (zB ?_)
 refine J2<|Xm Y<|OV (zL Y Y (IntWalk.i64_in _ (by omega)))<|Xa Y<|Xr Dp<|zA (zI ?_)
 exact⟨s.Ae.length - (q+1),by omega,q+1,_,g,cap,_,sp,Y,(Ez Y Y Y Y Y Y),by omega,by omega,hG,by rw[yU hxv,List.map_append,← List.append_assoc];exact hA.app (wC.one ⟨_,_,none,0,Y,hbv,Bs.none _ _⟩),Bc.pick [0,1,2] (by decide)⟩
 obtain rfl:q=s.Ae.length:=by omega
 rw[List.take_length]at hA
 refine Xr Dp<|J4 Y<|J8<|zT<|zS<|zA (zB ?_)
 refine J2<|Xm Y<|OV (zL Y Y (IntWalk.i64_in _ (by omega)))<|Xa Y<|Xr Dp<|zA (zI ?_)
 have hti:(b.groups.take i).length=i:=by rw[List.length_take];omega
 exact⟨b.groups.length - (i+1),by omega,i+1,_,g,cap,qs,sp,Y,(Jc Y Y Y Y),by omega,by omega,hG,by rw[yU hx,pY,hti];unfold Ko;simpa only[List.append_assoc]using hA,Ar.pick [0,1] (by decide)⟩
 have hpm:sF i s=[]:=if_neg Gt
 replace hA:wC (NtR w0 (fun x=>ok x∧x < w0.heap.size)) qs (gN (b.groups.take i)++tS i s++s.entries.map (Ji i)++sF i s):=by rw[hpm,List.append_nil];exact hA
 refine Xr Dp<|J4 Y<|J6 ?_
 have m1:=()
 rotate_left 1
 have him:tS i s=[]:=if_neg hp23
 replace hA:wC (NtR w0 (fun x=>ok x∧x < w0.heap.size)) qs (gN (b.groups.take i)++tS i s):=by rw[him,List.append_nil];exact hA
 refine Xr Dp<|J4 Y<|J6<|J1<|Rq<|Xa Y<|Xr Dp<|J7<|zU (fun nQ lQ w=>∃ (q:Nat) (z:Int) (g:Option Nat) (cap:Nat) (qs:List (List Value)) (sp:List Value),s.entries.length - q=nQ∧xN (Dj [(1,.pointer (some ⟨gb,0,none⟩)),(3,.slice (hd g) qs.length cap),(4,.int .i64 (i:Int)),(5,.pointer (some ⟨g5,0,none⟩)),(6,.int .i64 z)] 0 96) lQ∧z=(q:Int)∧q≤s.entries.length∧Gw 16 g cap qs sp∧wC (NtR w0 (fun x=>ok x∧x < w0.heap.size)) qs (gN (b.groups.take i)++tS i s++(s.entries.take q).map (Ji i))∧Hp w0 w ([]) [((some gb,41,[.slice (some a1) b.groups.length k1,.slice A2 b.rights.length k2,.slice A3 m3 k3]):Ent),(g,81,qs.flatten++sp),(some g5,97,[.int .i64 s.p.r,.int .i64 s.p.n,.slice D1 s.Ae.length e1,.int .i64 s.index,.slice D2 s.image.length e2,.slice D3 s.entries.length e3])]) (s.entries.length) ?_ ?_
 exact⟨0,_,g,cap,qs,sp,Y,(Ez Y Y Y Y Y Y),Y,Nat.zero_le _,hG,by simpa using hA,H4.pick [0,1,2] (by decide)⟩
 rintro nQ lQ w5 ⟨q,z,g,cap,qs,sp,rfl,hfit,rfl,hqi,hG,hA,H5⟩
 obtain⟨j,rfl⟩:=hfit.open
 refine cR Dp ?_
 clear hfit
 refine J1<|Rq<|Xm Y<|Xf xZ Y<|OV (EL uZ Y (H5.cell (i:=2) Y Y))<|OV (ES Tryz.underlying95 Y)<|Aa Dp<|OT (zQ Y Y) (fun hp38=>?_) (fun hp38=>?_)
 have Fz:q < s.entries.length:=by omega
 obtain⟨v,hxv⟩:=yM Fz
 obtain⟨pv,hpv1,hRv⟩:=h2e.get hxv
 obtain⟨G1,f1,rfl,hbv⟩:=hRv
 obtain⟨a3,Jr⟩:=hre.some_ (by omega)
 subst Jr
 have Cb:=hA.len
 try simp only[List.length_append,List.length_map,List.length_take]at Cb
 refine Xr Dp<|J3 Y<|J6<|J1<|J7<|J2<|Xm Y<|Xm Y<|Xf xZ Y<|OV (EL uZ Y (H5.cell (i:=2) Y Y))<|Aa Dp<|Xm Y<|OV (EI Tryz.underlying95 wD Y Y Y Fz Y)<|OV (EN wD Y (vs:=[.int .i64 v.slot,.slice G1 v.val.length f1]) Y (((hre.move (by decide) hae H5 Je).1).elem hpe hpv1))<|OV (EB xE pS Y (cs:=[.int .i64 3,.int .i64 (i:Int),.int .i64 0,.int .i64 0,.int .i64 0,.int .i64 0,.int .i64 0,.slice none 0 0,.int .i64 v.slot,.slice G1 v.val.length f1,.int .i64 0,yC [],.int .i64 0,.int .i64 0,.int .i64 0,.int .i64 0]) (by kernel_rfl))<|Aa Dp<|zG Tryz.underlying22 xE H5 (cs:=[.int .i64 3,.int .i64 (i:Int),.int .i64 0,.int .i64 0,.int .i64 0,.int .i64 0,.int .i64 0,.slice none 0 0,.int .i64 v.slot,.slice G1 v.val.length f1,.int .i64 0,yC [],.int .i64 0,.int .i64 0,.int .i64 0,.int .i64 0]) Y (by decide) (by kernel_rfl)<|fun w6 gk H6 _=>xD Tryz.underlying22 xE (by decide) H6 1 hG Y Y (rs:=[[.int .i64 3,.int .i64 (i:Int),.int .i64 0,.int .i64 0,.int .i64 0,.int .i64 0,.int .i64 0,.slice none 0 0,.int .i64 v.slot,.slice G1 v.val.length f1,.int .i64 0,yC [],.int .i64 0,.int .i64 0,.int .i64 0,.int .i64 0]]) (m:=1) Y Y (H6.rd (i:=3) (o:=some _) (xs:=[.int .i64 3,.int .i64 (i:Int),.int .i64 0,.int .i64 0,.int .i64 0,.int .i64 0,.int .i64 0,.slice none 0 0,.int .i64 v.slot,.slice G1 v.val.length f1,.int .i64 0,yC [],.int .i64 0,.int .i64 0,.int .i64 0,.int .i64 0]) (sp:=[]) Y Y (by decide)) (Pl.one Y) (fun p hp=>by rw[List.mem_singleton.1 hp];rfl) (by omega) (by omega) (by decide)<|fun w7 g cap sp H7 hG=>Xa Y<|Xr Dp<|zA (zB ?_)
 refine J2<|Xm Y<|OV (zL Y Y (IntWalk.i64_in _ (by omega)))<|Xa Y<|Xr Dp<|zA (zI ?_)
 exact⟨s.entries.length - (q+1),by omega,q+1,_,g,cap,_,sp,Y,(Ez Y Y Y Y Y Y),by omega,by omega,hG,by rw[yU hxv,List.map_append,← List.append_assoc];exact hA.app (wC.one ⟨none,0,_,_,Y,Bs.none _ _,hbv⟩),H7.pick [0,1,2] (by decide)⟩
 obtain rfl:q=s.entries.length:=by omega
 rw[List.take_length]at hA
 refine Xr Dp<|J4 Y<|J8<|zT<|zS<|J1<|Rq<|Xf vW Y<|OV (EN wX Y (vs:=[.int .i64 s.p.r,.int .i64 s.p.n]) Y (H5.Ad (i:=2) Y Y))<|OV (EB wX BG Y Y)<|OT (sB Y Y) (fun Gt=>?_) (fun Gt=>?_)
 have hpm:sF i s=[WG i s.p]:=if_pos Gt
 have X9:(sF i s).length=1:=by rw[hpm];rfl
 have Cb:=hA.len
 try simp only[List.length_append,List.length_map,List.length_take]at Cb
 refine Xr Dp<|J3 Y<|J2<|Xm Y<|Xm Y<|Xf vW Y<|OV (EN wX Y (vs:=[.int .i64 s.p.r,.int .i64 s.p.n]) Y (H5.Ad (i:=2) Y Y))<|Aa Dp<|OV (EB xE pS Y (cs:=[.int .i64 1,.int .i64 (i:Int),.int .i64 s.p.r,.int .i64 s.p.n,.int .i64 0,.int .i64 0,.int .i64 0,.slice none 0 0,.int .i64 0,.slice none 0 0,.int .i64 0,yC [],.int .i64 0,.int .i64 0,.int .i64 0,.int .i64 0]) (by kernel_rfl))<|zG Tryz.underlying22 xE H5 (cs:=[.int .i64 1,.int .i64 (i:Int),.int .i64 s.p.r,.int .i64 s.p.n,.int .i64 0,.int .i64 0,.int .i64 0,.slice none 0 0,.int .i64 0,.slice none 0 0,.int .i64 0,yC [],.int .i64 0,.int .i64 0,.int .i64 0,.int .i64 0]) Y (by decide) (by kernel_rfl)<|fun w6 gk H6 _=>xD Tryz.underlying22 xE (by decide) H6 1 hG Y Y (rs:=[[.int .i64 1,.int .i64 (i:Int),.int .i64 s.p.r,.int .i64 s.p.n,.int .i64 0,.int .i64 0,.int .i64 0,.slice none 0 0,.int .i64 0,.slice none 0 0,.int .i64 0,yC [],.int .i64 0,.int .i64 0,.int .i64 0,.int .i64 0]]) (m:=1) Y Y (H6.rd (i:=3) (o:=some _) (xs:=[.int .i64 1,.int .i64 (i:Int),.int .i64 s.p.r,.int .i64 s.p.n,.int .i64 0,.int .i64 0,.int .i64 0,.slice none 0 0,.int .i64 0,.slice none 0 0,.int .i64 0,yC [],.int .i64 0,.int .i64 0,.int .i64 0,.int .i64 0]) (sp:=[]) Y Y (by decide)) (Pl.one Y) (fun p hp=>by rw[List.mem_singleton.1 hp];rfl) (by omega) (by omega) (by decide)<|fun w7 g cap sp H7 hG=>?_
 obtain⟨qs,Hq⟩:∃ q,q=qs++[[.int .i64 1,.int .i64 (i:Int),.int .i64 s.p.r,.int .i64 s.p.n,.int .i64 0,.int .i64 0,.int .i64 0,.slice none 0 0,.int .i64 0,.slice none 0 0,.int .i64 0,yC [],.int .i64 0,.int .i64 0,.int .i64 0,.int .i64 0]]:=⟨_,rfl⟩
 rw[← Hq]at hG H7 ⊢
 replace hA:wC (NtR w0 (fun x=>ok x∧x < w0.heap.size)) qs (gN (b.groups.take i)++tS i s++s.entries.map (Ji i)++sF i s):=by
  rw[Hq,hpm]
  exact hA.app (wC.one ⟨none,0,none,0,Y,Bs.none _ _,Bs.none _ _⟩)
 clear Hq
 refine Xa Y<|Xr Dp ?_
 have m1:=()
 rotate_left 1
 have hpm:sF i s=[]:=if_neg Gt
 replace hA:wC (NtR w0 (fun x=>ok x∧x < w0.heap.size)) qs (gN (b.groups.take i)++tS i s++s.entries.map (Ji i)++sF i s):=by rw[hpm,List.append_nil];exact hA
 refine Xr Dp<|J4 Y<|J6<|Rq<|Xa Y<|Xr Dp<|J7<|zU (fun nQ lQ w=>∃ (q:Nat) (z:Int) (g:Option Nat) (cap:Nat) (qs:List (List Value)) (sp:List Value),s.Ae.length - q=nQ∧xN (Dj [(1,.pointer (some ⟨gb,0,none⟩)),(3,.slice (hd g) qs.length cap),(4,.int .i64 (i:Int)),(5,.pointer (some ⟨g5,0,none⟩)),(7,.int .i64 z)] 0 96) lQ∧z=(q:Int)∧q≤s.Ae.length∧Gw 16 g cap qs sp∧wC (NtR w0 (fun x=>ok x∧x < w0.heap.size)) qs (gN (b.groups.take i)++tS i s++s.entries.map (Ji i)++sF i s++(s.Ae.take q).map (Uw i))∧Hp w0 w ([]) [((some gb,41,[.slice (some a1) b.groups.length k1,.slice A2 b.rights.length k2,.slice A3 m3 k3]):Ent),(g,81,qs.flatten++sp),(some g5,97,[.int .i64 s.p.r,.int .i64 s.p.n,.slice D1 s.Ae.length e1,.int .i64 s.index,.slice D2 s.image.length e2,.slice D3 s.entries.length e3])]) (s.Ae.length) ?_ ?_
 exact⟨0,_,g,cap,qs,sp,Y,(Ez Y Y Y Y Y Y),Y,Nat.zero_le _,hG,by simpa using hA,H5.pick [0,1,2] (by decide)⟩
 rintro nQ lQ w6 ⟨q,z,g,cap,qs,sp,rfl,hfit,rfl,hqi,hG,hA,H6⟩
 obtain⟨j,rfl⟩:=hfit.open
 refine cR Dp ?_
 clear hfit
 refine J1<|Rq<|Xm Y<|Xf xV Y<|OV (EL uP Y (H6.cell (i:=2) Y Y))<|OV (ES Tryz.underlying94 Y)<|Aa Dp<|OT (zQ Y Y) (fun Sm=>?_) (fun Sm=>?_)
 have Fz:q < s.Ae.length:=by omega
 obtain⟨v,hxv⟩:=yM Fz
 obtain⟨pv,hpv1,hRv⟩:=h2v.get hxv
 obtain⟨G1,f1,rfl,hbv⟩:=hRv
 obtain⟨a3,Jr⟩:=Ju.some_ (by omega)
 subst Jr
 have Cb:=hA.len
 try simp only[List.length_append,List.length_map,List.length_take]at Cb
 refine Xr Dp<|J3 Y<|J6<|J1<|J7<|J2<|Xm Y<|Xm Y<|Xf xV Y<|OV (EL uP Y (H6.cell (i:=2) Y Y))<|Aa Dp<|Xm Y<|OV (EI Tryz.underlying94 yZ Y Y Y Fz Y)<|OV (EN yZ Y (vs:=[.int .i64 v.slot,.int .i64 v.b.r,.int .i64 v.b.n,.slice G1 v.val.length f1]) Y (((Ju.move (by decide) hav H6 Je).1).elem hpv hpv1))<|OV (EB xE pS Y (cs:=[.int .i64 2,.int .i64 (i:Int),.int .i64 0,.int .i64 0,.int .i64 v.slot,.int .i64 v.b.r,.int .i64 v.b.n,.slice G1 v.val.length f1,.int .i64 0,.slice none 0 0,.int .i64 0,yC [],.int .i64 0,.int .i64 0,.int .i64 0,.int .i64 0]) (by kernel_rfl))<|Aa Dp<|zG Tryz.underlying22 xE H6 (cs:=[.int .i64 2,.int .i64 (i:Int),.int .i64 0,.int .i64 0,.int .i64 v.slot,.int .i64 v.b.r,.int .i64 v.b.n,.slice G1 v.val.length f1,.int .i64 0,.slice none 0 0,.int .i64 0,yC [],.int .i64 0,.int .i64 0,.int .i64 0,.int .i64 0]) Y (by decide) (by kernel_rfl)<|fun w7 gk H7 _=>xD Tryz.underlying22 xE (by decide) H7 1 hG Y Y (rs:=[[.int .i64 2,.int .i64 (i:Int),.int .i64 0,.int .i64 0,.int .i64 v.slot,.int .i64 v.b.r,.int .i64 v.b.n,.slice G1 v.val.length f1,.int .i64 0,.slice none 0 0,.int .i64 0,yC [],.int .i64 0,.int .i64 0,.int .i64 0,.int .i64 0]]) (m:=1) Y Y (H7.rd (i:=3) (o:=some _) (xs:=[.int .i64 2,.int .i64 (i:Int),.int .i64 0,.int .i64 0,.int .i64 v.slot,.int .i64 v.b.r,.int .i64 v.b.n,.slice G1 v.val.length f1,.int .i64 0,.slice none 0 0,.int .i64 0,yC [],.int .i64 0,.int .i64 0,.int .i64 0,.int .i64 0]) (sp:=[]) Y Y (by decide)) (Pl.one Y) (fun p hp=>by rw[List.mem_singleton.1 hp];rfl) (by omega) (by omega) (by decide)<|fun w8 g cap sp H8 hG=>Xa Y<|Xr Dp<|zA (zB ?_)
 refine J2<|Xm Y<|OV (zL Y Y (IntWalk.i64_in _ (by omega)))<|Xa Y<|Xr Dp<|zA (zI ?_)
 exact⟨s.Ae.length - (q+1),by omega,q+1,_,g,cap,_,sp,Y,(Ez Y Y Y Y Y Y),by omega,by omega,hG,by rw[yU hxv,List.map_append,← List.append_assoc];exact hA.app (wC.one ⟨_,_,none,0,Y,hbv,Bs.none _ _⟩),H8.pick [0,1,2] (by decide)⟩
 obtain rfl:q=s.Ae.length:=by omega
 rw[List.take_length]at hA
 refine Xr Dp<|J4 Y<|J8<|zT<|zS<|zA (zB ?_)
 refine J2<|Xm Y<|OV (zL Y Y (IntWalk.i64_in _ (by omega)))<|Xa Y<|Xr Dp<|zA (zI ?_)
 have hti:(b.groups.take i).length=i:=by rw[List.length_take];omega
 exact⟨b.groups.length - (i+1),by omega,i+1,_,g,cap,qs,sp,Y,(Jc Y Y Y Y),by omega,by omega,hG,by rw[yU hx,pY,hti];unfold Ko;simpa only[List.append_assoc]using hA,H6.pick [0,1] (by decide)⟩
 obtain rfl:i=b.groups.length:=by omega
 rw[List.take_length]at hA
 refine Xr Dp<|J4 Y<|J8<|zT<|zS<|J1<|Rq<|Xa Y<|Xr Dp<|J7<|zU (fun nQ lQ w=>∃ (q:Nat) (z:Int) (g:Option Nat) (cap:Nat) (qs:List (List Value)) (sp:List Value),b.rights.length - q=nQ∧xN (Dj [(1,.pointer (some ⟨gb,0,none⟩)),(3,.slice (hd g) qs.length cap),(8,.int .i64 z)] 0 96) lQ∧z=(q:Int)∧q≤b.rights.length∧Gw 16 g cap qs sp∧wC (NtR w0 (fun x=>ok x∧x < w0.heap.size)) qs (gN b.groups++(b.rights.take q).map ntF)∧Hp w0 w ([]) [((some gb,41,[.slice (some a1) b.groups.length k1,.slice A2 b.rights.length k2,.slice A3 m3 k3]):Ent),(g,81,qs.flatten++sp)]) (b.rights.length) ?_ ?_
 exact⟨0,_,g,cap,qs,sp,Y,(Jc Y Y Y Y),Y,Nat.zero_le _,hG,by simpa using hA,H2⟩
 rintro nQ lQ w3 ⟨q,z,g,cap,qs,sp,rfl,hfit,rfl,hqi,hG,hA,H3⟩
 obtain⟨j,rfl⟩:=hfit.open
 refine cR Dp ?_
 clear hfit
 refine J1<|Rq<|Xm Y<|Xf sU Y<|OV (EL kX Y (H3.cell (i:=0) Y Y))<|OV (ES Tryz.underlying38 Y)<|Aa Dp<|OT (zQ Y Y) (fun Sj=>?_) (fun Sj=>?_)
 have Fz:q < b.rights.length:=by omega
 obtain⟨v,hxv⟩:=yM Fz
 obtain⟨pv,hpv1,hRv⟩:=h2r.get hxv
 unfold Fb at hRv
 subst hRv
 obtain⟨a3,Jr⟩:=hrr.some_ (by omega)
 subst Jr
 have hnl:b.notes.length=(gN b.groups).length+b.rights.length:=by unfold Bo.notes;simp only[List.length_append,List.length_map]
 have Cb:=hA.len
 try simp only[List.length_append,List.length_map,List.length_take]at Cb
 refine Xr Dp<|J3 Y<|J6<|J1<|J7<|J2<|Xm Y<|Xf sU Y<|OV (EL kX Y (H3.cell (i:=0) Y Y))<|Xm Y<|Aa Dp<|OV (EI Tryz.underlying38 xR Y Y Y Fz Y)<|OV (EN xR Y (vs:=[.int .i64 v.g,yC v.key,.int .i64 v.Ai,.int .i64 v.net]) Y (((hrr.move (by decide) har H3 Je).1).elem hpr hpv1))<|OV (EB xE pS Y (cs:=[.int .i64 5,.int .i64 0,.int .i64 0,.int .i64 0,.int .i64 0,.int .i64 0,.int .i64 0,.slice none 0 0,.int .i64 0,.slice none 0 0,.int .i64 v.g,yC v.key,.int .i64 v.Ai,.int .i64 v.net,.int .i64 0,.int .i64 0]) (by kernel_rfl))<|zG Tryz.underlying22 xE H3 (cs:=[.int .i64 5,.int .i64 0,.int .i64 0,.int .i64 0,.int .i64 0,.int .i64 0,.int .i64 0,.slice none 0 0,.int .i64 0,.slice none 0 0,.int .i64 v.g,yC v.key,.int .i64 v.Ai,.int .i64 v.net,.int .i64 0,.int .i64 0]) Y (by decide) (by kernel_rfl)<|fun w4 gk H4 _=>Aa Dp<|xD Tryz.underlying22 xE (by decide) H4 1 hG Y Y (rs:=[[.int .i64 5,.int .i64 0,.int .i64 0,.int .i64 0,.int .i64 0,.int .i64 0,.int .i64 0,.slice none 0 0,.int .i64 0,.slice none 0 0,.int .i64 v.g,yC v.key,.int .i64 v.Ai,.int .i64 v.net,.int .i64 0,.int .i64 0]]) (m:=1) Y Y (H4.rd (i:=2) (o:=some _) (xs:=[.int .i64 5,.int .i64 0,.int .i64 0,.int .i64 0,.int .i64 0,.int .i64 0,.int .i64 0,.slice none 0 0,.int .i64 0,.slice none 0 0,.int .i64 v.g,yC v.key,.int .i64 v.Ai,.int .i64 v.net,.int .i64 0,.int .i64 0]) (sp:=[]) Y Y (by decide)) (Pl.one Y) (fun p hp=>by rw[List.mem_singleton.1 hp];rfl) (by omega) (by omega) (by decide)<|fun w5 g cap sp H5 hG=>Xa Y<|Xr Dp<|zA (zB ?_)
 refine J2<|Xm Y<|OV (zL Y Y (IntWalk.i64_in _ (by omega)))<|Xa Y<|Xr Dp<|zA (zI ?_)
 exact⟨b.rights.length - (q+1),by omega,q+1,_,g,cap,_,sp,Y,(Jc Y Y Y Y),by omega,by omega,hG,by rw[yU hxv,List.map_append,← List.append_assoc];exact hA.app (wC.one ⟨none,0,none,0,Y,Bs.none _ _,Bs.none _ _⟩),H5.pick [0,1] (by decide)⟩
 obtain rfl:q=b.rights.length:=by omega
 rw[List.take_length]at hA
 refine Xr Dp<|J4 Y<|J8<|zT<|zS<|Rq<|Xm Y<|Xa Y<|Xr Dp<|J5<|Ak Y Y ?_
 have hlq:qs.length=b.notes.length:=hA.len
 have HW:=H3
 rw[hlq]
 exact⟨hd g,cap,rfl,Sl.row HW (i:=1) rfl hG.2.2.2 (by decide) (hA.imp fun p x h=>NtR.to h H3 fun x hx _=>⟨by simp,.inl hx⟩) (fun k hk=>by subst hk;exact .inr (HW.new (i:=1) rfl)),HW.Ac⟩
 any_goals
  clear m1
  refine Rq<|Xa Y<|Xr Dp<|J7<|zU (fun nQ lQ w=>∃ (q:Nat) (z:Int) (g:Option Nat) (cap:Nat) (qs:List (List Value)) (sp:List Value),s.Ae.length - q=nQ∧xN (Dj [(1,.pointer (some ⟨gb,0,none⟩)),(3,.slice (hd g) qs.length cap),(4,.int .i64 (i:Int)),(5,.pointer (some ⟨g5,0,none⟩)),(7,.int .i64 z)] 0 96) lQ∧z=(q:Int)∧q≤s.Ae.length∧Gw 16 g cap qs sp∧wC (NtR w0 (fun x=>ok x∧x < w0.heap.size)) qs (gN (b.groups.take i)++tS i s++s.entries.map (Ji i)++sF i s++(s.Ae.take q).map (Uw i))∧Hp w0 w ([]) [((some gb,41,[.slice (some a1) b.groups.length k1,.slice A2 b.rights.length k2,.slice A3 m3 k3]):Ent),(g,81,qs.flatten++sp),(some g5,97,[.int .i64 s.p.r,.int .i64 s.p.n,.slice D1 s.Ae.length e1,.int .i64 s.index,.slice D2 s.image.length e2,.slice D3 s.entries.length e3])]) (s.Ae.length) ?_ ?_
  exact⟨0,_,g,cap,qs,sp,Y,(Ez Y Y Y Y Y Y),Y,Nat.zero_le _,hG,by simpa using hA,H7.pick [0,1,2] (by decide)⟩
  rintro nQ lQ w8 ⟨q,z,g,cap,qs,sp,rfl,hfit,rfl,hqi,hG,hA,H8⟩
  obtain⟨j,rfl⟩:=hfit.open
  refine cR Dp ?_
  clear hfit
  refine J1<|Rq<|Xm Y<|Xf xV Y<|OV (EL uP Y (H8.cell (i:=2) Y Y))<|OV (ES Tryz.underlying94 Y)<|Aa Dp<|OT (zQ Y Y) (fun Sm=>?_) (fun Sm=>?_)
  have Fz:q < s.Ae.length:=by omega
  obtain⟨v,hxv⟩:=yM Fz
  obtain⟨pv,hpv1,hRv⟩:=h2v.get hxv
  obtain⟨G1,f1,rfl,hbv⟩:=hRv
  obtain⟨a3,Jr⟩:=Ju.some_ (by omega)
  subst Jr
  have Cb:=hA.len
  try simp only[List.length_append,List.length_map,List.length_take]at Cb
  refine Xr Dp<|J3 Y<|J6<|J1<|J7<|J2<|Xm Y<|Xm Y<|Xf xV Y<|OV (EL uP Y (H8.cell (i:=2) Y Y))<|Aa Dp<|Xm Y<|OV (EI Tryz.underlying94 yZ Y Y Y Fz Y)<|OV (EN yZ Y (vs:=[.int .i64 v.slot,.int .i64 v.b.r,.int .i64 v.b.n,.slice G1 v.val.length f1]) Y (((Ju.move (by decide) hav H8 Je).1).elem hpv hpv1))<|OV (EB xE pS Y (cs:=[.int .i64 2,.int .i64 (i:Int),.int .i64 0,.int .i64 0,.int .i64 v.slot,.int .i64 v.b.r,.int .i64 v.b.n,.slice G1 v.val.length f1,.int .i64 0,.slice none 0 0,.int .i64 0,yC [],.int .i64 0,.int .i64 0,.int .i64 0,.int .i64 0]) (by kernel_rfl))<|Aa Dp<|zG Tryz.underlying22 xE H8 (cs:=[.int .i64 2,.int .i64 (i:Int),.int .i64 0,.int .i64 0,.int .i64 v.slot,.int .i64 v.b.r,.int .i64 v.b.n,.slice G1 v.val.length f1,.int .i64 0,.slice none 0 0,.int .i64 0,yC [],.int .i64 0,.int .i64 0,.int .i64 0,.int .i64 0]) Y (by decide) (by kernel_rfl)<|fun w9 gk H9 _=>xD Tryz.underlying22 xE (by decide) H9 1 hG Y Y (rs:=[[.int .i64 2,.int .i64 (i:Int),.int .i64 0,.int .i64 0,.int .i64 v.slot,.int .i64 v.b.r,.int .i64 v.b.n,.slice G1 v.val.length f1,.int .i64 0,.slice none 0 0,.int .i64 0,yC [],.int .i64 0,.int .i64 0,.int .i64 0,.int .i64 0]]) (m:=1) Y Y (H9.rd (i:=3) (o:=some _) (xs:=[.int .i64 2,.int .i64 (i:Int),.int .i64 0,.int .i64 0,.int .i64 v.slot,.int .i64 v.b.r,.int .i64 v.b.n,.slice G1 v.val.length f1,.int .i64 0,.slice none 0 0,.int .i64 0,yC [],.int .i64 0,.int .i64 0,.int .i64 0,.int .i64 0]) (sp:=[]) Y Y (by decide)) (Pl.one Y) (fun p hp=>by rw[List.mem_singleton.1 hp];rfl) (by omega) (by omega) (by decide)<|fun w10 g cap sp Ar hG=>Xa Y<|Xr Dp<|zA (zB ?_)
  refine J2<|Xm Y<|OV (zL Y Y (IntWalk.i64_in _ (by omega)))<|Xa Y<|Xr Dp<|zA (zI ?_)
  exact⟨s.Ae.length - (q+1),by omega,q+1,_,g,cap,_,sp,Y,(Ez Y Y Y Y Y Y),by omega,by omega,hG,by rw[yU hxv,List.map_append,← List.append_assoc];exact hA.app (wC.one ⟨_,_,none,0,Y,hbv,Bs.none _ _⟩),Ar.pick [0,1,2] (by decide)⟩
  obtain rfl:q=s.Ae.length:=by omega
  rw[List.take_length]at hA
  refine Xr Dp<|J4 Y<|J8<|zT<|zS<|zA (zB ?_)
  refine J2<|Xm Y<|OV (zL Y Y (IntWalk.i64_in _ (by omega)))<|Xa Y<|Xr Dp<|zA (zI ?_)
  have hti:(b.groups.take i).length=i:=by rw[List.length_take];omega
  exact⟨b.groups.length - (i+1),by omega,i+1,_,g,cap,qs,sp,Y,(Jc Y Y Y Y),by omega,by omega,hG,by rw[yU hx,pY,hti];unfold Ko;simpa only[List.append_assoc]using hA,H8.pick [0,1] (by decide)⟩
end Go.Proofs.YtjoeklkmnfaabaaGreat
namespace Go.Proofs.YtjoeklkmnfaabaaGreat
set_option maxRecDepth 100000
set_option maxHeartbeats 4000000
open Go Go.RowKit
set_option linter.unusedVariables false
attribute [local irreducible] yT Ops zP Cd
theorem V2 (A:Option Addr) (k:Nat) (l:List Nt) (Es:Nat→Prop) (b:Bo) (A1:Option Addr) (k1:Nat) (A2:Option Addr) (k2:Nat) (A3:Option Addr) (k3:Nat) (N:Nat) (ok:Nat→Prop) (w0:World) (hl:Sl (NtR w0 Es) 16 w0 Es A l) (hn:l.length≤30) (hnt:∀ n∈l,NtB n) (hb1:Sl (Gz w0 ok) 6 w0 ok A1 b.groups) (hb2:Sl Fb 4 w0 ok A2 b.rights) (hg:rJ b N) (hbb:BoB b) (hN:N≤800000000000) (hnn:b.notes.length≤1000000):zP Tryz.prog 18 #[.slice A l.length k,.agg [.slice A1 b.groups.length k1,.slice A2 b.rights.length k2,.slice A3 b.last.length k3].toArray] w0 (fun r w'=>r=.bool (decide (EY (l++b.notes)))∧Hp w0 w' [] []):=by
 refine zE Tryz.func18 Tryz.ntmps18 Y<|cR e45 ?_
 have H:=Hp.refl w0
 have hown:=fD hg hbb
 have hlb:(l++b.notes).length≤1000030:=by rw[List.length_append];omega
 refine Rq<|yA Y Y H<|fun w1 g1' H1 hg1'=>Xa Y<|Xr e45<|Rq<|Xa Y<|Xr e45<|J1<|zR 5 [(true,0),(true,2),(false,1),(false,3),(false,4),(false,5)] H1 [0] yG (by decide) (by kernel_rfl) ?_
 rintro w2 hw2
 have H2:=Hp.drew H1;rw[← hw2]at H2
 refine Zm Y Y<|MP Y<|MV (fun wz hz=>EN xQ Y (vs:=[.slice A1 b.groups.length k1,.slice A2 b.rights.length k2,.slice A3 b.last.length k3]) Y (hz.Ad (i:=0) Y Y))<|MO Y ?_
 obtain⟨nC,hnC⟩:∃ n,n=w2.heap.size:=⟨_,rfl⟩
 have hg3l:=H2.lt (i:=0) rfl
 refine OQ (EC gf49 Y) (V7 A k l Es _ (hl.toN H2 k0) (by omega)) ?_
 rintro _ w3 ⟨g1,c1,q1,s1,he1,hG1,hA1,Hd⟩
 rw[← hA1.len]at he1
 subst he1
 rw[← hnC]at hA1
 have H3:=H2.call0 Hd
 have hs1:=Hd.size
 have hp1:∀ x,g1=some x→nC≤x:=fun x hx=>by subst hx;have:=WB Hd (k:=x) (by simp[bl]);omega
 refine OE ?_
 refine⟨fun hne=>H3.pick [0] (by decide),?_⟩
 refine cZ e45<|MO Y ?_
 obtain⟨nD,hnD⟩:∃ n,n=w3.heap.size:=⟨_,rfl⟩
 have hp1b:∀ x,g1=some x→x < nD:=fun x hx=>by subst hx;have:=H3.lt (i:=1) rfl;omega
 have hkb:∀ x,ok x→x < w0.heap.size→x∉([]:List Nat)∧(ok x∧x < w0.heap.size):=fun x hx hl=>⟨by simp,hx,hl⟩
 refine OQ (EC gf21 Y) (G4 b A1 k1 A2 k2 A3 b.last.length k3 N _ _ (hb1.toS H3 hkb) (hb2.toR H3 hkb) hg (by omega) (by omega)) ?_
 rintro _ w4 ⟨A9,k9,he9,hM,Hd⟩
 obtain⟨pn,hpn,hrn,han,h2n⟩:=id hM
 have ZP:=h2n.len
 rw[← ZP]at he9
 subst he9
 have hszd:=Hd.size
 have hQ1:=hA1.imp fun p x h=>NtR.to (ok':=fun x=>(nC≤x∧g1≠some x)∧x < nD) h.nt Hd fun x hx hlt=>⟨by simp,hx,by omega⟩
 have H4:=H3.Af Hd
 refine OE ?_
 refine⟨fun hne=>H4.pick [0] (by decide),?_⟩
 refine cZ e45<|MO Y ?_
 have hlq1:=hA1.len
 have HP:=H4
 have HG:=HP.here
 refine xD Tryz.underlying22 xE (by decide) HG 1 hG1 Y Y (rs:=pn) Y Y (show Rd _ _ pn.length 16 pn.flatten from by rw[ZP];exact hrn) hpn (wC.ones (fun _ _ h=>NtR.ones h) h2n) (by omega) (by omega) (by decide)<|fun w5 g9 Zr sp9 HN5 hG9=>?_
 have hbl:∀ x,x∈bl [((some g1',41,[]):Ent),(g1,81,[])]→x=g1'∨g1=some x:=fun x hx=>by
  rcases List.mem_filterMap.1 hx with ⟨e,he,hg⟩
  simp only[List.mem_cons,List.not_mem_nil,or_false]at he
  rcases he with rfl | rfl
  · exact .inl (by simpa using hg.symm)
  · exact .inr hg
 have Zj:wC (NtR w5 (fun _=>True)) (q1++pn) (l++b.notes):=(hQ1.imp fun p x h=>h.to HN5 fun x hx _=>⟨fun hb=>(show False from by
  rcases hbl x hb with h | h
  · omega
  · exact hx.1.2 h),trivial⟩).app (h2n.imp fun p x h=>h.to HN5 fun x hx _=>⟨fun hb=>(show False from by
  rcases hbl x hb with h | h
  · rcases hx with hx | hx
    · have:=hx.1.2;omega
    · omega
  · have h1:=hp1 x h
    have h2:=hp1b x h
    rcases hx with hx | hx
    · have:=hx.1.2;omega
    · omega),trivial⟩)
 have WV:Sl (NtR w5 (fun _=>True)) 16 w5 (fun _=>True) (hd g9) (l++b.notes):=Sl.row HN5 (i:=1) rfl hG9.2.2.2 (by decide) Zj fun _ _=>trivial
 have X6:=Zj.len
 rw[X6]
 obtain⟨ps,hp,hr,ha,h2⟩:=id WV
 have H5:=HP.all HN5
 refine OE ?_
 refine⟨fun hne=>H5.pick [0] (by decide),?_⟩
 refine cZ e45<|MO Y<|Xa Y<|OE<|⟨fun hne=>absurd Y hne,?_⟩
 refine cZ e45<|ME<|cR e45<|J1<|Rq ?_
 have HQ:=H5.Ac
 replace H5:Hp w5 w5 [] []:=Hp.refl _
 refine Xa Y<|Xr e45<|J7<|zU (fun nQ lQ w=>∃ (i:Nat) (y z:Int),(l++b.notes).length - i=nQ∧xN (Dj [(5,.int .i64 z),(6,.slice (hd g9) (l++b.notes).length Zr),(7,.int .i64 y)] 0 45) lQ∧y=(i:Int)∧i≤(l++b.notes).length∧z=((used (((l++b.notes).take i).map xG):Nat):Int)∧(∀ n∈(l++b.notes).take i,rN n)∧used (((l++b.notes).take i).map xG)≤2032∧Hp w5 w [] []) ((l++b.notes).length) ?_ ?_
 exact⟨0,_,_,Y,(Jc Y Y Y Y),Y,Nat.zero_le _,Y,(fun n hn=>by simp at hn),by simp[used],H5⟩
 rintro nQ lQ w6 ⟨i,y,z,rfl,hfit,rfl,hi,hz,hsh,hus,HL⟩
 obtain⟨j,rfl⟩:=hfit.open
 refine cR e45 ?_
 clear hfit
 have H6:=Hp.refl w6
 refine J1<|Rq<|Xm Y<|Xm Y<|OV (ES Tryz.underlying22 Y)<|OT (zQ Y Y) (fun hp18=>?_) (fun hp18=>?_)
 have hil:i < (l++b.notes).length:=by omega
 obtain⟨nt,hx⟩:=yM hil
 obtain⟨p1,hp1,hR⟩:=h2.get hx
 obtain⟨B1,j1,B2,j2,rfl,hbv,Ih⟩:=hR
 obtain⟨a1,ha1⟩:=hr.some_ (by omega)
 have hntb:NtB nt:=by
  rcases List.mem_append.1 (mem_of hx)with hm | hm
  · exact hnt nt hm
  · exact(hown nt hm).1
 refine Xr e45<|J3 Y<|J6<|J1<|J7<|Rq<|Xm Y<|Xm Y ?_
 rw[ha1]at hr
 refine OV (EI Tryz.underlying22 xE (a:=a1) (congrArg (fun A=>some (Value.slice A (l++b.notes).length Zr)) ha1) Y Y hil Y)<|OV (EN xE Y (vs:=[.int .i64 nt.kind,.int .i64 nt.group,.int .i64 nt.b.r,.int .i64 nt.b.n,.int .i64 nt.Ag.slot,.int .i64 nt.Ag.b.r,.int .i64 nt.Ag.b.n,.slice B1 nt.Ag.val.length j1,.int .i64 nt.entry.slot,.slice B2 nt.entry.val.length j2,.int .i64 nt.right.g,yC nt.right.key,.int .i64 nt.right.Ai,.int .i64 nt.right.net,.int .i64 nt.client,.int .i64 nt.seq]) Y (((hr.to0 HL).to0 H6).elem hp hp1))<|Aa e45<|OQ (EC gf50 Y) (NF (Fq nt) _ _ (U9 (ok:=fun _=>True) ⟨B1,j1,B2,j2,Y,(hbv.to HL k0).to H6 k0,(Ih.to HL k0).to H6 k0⟩ hntb)) ?_
 rintro _ w7 ⟨gn,cn,sn,rfl,hn1,hn2,hn3,hn4,Y8⟩
 have H7:=H6.Af Y8
 refine Xm Y<|Xe Y Y<|Xe Y Y<|Aa e45<|Xa Y<|Xa Y<|Xr e45<|J1<|Rq<|Xm Y<|OT (yS Y Y) (fun hp30=>?_) (fun hp30=>?_)
 refine Xm Y<|Aa e45<|Oz 3 Y<|Aa e45<|Xt Y Y<|Xr e45<|J3 Y<|Rq<|Xa Y<|Xr e45<|J5<|BR<|yR<|BR<|Ak Y Y<|⟨by rw[IS (mem_of hx) (fun hs=>hp30 (by show((Gn nt:Nat):Int)=0;rw[hs.1];rfl))],((HQ.Af (HL.Af H7)).Ac)⟩
 refine Xm Y<|Aa e45<|OY Y<|Xm Y<|OY Y<|OV (ES Tryz.underlying73 Y)<|Aa e45<|OY Y<|OT (yO Y Y) (fun Le=>?_) (fun Le=>?_)
 refine Xu Y Y<|Xr e45<|J3 Y<|Rq<|Xa Y<|Xr e45<|J5<|BR<|yR<|BR<|Ak Y Y ?_
 exact⟨by rw[IS (mem_of hx) (fun hs=>by
  have h8:=hs.2
  have h9:16384 < ((xG nt).length:Int):=Le
  omega)],((HQ.Af (HL.Af H7)).Ac)⟩
 have h8:¬(((Gn nt:Nat):Int)≠0):=hp30
 have h9:¬(16384 < ((xG nt).length:Int)):=Le
 have hst:rN nt:=⟨by omega,by omega⟩
 have hnx:=gP hx
 have hwg:wgt (xG nt).length=((xG nt).length+63) / 64+2:=rfl
 refine Xu Y Y<|Xr e45<|J4 Y<|J6<|Rq<|Xm Y<|Xm Y<|OV (ES Tryz.underlying73 Y)<|OV (zL Y Y ((IntWalk.i64_in (((xG nt).length:Int)+63) (by omega))))<|Aa e45<|OV (bB Y Y (by omega) ((w63 (xG nt).length (by omega))))<|OV (zL Y Y (IntWalk.i64_in _ (by omega)))<|OV (zL Y Y ((IntWalk.i64_in _ (by omega)).trans (show z+(((xG nt).length+63) / 64:Nat)+2=((used (((l++b.notes).take (i+1)).map xG):Nat):Int) by omega)))<|Xa Y<|Xr e45<|Rq<|Xm Y<|OT (yO Y Y) (fun hp44=>?_) (fun hp44=>?_)
 refine Xr e45<|J3 Y<|Rq<|Xa Y<|Xr e45<|J5<|BR<|yR<|BR<|Ak Y Y<|⟨by rw[OR (i:=i+1) (by omega)],((HQ.Af (HL.Af H7)).Ac)⟩
 refine Xr e45<|J4 Y<|J6<|zA (zB ?_)
 refine J2<|Xm Y<|OV (zL Y Y (IntWalk.i64_in _ (by omega)))<|Xa Y<|Xr e45<|zA (zI ?_)
 exact⟨(l++b.notes).length - (i+1),by omega,i+1,_,_,Y,(Jc Y Y Y Y),by omega,by omega,Y,(fun n hn=>by
  rw[yU hx]at hn
  rcases List.mem_append.1 hn with h1 | h1
  · exact hsh n h1
  · rw[List.mem_singleton.1 h1];exact hst),by omega,HL.Af H7⟩
 obtain rfl:i=(l++b.notes).length:=by omega
 refine Xr e45<|J4 Y<|J8<|zT<|zS<|Rq<|Xa Y<|Xr e45<|J5<|Ak Y Y<|⟨by rw[OP hsh hus],((HQ.Af (HL.Af H6)).Ac)⟩
end Go.Proofs.YtjoeklkmnfaabaaGreat
namespace Go.Proofs.YtjoeklkmnfaabaaGreat
set_option maxRecDepth 100000
set_option maxHeartbeats 4000000
open Go Go.RowKit
set_option linter.unusedVariables false
attribute [local irreducible] yT Ops zP Cd
theorem M0 (A B:Option Addr) (k k2:Nat) (l:List Rt) (ok ok2:Nat→Prop) (w0:World) (hl:Sl Fb 4 w0 ok A l) (hl2:Sl Fb 4 w0 ok2 B l) (hn:l.length≤1000000000000000000):zP Tryz.prog 44 #[.slice A l.length k,.slice B l.length k2] w0 (fun r w'=>r=.bool true∧Hp w0 w' [] []):=by
 refine zE Tryz.func44 Tryz.ntmps44 Y<|cR e26 ?_
 have H:=Hp.refl w0
 obtain⟨ps,hp,hr,_,h2⟩:=hl
 obtain⟨qs,hq,hrb,_,h2b⟩:=hl2
 refine Rq<|Xa Y<|Xr e26<|J1<|Rq<|Xm Y<|OV (ES Tryz.underlying38 Y)<|Xm Y<|OV (ES Tryz.underlying38 Y)<|Aa e26<|Dy (yS Y Y) (fun h=>h Y)<|Xr e26<|J4 Y<|J6<|J1<|Rq<|Xa Y<|Xr e26<|J7<|zU (fun nQ lQ w=>∃ (i:Nat) (y:Int),l.length - i=nQ∧xN (Dj [(0,.slice A l.length k),(1,.slice B l.length k2),(5,.int .i64 y)] 0 26) lQ∧y=(i:Int)∧i≤l.length∧Hp w0 w [] []) (l.length) ?_ ?_
 exact⟨0,_,Y,(Jc Y Y Y Y),Y,Nat.zero_le _,H⟩
 rintro nQ lQ w1 ⟨i,y,rfl,hfit,rfl,hi,H1⟩
 obtain⟨j,rfl⟩:=hfit.open
 refine cR e26 ?_
 clear hfit
 refine J1<|Rq<|Xm Y<|Xm Y<|OV (ES Tryz.underlying38 Y)<|OT (zQ Y Y) (fun hp14=>?_) (fun hp14=>?_)
 have hil:i < l.length:=by omega
 obtain⟨x,hx⟩:=yM hil
 obtain⟨p1,hp1,hR⟩:=h2.get hx
 obtain⟨p2,hp2,hR2⟩:=h2b.get hx
 obtain⟨a1,ha1⟩:=hr.some_ (by omega)
 obtain⟨a2,ha2⟩:=hrb.some_ (by omega)
 subst ha1 ha2
 unfold Fb at hR hR2
 subst hR hR2
 refine Xr e26<|J3 Y<|J6<|J1<|J7<|J1<|uT yG (by kernel_rfl) ?_
 rintro w2 hw2
 have H2:=Hp.drew H1;rw[← hw2]at H2
 refine SV (zK Y)<|SV (zK Y)<|SV (EI Tryz.underlying38 xR Y Y (len:=l.length) (i:=i) (by omega) (by omega) Y)<|SV (EN xR Y (vs:=[.int .i64 x.g,yC x.key,.int .i64 x.Ai,.int .i64 x.net]) Y ((hr.to0 H2).elem hp hp1))<|vJ e26<|SV (zK Y)<|SV (zK Y)<|SV (EI Tryz.underlying38 xR Y Y (len:=l.length) (i:=i) (by omega) (by omega) Y)<|SV (EN xR Y (vs:=[.int .i64 x.g,yC x.key,.int .i64 x.Ai,.int .i64 x.net]) Y ((hrb.to0 H2).elem hq hp2))<|vJ e26<|SV (KV Y Y)<|xU<|cR e26<|J4 Y<|J6<|zA (zB ?_)
 refine J2<|Xm Y<|OV (zL Y Y (IntWalk.i64_in _ (by omega)))<|Xa Y<|Xr e26<|zA (zI ?_)
 exact⟨l.length - (i+1),by omega,i+1,_,Y,(Jc Y Y Y Y),by omega,by omega,H2.Ac⟩
 refine Xr e26<|J4 Y<|J8<|zT<|zS<|Rq<|Xa Y<|Xr e26<|J5<|Ak Y Y<|⟨Y,H1.Ac⟩
theorem U2 (A B:Option Addr) (k k2:Nat) (l:List Mk) (ok ok2:Nat→Prop) (w0:World) (hl:Sl Fp 7 w0 ok A l) (hl2:Sl Fp 7 w0 ok2 B l) (hn:l.length≤1000000000000000000):zP Tryz.prog 45 #[.slice A l.length k,.slice B l.length k2] w0 (fun r w'=>r=.bool true∧Hp w0 w' [] []):=by
 refine zE Tryz.func45 Tryz.ntmps45 Y<|cR e26 ?_
 have H:=Hp.refl w0
 obtain⟨ps,hp,hr,_,h2⟩:=hl
 obtain⟨qs,hq,hrb,_,h2b⟩:=hl2
 refine Rq<|Xa Y<|Xr e26<|J1<|Rq<|Xm Y<|OV (ES Tryz.underlying39 Y)<|Xm Y<|OV (ES Tryz.underlying39 Y)<|Aa e26<|Dy (yS Y Y) (fun h=>h Y)<|Xr e26<|J4 Y<|J6<|J1<|Rq<|Xa Y<|Xr e26<|J7<|zU (fun nQ lQ w=>∃ (i:Nat) (y:Int),l.length - i=nQ∧xN (Dj [(0,.slice A l.length k),(1,.slice B l.length k2),(5,.int .i64 y)] 0 26) lQ∧y=(i:Int)∧i≤l.length∧Hp w0 w [] []) (l.length) ?_ ?_
 exact⟨0,_,Y,(Jc Y Y Y Y),Y,Nat.zero_le _,H⟩
 rintro nQ lQ w1 ⟨i,y,rfl,hfit,rfl,hi,H1⟩
 obtain⟨j,rfl⟩:=hfit.open
 refine cR e26 ?_
 clear hfit
 refine J1<|Rq<|Xm Y<|Xm Y<|OV (ES Tryz.underlying39 Y)<|OT (zQ Y Y) (fun hp14=>?_) (fun hp14=>?_)
 have hil:i < l.length:=by omega
 obtain⟨x,hx⟩:=yM hil
 obtain⟨p1,hp1,hR⟩:=h2.get hx
 obtain⟨p2,hp2,hR2⟩:=h2b.get hx
 obtain⟨a1,ha1⟩:=hr.some_ (by omega)
 obtain⟨a2,ha2⟩:=hrb.some_ (by omega)
 subst ha1 ha2
 unfold Fp at hR hR2
 subst hR hR2
 refine Xr e26<|J3 Y<|J6<|J1<|J7<|J1<|uT yG (by kernel_rfl) ?_
 rintro w2 hw2
 have H2:=Hp.drew H1;rw[← hw2]at H2
 refine SV (zK Y)<|SV (zK Y)<|SV (EI Tryz.underlying39 yP Y Y (len:=l.length) (i:=i) (by omega) (by omega) Y)<|SV (EN yP Y (vs:=[.int .i64 x.client,.int .i64 x.seq,.bool false,.int .i64 0,.int .i64 0,.int .i64 0,.int .i64 0]) Y ((hr.to0 H2).elem hp hp1))<|vJ e26<|SV (zK Y)<|SV (zK Y)<|SV (EI Tryz.underlying39 yP Y Y (len:=l.length) (i:=i) (by omega) (by omega) Y)<|SV (EN yP Y (vs:=[.int .i64 x.client,.int .i64 x.seq,.bool false,.int .i64 0,.int .i64 0,.int .i64 0,.int .i64 0]) Y ((hrb.to0 H2).elem hq hp2))<|vJ e26<|SV (KW Y Y)<|xU<|cR e26<|J4 Y<|J6<|zA (zB ?_)
 refine J2<|Xm Y<|OV (zL Y Y (IntWalk.i64_in _ (by omega)))<|Xa Y<|Xr e26<|zA (zI ?_)
 exact⟨l.length - (i+1),by omega,i+1,_,Y,(Jc Y Y Y Y),by omega,by omega,H2.Ac⟩
 refine Xr e26<|J4 Y<|J8<|zT<|zS<|Rq<|Xa Y<|Xr e26<|J5<|Ak Y Y<|⟨Y,H1.Ac⟩
theorem Q6 (x:Vt) (Ax Ay:Option Addr) (kx ky:Nat) (ok ok2:Nat→Prop) (w0:World) (ha:Bs w0 ok Ax x.val) (hb:Bs w0 ok2 Ay x.val):zP Tryz.prog 127 #[.agg [.int .i64 x.slot,.int .i64 x.b.r,.int .i64 x.b.n,.slice Ax x.val.length kx].toArray,.agg [.int .i64 x.slot,.int .i64 x.b.r,.int .i64 x.b.n,.slice Ay x.val.length ky].toArray] w0 (fun r w'=>r=.bool true∧Hp w0 w' [] []):=by
 refine zE Tryz.func127 Tryz.ntmps127 Y<|cR e24 ?_
 have H:=Hp.refl w0
 refine Rq<|yA Y Y H<|fun w1 g1 H1 hg1=>yA Y Y H1<|fun w2 g2 H2 hg2=>Xa Y<|Xr e24<|Rq<|Xf vB Y<|OV (EL ty3 Y (H2.cell (i:=0) Y Y))<|Xf vB Y<|OV (EL ty3 Y (H2.cell (i:=1) Y Y))<|Aa e24<|Ij (xP Y Y) (Y)<|Xm Y<|Aa e24<|OY Y<|Xf tZ Y<|OY Y<|OV (EN wX Y (vs:=[.int .i64 x.b.r,.int .i64 x.b.n]) Y (H2.Ad (i:=0) Y Y))<|Aa e24<|OY Y<|Xf tZ Y<|OY Y<|OV (EN wX Y (vs:=[.int .i64 x.b.r,.int .i64 x.b.n]) Y (H2.Ad (i:=1) Y Y))<|Aa e24<|OY Y<|Ij (bD Y Y) (⟨Y,Y⟩)<|Xt Y Y<|Xm Y<|Aa e24<|OY Y<|Xf sS Y<|OY Y<|OV (EL xK Y (H2.cell (i:=0) Y Y))<|Aa e24<|OY Y ?_
 refine Xf sS Y<|OY Y<|OV (EL xK Y (H2.cell (i:=1) Y Y))<|Aa e24<|OY Y ?_
 have hby:=fU Ax Ay x.val x.val kx ky _ (ha.1.to0 H2) (hb.1.to0 H2) (by have:=ha.2.2;omega) (by have:=hb.2.2;omega)
 rw[decide_eq_true rfl]at hby
 refine OC (EC VR Y) hby<|fun w3 Hd=>have H3:=H2.Af Hd;Xt Y Y<|Xa Y<|Xr e24<|J5<|Ak Y Y<|⟨Y,H3.Ac⟩
theorem Q7 (x:En) (Ax Ay:Option Addr) (kx ky:Nat) (ok ok2:Nat→Prop) (w0:World) (ha:Bs w0 ok Ax x.val) (hb:Bs w0 ok2 Ay x.val):zP Tryz.prog 130 #[.agg [.int .i64 x.slot,.slice Ax x.val.length kx].toArray,.agg [.int .i64 x.slot,.slice Ay x.val.length ky].toArray] w0 (fun r w'=>r=.bool true∧Hp w0 w' [] []):=by
 refine zE Tryz.func130 Tryz.ntmps130 Y<|cR e17 ?_
 have H:=Hp.refl w0
 refine Rq<|yA Y Y H<|fun w1 g1 H1 hg1=>yA Y Y H1<|fun w2 g2 H2 hg2=>Xa Y<|Xr e17<|Rq<|Xf wE Y<|OV (EL ty3 Y (H2.cell (i:=0) Y Y))<|Xf wE Y<|OV (EL ty3 Y (H2.cell (i:=1) Y Y))<|Aa e17<|Ij (xP Y Y) (Y)<|Xm Y<|Aa e17<|OY Y<|Xf uV Y<|OY Y<|OV (EL xK Y (H2.cell (i:=0) Y Y))<|Aa e17<|OY Y<|Xf uV Y<|OY Y<|OV (EL xK Y (H2.cell (i:=1) Y Y))<|Aa e17<|OY Y ?_
 have hby:=fU Ax Ay x.val x.val kx ky _ (ha.1.to0 H2) (hb.1.to0 H2) (by have:=ha.2.2;omega) (by have:=hb.2.2;omega)
 rw[decide_eq_true rfl]at hby
 refine OC (EC VR Y) hby<|fun w3 Hd=>have H3:=H2.Af Hd;Xt Y Y<|Xa Y<|Xr e17<|J5<|Ak Y Y<|⟨Y,H3.Ac⟩
theorem JS (A B:Option Addr) (k k2:Nat) (l:List Vt) (ok ok2:Nat→Prop) (w0:World) (hl:Sl (Et w0 ok) 4 w0 ok A l) (hl2:Sl (Et w0 ok2) 4 w0 ok2 B l) (hn:l.length≤1000000000000000000):zP Tryz.prog 126 #[.slice A l.length k,.slice B l.length k2,.func (.func 127) #[] #[]] w0 (fun r w'=>r=.bool true∧Hp w0 w' [] []):=by
 refine zE Tryz.func126 Tryz.ntmps126 Y<|cR e30 ?_
 have H:=Hp.refl w0
 obtain⟨ps,hp,hr,_,h2⟩:=hl
 obtain⟨qs,hq,hrb,_,h2b⟩:=hl2
 refine Rq<|Xa Y<|Xr e30<|J1<|Rq<|Xm Y<|OV (ES Tryz.underlying94 Y)<|Xm Y<|OV (ES Tryz.underlying94 Y)<|Aa e30<|Dy (yS Y Y) (fun h=>h Y)<|Xr e30<|J4 Y<|J6<|J1<|Rq<|Xa Y<|Xr e30<|J7<|zU (fun nQ lQ w=>∃ (i:Nat) (y:Int),l.length - i=nQ∧xN (Dj [(0,.slice A l.length k),(1,.slice B l.length k2),(2,.func (.func 127) #[] #[]),(7,.int .i64 y)] 0 30) lQ∧y=(i:Int)∧i≤l.length∧Hp w0 w [] []) (l.length) ?_ ?_
 exact⟨0,_,Y,(Dv Y Y Y Y Y),Y,Nat.zero_le _,H⟩
 rintro nQ lQ w1 ⟨i,y,rfl,hfit,rfl,hi,H1⟩
 obtain⟨j,rfl⟩:=hfit.open
 refine cR e30 ?_
 clear hfit
 refine J1<|Rq<|Xm Y<|Xm Y<|OV (ES Tryz.underlying94 Y)<|OT (zQ Y Y) (fun hp16=>?_) (fun hp16=>?_)
 have hil:i < l.length:=by omega
 obtain⟨x,hx⟩:=yM hil
 obtain⟨p1,hp1,hR⟩:=h2.get hx
 obtain⟨p2,hp2,hR2⟩:=h2b.get hx
 obtain⟨a1,ha1⟩:=hr.some_ (by omega)
 obtain⟨a2,ha2⟩:=hrb.some_ (by omega)
 subst ha1 ha2
 obtain⟨Ax,kx,rfl,hbx⟩:=hR
 obtain⟨Ay,ky,rfl,hby⟩:=hR2
 refine Xr e30<|J3 Y<|J6<|J1<|J7<|J1<|zR 10 [(true,0),(true,1),(true,2),(true,3),(true,4),(true,5),(true,6),(true,7),(true,8),(false,9),(false,10)] H1 [] yG (by decide) (by kernel_rfl) ?_
 rintro w2 hw2
 have H2:=Hp.drew H1;rw[← hw2]at H2
 refine Zm Y Y<|Zm Y Y<|Zm Y Y<|MP Y<|MV (fun wz hz=>EI Tryz.underlying94 yZ Y Y (len:=l.length) (i:=i) (by omega) (by omega) Y)<|cZ e30<|MP Y<|MV (fun wz hz=>EN yZ Y (vs:=[.int .i64 x.slot,.int .i64 x.b.r,.int .i64 x.b.n,.slice Ax x.val.length kx]) Y ((hr.to0 hz).elem hp hp1))<|Zm Y Y<|Zm Y Y<|MP Y<|MV (fun wz hz=>EI Tryz.underlying94 yZ Y Y (len:=l.length) (i:=i) (by omega) (by omega) Y)<|cZ e30<|MP Y<|MV (fun wz hz=>EN yZ Y (vs:=[.int .i64 x.slot,.int .i64 x.b.r,.int .i64 x.b.n,.slice Ay x.val.length ky]) Y ((hrb.to0 hz).elem hq hp2))<|MO Y<|OC (xI gf127 Y Y) (Q6 x Ax Ay kx ky ok ok2 _ (hbx.to H2 k0) (hby.to H2 k0))<|fun w3 Hd=>have H3:=H2.Af Hd;OE<|⟨fun hne=>H3.pick [] (by decide),?_⟩
 refine cZ e30<|MO Y<|Xn Y<|OE<|⟨fun hne=>absurd Y hne,?_⟩
 refine cZ e30<|ME<|cR e30<|J4 Y<|J6<|zA (zB ?_)
 refine J2<|Xm Y<|OV (zL Y Y (IntWalk.i64_in _ (by omega)))<|Xa Y<|Xr e30<|zA (zI ?_)
 exact⟨l.length - (i+1),by omega,i+1,_,Y,(Dv Y Y Y Y Y),by omega,by omega,H3.Ac⟩
 refine Xr e30<|J4 Y<|J8<|zT<|zS<|Rq<|Xa Y<|Xr e30<|J5<|Ak Y Y<|⟨Y,H1.Ac⟩
theorem L6 (A B:Option Addr) (k k2:Nat) (l:List Vt) (ok ok2:Nat→Prop) (w0:World) (hl:Sl (Et w0 ok) 4 w0 ok A l) (hl2:Sl (Et w0 ok2) 4 w0 ok2 B l) (hn:l.length≤1000000000000000000):zP Tryz.prog 84 #[.slice A l.length k,.slice B l.length k2] w0 (fun r w'=>r=.bool true∧Hp w0 w' [] []):=by
 refine zE Tryz.func84 Tryz.ntmps84 Y<|cR e8 ?_
 have H:=Hp.refl w0
 refine Rq<|Xa Y<|Xr e8<|Rq<|Xm Y<|Xm Y<|OC (EC gf126 Y) (JS A B k k2 l ok ok2 _ (hl.Gi H k0) (hl2.Gi H k0) hn)<|fun w1 Hd=>have H1:=H.Af Hd;Xa Y<|Xr e8<|J5<|Ak Y Y<|⟨Y,H1.Ac⟩
theorem JT (A B:Option Addr) (k k2:Nat) (l:List En) (ok ok2:Nat→Prop) (w0:World) (hl:Sl (Gs w0 ok) 2 w0 ok A l) (hl2:Sl (Gs w0 ok2) 2 w0 ok2 B l) (hn:l.length≤1000000000000000000):zP Tryz.prog 129 #[.slice A l.length k,.slice B l.length k2,.func (.func 130) #[] #[]] w0 (fun r w'=>r=.bool true∧Hp w0 w' [] []):=by
 refine zE Tryz.func129 Tryz.ntmps129 Y<|cR e30 ?_
 have H:=Hp.refl w0
 obtain⟨ps,hp,hr,_,h2⟩:=hl
 obtain⟨qs,hq,hrb,_,h2b⟩:=hl2
 refine Rq<|Xa Y<|Xr e30<|J1<|Rq<|Xm Y<|OV (ES Tryz.underlying95 Y)<|Xm Y<|OV (ES Tryz.underlying95 Y)<|Aa e30<|Dy (yS Y Y) (fun h=>h Y)<|Xr e30<|J4 Y<|J6<|J1<|Rq<|Xa Y<|Xr e30<|J7<|zU (fun nQ lQ w=>∃ (i:Nat) (y:Int),l.length - i=nQ∧xN (Dj [(0,.slice A l.length k),(1,.slice B l.length k2),(2,.func (.func 130) #[] #[]),(7,.int .i64 y)] 0 30) lQ∧y=(i:Int)∧i≤l.length∧Hp w0 w [] []) (l.length) ?_ ?_
 exact⟨0,_,Y,(Dv Y Y Y Y Y),Y,Nat.zero_le _,H⟩
 rintro nQ lQ w1 ⟨i,y,rfl,hfit,rfl,hi,H1⟩
 obtain⟨j,rfl⟩:=hfit.open
 refine cR e30 ?_
 clear hfit
 refine J1<|Rq<|Xm Y<|Xm Y<|OV (ES Tryz.underlying95 Y)<|OT (zQ Y Y) (fun hp16=>?_) (fun hp16=>?_)
 have hil:i < l.length:=by omega
 obtain⟨x,hx⟩:=yM hil
 obtain⟨p1,hp1,hR⟩:=h2.get hx
 obtain⟨p2,hp2,hR2⟩:=h2b.get hx
 obtain⟨a1,ha1⟩:=hr.some_ (by omega)
 obtain⟨a2,ha2⟩:=hrb.some_ (by omega)
 subst ha1 ha2
 obtain⟨Ax,kx,rfl,hbx⟩:=hR
 obtain⟨Ay,ky,rfl,hby⟩:=hR2
 refine Xr e30<|J3 Y<|J6<|J1<|J7<|J1<|zR 10 [(true,0),(true,1),(true,2),(true,3),(true,4),(true,5),(true,6),(true,7),(true,8),(false,9),(false,10)] H1 [] yG (by decide) (by kernel_rfl) ?_
 rintro w2 hw2
 have H2:=Hp.drew H1;rw[← hw2]at H2
 refine Zm Y Y<|Zm Y Y<|Zm Y Y<|MP Y<|MV (fun wz hz=>EI Tryz.underlying95 wD Y Y (len:=l.length) (i:=i) (by omega) (by omega) Y)<|cZ e30<|MP Y<|MV (fun wz hz=>EN wD Y (vs:=[.int .i64 x.slot,.slice Ax x.val.length kx]) Y ((hr.to0 hz).elem hp hp1))<|Zm Y Y<|Zm Y Y<|MP Y<|MV (fun wz hz=>EI Tryz.underlying95 wD Y Y (len:=l.length) (i:=i) (by omega) (by omega) Y)<|cZ e30<|MP Y<|MV (fun wz hz=>EN wD Y (vs:=[.int .i64 x.slot,.slice Ay x.val.length ky]) Y ((hrb.to0 hz).elem hq hp2))<|MO Y<|OC (xI gf130 Y Y) (Q7 x Ax Ay kx ky ok ok2 _ (hbx.to H2 k0) (hby.to H2 k0))<|fun w3 Hd=>have H3:=H2.Af Hd;OE<|⟨fun hne=>H3.pick [] (by decide),?_⟩
 refine cZ e30<|MO Y<|Xn Y<|OE<|⟨fun hne=>absurd Y hne,?_⟩
 refine cZ e30<|ME<|cR e30<|J4 Y<|J6<|zA (zB ?_)
 refine J2<|Xm Y<|OV (zL Y Y (IntWalk.i64_in _ (by omega)))<|Xa Y<|Xr e30<|zA (zI ?_)
 exact⟨l.length - (i+1),by omega,i+1,_,Y,(Dv Y Y Y Y Y),by omega,by omega,H3.Ac⟩
 refine Xr e30<|J4 Y<|J8<|zT<|zS<|Rq<|Xa Y<|Xr e30<|J5<|Ak Y Y<|⟨Y,H1.Ac⟩
theorem L8 (A B:Option Addr) (k k2:Nat) (l:List En) (ok ok2:Nat→Prop) (w0:World) (hl:Sl (Gs w0 ok) 2 w0 ok A l) (hl2:Sl (Gs w0 ok2) 2 w0 ok2 B l) (hn:l.length≤1000000000000000000):zP Tryz.prog 86 #[.slice A l.length k,.slice B l.length k2] w0 (fun r w'=>r=.bool true∧Hp w0 w' [] []):=by
 refine zE Tryz.func86 Tryz.ntmps86 Y<|cR e8 ?_
 have H:=Hp.refl w0
 refine Rq<|Xa Y<|Xr e8<|Rq<|Xm Y<|Xm Y<|OC (EC gf129 Y) (JT A B k k2 l ok ok2 _ (hl.Hu H k0) (hl2.Hu H k0) hn)<|fun w1 Hd=>have H1:=H.Af Hd;Xa Y<|Xr e8<|J5<|Ak Y Y<|⟨Y,H1.Ac⟩
theorem GR (s:Sv) (A1:Option Addr) (k1:Nat) (A2:Option Addr) (k2:Nat) (A3:Option Addr) (k3:Nat) (C1:Option Addr) (q1:Nat) (C2:Option Addr) (q2:Nat) (C3:Option Addr) (q3:Nat) (ok ok2:Nat→Prop) (w0:World) (h1:Sl (Et w0 ok) 4 w0 ok A1 s.Ae) (h2:Bs w0 ok A2 s.image) (h3:Sl (Gs w0 ok) 2 w0 ok A3 s.entries) (u1:Sl (Et w0 ok2) 4 w0 ok2 C1 s.Ae) (u2:Bs w0 ok2 C2 s.image) (u3:Sl (Gs w0 ok2) 2 w0 ok2 C3 s.entries) (hv:s.Ae.length≤1000000000000000000) (he:s.entries.length≤1000000000000000000):zP Tryz.prog 43 #[.agg [.int .i64 s.p.r,.int .i64 s.p.n,.slice A1 s.Ae.length k1,.int .i64 s.index,.slice A2 s.image.length k2,.slice A3 s.entries.length k3].toArray,.agg [.int .i64 s.p.r,.int .i64 s.p.n,.slice C1 s.Ae.length q1,.int .i64 s.index,.slice C2 s.image.length q2,.slice C3 s.entries.length q3].toArray] w0 (fun r w'=>r=.bool true∧Hp w0 w' [] []):=by
 refine zE Tryz.func43 Tryz.ntmps43 Y<|cR e38 ?_
 have H:=Hp.refl w0
 refine Rq<|yA Y Y H<|fun w1 g1 H1 hg1=>yA Y Y H1<|fun w2 g2 H2 hg2=>Xa Y<|Xr e38<|Rq<|Xf vW Y<|OV (EN wX Y (vs:=[.int .i64 s.p.r,.int .i64 s.p.n]) Y (H2.Ad (i:=0) Y Y))<|Xf vW Y<|OV (EN wX Y (vs:=[.int .i64 s.p.r,.int .i64 s.p.n]) Y (H2.Ad (i:=1) Y Y))<|Aa e38<|Ij (bD Y Y) (⟨Y,Y⟩)<|Xm Y<|Aa e38<|OY Y<|Xf xV Y<|OY Y<|OV (EL uP Y (H2.cell (i:=0) Y Y))<|Aa e38<|OY Y<|Xf xV Y<|OY Y<|OV (EL uP Y (H2.cell (i:=1) Y Y))<|Aa e38<|OY Y<|OC (EC gf84 Y) (L6 A1 C1 k1 q1 s.Ae ok ok2 _ (h1.Gi H2 k0) (u1.Gi H2 k0) hv)<|fun w3 Hd=>have H3:=H2.Af Hd;Xt Y Y<|Xm Y<|Aa e38<|OY Y<|Xf wR Y<|OY Y<|OV (EL ty3 Y (H3.cell (i:=0) Y Y)) ?_
 refine Aa e38<|OY Y<|Xf wR Y<|OY Y<|OV (EL ty3 Y (H3.cell (i:=1) Y Y))<|Aa e38<|OY Y<|Ij (xP Y Y) (Y)<|Xt Y Y<|Xm Y<|Aa e38<|OY Y<|Xf uU Y<|OY Y<|OV (EL xK Y (H3.cell (i:=0) Y Y))<|Aa e38<|OY Y<|Xf uU Y<|OY Y<|OV (EL xK Y (H3.cell (i:=1) Y Y))<|Aa e38<|OY Y ?_
 have hby:=fU A2 C2 s.image s.image k2 q2 _ (h2.1.to0 H3) (u2.1.to0 H3) (by have:=h2.2.2;omega) (by have:=u2.2.2;omega)
 rw[decide_eq_true rfl]at hby
 refine OC (EC VR Y) hby<|fun w4 Hd=>have H4:=H3.Af Hd;Xt Y Y<|Xm Y<|Aa e38<|OY Y<|Xf xZ Y<|OY Y<|OV (EL uZ Y (H4.cell (i:=0) Y Y))<|Aa e38<|OY Y<|Xf xZ Y<|OY Y<|OV (EL uZ Y (H4.cell (i:=1) Y Y))<|Aa e38<|OY Y<|OC (EC gf86 Y) (L8 A3 C3 k3 q3 s.entries ok ok2 _ (h3.Hu H4 k0) (u3.Hu H4 k0) he)<|fun w5 Hd=>have H5:=H4.Af Hd;Xt Y Y<|Xa Y<|Xr e38<|J5<|Ak Y Y<|⟨Y,H5.Ac⟩
theorem L7 (A B:Option Addr) (k kb:Nat) (l:List Sv) (ok ok2:Nat→Prop) (w0:World) (hl:Sl (Gz w0 ok) 6 w0 ok A l) (hl2:Sl (Gz w0 ok2) 6 w0 ok2 B l) (hn:l.length≤1000000000000000000) (hfew:∀ x∈l,x.Ae.length≤1000000000000000000∧x.entries.length≤1000000000000000000):zP Tryz.prog 42 #[.slice A l.length k,.slice B l.length kb,.func (.func 43) #[] #[]] w0 (fun r w'=>r=.bool true∧Hp w0 w' [] []):=by
 refine zE Tryz.func42 Tryz.ntmps42 Y<|cR e30 ?_
 have H:=Hp.refl w0
 obtain⟨ps,hp,hr,_,h2⟩:=hl
 obtain⟨qs,hq,hrb,_,h2b⟩:=hl2
 refine Rq<|Xa Y<|Xr e30<|J1<|Rq<|Xm Y<|OV (ES Tryz.underlying37 Y)<|Xm Y<|OV (ES Tryz.underlying37 Y)<|Aa e30<|Dy (yS Y Y) (fun h=>h Y)<|Xr e30<|J4 Y<|J6<|J1<|Rq<|Xa Y<|Xr e30<|J7<|zU (fun nQ lQ w=>∃ (i:Nat) (y:Int),l.length - i=nQ∧xN (Dj [(0,.slice A l.length k),(1,.slice B l.length kb),(2,.func (.func 43) #[] #[]),(7,.int .i64 y)] 0 30) lQ∧y=(i:Int)∧i≤l.length∧Hp w0 w [] []) (l.length) ?_ ?_
 exact⟨0,_,Y,(Dv Y Y Y Y Y),Y,Nat.zero_le _,H⟩
 rintro nQ lQ w1 ⟨i,y,rfl,hfit,rfl,hi,H1⟩
 obtain⟨j,rfl⟩:=hfit.open
 refine cR e30 ?_
 clear hfit
 refine J1<|Rq<|Xm Y<|Xm Y<|OV (ES Tryz.underlying37 Y)<|OT (zQ Y Y) (fun hp16=>?_) (fun hp16=>?_)
 have hil:i < l.length:=by omega
 obtain⟨x,hx⟩:=yM hil
 obtain⟨p1,hp1,hR⟩:=h2.get hx
 obtain⟨p2,hp2,hR2⟩:=h2b.get hx
 obtain⟨a1,ha1⟩:=hr.some_ (by omega)
 obtain⟨a2,ha2⟩:=hrb.some_ (by omega)
 subst ha1 ha2
 obtain⟨A1,k1,A2,k2,A3,k3,rfl,h1,h3,h4⟩:=hR
 obtain⟨C1,q1,C2,q2,C3,q3,rfl,u1,u3,u4⟩:=hR2
 have hfx:=hfew x (mem_of hx)
 refine Xr e30<|J3 Y<|J6<|J1<|J7<|J1<|zR 10 [(true,0),(true,1),(true,2),(true,3),(true,4),(true,5),(true,6),(true,7),(true,8),(false,9),(false,10)] H1 [] yG (by decide) (by kernel_rfl) ?_
 rintro w2 hw2
 have H2:=Hp.drew H1;rw[← hw2]at H2
 refine Zm Y Y<|Zm Y Y<|Zm Y Y<|MP Y<|MV (fun wz hz=>EI Tryz.underlying37 xW Y Y (len:=l.length) (i:=i) (by omega) (by omega) Y)<|cZ e30<|MP Y<|MV (fun wz hz=>EN xW Y (vs:=[.int .i64 x.p.r,.int .i64 x.p.n,.slice A1 x.Ae.length k1,.int .i64 x.index,.slice A2 x.image.length k2,.slice A3 x.entries.length k3]) Y ((hr.to0 hz).elem hp hp1))<|Zm Y Y<|Zm Y Y<|MP Y<|MV (fun wz hz=>EI Tryz.underlying37 xW Y Y (len:=l.length) (i:=i) (by omega) (by omega) Y)<|cZ e30<|MP Y<|MV (fun wz hz=>EN xW Y (vs:=[.int .i64 x.p.r,.int .i64 x.p.n,.slice C1 x.Ae.length q1,.int .i64 x.index,.slice C2 x.image.length q2,.slice C3 x.entries.length q3]) Y ((hrb.to0 hz).elem hq hp2))<|MO Y<|OC (xI gf43 Y Y) (GR x A1 k1 A2 k2 A3 k3 C1 q1 C2 q2 C3 q3 ok ok2 _ (h1.Gi H2 k0) (h3.to H2 k0) (h4.Hu H2 k0) (u1.Gi H2 k0) (u3.to H2 k0) (u4.Hu H2 k0) hfx.1 hfx.2)<|fun w3 Hd=>have H3:=H2.Af Hd;OE<|⟨fun hne=>H3.pick [] (by decide),?_⟩
 refine cZ e30<|MO Y<|Xn Y<|OE<|⟨fun hne=>absurd Y hne,?_⟩
 refine cZ e30<|ME<|cR e30<|J4 Y<|J6<|zA (zB ?_)
 refine J2<|Xm Y<|OV (zL Y Y (IntWalk.i64_in _ (by omega)))<|Xa Y<|Xr e30<|zA (zI ?_)
 exact⟨l.length - (i+1),by omega,i+1,_,Y,(Dv Y Y Y Y Y),by omega,by omega,H3.Ac⟩
 refine Xr e30<|J4 Y<|J8<|zT<|zS<|Rq<|Xa Y<|Xr e30<|J5<|Ak Y Y<|⟨Y,H1.Ac⟩
theorem GS (b:Bo) (A1:Option Addr) (k1:Nat) (A2:Option Addr) (k2:Nat) (A3:Option Addr) (k3:Nat) (C1:Option Addr) (q1:Nat) (C2:Option Addr) (q2:Nat) (C3:Option Addr) (q3:Nat) (ok ok2:Nat→Prop) (w0:World) (h1:Sl (Gz w0 ok) 6 w0 ok A1 b.groups) (h2:Sl Fb 4 w0 ok A2 b.rights) (h3:Sl Fp 7 w0 ok A3 b.last) (u1:Sl (Gz w0 ok2) 6 w0 ok2 C1 b.groups) (u2:Sl Fb 4 w0 ok2 C2 b.rights) (u3:Sl Fp 7 w0 ok2 C3 b.last) (n1:b.groups.length≤1000000000000000000) (n2:b.rights.length≤1000000000000000000) (n3:b.last.length≤1000000000000000000) (hfew:∀ x∈b.groups,x.Ae.length≤1000000000000000000∧x.entries.length≤1000000000000000000):zP Tryz.prog 13 #[.agg [.slice A1 b.groups.length k1,.slice A2 b.rights.length k2,.slice A3 b.last.length k3].toArray,.agg [.slice C1 b.groups.length q1,.slice C2 b.rights.length q2,.slice C3 b.last.length q3].toArray] w0 (fun r w'=>r=.bool true∧Hp w0 w' [] []):=by
 refine zE Tryz.func13 Tryz.ntmps13 Y<|cR e24 ?_
 have H:=Hp.refl w0
 refine Rq<|yA Y Y H<|fun w1 g1 H1 hg1=>yA Y Y H1<|fun w2 g2 H2 hg2=>Xa Y<|Xr e24<|Rq<|Xf vO Y<|OV (EL qH Y (H2.cell (i:=0) Y Y))<|Xf vO Y<|OV (EL qH Y (H2.cell (i:=1) Y Y))<|Aa e24<|OC (EC gf42 Y) (L7 A1 C1 k1 q1 b.groups ok ok2 _ (h1.toS H2 k0) (u1.toS H2 k0) n1 hfew)<|fun w3 Hd=>have H3:=H2.Af Hd;Xm Y<|Aa e24<|OY Y<|Xf sU Y<|OY Y<|OV (EL kX Y (H3.cell (i:=0) Y Y))<|Aa e24<|OY Y<|Xf sU Y<|OY Y<|OV (EL kX Y (H3.cell (i:=1) Y Y))<|Aa e24<|OY Y<|OC (EC gf44 Y) (M0 A2 C2 k2 q2 b.rights ok ok2 _ (h2.toR H3 k0) (u2.toR H3 k0) n2)<|fun w4 Hd=>have H4:=H3.Af Hd;Xt Y Y<|Xm Y<|Aa e24<|OY Y<|Xf tJ Y ?_
 refine OY Y<|OV (EL mM Y (H4.cell (i:=0) Y Y))<|Aa e24<|OY Y<|Xf tJ Y<|OY Y<|OV (EL mM Y (H4.cell (i:=1) Y Y))<|Aa e24<|OY Y<|OC (EC gf45 Y) (U2 A3 C3 k3 q3 b.last ok ok2 _ (h3.toM H4 k0) (u3.toM H4 k0) n3)<|fun w5 Hd=>have H5:=H4.Af Hd;Xt Y Y<|Xa Y<|Xr e24<|J5<|Ak Y Y<|⟨Y,H5.Ac⟩
theorem TE (l:List Sv) (rs:List Rt) (A1:Option Addr) (k1:Nat) (A2:Option Addr) (k2:Nat) (A3:Option Addr) (m3 k3:Nat) (C1:Option Addr) (q1:Nat) (C2:Option Addr) (q2:Nat) (C3:Option Addr) (m4 q3:Nat) (ok ok2:Nat→Prop) (w0:World) (h1:Sl (Gz w0 ok) 6 w0 ok A1 l) (h2:Sl Fb 4 w0 ok A2 rs) (u1:Sl (Gz w0 ok2) 6 w0 ok2 C1 l) (u2:Sl Fb 4 w0 ok2 C2 rs) (n1:l.length≤1000000000000000000) (n2:rs.length≤1000000000000000000) (hfew:∀ x∈l,x.Ae.length≤1000000000000000000∧x.entries.length≤1000000000000000000):zP Tryz.prog 20 #[.agg [.slice A1 l.length k1,.slice A2 rs.length k2,.slice A3 m3 k3].toArray,.agg [.slice C1 l.length q1,.slice C2 rs.length q2,.slice C3 m4 q3].toArray] w0 (fun r w'=>r=.bool true∧Hp w0 w' [] []):=by
 refine zE Tryz.func20 Tryz.ntmps20 Y<|cR e40 ?_
 have H:=Hp.refl w0
 obtain⟨ps,hp,hr,_,hx2⟩:=id h1
 obtain⟨qs,hq,hrb,_,hx2b⟩:=id u1
 refine Rq<|yA Y Y H<|fun w1 ga H1 _=>yA Y Y H1<|fun w2 gb H2 _=>Xa Y<|Xr e40<|J1<|Rq<|Xf vO Y<|OV (EL qH Y (H2.cell (i:=0) Y Y))<|OV (ES Tryz.underlying37 Y)<|Xf vO Y<|Aa e40<|OV (EL qH Y (H2.cell (i:=1) Y Y))<|OV (ES Tryz.underlying37 Y)<|Dy (yS Y Y) (fun h=>h Y)<|Xm Y<|Aa e40<|OY Y<|Xf sU Y<|OY Y<|OV (EL kX Y (H2.cell (i:=0) Y Y))<|Aa e40<|OY Y<|Xf sU Y<|OY Y<|OV (EL kX Y (H2.cell (i:=1) Y Y))<|Aa e40<|OY Y<|OC (EC gf44 Y) (M0 A2 C2 k2 q2 rs ok ok2 _ (h2.toR H2 k0) (u2.toR H2 k0) n2)<|fun w3 Hd=>have H3:=H2.Af Hd;OY Y<|Xn Y<|Xu Y Y<|OE ?_
 refine cR e40<|J4 Y<|J6<|J1<|Rq<|Xa Y<|Xr e40<|J7<|zU (fun nQ lQ w=>∃ (i:Nat) (y:Int),l.length - i=nQ∧xN (Dj [(2,.pointer (some ⟨ga,0,none⟩)),(3,.pointer (some ⟨gb,0,none⟩)),(5,.int .i64 y)] 0 40) lQ∧y=(i:Int)∧i≤l.length∧Hp w0 w [] [((some ga,41,[.slice A1 l.length k1,.slice A2 rs.length k2,.slice A3 m3 k3]):Ent),(some gb,41,[.slice C1 l.length q1,.slice C2 rs.length q2,.slice C3 m4 q3])]) (l.length) ?_ ?_
 exact⟨0,_,Y,(Jc Y Y Y Y),Y,Nat.zero_le _,H3⟩
 rintro nQ lQ w4 ⟨i,y,rfl,hfit,rfl,hi,H4⟩
 obtain⟨j,rfl⟩:=hfit.open
 refine cR e40 ?_
 clear hfit
 refine J1<|Rq<|Xm Y<|Xf vO Y<|OV (EL qH Y (H4.cell (i:=0) Y Y))<|OV (ES Tryz.underlying37 Y)<|Aa e40<|OT (zQ Y Y) (fun hp25=>?_) (fun hp25=>?_)
 have hil:i < l.length:=by omega
 obtain⟨x,hx⟩:=yM hil
 obtain⟨p1,hp1,hR⟩:=hx2.get hx
 obtain⟨p2,hp2,hR2⟩:=hx2b.get hx
 obtain⟨a1,ha1⟩:=hr.some_ (by omega)
 obtain⟨a2,ha2⟩:=hrb.some_ (by omega)
 subst ha1 ha2
 have hfx:=hfew x (mem_of hx)
 obtain⟨D1,e1,D2,e2,D3,e3,rfl,h3,h4,h5⟩:=hR
 obtain⟨E1,f1,E2,f2,E3,f3,rfl,u3,u4,u5⟩:=hR2
 refine Xr e40<|J3 Y<|J6<|J1<|J7<|J1<|zR 11 [(true,0),(true,1),(true,2),(true,3),(true,4),(true,5),(true,6),(true,7),(true,8),(true,9),(false,10),(false,11)] H4 [0,1] yG (by decide) (by kernel_rfl) ?_
 rintro w5 hw5
 have H5:=Hp.drew H4;rw[← hw5]at H5
 refine Zf Y vO Y<|MP Y<|MV (fun wz hz=>EL qH Y (hz.cell (i:=0) Y Y))<|Zm Y Y<|MP Y<|MV (fun wz hz=>EI Tryz.underlying37 xW Y Y (len:=l.length) (i:=i) (by omega) (by omega) Y)<|cZ e40<|MP Y<|MV (fun wz hz=>EN xW Y (vs:=[.int .i64 x.p.r,.int .i64 x.p.n,.slice D1 x.Ae.length e1,.int .i64 x.index,.slice D2 x.image.length e2,.slice D3 x.entries.length e3]) Y ((hr.to0 hz).elem hp hp1))<|Zf Y vO Y<|MP Y<|MV (fun wz hz=>EL qH Y (hz.cell (i:=1) Y Y))<|Zm Y Y<|cZ e40<|MP Y<|MV (fun wz hz=>EI Tryz.underlying37 xW Y Y (len:=l.length) (i:=i) (by omega) (by omega) Y)<|MP Y<|MV (fun wz hz=>EN xW Y (vs:=[.int .i64 x.p.r,.int .i64 x.p.n,.slice E1 x.Ae.length f1,.int .i64 x.index,.slice E2 x.image.length f2,.slice E3 x.entries.length f3]) Y ((hrb.to0 hz).elem hq hp2))<|MO Y<|OC (EC gf43 Y) (GR x D1 e1 D2 e2 D3 e3 E1 f1 E2 f2 E3 f3 ok ok2 _ (h3.Gi H5 k0) (h4.to H5 k0) (h5.Hu H5 k0) (u3.Gi H5 k0) (u4.to H5 k0) (u5.Hu H5 k0) hfx.1 hfx.2)<|fun w6 Hd=>have H6:=H5.Af Hd;OE<|⟨fun hne=>H6.pick [0,1] (by decide),?_⟩
 refine cZ e40<|MO Y<|Xn Y<|OE<|⟨fun hne=>absurd Y hne,?_⟩
 refine cZ e40<|ME<|cR e40<|J4 Y<|J6<|zA (zB ?_)
 refine J2<|Xm Y<|OV (zL Y Y (IntWalk.i64_in _ (by omega)))<|Xa Y<|Xr e40<|zA (zI ?_)
 exact⟨l.length - (i+1),by omega,i+1,_,Y,(Jc Y Y Y Y),by omega,by omega,H6.pick [0,1] (by decide)⟩
 refine Xr e40<|J4 Y<|J8<|zT<|zS<|Rq<|Xa Y<|Xr e40<|J5<|Ak Y Y<|⟨Y,H4.Ac⟩
end Go.Proofs.YtjoeklkmnfaabaaGreat
namespace Go.Proofs.YtjoeklkmnfaabaaGreat
set_option maxRecDepth 100000
set_option maxHeartbeats 16000000
open Go Go.RowKit
set_option linter.unusedVariables false
attribute [local irreducible] yT Ops zP Cd
theorem RG (A:Option Addr) (k:Nat) (l:List Rt) (ok:Nat→Prop) (w0:World) (hl:Sl Fb 4 w0 ok A l) (hn:l.length≤1000000000000) (hso:qJ l):zP Tryz.prog 131 #[.slice A l.length k] w0 (fun r w'=>r=.bool true∧Hp w0 w' [] []):=by
 refine zE Tryz.func131 Tryz.ntmps131 Y<|cR e33 ?_
 have H:=Hp.refl w0
 obtain⟨ps,hp,hr,ha,h2⟩:=id hl
 have hlen:=h2.len
 obtain⟨Ku,hrise⟩:=sX hso
 refine Rq<|Xa Y<|Xr e33<|J1<|Rq<|Xa Y<|Xr e33<|J7<|zU (fun nQ lQ w=>∃ (i:Nat) (y:Int),l.length - i=nQ∧xN (Dj [(0,.slice A l.length k),(3,.int .i64 y)] 0 33) lQ∧y=(i:Int)∧i≤l.length∧Hp w0 w [] []) (l.length) ?_ ?_
 exact⟨0,_,Y,(ft2 Y Y Y),Y,Nat.zero_le _,H⟩
 rintro nQ lQ w1 ⟨i,y,rfl,hfit,rfl,hi,H1⟩
 obtain⟨j,rfl⟩:=hfit.open
 refine cR e33 ?_
 clear hfit
 refine J1<|Rq<|Xm Y<|Xm Y<|OV (ES Tryz.underlying38 Y)<|OT (zQ Y Y) (fun Kz=>?_) (fun Kz=>?_)
 have hil:i < l.length:=by omega
 obtain⟨x,hx⟩:=yM hil
 obtain⟨p1,hp1,hR⟩:=h2.get hx
 unfold Fb at hR
 subst hR
 obtain⟨a1,ha1⟩:=hr.some_ (by omega)
 subst ha1
 have hmay:=Ku x (mem_of hx)
 refine Xr e33<|J3 Y<|J6<|J1<|J7<|J1<|zR 22 [(true,0),(true,1),(true,2),(true,3),(false,4),(true,5),(true,6),(true,7),(true,8),(true,9),(true,10),(true,11),(true,12),(true,13),(true,14),(true,15),(true,16),(true,17),(true,18),(false,19),(true,20),(true,21),(false,22)] H1 [] yG (by decide) (by kernel_rfl) ?_
 rintro w2 hw2
 have H2:=Hp.drew H1;rw[← hw2]at H2
 refine Zm Y Y<|Zm Y Y<|MP Y<|MV (fun wz hz=>EI Tryz.underlying38 xR Y Y (len:=l.length) (i:=i) (by omega) (by omega) Y)<|MP Y<|MV (fun wz hz=>EN xR Y (vs:=[.int .i64 x.g,yC x.key,.int .i64 x.Ai,.int .i64 x.net]) Y ((hr.to0 hz).elem hp hp1))<|cZ e33<|MO Y<|oJ (EC T9 Y) (TS _ _) (hmay)<|fun w3 Hd=>have H3:=H2.Af Hd;OE<|⟨fun hne=>H3.pick [] (by decide),?_⟩
 refine cZ e33<|MP Y<|MV (fun wz hz=>iA Y)<|Zm Y Y<|MP Y<|MY Y<|MV (fun wz hz=>zK Y)<|MP Y<|MY Y<|vU (fun wz hz=>yO Y Y) (fun hp18=>?_) (fun hp18=>?_)
 obtain⟨y,hy⟩:=yM (l:=l) (j:=i - 1) (by omega)
 obtain⟨p2,hp2,hR2⟩:=h2.get hy
 unfold Fb at hR2
 subst hR2
 have hlt:=hrise (i - 1) i y x (by omega) hy hx
 refine MP Y<|MY Y<|MV (fun wz hz=>zK Y)<|cZ e33<|MP Y<|MY Y<|MV (fun wz hz=>zK Y)<|MP Y<|MY Y<|MV (fun wz hz=>zK Y)<|MP Y<|MY Y<|MV (fun wz hz=>uW Y Y (IntWalk.i64_in _ (by omega)))<|MP Y<|MY Y<|MV (fun wz hz=>EI Tryz.underlying38 xR Y Y (len:=l.length) (i:=i - 1) (by omega) (by omega) Y)<|cZ e33<|MP Y<|MY Y<|MV (fun wz hz=>EN xR Y (vs:=[.int .i64 y.g,yC y.key,.int .i64 y.Ai,.int .i64 y.net]) Y ((hr.to0 hz).elem hp hp2))<|MP Y<|MY Y<|MV (fun wz hz=>zK Y)<|MP Y<|MY Y<|MV (fun wz hz=>zK Y)<|MP Y<|MY Y<|MV (fun wz hz=>EI Tryz.underlying38 xR Y Y (len:=l.length) (i:=i) (by omega) (by omega) Y)<|cZ e33<|MP Y<|MY Y<|MV (fun wz hz=>EN xR Y (vs:=[.int .i64 x.g,yC x.key,.int .i64 x.Ai,.int .i64 x.net]) Y ((hr.to0 hz).elem hp hp1))<|MO Y<|OY Y<|oJ (EC IL Y) (dD _ _ _) (hlt)<|fun w4 Hd=>have H4:=H3.Af Hd;OE<|⟨fun hne=>H4.pick [] (by decide),?_⟩
 refine cZ e33<|MP Y<|MY Y<|MV (fun wz hz=>iA Y)<|MP Y<|MY Y<|MV (fun wz hz=>xS Y Y)<|MO Y<|Xu Y Y<|OE<|⟨fun hne=>absurd Y hne,?_⟩
 refine cZ e33<|ME<|cR e33<|J4 Y<|J6<|zA (zB ?_)
 refine J2<|Xm Y<|OV (zL Y Y (IntWalk.i64_in _ (by omega)))<|Xa Y<|Xr e33<|zA (zI ?_)
 exact⟨l.length - (i+1),by omega,i+1,_,Y,(ft2 Y Y Y),by omega,by omega,H4.Ac⟩
 refine MP Y<|MY Y<|MV (fun wz hz=>zK Y)<|cZ e33<|MP Y<|MZ Y<|MP Y<|MZ Y<|cZ e33<|MP Y<|MZ Y<|MP Y<|MZ Y<|cZ e33<|MP Y<|MZ Y<|MP Y<|MZ Y<|cZ e33<|MP Y<|MZ Y<|MP Y<|MZ Y<|cZ e33<|MP Y<|MZ Y<|MO Y<|OZ Y<|OE<|⟨fun hne=>H3.pick [] (by decide),?_⟩
 refine cZ e33<|MP Y<|MZ Y<|MP Y<|MY Y<|MV (fun wz hz=>wT Y Y)<|MO Y<|Xu Y Y<|OE<|⟨fun hne=>absurd Y hne,?_⟩
 refine cZ e33<|ME<|cR e33<|J4 Y<|J6<|zA (zB ?_)
 refine J2<|Xm Y<|OV (zL Y Y (IntWalk.i64_in _ (by omega)))<|Xa Y<|Xr e33<|zA (zI ?_)
 exact⟨l.length - (i+1),by omega,i+1,_,Y,(ft2 Y Y Y),by omega,by omega,H3.Ac⟩
 refine Xr e33<|J4 Y<|J8<|zT<|zS<|Rq<|Xa Y<|Xr e33<|J5<|Ak Y Y<|⟨Y,H1.Ac⟩
theorem Yg (x0:Rt) (A:Option Addr) (k:Nat) (l:List Rt) (ok:Nat→Prop) (w0:World) (hl:Sl Fb 4 w0 ok A l) (hn:l.length≤1000000000000) (hso:qJ l):zP Tryz.prog 90 #[.slice A l.length k,.agg [.int .i64 x0.g,yC x0.key,.int .i64 x0.Ai,.int .i64 x0.net].toArray] w0 (fun r w'=>(nW x0→∃ A' k',r=.tuple #[.slice A' (Di l x0).length k',.int .i64 0]∧Sl Fb 4 w' (fun b=>w0.heap.size≤b) A' (Di l x0)∧(Di l x0).length≤k')∧(¬nW x0→r=.tuple #[.slice none 0 0,.int .i64 1])∧Hp w0 w' [] []):=by
 refine zE Tryz.func90 Tryz.ntmps90 Y<|cR e53 ?_
 have H:=Hp.refl w0
 obtain⟨ps,hp,hr,ha,h2⟩:=id hl
 have hlen:=h2.len
 obtain⟨Ku,hrise⟩:=sX hso
 refine Rq<|yA Y Y H<|fun w1 gx H1 _=>Xa Y<|Xa Y<|Xr e53<|J1<|Rq<|Xm Y<|OC (EC gf131 Y) (RG A k l ok _ (hl.toR H1 k0) hn hso)<|fun w2 Hd=>have H2:=H1.Af Hd;Xn Y<|Xr e53<|J4 Y<|J6<|J1<|Rq<|OV (EN xR Y (vs:=[.int .i64 x0.g,yC x0.key,.int .i64 x0.Ai,.int .i64 x0.net]) Y (H2.Ad (i:=0) Y Y))<|OX (EC T9 Y) (TS _ _) (fun Gh w3 Hd=>?_) (fun Gh w3 Hd=>?_)
 have H3:=H2.Af Hd
 refine Xn Y<|Xr e53<|J4 Y<|J6<|Rq<|Xa Y<|Xa Y<|Xr e53<|J1<|Rq<|Xa Y<|Xr e53<|J7<|zU (fun nQ lQ w=>∃ (i:Nat) (y:Int) (g:Option Nat) (cap:Nat) (us:List Rt) (sp:List Value) (g6:Option Nat) (cap6:Nat) (vs:List Rt) (YV:List Value),l.length - i=nQ∧xN (Dj [(0,.slice A l.length k),(3,.pointer (some ⟨gx,0,none⟩)),(6,.slice (hd g) (us.map Eu).length cap),(7,.slice (hd g6) (vs.map Eu).length cap6),(8,.int .i64 y)] 0 53) lQ∧y=(i:Int)∧i≤l.length∧us=(l.take i).filter (fun z=>Gp z x0)∧vs=(l.take i).filter (fun z=>Gp x0 z)∧Gw 4 g cap (us.map Eu) sp∧Gw 4 g6 cap6 (vs.map Eu) YV∧Hp w0 w [] [((some gx,35,[.int .i64 x0.g,yC x0.key,.int .i64 x0.Ai,.int .i64 x0.net]):Ent),((g,35,(us.map Eu).flatten++sp):Ent),((g6,35,(vs.map Eu).flatten++YV):Ent)]) (l.length) ?_ ?_
 exact⟨0,_,none,0,[],[],none,0,[],[],Y,(Ez Y Y Y Y Y Y),Y,Nat.zero_le _,Y,Y,Gw.nil 4,Gw.nil 4,(H3.nil 35).nil 35⟩
 rintro nQ lQ w4 ⟨i,y,g,cap,us,sp,g6,cap6,vs,YV,rfl,hfit,rfl,hi,hus,hvs,hG,Y4,H4⟩
 obtain⟨j,rfl⟩:=hfit.open
 refine cR e53 ?_
 clear hfit
 refine J1<|Rq<|Xm Y<|Xm Y<|OV (ES Tryz.underlying38 Y)<|OT (zQ Y Y) (fun hp18=>?_) (fun hp18=>?_)
 have hil:i < l.length:=by omega
 obtain⟨x,hx⟩:=yM hil
 obtain⟨p1,hp1,hR⟩:=h2.get hx
 unfold Fb at hR
 subst hR
 obtain⟨a1,ha1⟩:=hr.some_ (by omega)
 subst ha1
 have hmay:=Ku x (mem_of hx)
 have Qy:us.length≤i:=by rw[hus];exact jM
 have hvl:vs.length≤i:=by rw[hvs];exact jM
 refine Xr e53<|J3 Y<|J6<|J1<|J7<|J1<|J1<|zR 5 [(true,0),(true,1),(true,2),(true,3),(true,4),(false,5)] H4 [0,1,2] yG (by decide) (by kernel_rfl) ?_
 rintro w5 hw5
 have H5:=Hp.drew H4;rw[← hw5]at H5
 refine Zm Y Y<|Zm Y Y<|MP Y<|MV (fun wz hz=>EI Tryz.underlying38 xR Y Y (len:=l.length) (i:=i) (by omega) (by omega) Y)<|MP Y<|MV (fun wz hz=>EN xR Y (vs:=[.int .i64 x.g,yC x.key,.int .i64 x.Ai,.int .i64 x.net]) Y ((hr.to0 hz).elem hp hp1))<|cZ e53<|MP Y<|MV (fun wz hz=>EN xR Y (vs:=[.int .i64 x0.g,yC x0.key,.int .i64 x0.Ai,.int .i64 x0.net]) Y (hz.Ad (i:=0) Y Y))<|MO Y<|OX (EC IL Y) (dD _ _ _) (fun Gu w6 Hd=>?_) (fun Gu w6 Hd=>?_)
 have H6:=H5.Af Hd
 refine OE ?_
 refine⟨fun hne=>absurd Y hne,?_⟩
 refine ME<|cR e53<|J3 Y<|J2<|Xm Y<|Xm Y<|Xm Y<|OV (EI Tryz.underlying38 xR Y Y (len:=l.length) (i:=i) (by omega) (by omega) Y)<|Aa e53<|OV (EN xR Y (vs:=[.int .i64 x.g,yC x.key,.int .i64 x.Ai,.int .i64 x.net]) Y ((hr.to0 H6).elem hp hp1))<|zG Tryz.underlying38 xR H6 (cs:=[.int .i64 x.g,yC x.key,.int .i64 x.Ai,.int .i64 x.net]) Y (by decide) Y<|fun w7 gk H7 _=>xD Tryz.underlying38 xR (by decide) H7 1 (qs:=us.map Eu) hG Y Y (rs:=[[.int .i64 x.g,yC x.key,.int .i64 x.Ai,.int .i64 x.net]]) (m:=1) Y Y (H7.rd (i:=3) (o:=some _) (xs:=[.int .i64 x.g,yC x.key,.int .i64 x.Ai,.int .i64 x.net]) (sp:=[]) Y Y (by decide)) (Pl.one Y) (fun p hp=>by rw[List.mem_singleton.1 hp];rfl) (by rw[List.length_map];omega) (by rw[List.length_map];omega) (by decide)<|fun w8 g2 cap2 sp2 H8 hG2=>?_
 have hm2:us.map Eu++[[.int .i64 x.g,yC x.key,.int .i64 x.Ai,.int .i64 x.net]]=(us++[x]).map Eu:=by rw[List.map_append];rfl
 rw[hm2]at H8 hG2 ⊢
 refine Xa Y<|Xr e53<|J1<|zR 5 [(true,0),(true,1),(true,2),(true,3),(true,4),(false,5)] H8 [0,1,2,3] yG (by decide) (by kernel_rfl) ?_
 rintro w9 Qx
 have H9:=Hp.drew H8;rw[← Qx]at H9
 refine MP Y<|MV (fun wz hz=>EN xR Y (vs:=[.int .i64 x0.g,yC x0.key,.int .i64 x0.Ai,.int .i64 x0.net]) Y (hz.Ad (i:=0) Y Y))<|Zm Y Y<|Zm Y Y<|MP Y<|MV (fun wz hz=>EI Tryz.underlying38 xR Y Y (len:=l.length) (i:=i) (by omega) (by omega) Y)<|cZ e53<|MP Y<|MV (fun wz hz=>EN xR Y (vs:=[.int .i64 x.g,yC x.key,.int .i64 x.Ai,.int .i64 x.net]) Y ((hr.to0 hz).elem hp hp1))<|MO Y<|OX (EC IL Y) (dD _ _ _) (fun Hr w10 Hd=>?_) (fun Hr w10 Hd=>?_)
 have Ar:=H9.Af Hd
 refine OE ?_
 refine⟨fun hne=>absurd Y hne,?_⟩
 refine ME<|cR e53<|J3 Y<|J2<|Xm Y<|Xm Y<|Xm Y<|OV (EI Tryz.underlying38 xR Y Y (len:=l.length) (i:=i) (by omega) (by omega) Y)<|Aa e53<|OV (EN xR Y (vs:=[.int .i64 x.g,yC x.key,.int .i64 x.Ai,.int .i64 x.net]) Y ((hr.to0 Ar).elem hp hp1))<|zG Tryz.underlying38 xR Ar (cs:=[.int .i64 x.g,yC x.key,.int .i64 x.Ai,.int .i64 x.net]) Y (by decide) Y<|fun Gm gq Bd _=>xD Tryz.underlying38 xR (by decide) Bd 2 (qs:=vs.map Eu) Y4 Y Y (rs:=[[.int .i64 x.g,yC x.key,.int .i64 x.Ai,.int .i64 x.net]]) (m:=1) Y Y (Bd.rd (i:=4) (o:=some _) (xs:=[.int .i64 x.g,yC x.key,.int .i64 x.Ai,.int .i64 x.net]) (sp:=[]) Y Y (by decide)) (Pl.one Y) (fun p hp=>by rw[List.mem_singleton.1 hp];rfl) (by rw[List.length_map];omega) (by rw[List.length_map];omega) (by decide)<|fun w12 g5 cap5 YW Bc Ux=>?_
 have X0:vs.map Eu++[[.int .i64 x.g,yC x.key,.int .i64 x.Ai,.int .i64 x.net]]=(vs++[x]).map Eu:=by rw[List.map_append];rfl
 rw[X0]at Bc Ux ⊢
 refine Xa Y<|Xr e53<|zA (zB ?_)
 refine J2<|Xm Y<|OV (zL Y Y (IntWalk.i64_in _ (by omega)))<|Xa Y<|Xr e53<|zA (zI ?_)
 exact⟨l.length - (i+1),by omega,i+1,_,g2,cap2,us++[x],sp2,g5,cap5,vs++[x],YW,Y,(Ez Y Y Y Y Y Y),by omega,by omega,by rw[hus,FD hx Gu],by rw[hvs,FD hx Hr],hG2,Ux,Bc.pick [0,1,2] (by decide)⟩
 have Ar:=H9.Af Hd
 refine OE ?_
 refine⟨fun hne=>absurd Y hne,?_⟩
 refine ME<|cR e53<|J4 Y<|J6<|zA (zB ?_)
 refine J2<|Xm Y<|OV (zL Y Y (IntWalk.i64_in _ (by omega)))<|Xa Y<|Xr e53<|zA (zI ?_)
 exact⟨l.length - (i+1),by omega,i+1,_,g2,cap2,us++[x],sp2,g6,cap6,vs,YV,Y,(Ez Y Y Y Y Y Y),by omega,by omega,by rw[hus,FD hx Gu],by rw[hvs,FE hx (by simpa using Hr)],hG2,Y4,Ar.pick [0,1,2] (by decide)⟩
 have H6:=H5.Af Hd
 refine OE ?_
 refine⟨fun hne=>absurd Y hne,?_⟩
 refine ME<|cR e53<|J4 Y<|J6<|J1<|zR 5 [(true,0),(true,1),(true,2),(true,3),(true,4),(false,5)] H6 [0,1,2] yG (by decide) (by kernel_rfl) ?_
 rintro w7 hw7
 have H7:=Hp.drew H6;rw[← hw7]at H7
 refine MP Y<|MV (fun wz hz=>EN xR Y (vs:=[.int .i64 x0.g,yC x0.key,.int .i64 x0.Ai,.int .i64 x0.net]) Y (hz.Ad (i:=0) Y Y))<|Zm Y Y<|Zm Y Y<|MP Y<|MV (fun wz hz=>EI Tryz.underlying38 xR Y Y (len:=l.length) (i:=i) (by omega) (by omega) Y)<|cZ e53<|MP Y<|MV (fun wz hz=>EN xR Y (vs:=[.int .i64 x.g,yC x.key,.int .i64 x.Ai,.int .i64 x.net]) Y ((hr.to0 hz).elem hp hp1))<|MO Y<|OX (EC IL Y) (dD _ _ _) (fun Hr w8 Hd=>?_) (fun Hr w8 Hd=>?_)
 have H8:=H7.Af Hd
 refine OE ?_
 refine⟨fun hne=>absurd Y hne,?_⟩
 refine ME<|cR e53<|J3 Y<|J2<|Xm Y<|Xm Y<|Xm Y<|OV (EI Tryz.underlying38 xR Y Y (len:=l.length) (i:=i) (by omega) (by omega) Y)<|Aa e53<|OV (EN xR Y (vs:=[.int .i64 x.g,yC x.key,.int .i64 x.Ai,.int .i64 x.net]) Y ((hr.to0 H8).elem hp hp1))<|zG Tryz.underlying38 xR H8 (cs:=[.int .i64 x.g,yC x.key,.int .i64 x.Ai,.int .i64 x.net]) Y (by decide) Y<|fun w9 gq H9 _=>xD Tryz.underlying38 xR (by decide) H9 2 (qs:=vs.map Eu) Y4 Y Y (rs:=[[.int .i64 x.g,yC x.key,.int .i64 x.Ai,.int .i64 x.net]]) (m:=1) Y Y (H9.rd (i:=3) (o:=some _) (xs:=[.int .i64 x.g,yC x.key,.int .i64 x.Ai,.int .i64 x.net]) (sp:=[]) Y Y (by decide)) (Pl.one Y) (fun p hp=>by rw[List.mem_singleton.1 hp];rfl) (by rw[List.length_map];omega) (by rw[List.length_map];omega) (by decide)<|fun w10 g5 cap5 YW Ar Ux=>?_
 have X0:vs.map Eu++[[.int .i64 x.g,yC x.key,.int .i64 x.Ai,.int .i64 x.net]]=(vs++[x]).map Eu:=by rw[List.map_append];rfl
 rw[X0]at Ar Ux ⊢
 refine Xa Y<|Xr e53<|zA (zB ?_)
 refine J2<|Xm Y<|OV (zL Y Y (IntWalk.i64_in _ (by omega)))<|Xa Y<|Xr e53<|zA (zI ?_)
 exact⟨l.length - (i+1),by omega,i+1,_,g,cap,us,sp,g5,cap5,vs++[x],YW,Y,(Ez Y Y Y Y Y Y),by omega,by omega,by rw[hus,FE hx (by simpa using Gu)],by rw[hvs,FD hx Hr],hG,Ux,Ar.pick [0,1,2] (by decide)⟩
 have H8:=H7.Af Hd
 refine OE ?_
 refine⟨fun hne=>absurd Y hne,?_⟩
 refine ME<|cR e53<|J4 Y<|J6<|zA (zB ?_)
 refine J2<|Xm Y<|OV (zL Y Y (IntWalk.i64_in _ (by omega)))<|Xa Y<|Xr e53<|zA (zI ?_)
 exact⟨l.length - (i+1),by omega,i+1,_,g,cap,us,sp,g6,cap6,vs,YV,Y,(Ez Y Y Y Y Y Y),by omega,by omega,by rw[hus,FE hx (by simpa using Gu)],by rw[hvs,FE hx (by simpa using Hr)],hG,Y4,H8.pick [0,1,2] (by decide)⟩
 obtain rfl:i=l.length:=by omega
 have Qy:us.length≤l.length:=by rw[hus];exact jM
 have hvl:vs.length≤l.length:=by rw[hvs];exact jM
 rw[List.take_length]at hus hvs
 refine Xr e53<|J4 Y<|J8<|zT<|zS<|Rq<|Xm Y<|OV (EN xR Y (vs:=[.int .i64 x0.g,yC x0.key,.int .i64 x0.Ai,.int .i64 x0.net]) Y (H4.Ad (i:=0) Y Y))<|zG Tryz.underlying38 xR H4 (cs:=[.int .i64 x0.g,yC x0.key,.int .i64 x0.Ai,.int .i64 x0.net]) Y (by decide) Y<|fun w5 gk H5 _=>xD Tryz.underlying38 xR (by decide) H5 1 (qs:=us.map Eu) hG Y Y (rs:=[[.int .i64 x0.g,yC x0.key,.int .i64 x0.Ai,.int .i64 x0.net]]) (m:=1) Y Y (H5.rd (i:=3) (o:=some _) (xs:=[.int .i64 x0.g,yC x0.key,.int .i64 x0.Ai,.int .i64 x0.net]) (sp:=[]) Y Y (by decide)) (Pl.one Y) (fun p hp=>by rw[List.mem_singleton.1 hp];rfl) (by rw[List.length_map];omega) (by rw[List.length_map];omega) (by decide)<|fun w6 g2 cap2 sp2 H6 hG2=>?_
 have hm2:us.map Eu++[[.int .i64 x0.g,yC x0.key,.int .i64 x0.Ai,.int .i64 x0.net]]=(us++[x0]).map Eu:=by rw[List.map_append];rfl
 rw[hm2]at H6 hG2 ⊢
 refine Aa e53<|Xm Y<|xD Tryz.underlying38 xR (by decide) H6 1 (qs:=(us++[x0]).map Eu) hG2 Y Y (rs:=(vs.map Eu)) Y Y (H6.rd (i:=2) (xs:=(vs.map Eu).flatten) (sp:=YV) Y Y4.2.2.2.len (by decide)) Y4.2.2.2 (RB vs) (by simp only[List.length_map,List.length_append,List.length_cons,List.length_nil];omega) (by simp only[List.length_map,List.length_append,List.length_cons,List.length_nil];omega) (by decide)<|fun w7 g5 cap5 YW H7 Ux=>Xa Y<|Xa Y<|Xr e53<|J5<|Ea Y Y Y ?_
 have hq:(us++[x0]).map Eu++vs.map Eu=(Di l x0).map Eu:=by rw[← FM,hus,hvs,List.map_append];rfl
 rw[hq]at H7 Ux ⊢
 rw[List.length_map]
 refine⟨fun _=>⟨hd g5,cap5,Y,Sl.row H7 (i:=1) Y (Yd _) (by decide) (GU _) (fun b hb=>?_),(by have h9:=Ux.2.1;rw[List.length_map]at h9;exact h9)⟩,fun h=>absurd Gh h,H7.Ac⟩
 rcases H7.place (i:=1) (g:=b) (by rw[hb];rfl)with h | h
 cases h
 exact h
 have H3:=H2.Af Hd
 refine Xn Y<|Xr e53<|J3 Y<|Rq<|Xa Y<|Xa Y<|Xr e53<|J5<|Ea Y Y Y<|⟨fun h=>absurd h Gh,fun _=>Y,H3.Ac⟩
theorem RH (A:Option Addr) (k:Nat) (l:List Mk) (ok:Nat→Prop) (w0:World) (hl:Sl Fp 7 w0 ok A l) (hso:tV 0 l):zP Tryz.prog 134 #[.slice A l.length k] w0 (fun r w'=>r=.bool true∧Hp w0 w' [] []):=by
 refine zE Tryz.func134 Tryz.ntmps134 Y<|cR e52 ?_
 have H:=Hp.refl w0
 obtain⟨ps,hp,hr,ha,h2⟩:=id hl
 have hlen:=h2.len
 have hn:=nV hso
 obtain⟨Ub,hrise⟩:=vV hso
 refine Rq<|Xa Y<|Xr e52<|Rq<|Xa Y<|Xr e52<|J1<|Rq<|Xa Y<|Xr e52<|J7<|zU (fun nQ lQ w=>∃ (i:Nat) (y m:Int),l.length - i=nQ∧xN (Dj [(0,.slice A l.length k),(3,.int .i64 m),(4,.int .i64 y)] 0 52) lQ∧y=(i:Int)∧i≤l.length∧tV m (l.drop i)∧Hp w0 w [] []) (l.length) ?_ ?_
 exact⟨0,_,0,Y,(Jc Y Y Y Y),Y,Nat.zero_le _,hso,H⟩
 rintro nQ lQ w1 ⟨i,y,m,rfl,hfit,rfl,hi,hinv,H1⟩
 obtain⟨j,rfl⟩:=hfit.open
 refine cR e52 ?_
 clear hfit
 refine J1<|Rq<|Xm Y<|Xm Y<|OV (ES Tryz.underlying39 Y)<|OT (zQ Y Y) (fun hp9=>?_) (fun hp9=>?_)
 have hil:i < l.length:=by omega
 obtain⟨x,hx⟩:=yM hil
 obtain⟨p1,hp1,hR⟩:=h2.get hx
 unfold Fp at hR
 subst hR
 obtain⟨a1,ha1⟩:=hr.some_ (by omega)
 subst ha1
 rw[sJ hx]at hinv
 obtain⟨hm1,hm2,hm3,hm4,X0⟩:=hinv
 refine Xr e52<|J3 Y<|J6<|J1<|J7<|Rq<|Xm Y<|Xm Y<|OV (EI Tryz.underlying39 yP Y Y Y hil Y)<|OV (EN yP Y (vs:=[.int .i64 x.client,.int .i64 x.seq,.bool false,.int .i64 0,.int .i64 0,.int .i64 0,.int .i64 0]) Y ((hr.to0 H1).elem hp hp1))<|Aa e52<|OA yP H1<|fun w2 g2 H2 hg2=>OS yP H2 0 Y Y Y Y Y (by first|exact NL Y|simp[zH]) Y<|fun w3 H3=>Xr e52<|J1<|Rq<|Xf tN Y<|OV (EL ty3 Y (H3.cell (i:=0) Y Y))<|Xm Y<|Dy (tB Y Y) (by omega)<|Aa e52<|Xm Y<|OY Y<|Xf tN Y<|Aa e52<|OY Y<|OV (EL ty3 Y (H3.cell (i:=0) Y Y))<|OY Y<|Dy (yO Y Y) (by omega)<|Xu Y Y<|Xm Y<|Aa e52<|OY Y<|Xf kS Y ?_
 refine OY Y<|OV (EL ty3 Y (H3.cell (i:=0) Y Y))<|Aa e52<|OY Y<|Dy (zQ Y Y) (by omega)<|Xu Y Y<|Xm Y<|Aa e52<|OY Y<|Xf kS Y<|OY Y<|OV (EL ty3 Y (H3.cell (i:=0) Y Y))<|Aa e52<|OY Y<|Dy (yO Y Y) (by omega)<|Xu Y Y<|Xm Y<|Aa e52<|OY Y<|Xf IR Y<|OY Y<|OV (EL ty4 Y (H3.cell (i:=0) Y Y))<|Aa e52<|OY Y<|Xm Y<|Oz 9 Y<|Aa e52<|OY Y ?_
 refine Xu Y Y<|Xu Y Y<|Xr e52<|J4 Y<|J6<|J2<|Xf tN Y<|OV (EL ty3 Y (H3.cell (i:=0) Y Y))<|Xa Y<|Xr e52<|zA (zB ?_)
 refine J2<|Xm Y<|OV (zL Y Y (IntWalk.i64_in _ (by omega)))<|Xa Y<|Xr e52<|zA (zI ?_)
 exact⟨l.length - (i+1),by omega,i+1,_,x.client,Y,(Jc Y Y Y Y),by omega,by omega,X0,H3.Ac⟩
 refine Xr e52<|J4 Y<|J8<|zT<|zS<|Rq<|Xa Y<|Xr e52<|J5<|Ak Y Y<|⟨Y,H1.Ac⟩
theorem O6 (A:Option Addr) (k:Nat) (l:List Mk) (c:Int) (ok:Nat→Prop) (w0:World) (hl:Sl Fp 7 w0 ok A l) (hso:tV 0 l):zP Tryz.prog 91 #[.slice A l.length k,.int .i64 c] w0 (fun r w'=>(∀ m,Bg l c=some m→r=.tuple #[.agg (Iq m).toArray,.bool true])∧(Bg l c=none→r=.tuple #[.agg (Iq ⟨0,0⟩).toArray,.bool false])∧Hp w0 w' [] []):=by
 refine zE Tryz.func91 Tryz.ntmps91 Y<|cR e29 ?_
 have H:=Hp.refl w0
 obtain⟨ps,hp,hr,ha,h2⟩:=id hl
 have hlen:=h2.len
 have hn:=nV hso
 obtain⟨Ub,hrise⟩:=vV hso
 refine Rq<|OA yP H<|fun w1 gm H1 _=>Xa Y<|Xr e29<|J1<|Rq<|Xa Y<|Xr e29<|J7<|zU (fun nQ lQ w=>∃ (i:Nat) (y:Int),l.length - i=nQ∧xN (Dj [(0,.slice A l.length k),(1,.int .i64 c),(4,.pointer (some ⟨gm,0,none⟩)),(6,.int .i64 y)] 0 29) lQ∧y=(i:Int)∧i≤l.length∧(∀ z∈l.take i,z.client≠c)∧Hp w0 w [] [((some gm,110,[.int .i64 0,.int .i64 0,.bool false,.int .i64 0,.int .i64 0,.int .i64 0,.int .i64 0]):Ent)]) (l.length) ?_ ?_
 exact⟨0,_,Y,(Dv Y Y Y Y Y),Y,Nat.zero_le _,(fun z hz=>by cases hz),H1⟩
 rintro nQ lQ w2 ⟨i,y,rfl,hfit,rfl,hi,hno,H2⟩
 obtain⟨j,rfl⟩:=hfit.open
 refine cR e29 ?_
 clear hfit
 refine J1<|Rq<|Xm Y<|OC (EC gf134 Y) (RH A k l ok _ (hl.toM H2 k0) hso)<|fun w3 Hd=>have H3:=H2.Af Hd;Xm Y<|Aa e29<|OY Y<|Xm Y<|OY Y<|Xm Y<|Aa e29<|OY Y<|OV (ES Tryz.underlying39 Y)<|OY Y<|OT (zQ Y Y) (fun Gh=>?_) (fun Gh=>?_)
 have hil:i < l.length:=by omega
 obtain⟨x,hx⟩:=yM hil
 obtain⟨p1,hp1,hR⟩:=h2.get hx
 unfold Fp at hR
 subst hR
 obtain⟨a1,ha1⟩:=hr.some_ (by omega)
 subst ha1
 refine Xt Y Y<|Xr e29<|J3 Y<|J6<|J1<|J7<|Rq<|Xm Y<|Xm Y<|OV (EI Tryz.underlying39 yP Y Y Y hil Y)<|OV (yJ tN Y)<|Aa e29<|OV (EL ty3 Y (((hr.to0 H3).elem hp hp1) 0 _ Y))<|Xm Y<|OT (xP Y Y) (fun hp23=>?_) (fun hp23=>?_)
 refine Xr e29<|J3 Y<|Rq<|Xm Y<|Xm Y<|OV (EI Tryz.underlying39 yP Y Y Y hil Y)<|OV (EN yP Y (vs:=[.int .i64 x.client,.int .i64 x.seq,.bool false,.int .i64 0,.int .i64 0,.int .i64 0,.int .i64 0]) Y ((hr.to0 H3).elem hp hp1))<|Aa e29<|OS yP H3 0 Y Y Y Y Y (by first|exact NL Y|simp[zH]) Y<|fun w4 H4=>Xa Y<|Xr e29<|J5<|BR<|yR<|BR<|xO Y yP (cs:=[.int .i64 x.client,.int .i64 x.seq,.bool false,.int .i64 0,.int .i64 0,.int .i64 0,.int .i64 0]) Y Y Y (H4.Ad (i:=0) Y Y) ?_
 have hf:=SQ hx hp23 hno
 exact⟨(fun m hm=>by rw[hf]at hm;cases hm;rfl),(fun hm=>by rw[hf]at hm;cases hm),H4.Ac⟩
 refine Xr e29<|J4 Y<|J6<|zA (zB ?_)
 refine J2<|Xm Y<|OV (zL Y Y (IntWalk.i64_in _ (by omega)))<|Xa Y<|Xr e29<|zA (zI ?_)
 exact⟨l.length - (i+1),by omega,i+1,_,Y,(Dv Y Y Y Y Y),by omega,by omega,(fun z hz=>by
  rw[List.take_add_one,hx]at hz
  rcases List.mem_append.1 hz with h | h
  · exact hno z h
  · rw[show z=x by simpa using h];exact hp23),H3.pick [0] (by decide)⟩
 obtain rfl:i=l.length:=by omega
 have hnone:=O4 hno
 refine Xt Y Y<|Xr e29<|J4 Y<|J8<|zT<|zS<|Rq<|OV (EB yP eE Y Y)<|OS yP H3 0 Y Y Y Y Y (by first|exact NL Y|simp[zH]) Y<|fun w4 H4=>Xa Y<|Xr e29<|J5<|xO Y yP (cs:=[.int .i64 0,.int .i64 0,.bool false,.int .i64 0,.int .i64 0,.int .i64 0,.int .i64 0]) Y Y Y (H4.Ad (i:=0) Y Y)<|⟨(fun m hm=>by rw[hnone]at hm;cases hm),(fun _=>Y),H4.Ac⟩
theorem LO (A:Option Addr) (k:Nat) (l:List Mk) (v:Mk) (ok:Nat→Prop) (w0:World) (hl:Sl Fp 7 w0 ok A l) (hso:tV 0 l) (hv1:1≤v.client∧v.client≤8) (hv2:1≤v.seq∧v.seq≤4611686018427387904):zP Tryz.prog 94 #[.slice A l.length k,.agg [.int .i64 v.client,.int .i64 v.seq,.bool false,.int .i64 0,.int .i64 0,.int .i64 0,.int .i64 0].toArray] w0 (fun r w'=>∃ A' k',r=.slice A' (uL l v).length k'∧Sl Fp 7 w' (fun b=>w0.heap.size≤b) A' (uL l v)∧Hp w0 w' [] []):=by
 refine zE Tryz.func94 Tryz.ntmps94 Y<|cR e35 ?_
 have H:=Hp.refl w0
 obtain⟨ps,hp,hr,ha,h2⟩:=id hl
 have hlen:=h2.len
 have hn:=nV hso
 obtain⟨Ub,hrise⟩:=vV hso
 have hput:=BO hso hv1 hv2
 have hpl:=nV hput
 refine Rq<|yA Y Y H<|fun w1 gv H1 _=>Xa Y<|Xr e35<|Rq<|Xa Y<|Xr e35<|J1<|Rq<|Xa Y<|Xr e35<|J7<|zU (fun nQ lQ w=>∃ (y:Int) (g:Option Nat) (cap:Nat) (ms:List Mk) (sp:List Value),(9 - y).toNat=nQ∧xN (Dj [(0,.slice A l.length k),(3,.pointer (some ⟨gv,0,none⟩)),(5,.slice (hd g) (ms.map Iq).length cap),(6,.int .i64 y)] 0 35) lQ∧1≤y∧y≤9∧ms=((uL l v).filter fun z=>decide (z.client < y))∧Gw 7 g cap (ms.map Iq) sp∧Hp w0 w [] [((some gv,110,[.int .i64 v.client,.int .i64 v.seq,.bool false,.int .i64 0,.int .i64 0,.int .i64 0,.int .i64 0]):Ent),((g,110,(ms.map Iq).flatten++sp):Ent)]) (8) ?_ ?_
 exact⟨1,none,0,[],[],Y,(Dv Y Y Y Y Y),by decide,by decide,(NH hput).symm,Gw.nil 7,H1.nil 110⟩
 rintro nQ lQ w2 ⟨y,g,cap,ms,sp,rfl,hfit,hy1,hy9,hms,hG,H2⟩
 obtain⟨j,rfl⟩:=hfit.open
 refine cR e35 ?_
 clear hfit
 refine J1<|Rq<|Xm Y<|OT (tB Y Y) (fun hp10=>?_) (fun hp10=>?_)
 have hml:ms.length≤(uL l v).length:=by rw[hms];exact List.length_filter_le _ _
 have hst:=A5 (c:=y) hput
 rw[← hms,O3]at hst
 refine Xr e35<|J3 Y<|J6<|J1<|J7<|Rq<|Xm Y<|Xm Y<|OQ (EC gf91 Y) (O6 A k l y ok _ (hl.toM H2 k0) hso) ?_
 rintro r w3 ⟨hyes,hno,Hd⟩
 have H3:=H2.Af Hd
 cases hfm:Bg l y
 obtain rfl:=hno hfm
 refine Xm Y<|Xe Y Y<|Aa e35<|Xe Y Y<|OA yP H3<|fun w4 gz H4 _=>OS yP H4 2 (vs:=[.int .i64 (⟨0,0⟩:Mk).client,.int .i64 (⟨0,0⟩:Mk).seq,.bool false,.int .i64 0,.int .i64 0,.int .i64 0,.int .i64 0]) Y Y Y Y Y (Nat.le_refl 7) Y<|fun w5 H5=>Xa Y<|Xr e35<|J7<|Rq<|Xm Y<|Xf tN Y<|OV (EL ty3 Y (H5.cell (i:=0) Y Y))<|OT (xP Y Y) (fun hp23=>?_) (fun hp23=>?_)
 have m1:=()
 rotate_left 1
 refine Xa Y<|Xr e35<|J4 Y<|Rq<|Xm Y<|Xa Y<|Xr e35<|J4 Y<|J6<|zA (zB ?_)
 refine zA (zB ?_)
 refine J2<|Xm Y<|OV (zL Y Y (IntWalk.i64_in _ (by omega)))<|Xa Y<|Xr e35<|zA (zI ?_)
 exact⟨(9 - (y+1)).toNat,by omega,y+1,g,cap,ms,sp,Y,(Dv Y Y Y Y Y),by omega,by omega,by rw[hst,if_neg hp23,hfm];exact(List.append_nil _).symm,hG,H5.pick [0,1] (by decide)⟩
 rename_i o
 obtain rfl:=hyes o hfm
 refine Xm Y<|Xe Y Y<|Aa e35<|Xe Y Y<|OA yP H3<|fun w4 gz H4 _=>OS yP H4 2 (vs:=[.int .i64 o.client,.int .i64 o.seq,.bool false,.int .i64 0,.int .i64 0,.int .i64 0,.int .i64 0]) Y Y Y Y Y (Nat.le_refl 7) Y<|fun w5 H5=>Xa Y<|Xr e35<|J7<|Rq<|Xm Y<|Xf tN Y<|OV (EL ty3 Y (H5.cell (i:=0) Y Y))<|OT (xP Y Y) (fun hp23=>?_) (fun hp23=>?_)
 have m1:=()
 rotate_left 1
 refine Xa Y<|Xr e35<|J4 Y<|Rq<|Xm Y<|Xa Y<|Xr e35<|J3 Y<|J2<|Xm Y<|OV (EN yP Y (vs:=[.int .i64 o.client,.int .i64 o.seq,.bool false,.int .i64 0,.int .i64 0,.int .i64 0,.int .i64 0]) Y (H5.Ad (i:=2) Y Y))<|zG Tryz.underlying39 yP H5 (cs:=[.int .i64 o.client,.int .i64 o.seq,.bool false,.int .i64 0,.int .i64 0,.int .i64 0,.int .i64 0]) Y (by decide) Y<|fun w6 gk H6 _=>xD Tryz.underlying39 yP (by decide) H6 1 (qs:=ms.map Iq) hG Y Y (rs:=[[.int .i64 o.client,.int .i64 o.seq,.bool false,.int .i64 0,.int .i64 0,.int .i64 0,.int .i64 0]]) (m:=1) Y Y (H6.rd (i:=3) (o:=some _) (xs:=[.int .i64 o.client,.int .i64 o.seq,.bool false,.int .i64 0,.int .i64 0,.int .i64 0,.int .i64 0]) (sp:=[]) Y Y (by decide)) (Pl.one Y) (fun p hp=>by rw[List.mem_singleton.1 hp];rfl) (by rw[List.length_map];omega) (by rw[List.length_map];omega) (by decide)<|fun w7 g2 cap2 sp2 H7 hG2=>?_
 have hm2:ms.map Iq++[[.int .i64 o.client,.int .i64 o.seq,.bool false,.int .i64 0,.int .i64 0,.int .i64 0,.int .i64 0]]=(ms++[o]).map Iq:=by rw[List.map_append];rfl
 rw[hm2]at H7 hG2 ⊢
 refine Aa e35<|Xa Y<|Xr e35<|zA (zB ?_)
 refine zA (zB ?_)
 refine J2<|Xm Y<|OV (zL Y Y (IntWalk.i64_in _ (by omega)))<|Xa Y<|Xr e35<|zA (zI ?_)
 exact⟨(9 - (y+1)).toNat,by omega,y+1,g2,cap2,ms++[o],sp2,Y,(Dv Y Y Y Y Y),by omega,by omega,by rw[hst,if_neg hp23,hfm];rfl,hG2,H7.pick [0,1] (by decide)⟩
 obtain rfl:y=9:=by omega
 rw[TC hput]at hms
 subst hms
 refine Xr e35<|J4 Y<|J8<|zT<|zS<|Rq<|Xm Y<|Xa Y<|Xr e35<|J5<|Ak Y Y ?_
 rw[List.length_map]
 refine⟨hd g,cap,Y,Sl.row H2 (i:=1) Y (Yr _) (by decide) (G8 _) (fun b hb=>?_),H2.Ac⟩
 rcases H2.place (i:=1) (g:=b) (by rw[hb];rfl)with h | h
 cases h
 exact h
 any_goals
  clear m1
  refine Xa Y<|Xr e35<|J3 Y<|J2<|Xm Y<|OV (EN yP Y (vs:=[.int .i64 v.client,.int .i64 v.seq,.bool false,.int .i64 0,.int .i64 0,.int .i64 0,.int .i64 0]) Y (H5.Ad (i:=0) Y Y))<|zG Tryz.underlying39 yP H5 (cs:=[.int .i64 v.client,.int .i64 v.seq,.bool false,.int .i64 0,.int .i64 0,.int .i64 0,.int .i64 0]) Y (by decide) Y<|fun w6 gk H6 _=>xD Tryz.underlying39 yP (by decide) H6 1 (qs:=ms.map Iq) hG Y Y (rs:=[[.int .i64 v.client,.int .i64 v.seq,.bool false,.int .i64 0,.int .i64 0,.int .i64 0,.int .i64 0]]) (m:=1) Y Y (H6.rd (i:=3) (o:=some _) (xs:=[.int .i64 v.client,.int .i64 v.seq,.bool false,.int .i64 0,.int .i64 0,.int .i64 0,.int .i64 0]) (sp:=[]) Y Y (by decide)) (Pl.one Y) (fun p hp=>by rw[List.mem_singleton.1 hp];rfl) (by rw[List.length_map];omega) (by rw[List.length_map];omega) (by decide)<|fun w7 g2 cap2 sp2 H7 hG2=>?_
  have hm2:ms.map Iq++[[.int .i64 v.client,.int .i64 v.seq,.bool false,.int .i64 0,.int .i64 0,.int .i64 0,.int .i64 0]]=(ms++[v]).map Iq:=by rw[List.map_append];rfl
  rw[hm2]at H7 hG2 ⊢
  refine Aa e35<|Xa Y<|Xr e35<|zA (zB ?_)
  refine zA (zB ?_)
  refine J2<|Xm Y<|OV (zL Y Y (IntWalk.i64_in _ (by omega)))<|Xa Y<|Xr e35<|zA (zI ?_)
  exact⟨(9 - (y+1)).toNat,by omega,y+1,g2,cap2,ms++[v],sp2,Y,(Dv Y Y Y Y Y),by omega,by omega,by rw[hst,if_pos hp23];rfl,hG2,H7.pick [0,1] (by decide)⟩
end Go.Proofs.YtjoeklkmnfaabaaGreat
namespace Go.Proofs.YtjoeklkmnfaabaaGreat
set_option maxRecDepth 100000
set_option maxHeartbeats 16000000
open Go Go.RowKit
set_option linter.unusedVariables false
attribute [local irreducible] yT Ops zP Cd
theorem NV (s:Sv) (A1:Option Addr) (k1:Nat) (A2:Option Addr) (k2:Nat) (A3:Option Addr) (k3:Nat) (w0:World) (hx:-1000000000000000000≤s.index∧s.index≤1000000000000000000) (hm:s.entries.length≤1000000000000000000):zP Tryz.prog 136 #[.agg [.int .i64 s.p.r,.int .i64 s.p.n,.slice A1 s.Ae.length k1,.int .i64 s.index,.slice A2 s.image.length k2,.slice A3 s.entries.length k3].toArray] w0 (fun r w'=>r=.int .i64 (s.index+s.entries.length)∧Hp w0 w' [] []):=by
 refine zE Tryz.func136 Tryz.ntmps136 Y<|cR e9 ?_
 have H:=Hp.refl w0
 refine Rq<|yA Y Y H<|fun w1 g1 H1 hg1=>Xa Y<|Xr e9<|Rq<|Xf wR Y<|OV (EL ty3 Y (H1.cell (i:=0) Y Y))<|Xf xZ Y<|OV (EL uZ Y (H1.cell (i:=0) Y Y))<|Aa e9<|OV (ES Tryz.underlying95 Y)<|OV (zL Y Y (IntWalk.i64_in _ (by omega)))<|Xa Y<|Xr e9<|J5<|Ak Y Y<|⟨Y,H1.Ac⟩
theorem GX (gs:Nat) (p b:Bal) (c2 c3 c4 c5:Value) (w0:World) (hrow:w0.heap[gs]? =some (.cells [.int .i64 p.r,.int .i64 p.n,c2,c3,c4,c5].toArray 97 (0,0))):zP Tryz.prog 135 #[.pointer (some ⟨gs,0,none⟩),.agg [.int .i64 b.r,.int .i64 b.n].toArray] w0 (fun _ w'=>Hp w0 w' [gs] [((some gs,97,[.int .i64 (rz p b).r,.int .i64 (rz p b).n,c2,c3,c4,c5]):Ent)]):=by
 refine zE Tryz.func135 Tryz.ntmps135 Y<|cR e14 ?_
 have H:=Hp.old hrow
 refine Rq<|yA Y Y H<|fun w1 g1 H1 hg1=>Xr e14<|J1<|zR 5 [(true,0),(true,1),(true,2),(true,3),(true,4),(false,5)] H1 [0,1] yG (by decide) (by kernel_rfl) ?_
 rintro w2 hw2
 have H2:=Hp.drew H1;rw[← hw2]at H2
 refine Zm Y Y<|Zc Y Y<|Zf Y vW Y<|MP Y<|MV (fun wz hz=>EN wX Y (vs:=[.int .i64 p.r,.int .i64 p.n]) Y (hz.Ad (i:=0) Y Y))<|cZ e14<|MP Y<|MV (fun wz hz=>EN wX Y (vs:=[.int .i64 b.r,.int .i64 b.n]) Y (hz.Ad (i:=1) Y Y))<|MO Y<|OX (EC OH Y) (NS _ _ _) (fun hp9 w3 Hd=>?_) (fun hp9 w3 Hd=>?_)
 have H3:=H2.Af Hd
 refine OE ?_
 refine⟨fun hne=>absurd Y hne,?_⟩
 refine ME<|cR e14<|J3 Y<|J2<|Xm Y<|OV (EN wX Y (vs:=[.int .i64 b.r,.int .i64 b.n]) Y (H3.Ad (i:=1) Y Y))<|Xc Y<|Xf vW Y<|Aa e14<|OS wX H3 0 Y Y Y Y Y (by first|exact NL Y|simp[zH]) Y<|fun w4 H4=>Xr e14<|zA<|yN Y ?_
 unfold rz
 rw[if_pos hp9]
 exact H4.pick [0] (by decide)
 have H3:=H2.Af Hd
 refine OE ?_
 refine⟨fun hne=>absurd Y hne,?_⟩
 refine ME<|cR e14<|J4 Y<|J6<|zA<|yN Y ?_
 unfold rz
 rw[if_neg hp9]
 exact H3.pick [0] (by decide)
theorem lT (A:Option Addr) (k:Nat) (ps:List (List Value)) (l:List Vt) (n:Int) (ok:Nat→Prop) (w0:World) (hp:Pl 4 ps) (hr:Rd w0 A l.length 4 ps.flatten) (h2:wC (Et w0 ok) ps l) (hn:l.length≤1000000000000):zP Tryz.prog 138 #[.slice A l.length k,.int .i64 n] w0 (fun r w'=>∃ g cap sp,r=.slice (hd g) (ps.filter fun p=>!Dw n p).length cap∧Gw 4 g cap (ps.filter fun p=>!Dw n p) sp∧Hp w0 w' [] [((g,77,(ps.filter fun p=>!Dw n p).flatten++sp):Ent)]):=by
 refine zE Tryz.func138 Tryz.ntmps138 Y<|cR e28 ?_
 have H:=Hp.refl w0
 have hlen:=h2.len
 refine Rq<|Xa Y<|Xr e28<|Rq<|Xa Y<|Xr e28<|J1<|Rq<|Xa Y<|Xr e28<|J7<|zU (fun nQ lQ w=>∃ (i:Nat) (y:Int) (g:Option Nat) (cap:Nat) (qs:List (List Value)) (sp:List Value),l.length - i=nQ∧xN (Dj [(0,.slice A l.length k),(1,.int .i64 n),(5,.slice (hd g) qs.length cap),(6,.int .i64 y)] 0 28) lQ∧y=(i:Int)∧i≤l.length∧qs=(ps.take i).filter (fun p=>!Dw n p)∧Gw 4 g cap qs sp∧Hp w0 w [] [((g,77,qs.flatten++sp):Ent)]) (l.length) ?_ ?_
 exact⟨0,_,none,0,[],[],Y,(Dv Y Y Y Y Y),Y,Nat.zero_le _,Y,Gw.nil 4,H.nil 77⟩
 rintro nQ lQ w1 ⟨i,y,g,cap,qs,sp,rfl,hfit,rfl,hi,Kt,hG,H1⟩
 obtain⟨j,rfl⟩:=hfit.open
 refine cR e28 ?_
 clear hfit
 refine J1<|Rq<|Xm Y<|Xm Y<|OV (ES Tryz.underlying94 Y)<|OT (zQ Y Y) (fun hp10=>?_) (fun hp10=>?_)
 have hil:i < l.length:=by omega
 obtain⟨x,hx⟩:=yM hil
 obtain⟨p1,hp1,hR⟩:=h2.get hx
 obtain⟨Ax,kx,rfl,hbx⟩:=hR
 obtain⟨a1,ha1⟩:=hr.some_ (by omega)
 subst ha1
 have Cb:qs.length≤i:=by rw[Kt];exact jM
 refine Xr e28<|J3 Y<|J6<|J1<|J7<|Rq<|Xm Y<|Xm Y<|OV (EI Tryz.underlying94 yZ Y Y Y hil Y)<|OV (yJ vB Y)<|Aa e28<|OV (EL ty3 Y (((hr.to0 H1).elem hp hp1) 0 _ Y))<|Xm Y<|OT (yO Y Y) (fun hp19=>?_) (fun hp19=>?_)
 have hf1:(!Dw n [.int .i64 x.slot,.int .i64 x.b.r,.int .i64 x.b.n,.slice Ax x.val.length kx])=true:=by show(!decide (x.slot≤n))=true;rw[decide_eq_false (by omega)];rfl
 refine Xr e28<|J3 Y<|J2<|Xm Y<|Xm Y<|Xm Y<|OV (EI Tryz.underlying94 yZ Y Y Y hil Y)<|Aa e28<|OV (EN yZ Y (vs:=[.int .i64 x.slot,.int .i64 x.b.r,.int .i64 x.b.n,.slice Ax x.val.length kx]) Y ((hr.to0 H1).elem hp hp1))<|zG Tryz.underlying94 yZ H1 (cs:=[.int .i64 x.slot,.int .i64 x.b.r,.int .i64 x.b.n,.slice Ax x.val.length kx]) Y (by decide) Y<|fun w2 gk H2 _=>xD Tryz.underlying94 yZ (by decide) H2 0 hG Y Y (rs:=[[.int .i64 x.slot,.int .i64 x.b.r,.int .i64 x.b.n,.slice Ax x.val.length kx]]) (m:=1) Y Y (H2.rd (i:=1) (o:=some _) (xs:=[.int .i64 x.slot,.int .i64 x.b.r,.int .i64 x.b.n,.slice Ax x.val.length kx]) (sp:=[]) Y Y (by decide)) (Pl.one Y) (fun p hp=>by rw[List.mem_singleton.1 hp];rfl) (by omega) (by omega) (by decide)<|fun w3 g2 cap2 sp2 H3 hG2=>Xa Y<|Xr e28<|zA (zB ?_)
 refine J2<|Xm Y<|OV (zL Y Y (IntWalk.i64_in _ (by omega)))<|Xa Y<|Xr e28<|zA (zI ?_)
 exact⟨l.length - (i+1),by omega,i+1,_,g2,cap2,_,sp2,Y,(Dv Y Y Y Y Y),by omega,by omega,by rw[Kt,FD hp1 hf1],hG2,H3.pick [0] (by decide)⟩
 have hf1:(!Dw n [.int .i64 x.slot,.int .i64 x.b.r,.int .i64 x.b.n,.slice Ax x.val.length kx])=false:=by show(!decide (x.slot≤n))=false;rw[decide_eq_true (by omega)];rfl
 refine Xr e28<|J4 Y<|J6<|zA (zB ?_)
 refine J2<|Xm Y<|OV (zL Y Y (IntWalk.i64_in _ (by omega)))<|Xa Y<|Xr e28<|zA (zI ?_)
 exact⟨l.length - (i+1),by omega,i+1,_,g,cap,qs,sp,Y,(Dv Y Y Y Y Y),by omega,by omega,by rw[Kt,FE hp1 hf1],hG,H1.pick [0] (by decide)⟩
 obtain rfl:i=l.length:=by omega
 rw[← hlen,List.take_length]at Kt
 subst Kt
 refine Xr e28<|J4 Y<|J8<|zT<|zS<|Rq<|Xm Y<|Xa Y<|Xr e28<|J5<|Ak Y Y<|⟨g,cap,sp,Y,hG,H1.pick [0] (by decide)⟩
theorem UV (A:Option Addr) (k:Nat) (ps:List (List Value)) (l:List Vt) (v:Vt) (C:Option Addr) (kc:Nat) (ok:Nat→Prop) (w0:World) (hp:Pl 4 ps) (hr:Rd w0 A l.length 4 ps.flatten) (h2:wC (Et w0 ok) ps l) (hn:l.length≤1000000000000):zP Tryz.prog 137 #[.slice A l.length k,.agg [.int .i64 v.slot,.int .i64 v.b.r,.int .i64 v.b.n,.slice C v.val.length kc].toArray] w0 (fun r w'=>∃ g cap sp,r=.slice (hd g) (ps.filter (AV v.slot)++([[.int .i64 v.slot,.int .i64 v.b.r,.int .i64 v.b.n,.slice C v.val.length kc]]:List (List Value))++ps.filter fun p=>!Dw v.slot p).length cap∧Gw 4 g cap (ps.filter (AV v.slot)++([[.int .i64 v.slot,.int .i64 v.b.r,.int .i64 v.b.n,.slice C v.val.length kc]]:List (List Value))++ps.filter fun p=>!Dw v.slot p) sp∧Hp w0 w' [] [((g,77,(ps.filter (AV v.slot)++([[.int .i64 v.slot,.int .i64 v.b.r,.int .i64 v.b.n,.slice C v.val.length kc]]:List (List Value))++ps.filter fun p=>!Dw v.slot p).flatten++sp):Ent)]):=by
 refine zE Tryz.func137 Tryz.ntmps137 Y<|cR e37 ?_
 have H:=Hp.refl w0
 have hlen:=h2.len
 have hon:=h2.ones fun _ _ h=>h.ones
 refine Rq<|yA Y Y H<|fun w1 gv H1 _=>Xa Y<|Xr e37<|Rq<|Xa Y<|Xr e37<|J1<|Rq<|Xa Y<|Xr e37<|J7<|zU (fun nQ lQ w=>∃ (i:Nat) (y:Int) (g:Option Nat) (cap:Nat) (qs:List (List Value)) (sp:List Value),l.length - i=nQ∧xN (Dj [(0,.slice A l.length k),(3,.pointer (some ⟨gv,0,none⟩)),(5,.slice (hd g) qs.length cap),(6,.int .i64 y)] 0 37) lQ∧y=(i:Int)∧i≤l.length∧qs=(ps.take i).filter (AV v.slot)∧Gw 4 g cap qs sp∧Hp w0 w [] [((some gv,77,[.int .i64 v.slot,.int .i64 v.b.r,.int .i64 v.b.n,.slice C v.val.length kc]):Ent),((g,77,qs.flatten++sp):Ent)]) (l.length) ?_ ?_
 exact⟨0,_,none,0,[],[],Y,(Dv Y Y Y Y Y),Y,Nat.zero_le _,Y,Gw.nil 4,H1.nil 77⟩
 rintro nQ lQ w2 ⟨i,y,g,cap,qs,sp,rfl,hfit,rfl,hi,Kt,hG,H2⟩
 obtain⟨j,rfl⟩:=hfit.open
 refine cR e37 ?_
 clear hfit
 refine J1<|Rq<|Xm Y<|Xm Y<|OV (ES Tryz.underlying94 Y)<|OT (zQ Y Y) (fun hp10=>?_) (fun hp10=>?_)
 have hil:i < l.length:=by omega
 obtain⟨x,hx⟩:=yM hil
 obtain⟨p1,hp1,hR⟩:=h2.get hx
 obtain⟨Ax,kx,rfl,hbx⟩:=hR
 obtain⟨a1,ha1⟩:=hr.some_ (by omega)
 subst ha1
 have Cb:qs.length≤i:=by rw[Kt];exact jM
 refine Xr e37<|J3 Y<|J6<|J1<|J7<|J1<|uT yG (by kernel_rfl) ?_
 rintro w3 hw3
 have H3:=Hp.drew H2;rw[← hw3]at H3
 refine SV (zK Y)<|SV (zK Y)<|SV (EI Tryz.underlying94 yZ Y Y Y hil Y)<|SV (yJ vB Y)<|vJ e37<|SV (EL ty3 Y (((hr.to0 H3).elem hp hp1) 0 _ Y))<|SV (EF vB Y)<|SV (EL ty3 Y (H3.cell (i:=0) Y Y))<|vQ (zQ Y Y) (fun hp20=>?_) (fun hp20=>?_)
 have hf1:AV v.slot [.int .i64 x.slot,.int .i64 x.b.r,.int .i64 x.b.n,.slice Ax x.val.length kx]=true:=decide_eq_true hp20
 refine xU<|cR e37<|J3 Y<|J2<|Xm Y<|Xm Y<|Xm Y<|OV (EI Tryz.underlying94 yZ Y Y Y hil Y)<|Aa e37<|OV (EN yZ Y (vs:=[.int .i64 x.slot,.int .i64 x.b.r,.int .i64 x.b.n,.slice Ax x.val.length kx]) Y ((hr.to0 H3).elem hp hp1))<|zG Tryz.underlying94 yZ H3 (cs:=[.int .i64 x.slot,.int .i64 x.b.r,.int .i64 x.b.n,.slice Ax x.val.length kx]) Y (by decide) Y<|fun w4 gk H4 _=>xD Tryz.underlying94 yZ (by decide) H4 1 hG Y Y (rs:=[[.int .i64 x.slot,.int .i64 x.b.r,.int .i64 x.b.n,.slice Ax x.val.length kx]]) (m:=1) Y Y (H4.rd (i:=2) (o:=some _) (xs:=[.int .i64 x.slot,.int .i64 x.b.r,.int .i64 x.b.n,.slice Ax x.val.length kx]) (sp:=[]) Y Y (by decide)) (Pl.one Y) (fun p hp=>by rw[List.mem_singleton.1 hp];rfl) (by omega) (by omega) (by decide)<|fun w5 g2 cap2 sp2 H5 hG2=>Xa Y<|Xr e37<|zA (zB ?_)
 refine J2<|Xm Y<|OV (zL Y Y (IntWalk.i64_in _ (by omega)))<|Xa Y<|Xr e37<|zA (zI ?_)
 exact⟨l.length - (i+1),by omega,i+1,_,g2,cap2,_,sp2,Y,(Dv Y Y Y Y Y),by omega,by omega,by rw[Kt,FD hp1 hf1],hG2,H5.pick [0,1] (by decide)⟩
 have hf1:AV v.slot [.int .i64 x.slot,.int .i64 x.b.r,.int .i64 x.b.n,.slice Ax x.val.length kx]=false:=decide_eq_false hp20
 refine xU<|cR e37<|J4 Y<|J6<|zA (zB ?_)
 refine J2<|Xm Y<|OV (zL Y Y (IntWalk.i64_in _ (by omega)))<|Xa Y<|Xr e37<|zA (zI ?_)
 exact⟨l.length - (i+1),by omega,i+1,_,g,cap,qs,sp,Y,(Dv Y Y Y Y Y),by omega,by omega,by rw[Kt,FE hp1 hf1],hG,H3.pick [0,1] (by decide)⟩
 obtain rfl:i=l.length:=by omega
 rw[← hlen,List.take_length]at Kt
 have Cb:qs.length≤l.length:=by rw[Kt,← hlen];exact List.length_filter_le _ _
 have hbl:(ps.filter fun p=>!Dw v.slot p).length≤l.length:=by rw[← hlen];exact List.length_filter_le _ _
 refine Xr e37<|J4 Y<|J8<|zT<|zS<|J1<|qI 9 (.p 0 (.p 1 (.p 4 (.p 5 (.p 6 (.o 2 (.o 3 (.o 7 (.o 8 (.o 9 .nil)))))))))) H2 [0] yG (by decide) (by kernel_rfl) ?_
 rintro w3 hw3
 have H3:=Hp.drew H2;rw[← hw3]at H3
 refine Tm Y Y<|TP Y<|MV (fun wz hz=>EN yZ Y (vs:=[.int .i64 v.slot,.int .i64 v.b.r,.int .i64 v.b.n,.slice C v.val.length kc]) Y (hz.Ad (i:=0) Y Y))<|Tm Y Y<|Tf Y vB Y<|cT e37<|TP Y<|MV (fun wz hz=>EL ty3 Y (hz.cell (i:=0) Y Y))<|TQ Y<|zG Tryz.underlying94 yZ H3 (cs:=[.int .i64 v.slot,.int .i64 v.b.r,.int .i64 v.b.n,.slice C v.val.length kc]) Y (by decide) Y<|fun w4 gk H4 _=>OE<|⟨fun hne=>H4.pick [0] (by decide),?_⟩
 refine cT e37<|TQ Y<|xD Tryz.underlying94 yZ (by decide) H4 1 hG Y Y (rs:=[[.int .i64 v.slot,.int .i64 v.b.r,.int .i64 v.b.n,.slice C v.val.length kc]]) (m:=1) Y Y (H4.rd (i:=2) (o:=some _) (xs:=[.int .i64 v.slot,.int .i64 v.b.r,.int .i64 v.b.n,.slice C v.val.length kc]) (sp:=[]) Y Y (by decide)) (Pl.one Y) (fun p hp=>by rw[List.mem_singleton.1 hp];rfl) (by omega) (by omega) (by decide)<|fun w5 g4 cap4 Wh H5 hG4=>OE<|⟨fun hne=>H5.pick [0] (by decide),?_⟩
 refine cT e37<|TQ Y<|OQ (EC DW Y) (lT A k ps l v.slot ok _ hp (hr.to0 H5) (h2.imp fun p x h=>h.to H5 k0) hn) ?_
 rintro _ w6 ⟨g3,cap3,sp3,rfl,hG3,Hc⟩
 have H6:=H5.call0 Hc
 refine OE ?_
 refine⟨fun hne=>H6.pick [0] (by decide),?_⟩
 refine cT e37<|TQ Y<|xD Tryz.underlying94 yZ (by decide) H6 1 hG4 Y Y (rs:=(ps.filter fun p=>!Dw v.slot p)) Y Y (H6.rd (i:=3) (xs:=(ps.filter fun p=>!Dw v.slot p).flatten) (sp:=sp3) Y hG3.2.2.2.len (by decide)) hG3.2.2.2 (fun p hp=>hon p (List.mem_filter.1 hp).1) (by simp only[List.length_append,List.length_cons,List.length_nil];omega) (by simp only[List.length_append,List.length_cons,List.length_nil];omega) (by decide)<|fun w7 g5 cap5 YW H7 Ux=>OE<|⟨fun hne=>H7.pick [0] (by decide),?_⟩
 refine cT e37<|TQ Y<|Xa Y<|OE<|⟨fun hne=>absurd Y hne,?_⟩
 refine cT e37<|sZ<|cR e37<|J5<|Ak Y Y ?_
 subst Kt
 exact⟨g5,cap5,YW,Y,Ux,H7.pick [1] (by decide)⟩
end Go.Proofs.YtjoeklkmnfaabaaGreat
namespace Go.Proofs.YtjoeklkmnfaabaaGreat
set_option maxRecDepth 100000
set_option maxHeartbeats 32000000
open Go Go.RowKit
set_option linter.unusedVariables false
attribute [local irreducible] yT Ops zP Cd
theorem N6 (s:Sv) (A1:Option Addr) (k1:Nat) (A2:Option Addr) (k2:Nat) (A3:Option Addr) (k3:Nat) (n:Nt) (B1:Option Addr) (j1:Nat) (B2:Option Addr) (j2:Nat) (ok:Nat→Prop) (w0:World) (hv1:Sl (Et w0 ok) 4 w0 ok A1 s.Ae) (hv2:Bs w0 ok A2 s.image) (hv3:Sl (Gs w0 ok) 2 w0 ok A3 s.entries) (hbv:Bs w0 ok B1 n.Ag.val) (hbe:Bs w0 ok B2 n.entry.val) (hk:1≤n.kind∧n.kind≤4) (hi:0≤s.index∧s.index≤1099511627776) (he:s.entries.length≤1099511627776) (hvl:s.Ae.length≤1000) (hes:∀ x∈s.entries,x.slot≤1099511627776):zP Tryz.prog 95 #[.agg [.int .i64 s.p.r,.int .i64 s.p.n,.slice A1 s.Ae.length k1,.int .i64 s.index,.slice A2 s.image.length k2,.slice A3 s.entries.length k3].toArray,.agg [.int .i64 n.kind,.int .i64 n.group,.int .i64 n.b.r,.int .i64 n.b.n,.int .i64 n.Ag.slot,.int .i64 n.Ag.b.r,.int .i64 n.Ag.b.n,.slice B1 n.Ag.val.length j1,.int .i64 n.entry.slot,.slice B2 n.entry.val.length j2,.int .i64 n.right.g,yC n.right.key,.int .i64 n.right.Ai,.int .i64 n.right.net,.int .i64 n.client,.int .i64 n.seq].toArray] w0 (fun r w'=>∃ cs',r=.agg cs'.toArray∧Gz w' (up ok w0.heap.size) cs' (s.goes n)∧Hp w0 w' [] []):=by
 refine zE Tryz.func95 Tryz.ntmps95 Y<|cR Ap ?_
 have H:=Hp.refl w0
 obtain⟨pv,hpv,Ju,_,Hg⟩:=id hv1
 obtain⟨pe,hpe,hre,_,he2⟩:=id hv3
 have hvl2:=Hg.len
 have hel:=he2.len
 have hone:=he2.ones fun _ _ h=>h.ones
 refine Rq<|yA Y Y H<|fun w1 gs H1 _=>yA Y Y H1<|fun w2 gn H2 _=>OA xW H2<|fun w3 gr H3 _=>Xr Ap<|J1<|Rq<|Xf oO Y<|OV (EL ty3 Y (H3.cell (i:=1) Y Y))<|Xr Ap<|J7<|Rq<|OT (xP Y Y) (fun hp10=>?_) (fun hp10=>?_)
 refine Xa Y<|Xr Ap<|J3 Y<|J2<|Xf jX Y<|OV (EN wX Y (vs:=[.int .i64 n.b.r,.int .i64 n.b.n]) Y (H3.Ad (i:=1) Y Y))<|OQ (EC T8 Y) (GX gs s.p n.b _ _ _ _ _ (H3.at (i:=0) Y)) ?_
 rintro _ w4 Hd
 have H4:=(H3.Am [0] rfl Hd).pick [3,1,2] (by decide)
 refine Xr Ap<|zA (zB ?_)
 refine Rq<|OV (EN xW Y (vs:=[.int .i64 (rz s.p n.b).r,.int .i64 (rz s.p n.b).n,.slice A1 s.Ae.length k1,.int .i64 s.index,.slice A2 s.image.length k2,.slice A3 s.entries.length k3]) Y (H4.Ad (i:=0) Y Y))<|OS xW H4 2 Y Y Y Y Y (by first|exact NL Y|simp[zH]) Y<|fun w5 H5=>Xr Ap<|J5<|uM Y xW (cs:=[.int .i64 (rz s.p n.b).r,.int .i64 (rz s.p n.b).n,.slice A1 s.Ae.length k1,.int .i64 s.index,.slice A2 s.image.length k2,.slice A3 s.entries.length k3]) Y Y (H5.Ad (i:=2) Y Y)<|⟨_,Y,?_,H5.Ac⟩
 rw[N7 hp10,oX]
 exact⟨A1,k1,A2,k2,A3,k3,Y,hv1.Gi H5 vC,hv2.to H5 vC,hv3.Hu H5 vC⟩
 refine Xa Y<|Xr Ap<|J4 Y<|Rq<|OT (xP Y Y) (fun Gj=>?_) (fun Gj=>?_)
 refine Xa Y<|Xr Ap<|J3 Y<|J1<|zR 5 [(true,0),(true,1),(true,2),(true,3),(false,4),(false,5)] H3 [0,1,2] yG (by decide) (by kernel_rfl) ?_
 rintro w4 hw4
 have H4:=Hp.drew H3;rw[← hw4]at H4
 refine Zf Y oN Y<|Zf Y vB Y<|MP Y<|MV (fun wz hz=>EL ty3 Y (hz.cell (i:=1) Y Y))<|MP Y<|MV (fun wz hz=>EN xW Y (vs:=[.int .i64 s.p.r,.int .i64 s.p.n,.slice A1 s.Ae.length k1,.int .i64 s.index,.slice A2 s.image.length k2,.slice A3 s.entries.length k3]) Y (hz.Ad (i:=0) Y Y))<|cZ Ap<|MO Y<|OC (EC T7 Y) (NV s A1 k1 A2 k2 A3 k3 _ ⟨by omega,by omega⟩ (by omega))<|fun w5 Hd=>have H5:=H4.Af Hd;OE<|⟨fun hne=>H5.pick [0,1,2] (by decide),?_⟩
 refine cZ Ap<|MO Y<|OT (yO Y Y) (fun hp21=>?_) (fun hp21=>?_)
 refine OE ?_
 refine⟨fun hne=>absurd Y hne,?_⟩
 refine ME<|cR Ap<|J3 Y<|Rq<|Xf xV Y<|OV (EL uP Y (H5.cell (i:=0) Y Y))<|Xf oN Y<|OV (EN yZ Y (vs:=[.int .i64 n.Ag.slot,.int .i64 n.Ag.b.r,.int .i64 n.Ag.b.n,.slice B1 n.Ag.val.length j1]) Y (H5.Ad (i:=1) Y Y))<|Aa Ap<|OQ (EC gf137 Y) (UV A1 k1 pv s.Ae n.Ag B1 j1 ok _ hpv (Ju.to0 H5) (Hg.imp fun p x h=>h.to H5 k0) (by omega)) ?_
 rintro _ w6 ⟨g4,cap4,Wh,rfl,hG4,Hc⟩
 have H6:=H5.call0 Hc
 have hVL:(pv.filter (AV n.Ag.slot)++([[.int .i64 n.Ag.slot,.int .i64 n.Ag.b.r,.int .i64 n.Ag.b.n,.slice B1 n.Ag.val.length j1]]:List (List Value))++pv.filter fun p=>!Dw n.Ag.slot p).length=(Ed s.Ae n.Ag).length:=(dX Hg ⟨B1,j1,rfl,hbv⟩).len
 rw[hVL]
 refine Xf xV Y<|OW uP H6 0 Y Y Y Y (by first | (simp;done) | simp[zH]) Y<|fun w7 H7=>Xr Ap<|J2<|Xf oN Y<|Xf tZ Y<|OV (EN wX Y (vs:=[.int .i64 n.Ag.b.r,.int .i64 n.Ag.b.n]) Y (H7.Ad (i:=1) Y Y))<|OQ (EC T8 Y) (GX gs s.p n.Ag.b _ _ _ _ _ (H7.at (i:=0) Y)) ?_
 rintro _ w8 Hd
 have H8:=(H7.Am [0] rfl Hd).pick [4,1,2,3] (by decide)
 refine Xr Ap<|zA (zB ?_)
 refine Rq<|OV (EN xW Y (vs:=[.int .i64 (rz s.p n.Ag.b).r,.int .i64 (rz s.p n.Ag.b).n,.slice (hd g4) (Ed s.Ae n.Ag).length cap4,.int .i64 s.index,.slice A2 s.image.length k2,.slice A3 s.entries.length k3]) Y (H8.Ad (i:=0) Y Y))<|OS xW H8 2 Y Y Y Y Y (by first|exact NL Y|simp[zH]) Y<|fun w9 H9=>Xr Ap<|J5<|uM Y xW (cs:=[.int .i64 (rz s.p n.Ag.b).r,.int .i64 (rz s.p n.Ag.b).n,.slice (hd g4) (Ed s.Ae n.Ag).length cap4,.int .i64 s.index,.slice A2 s.image.length k2,.slice A3 s.entries.length k3]) Y Y (H9.Ad (i:=2) Y Y)<|⟨_,Y,?_,H9.Ac⟩
 rw[IE Gj,if_neg (by unfold Sv.last;omega),oX]
 exact⟨hd g4,cap4,A2,k2,A3,k3,Y,Sl.row H9 (i:=3) Y hG4.2.2.2 (by decide) (dX (Hg.imp fun p x h=>h.to H9 vC) ⟨B1,j1,Y,hbv.to H9 vC⟩) (wO H9 (i:=3) Y (fun _ h=>by cases h)),hv2.to H9 vC,hv3.Hu H9 vC⟩
 refine OE ?_
 refine⟨fun hne=>absurd Y hne,?_⟩
 refine ME<|cR Ap<|J4 Y<|J6<|zA (zB ?_)
 refine Rq<|OV (EN xW Y (vs:=[.int .i64 s.p.r,.int .i64 s.p.n,.slice A1 s.Ae.length k1,.int .i64 s.index,.slice A2 s.image.length k2,.slice A3 s.entries.length k3]) Y (H5.Ad (i:=0) Y Y))<|OS xW H5 2 Y Y Y Y Y (by first|exact NL Y|simp[zH]) Y<|fun w6 H6=>Xr Ap<|J5<|uM Y xW (cs:=[.int .i64 s.p.r,.int .i64 s.p.n,.slice A1 s.Ae.length k1,.int .i64 s.index,.slice A2 s.image.length k2,.slice A3 s.entries.length k3]) Y Y (H6.Ad (i:=2) Y Y)<|⟨_,Y,?_,H6.Ac⟩
 rw[IE Gj,if_pos (by unfold Sv.last;omega)]
 exact⟨A1,k1,A2,k2,A3,k3,Y,hv1.Gi H6 vC,hv2.to H6 vC,hv3.Hu H6 vC⟩
 refine Xa Y<|Xr Ap<|J4 Y<|Rq<|OT (xP Y Y) (fun Ti=>?_) (fun Ti=>?_)
 refine Xa Y<|Xr Ap<|J3 Y<|J1<|zR 6 [(true,0),(true,1),(true,2),(true,3),(false,4),(true,5),(false,6)] H3 [0,1,2] yG (by decide) (by kernel_rfl) ?_
 rintro w4 hw4
 have H4:=Hp.drew H3;rw[← hw4]at H4
 refine Zf Y uE Y<|Zf Y wE Y<|MP Y<|MV (fun wz hz=>EL ty3 Y (hz.cell (i:=1) Y Y))<|MP Y<|MV (fun wz hz=>EN xW Y (vs:=[.int .i64 s.p.r,.int .i64 s.p.n,.slice A1 s.Ae.length k1,.int .i64 s.index,.slice A2 s.image.length k2,.slice A3 s.entries.length k3]) Y (hz.Ad (i:=0) Y Y))<|cZ Ap<|MO Y<|OC (EC T7 Y) (NV s A1 k1 A2 k2 A3 k3 _ ⟨by omega,by omega⟩ (by omega))<|fun w5 Hd=>have H5:=H4.Af Hd;OE<|⟨fun hne=>H5.pick [0,1,2] (by decide),?_⟩
 refine cZ Ap<|MP Y<|MV (fun wz hz=>zL Y Y (IntWalk.i64_in _ (by omega)))<|MO Y<|OT (xP Y Y) (fun XQ=>?_) (fun XQ=>?_)
 refine OE ?_
 refine⟨fun hne=>absurd Y hne,?_⟩
 refine ME<|cR Ap<|J3 Y<|J1<|qI 8 (.p 0 (.p 1 (.p 3 (.p 4 (.two 2 (.o 5 (.o 6 (.p 7 (.o 8 .nil)))) 5 (.o 2 (.o 6 (.p 7 (.o 8 .nil))))))))) H5 [0,1,2] yG (by decide) (by kernel_rfl) ?_
 rintro w6 hw6
 have H6:=Hp.drew H5;rw[← hw6]at H6
 refine Tf Y xZ Y<|TP Y<|MV (fun wz hz=>EL uZ Y (hz.cell (i:=0) Y Y))<|Tf Y uE Y<|TP Y<|MV (fun wz hz=>EN wD Y (vs:=[.int .i64 n.entry.slot,.slice B2 n.entry.val.length j2]) Y (hz.Ad (i:=1) Y Y))<|cT Ap<|pO ?_ ?_
 refine TQ Y<|xD Tryz.underlying95 wD (by decide) (H6.nil 79) 3 (Gw.nil 2) Y Y (rs:=pe) (m:=s.entries.length) hel Y (hre.to0 H6) hpe hone (by rw[List.length_nil];omega) (by rw[List.length_nil];omega) (by decide)<|fun w7 g2 cap2 sp2 H7 hG2=>OE<|⟨fun hne=>H7.pick [0,1,2] (by decide),?_⟩
 refine cT Ap<|TQ Y<|zG Tryz.underlying95 wD H7 (cs:=[.int .i64 n.entry.slot,.slice B2 n.entry.val.length j2]) Y (by decide) Y<|fun w8 gk H8 _=>have m1:=();?_
 rotate_left 1
 refine TQ Y<|zG Tryz.underlying95 wD H6 (cs:=[.int .i64 n.entry.slot,.slice B2 n.entry.val.length j2]) Y (by decide) Y<|fun w7 gk H7 _=>OE<|⟨fun hne=>H7.pick [0,1,2] (by decide),?_⟩
 refine cT Ap<|TQ Y<|xD Tryz.underlying95 wD (by decide) (H7.nil 79) 4 (Gw.nil 2) Y Y (rs:=pe) (m:=s.entries.length) hel Y (hre.to0 H7) hpe hone (by rw[List.length_nil];omega) (by rw[List.length_nil];omega) (by decide)<|fun w8 g2 cap2 sp2 H8 hG2=>?_
 replace H8:=H8.pick [0,1,2,4,3] (by decide)
 have m1:=()
 rotate_left 1
 refine OE ?_
 refine⟨fun hne=>absurd Y hne,?_⟩
 refine ME<|cR Ap<|J4 Y<|J6<|zA (zB ?_)
 refine Rq<|OV (EN xW Y (vs:=[.int .i64 s.p.r,.int .i64 s.p.n,.slice A1 s.Ae.length k1,.int .i64 s.index,.slice A2 s.image.length k2,.slice A3 s.entries.length k3]) Y (H5.Ad (i:=0) Y Y))<|OS xW H5 2 Y Y Y Y Y (by first|exact NL Y|simp[zH]) Y<|fun w6 H6=>Xr Ap<|J5<|uM Y xW (cs:=[.int .i64 s.p.r,.int .i64 s.p.n,.slice A1 s.Ae.length k1,.int .i64 s.index,.slice A2 s.image.length k2,.slice A3 s.entries.length k3]) Y Y (H6.Ad (i:=2) Y Y)<|⟨_,Y,?_,H6.Ac⟩
 rw[ID Ti,if_neg (by unfold Sv.last;omega)]
 exact⟨A1,k1,A2,k2,A3,k3,Y,hv1.Gi H6 vC,hv2.to H6 vC,hv3.Hu H6 vC⟩
 refine Xa Y<|Xr Ap<|J4 Y<|Rq<|Ij (xP Y Y) (by omega)<|Xa Y<|Xr Ap<|J3 Y<|J1<|Rq<|Xf uE Y<|Xf wE Y<|OV (EL ty3 Y (H3.cell (i:=1) Y Y))<|Xf wR Y<|Aa Ap<|OV (EL ty3 Y (H3.cell (i:=0) Y Y))<|OT (tB Y Y) (fun hp63=>?_) (fun hp63=>?_)
 refine Xr Ap<|J3 Y<|Rq<|OV (EN xW Y (vs:=[.int .i64 s.p.r,.int .i64 s.p.n,.slice A1 s.Ae.length k1,.int .i64 s.index,.slice A2 s.image.length k2,.slice A3 s.entries.length k3]) Y (H3.Ad (i:=0) Y Y))<|OS xW H3 2 Y Y Y Y Y (by first|exact NL Y|simp[zH]) Y<|fun w4 H4=>Xr Ap<|J5<|BR<|uM Y xW (cs:=[.int .i64 s.p.r,.int .i64 s.p.n,.slice A1 s.Ae.length k1,.int .i64 s.index,.slice A2 s.image.length k2,.slice A3 s.entries.length k3]) Y Y (H4.Ad (i:=2) Y Y)<|⟨_,Y,?_,H4.Ac⟩
 rw[AF (by omega),if_pos (by omega)]
 exact⟨A1,k1,A2,k2,A3,k3,Y,hv1.Gi H4 vC,hv2.to H4 vC,hv3.Hu H4 vC⟩
 refine Xr Ap<|J4 Y<|J6<|Rq<|Xa Y<|Xr Ap<|J1<|Rq<|Xa Y<|Xr Ap<|J7<|zU (fun nQ lQ w=>∃ (i:Nat) (y:Int) (g:Option Nat) (cap:Nat) (qs:List (List Value)) (sp:List Value),s.entries.length - i=nQ∧xN (Dj [(2,.pointer (some ⟨gs,0,none⟩)),(3,.pointer (some ⟨gn,0,none⟩)),(4,.pointer (some ⟨gr,0,none⟩)),(5,.slice (hd g) qs.length cap),(6,.int .i64 y)] 0 122) lQ∧y=(i:Int)∧i≤s.entries.length∧qs=(pe.take i).filter (fun p=>!Dw n.entry.slot p)∧Gw 2 g cap qs sp∧Hp w0 w [] [((some gs,97,[.int .i64 s.p.r,.int .i64 s.p.n,.slice A1 s.Ae.length k1,.int .i64 s.index,.slice A2 s.image.length k2,.slice A3 s.entries.length k3]):Ent),((some gn,81,[.int .i64 n.kind,.int .i64 n.group,.int .i64 n.b.r,.int .i64 n.b.n,.int .i64 n.Ag.slot,.int .i64 n.Ag.b.r,.int .i64 n.Ag.b.n,.slice B1 n.Ag.val.length j1,.int .i64 n.entry.slot,.slice B2 n.entry.val.length j2,.int .i64 n.right.g,yC n.right.key,.int .i64 n.right.Ai,.int .i64 n.right.net,.int .i64 n.client,.int .i64 n.seq]):Ent),((some gr,97,[.int .i64 0,.int .i64 0,.slice none 0 0,.int .i64 0,.slice none 0 0,.slice none 0 0]):Ent),((g,79,qs.flatten++sp):Ent)]) (s.entries.length) ?_ ?_
 exact⟨0,_,none,0,[],[],Y,(Ez Y Y Y Y Y Y),Y,Nat.zero_le _,Y,Gw.nil 2,H3.nil 79⟩
 rintro nQ lQ w4 ⟨i,y,g,cap,qs,sp,rfl,hfit,rfl,hi,Kt,hG,H4⟩
 obtain⟨j,rfl⟩:=hfit.open
 refine cR Ap ?_
 clear hfit
 refine J1<|Rq<|Xm Y<|Xf xZ Y<|OV (EL uZ Y (H4.cell (i:=0) Y Y))<|OV (ES Tryz.underlying95 Y)<|Aa Ap<|OT (zQ Y Y) (fun hp69=>?_) (fun hp69=>?_)
 have hil:i < s.entries.length:=by omega
 obtain⟨x,hx⟩:=yM hil
 obtain⟨p1,hp1,hR⟩:=he2.get hx
 obtain⟨Ax,kx,rfl,hbx⟩:=hR
 obtain⟨a1,ha1⟩:=hre.some_ (by omega)
 subst ha1
 have Cb:qs.length≤i:=by rw[Kt];exact jM
 refine Xr Ap<|J3 Y<|J6<|J1<|J7<|J1<|uT yG (by kernel_rfl) ?_
 rintro w5 hw5
 have H5:=Hp.drew H4;rw[← hw5]at H5
 refine SV (EF xZ Y)<|SV (EL uZ Y (H5.cell (i:=0) Y Y))<|SV (zK Y)<|SV (EI Tryz.underlying95 wD Y Y Y hil Y)<|vJ Ap<|SV (yJ wE Y)<|SV (EL ty3 Y (((hre.to0 H5).elem hpe hp1) 0 _ Y))<|SV (EF uE Y)<|SV (EF wE Y)<|vJ Ap<|SV (EL ty3 Y (H5.cell (i:=1) Y Y))<|vQ (yO Y Y) (fun XF=>?_) (fun XF=>?_)
 have hf1:(!Dw n.entry.slot [.int .i64 x.slot,.slice Ax x.val.length kx])=true:=by show(!decide (x.slot≤n.entry.slot))=true;rw[decide_eq_false (by omega)];rfl
 refine xU<|cR Ap<|J3 Y<|J2<|Xm Y<|Xf xZ Y<|OV (EL uZ Y (H5.cell (i:=0) Y Y))<|Xm Y<|Aa Ap<|OV (EI Tryz.underlying95 wD Y Y Y hil Y)<|OV (EN wD Y (vs:=[.int .i64 x.slot,.slice Ax x.val.length kx]) Y ((hre.to0 H5).elem hpe hp1))<|zG Tryz.underlying95 wD H5 (cs:=[.int .i64 x.slot,.slice Ax x.val.length kx]) Y (by decide) Y<|fun w6 gk H6 _=>xD Tryz.underlying95 wD (by decide) H6 3 hG Y Y (rs:=[[.int .i64 x.slot,.slice Ax x.val.length kx]]) (m:=1) Y Y (H6.rd (i:=4) (o:=some _) (xs:=[.int .i64 x.slot,.slice Ax x.val.length kx]) (sp:=[]) Y Y (by decide)) (Pl.one Y) (fun p hp=>by rw[List.mem_singleton.1 hp];rfl) (by omega) (by omega) (by decide)<|fun w7 g2 cap2 sp2 H7 hG2=>Aa Ap<|Xa Y<|Xr Ap<|zA (zB ?_)
 refine J2<|Xm Y<|OV (zL Y Y (IntWalk.i64_in _ (by omega)))<|Xa Y<|Xr Ap<|zA (zI ?_)
 exact⟨s.entries.length - (i+1),by omega,i+1,_,g2,cap2,_,sp2,Y,(Ez Y Y Y Y Y Y),by omega,by omega,by rw[Kt,FD hp1 hf1],hG2,H7.pick [0,1,2,3] (by decide)⟩
 have hf1:(!Dw n.entry.slot [.int .i64 x.slot,.slice Ax x.val.length kx])=false:=by show(!decide (x.slot≤n.entry.slot))=false;rw[decide_eq_true (by omega)];rfl
 refine xU<|cR Ap<|J4 Y<|J6<|zA (zB ?_)
 refine J2<|Xm Y<|OV (zL Y Y (IntWalk.i64_in _ (by omega)))<|Xa Y<|Xr Ap<|zA (zI ?_)
 exact⟨s.entries.length - (i+1),by omega,i+1,_,g,cap,qs,sp,Y,(Ez Y Y Y Y Y Y),by omega,by omega,by rw[Kt,FE hp1 hf1],hG,H5.pick [0,1,2,3] (by decide)⟩
 obtain rfl:i=s.entries.length:=by omega
 rw[← hel,List.take_length]at Kt
 have hef:=KY (n:=n.entry.slot) he2
 rw[← Kt]at hef
 have Vp:=hef.len
 have HI:=H4
 rw[Vp]
 refine Xr Ap<|J4 Y<|J8<|zT<|zS<|J1<|J1<|uT yG (by kernel_rfl) ?_
 rintro w5 hw5
 have H5:=Hp.drew H4;rw[← hw5]at H5
 refine SV (zK Y)<|SV (ES Tryz.underlying95 Y)<|vQ (yO Y Y) (fun hp92=>?_) (fun hp92=>?_)
 obtain⟨p0,hp0⟩:=yM (l:=qs) (j:=0) (by omega)
 obtain⟨e0,he0,hR0⟩:=hef.getL hp0
 have hmem0:=(List.mem_filter.1 (List.mem_of_getElem? he0))
 have hsl0:=hes e0 hmem0.1
 have hgt0:n.entry.slot < e0.slot:=by simpa using hmem0.2
 obtain⟨Aq,kq,hpq,_⟩:=hR0
 subst hpq
 have hc0:(qs.flatten++sp)[0+0*2+0]? =some (.int .i64 e0.slot):=by
  have h1:=hG.2.2.2.get hp0 (j:=0) (u:=.int .i64 e0.slot) rfl
  rw[List.getElem?_append_left (lt_of_get h1)];exact h1
 obtain⟨gx,rfl⟩:=vK HI (i:=3) rfl (lt_of_get hc0)
 refine SV (zK Y)<|vJ Ap<|yQ Y<|SV (zK Y)<|yQ Y<|SV (uR Tryz.underlying95 wD Y Y (i:=0) Y (by omega))<|vJ Ap<|yQ Y<|SV (EF wE Y)<|yQ Y<|SV (EL ty3 Y (H5.cell (i:=3) Y hc0))<|vJ Ap<|yQ Y<|SV (EF uE Y)<|yQ Y<|SV (EF wE Y)<|vJ Ap<|yQ Y<|SV (EL ty3 Y (H5.cell (i:=1) Y Y))<|yQ Y<|SV (zL Y Y (IntWalk.i64_in _ (by omega)))<|vJ Ap<|yQ Y<|vQ (yS Y Y) (fun WM=>?_) (fun WM=>?_)
 refine SV (xS Y Y)<|xU<|cR Ap<|J3 Y<|J2<|Xa Y<|Xr Ap<|J1<|zR 12 [(true,0),(true,1),(true,2),(true,3),(true,4),(true,5),(true,6),(true,7),(false,8),(true,9),(false,10),(true,11),(false,12)] H5 [1] yG (by decide) (by kernel_rfl) ?_
 rintro w6 hw6
 have H6:=Hp.drew H5;rw[← hw6]at H6
 refine Zf Y uE Y<|Zf Y wE Y<|MP Y<|MV (fun wz hz=>EL ty3 Y (hz.cell (i:=0) Y Y))<|Zf Y uE Y<|cZ Ap<|Zf Y uV Y<|MP Y<|MV (fun wz hz=>EL xK Y (hz.cell (i:=0) Y Y))<|Zm Y Y<|Zf Y wR Y<|cZ Ap<|MO Y<|OW ty3 H6 0 Y Y Y Y (by first | (simp;done) | simp[zH]) Y<|fun w7 H7=>OE<|⟨fun hne=>H7.pick [1] (by decide),?_⟩
 refine cZ Ap<|Zf Y uU Y<|MO Y<|OW xK H7 0 Y Y Y Y (by first | (simp;done) | simp[zH]) Y<|fun w8 H8=>OE<|⟨fun hne=>H8.pick [1] (by decide),?_⟩
 refine cZ Ap<|Zf Y xZ Y<|MO Y<|OW uZ H8 0 Y Y Y Y (by first | (simp;done) | simp[zH]) Y<|fun w9 H9=>OE<|⟨fun hne=>absurd Y hne,?_⟩
 refine cZ Ap<|ME<|cR Ap<|J2<|Xf xV Y<|OV (EL uP Y (H9.cell (i:=0) Y Y))<|Xf uE Y<|Xf wE Y<|Aa Ap<|OV (EL ty3 Y (H9.cell (i:=1) Y Y))<|OQ (EC DW Y) (lT A1 k1 pv s.Ae n.entry.slot ok _ hpv (Ju.to0 H9) (Hg.imp fun p x h=>h.to H9 k0) (by omega)) ?_
 rintro _ w10 ⟨g3,cap3,sp3,rfl,hG3,Hc⟩
 have Ar:=H9.call0 Hc
 have hBL:(pv.filter fun p=>!Dw n.entry.slot p).length=(vP s.Ae n.entry.slot).length:=(uN Hg).len
 rw[hBL]
 refine Xf xV Y<|OW uP Ar 0 Y Y Y Y (by first | (simp;done) | simp[zH]) Y<|fun Gm Bd=>Xr Ap<|zA (zB ?_)
 refine Rq<|OV (EN xW Y (vs:=[.int .i64 s.p.r,.int .i64 s.p.n,.slice (hd g3) (vP s.Ae n.entry.slot).length cap3,.int .i64 n.entry.slot,.slice B2 n.entry.val.length j2,.slice none 0 0]) Y (Bd.Ad (i:=0) Y Y))<|OS xW Bd 2 Y Y Y Y Y (by first|exact NL Y|simp[zH]) Y<|fun w12 Bc=>Xr Ap<|J5<|uM Y xW (cs:=[.int .i64 s.p.r,.int .i64 s.p.n,.slice (hd g3) (vP s.Ae n.entry.slot).length cap3,.int .i64 n.entry.slot,.slice B2 n.entry.val.length j2,.slice none 0 0]) Y Y (Bc.Ad (i:=2) Y Y) ?_
 have h0:rF s.entries n.entry.slot=[]:=by
  unfold rF
  cases hq:(s.entries.filter fun x=>decide (n.entry.slot < x.slot))with
  | nil=>rfl
  | cons a r=>
   rw[hq]at he0
   cases he0
   exact if_neg WM
 refine⟨_,Y,?_,Bc.Ac⟩
 rw[AF (by omega),if_neg (by omega),h0]
 exact⟨hd g3,cap3,B2,j2,none,0,Y,Sl.row Bc (i:=4) Y hG3.2.2.2 (by decide) (uN (Hg.imp fun p x h=>h.to Bc vC)) (wO Bc (i:=4) Y (fun _ h=>by cases h)),hbe.to Bc vC,Sl.none _ _ _ _⟩
 refine SV (xS Y Y)<|xU<|cR Ap<|J4 Y<|J6<|J1<|zR 12 [(true,0),(true,1),(true,2),(true,3),(true,4),(true,5),(true,6),(true,7),(false,8),(true,9),(false,10),(true,11),(false,12)] H5 [1] yG (by decide) (by kernel_rfl) ?_
 rintro w6 hw6
 have H6:=Hp.drew H5;rw[← hw6]at H6
 refine Zf Y uE Y<|Zf Y wE Y<|MP Y<|MV (fun wz hz=>EL ty3 Y (hz.cell (i:=0) Y Y))<|Zf Y uE Y<|cZ Ap<|Zf Y uV Y<|MP Y<|MV (fun wz hz=>EL xK Y (hz.cell (i:=0) Y Y))<|Zm Y Y<|Zf Y wR Y<|cZ Ap<|MO Y<|OW ty3 H6 0 Y Y Y Y (by first | (simp;done) | simp[zH]) Y<|fun w7 H7=>OE<|⟨fun hne=>H7.pick [1] (by decide),?_⟩
 refine cZ Ap<|Zf Y uU Y<|MO Y<|OW xK H7 0 Y Y Y Y (by first | (simp;done) | simp[zH]) Y<|fun w8 H8=>OE<|⟨fun hne=>H8.pick [1] (by decide),?_⟩
 refine cZ Ap<|Zf Y xZ Y<|MO Y<|OW uZ H8 0 Y Y Y Y (by first | (simp;done) | simp[zH]) Y<|fun w9 H9=>OE<|⟨fun hne=>absurd Y hne,?_⟩
 refine cZ Ap<|ME<|cR Ap<|J2<|Xf xV Y<|OV (EL uP Y (H9.cell (i:=0) Y Y))<|Xf uE Y<|Xf wE Y<|Aa Ap<|OV (EL ty3 Y (H9.cell (i:=1) Y Y))<|OQ (EC DW Y) (lT A1 k1 pv s.Ae n.entry.slot ok _ hpv (Ju.to0 H9) (Hg.imp fun p x h=>h.to H9 k0) (by omega)) ?_
 rintro _ w10 ⟨g3,cap3,sp3,rfl,hG3,Hc⟩
 have Ar:=H9.call0 Hc
 have hBL:(pv.filter fun p=>!Dw n.entry.slot p).length=(vP s.Ae n.entry.slot).length:=(uN Hg).len
 rw[hBL]
 refine Xf xV Y<|OW uP Ar 0 Y Y Y Y (by first | (simp;done) | simp[zH]) Y<|fun Gm Bd=>Xr Ap<|zA (zB ?_)
 refine Rq<|OV (EN xW Y (vs:=[.int .i64 s.p.r,.int .i64 s.p.n,.slice (hd g3) (vP s.Ae n.entry.slot).length cap3,.int .i64 n.entry.slot,.slice B2 n.entry.val.length j2,.slice (hd (some gx)) (s.entries.filter fun x=>decide (n.entry.slot < x.slot)).length cap]) Y (Bd.Ad (i:=0) Y Y))<|OS xW Bd 2 Y Y Y Y Y (by first|exact NL Y|simp[zH]) Y<|fun w12 Bc=>Xr Ap<|J5<|uM Y xW (cs:=[.int .i64 s.p.r,.int .i64 s.p.n,.slice (hd g3) (vP s.Ae n.entry.slot).length cap3,.int .i64 n.entry.slot,.slice B2 n.entry.val.length j2,.slice (hd (some gx)) (s.entries.filter fun x=>decide (n.entry.slot < x.slot)).length cap]) Y Y (Bc.Ad (i:=2) Y Y) ?_
 have h0:rF s.entries n.entry.slot=(s.entries.filter fun x=>decide (n.entry.slot < x.slot)):=by
  unfold rF
  cases hq:(s.entries.filter fun x=>decide (n.entry.slot < x.slot))with
  | nil=>simp[hq]at he0
  | cons a r=>
   rw[hq]at he0
   cases he0
   exact if_pos (by omega)
 refine⟨_,Y,?_,Bc.Ac⟩
 rw[AF (by omega),if_neg (by omega),h0]
 exact⟨hd g3,cap3,B2,j2,hd (some gx),cap,Y,Sl.row Bc (i:=4) Y hG3.2.2.2 (by decide) (uN (Hg.imp fun p x h=>h.to Bc vC)) (wO Bc (i:=4) Y (fun _ h=>by cases h)),hbe.to Bc vC,Sl.row Bc (i:=3) Y hG.2.2.2 (by decide) (hef.imp fun p x h=>h.to Bc vC) (wO Bc (i:=3) Y (fun _ h=>by cases h))⟩
 refine SV (zK Y)<|vJ Ap<|yY Y<|yY Y<|vJ Ap<|yY Y<|yY Y<|vJ Ap<|yY Y<|yY Y<|vJ Ap<|yY Y<|yY Y<|vJ Ap<|yY Y<|SV (wT Y Y)<|xU<|cR Ap<|J4 Y<|J6<|J1<|zR 12 [(true,0),(true,1),(true,2),(true,3),(true,4),(true,5),(true,6),(true,7),(false,8),(true,9),(false,10),(true,11),(false,12)] H5 [1] yG (by decide) (by kernel_rfl) ?_
 rintro w6 hw6
 have H6:=Hp.drew H5;rw[← hw6]at H6
 refine Zf Y uE Y<|Zf Y wE Y<|MP Y<|MV (fun wz hz=>EL ty3 Y (hz.cell (i:=0) Y Y))<|Zf Y uE Y<|cZ Ap<|Zf Y uV Y<|MP Y<|MV (fun wz hz=>EL xK Y (hz.cell (i:=0) Y Y))<|Zm Y Y<|Zf Y wR Y<|cZ Ap<|MO Y<|OW ty3 H6 0 Y Y Y Y (by first | (simp;done) | simp[zH]) Y<|fun w7 H7=>OE<|⟨fun hne=>H7.pick [1] (by decide),?_⟩
 refine cZ Ap<|Zf Y uU Y<|MO Y<|OW xK H7 0 Y Y Y Y (by first | (simp;done) | simp[zH]) Y<|fun w8 H8=>OE<|⟨fun hne=>H8.pick [1] (by decide),?_⟩
 refine cZ Ap<|Zf Y xZ Y<|MO Y<|OW uZ H8 0 Y Y Y Y (by first | (simp;done) | simp[zH]) Y<|fun w9 H9=>OE<|⟨fun hne=>absurd Y hne,?_⟩
 refine cZ Ap<|ME<|cR Ap<|J2<|Xf xV Y<|OV (EL uP Y (H9.cell (i:=0) Y Y))<|Xf uE Y<|Xf wE Y<|Aa Ap<|OV (EL ty3 Y (H9.cell (i:=1) Y Y))<|OQ (EC DW Y) (lT A1 k1 pv s.Ae n.entry.slot ok _ hpv (Ju.to0 H9) (Hg.imp fun p x h=>h.to H9 k0) (by omega)) ?_
 rintro _ w10 ⟨g3,cap3,sp3,rfl,hG3,Hc⟩
 have Ar:=H9.call0 Hc
 have hBL:(pv.filter fun p=>!Dw n.entry.slot p).length=(vP s.Ae n.entry.slot).length:=(uN Hg).len
 rw[hBL]
 refine Xf xV Y<|OW uP Ar 0 Y Y Y Y (by first | (simp;done) | simp[zH]) Y<|fun Gm Bd=>Xr Ap<|zA (zB ?_)
 refine Rq<|OV (EN xW Y (vs:=[.int .i64 s.p.r,.int .i64 s.p.n,.slice (hd g3) (vP s.Ae n.entry.slot).length cap3,.int .i64 n.entry.slot,.slice B2 n.entry.val.length j2,.slice (hd g) (s.entries.filter fun x=>decide (n.entry.slot < x.slot)).length cap]) Y (Bd.Ad (i:=0) Y Y))<|OS xW Bd 2 Y Y Y Y Y (by first|exact NL Y|simp[zH]) Y<|fun w12 Bc=>Xr Ap<|J5<|uM Y xW (cs:=[.int .i64 s.p.r,.int .i64 s.p.n,.slice (hd g3) (vP s.Ae n.entry.slot).length cap3,.int .i64 n.entry.slot,.slice B2 n.entry.val.length j2,.slice (hd g) (s.entries.filter fun x=>decide (n.entry.slot < x.slot)).length cap]) Y Y (Bc.Ad (i:=2) Y Y) ?_
 have h0:rF s.entries n.entry.slot=(s.entries.filter fun x=>decide (n.entry.slot < x.slot)):=by
  unfold rF
  have:(s.entries.filter fun x=>decide (n.entry.slot < x.slot))=[]:=List.eq_nil_of_length_eq_zero (by omega)
  rw[this]
 refine⟨_,Y,?_,Bc.Ac⟩
 rw[AF (by omega),if_neg (by omega),h0]
 exact⟨hd g3,cap3,B2,j2,hd g,cap,Y,Sl.row Bc (i:=4) Y hG3.2.2.2 (by decide) (uN (Hg.imp fun p x h=>h.to Bc vC)) (wO Bc (i:=4) Y (fun _ h=>by cases h)),hbe.to Bc vC,Sl.row Bc (i:=3) Y hG.2.2.2 (by decide) (hef.imp fun p x h=>h.to Bc vC) (wO Bc (i:=3) Y (fun _ h=>by cases h))⟩
 any_goals
  clear m1
  refine OE ?_
  refine⟨fun hne=>H8.pick [0,1,2] (by decide),?_⟩
  refine cT Ap<|TQ Y<|xD Tryz.underlying95 wD (by decide) H8 3 (show Gw 2 g2 cap2 pe sp2 from hG2) Y Y (rs:=[[.int .i64 n.entry.slot,.slice B2 n.entry.val.length j2]]) (m:=1) Y Y (H8.rd (i:=4) (o:=some _) (xs:=[.int .i64 n.entry.slot,.slice B2 n.entry.val.length j2]) (sp:=[]) Y Y (by decide)) (Pl.one Y) (fun p hp=>by rw[List.mem_singleton.1 hp];rfl) (by omega) (by omega) (by decide)<|fun w9 g4 cap4 Wh H9 hG4=>?_
  have hEL:(pe++([[.int .i64 n.entry.slot,.slice B2 n.entry.val.length j2]]:List (List Value))).length=(s.entries++[n.entry]).length:=by rw[List.length_append,List.length_append,hel];rfl
  rw[hEL]
  refine OE ?_
  refine⟨fun hne=>H9.pick [0,1,2] (by decide),?_⟩
  refine cT Ap<|Tf Y xZ Y<|TQ Y<|OW uZ H9 0 Y Y Y Y (by first|exact NL Y|simp[zH]) Y<|fun w10 Ar=>OE<|⟨fun hne=>absurd Y hne,?_⟩
  refine cT Ap<|sZ<|cR Ap<|J2<|Xf xV Y<|OV (EL uP Y (Ar.cell (i:=0) Y Y))<|Xf uE Y<|Xf wE Y<|Aa Ap<|OV (EL ty3 Y (Ar.cell (i:=1) Y Y))<|OQ (EC DW Y) (lT A1 k1 pv s.Ae n.entry.slot ok _ hpv (Ju.to0 Ar) (Hg.imp fun p x h=>h.to Ar k0) (by omega)) ?_
  rintro _ Gm ⟨g3,cap3,sp3,rfl,hG3,Hc⟩
  have Bd:=Ar.call0 Hc
  have hBL:(pv.filter fun p=>!Dw n.entry.slot p).length=(vP s.Ae n.entry.slot).length:=(uN Hg).len
  rw[hBL]
  refine Xf xV Y<|OW uP Bd 0 Y Y Y Y (by first | (simp;done) | simp[zH]) Y<|fun w12 Bc=>Xr Ap<|zA (zB ?_)
  refine Rq<|OV (EN xW Y (vs:=[.int .i64 s.p.r,.int .i64 s.p.n,.slice (hd g3) (vP s.Ae n.entry.slot).length cap3,.int .i64 s.index,.slice A2 s.image.length k2,.slice (hd g4) (s.entries++[n.entry]).length cap4]) Y (Bc.Ad (i:=0) Y Y))<|OS xW Bc 2 Y Y Y Y Y (by first|exact NL Y|simp[zH]) Y<|fun Io Ce=>Xr Ap<|J5<|uM Y xW (cs:=[.int .i64 s.p.r,.int .i64 s.p.n,.slice (hd g3) (vP s.Ae n.entry.slot).length cap3,.int .i64 s.index,.slice A2 s.image.length k2,.slice (hd g4) (s.entries++[n.entry]).length cap4]) Y Y (Ce.Ad (i:=2) Y Y)<|⟨_,Y,?_,Ce.Ac⟩
  rw[ID Ti,if_pos (by unfold Sv.last;omega)]
  exact⟨hd g3,cap3,A2,k2,hd g4,cap4,Y,Sl.row Ce (i:=5) Y hG3.2.2.2 (by decide) (uN (Hg.imp fun p x h=>h.to Ce vC)) (wO Ce (i:=5) Y (fun _ h=>by cases h)),hv2.to Ce vC,Sl.row Ce (i:=3) Y hG4.2.2.2 (by decide) ((he2.imp fun p x h=>h.to Ce vC).app (wC.one ⟨B2,j2,Y,hbe.to Ce vC⟩)) (wO Ce (i:=3) Y (fun _ h=>by cases h))⟩
end Go.Proofs.YtjoeklkmnfaabaaGreat
