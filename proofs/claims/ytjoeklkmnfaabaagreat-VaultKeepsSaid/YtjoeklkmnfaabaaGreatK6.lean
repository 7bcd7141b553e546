/-
  Parts of the walk, one behind the other.
-/
import Derived.Test.YtjoeklkmnfaabaaGreatK5
import Derived.WalkKit
import Derived.ProofKit
import Derived.OpenShut
import Derived.Carry
import Derived.SizedLaws
namespace Go.Proofs.YtjoeklkmnfaabaaGreat
open Go Go.RowKit
set_option linter.unusedVariables false
set_option linter.unusedSimpArgs false
attribute [local irreducible] yT Ops zO Cd
set_option maxRecDepth 100000
set_option maxHeartbeats 64000000
theorem TX (n0 gd gk gq c m:Nat) (ga:Option Nat) (ca:Nat) (qs:List (List Value)) (sp:List Value) (all:List Nt) (gw:Option Nat) (cw:Nat) (Qe:List Value) (D:Dk) (vp:Value) (sure:Nat) (w0:World) (H0:Hp w0 w0 (bl (Bv gd gk gw cw Qe D++[Dn ga qs sp,yZ gq gd vp ga all.length ca (sure:Int) false])) (Bv gd gk gw cw Qe D++[Dn ga qs sp,yZ gq gd vp ga all.length ca (sure:Int) false])) (hn0:∀ x∈bl (Bv gd gk gw cw Qe D++[Dn ga qs sp,yZ gq gd vp ga all.length ca (sure:Int) false]),n0≤x) (hnw:n0≤w0.heap.size) (hD:Qq D gw cw Qe) (hdn:D.down=true) (hA:nA w0 n0 ga ca qs sp all) (hm:all.length+8≤m) (hm2:m≤1000) (hsu:sure≤all.length) (hF:ZU D all sure c) (hc:c≤90000000) (kd nn:Int) (hnn:-9223372036854775808≤nn∧nn≤9223372036854775807) (AN:Option Addr) (l:List Nt) (kn:Nat) (hl:Sl (NtR w0 (fun x=>x < n0)) 16 w0 (fun x=>x < n0) AN l) (hlk:l.length≤kn) (hnt:∀ n∈l,NtB n) (B:Option Addr) (keep:List Int) (kc:Nat) (hkp:Rd w0 B keep.length 1 (iO keep)) (hkB:0 < keep.length→∀ p,B=some p→p.block < n0):Aj 26 #[Ah gq,.agg (Gt kd nn AN l.length kn B keep.length kc).toArray] w0 (fun r w'=>r=.bool true∧∃ f es',Hp w0 w' (bl (Bv gd gk gw cw Qe D++[Dn ga qs sp,yZ gq gd vp ga all.length ca (sure:Int) false])) es'∧Ud w' n0 gd gk gq (c+1300000) m f es'):=by
 refine zE Tryz.func26 Tryz.ntmps26 Y<|cR Kz ?_
 have H:Hp w0 w0 (bl (Bv gd gk gw cw Qe D++[Dn ga qs sp,yZ gq gd vp ga all.length ca (sure:Int) false])) (Bv gd gk gw cw Qe D++[Dn ga qs sp,yZ gq gd vp ga all.length ca (sure:Int) false]):=H0
 refine Rq<|zW Y Y H<|fun w1 gs H1 _=>Xa Y<|Xr Kz<|J1<|Rq<|Xm Y<|Xc Y<|Xf kC Y<|OV (EL lE Y (H1.cell (i:=4) Y Y))<|Ae Kz ?_
 have HQ:Hp w0 w1 _ (Bv gd gk gw cw Qe D++[Dn ga qs sp,yZ gq gd vp ga all.length ca (sure:Int) false,((some gs,62,Gt kd nn AN l.length kn B keep.length kc):Ent)]):=H1
 have hd1:=fE gd gk gw cw Qe D _ HQ.less.here hD
 rw[hdn]at hd1
 refine OC (EC L4 Y) hd1<|fun w2 Hd1=>have H2:=HQ.front Hd1;Xm Y<|Ae Kz<|Oz 3 Y<|Ae Kz<|Xt Y Y<|Xr Kz<|J3 Y<|Rq<|Xm Y<|Xf QF Y<|OV (EL DL Y (H2.cell (i:=5) Y Y)) ?_
 have HP:Hp w0 w2 (bl (Bv gd gk gw cw Qe D++[Dn ga qs sp,yZ gq gd vp ga all.length ca (sure:Int) false])) (Bv gd gk gw cw Qe D++[Dn ga qs sp,yZ gq gd vp ga all.length ca (sure:Int) false]):=H2.pick [0,1,2,3,4] (by decide)
 have hszo:=HP.size
 have hAo:=hA.to HP hn0
 have hko:Rd w2 B keep.length 1 (iO keep):=Rd.away hkp HP fun h0 p hp hb=>by
  have h1:=hkB h0 p hp
  have h2:=hn0 _ hb
  omega
 refine OQ (EC XW Y) (dU n0 gd gk gq c m ga ca qs sp all gw cw Qe D vp sure _ HP.here (after HP hn0 hnw) (Ci hnw hszo) hD hAo (by omega) hm2 hsu hF hc B keep kc hko hkB) ?_
 rintro _ w3 ⟨rfl,f,es',Hes,hst⟩
 have H3:=HP.all Hes
 refine Ae Kz<|Xa Y<|Xr Kz<|J5<|Cj Y Y<|⟨Y,f,es',H3,hst.less (by omega) (Ai _)⟩
theorem TW (n0 gq c m:Nat) (ga:Option Nat) (ca:Nat) (qs:List (List Value)) (sp:List Value) (all:List Nt) (v:Vm) (D:Dk) (W:Wl) (b:Bo) (L:List Nt) (s:Nat) (W1:Wl) (w0:World) (H0:Hp w0 w0 (bl (Ar v D W++[Dn ga qs sp,yZ gq v.m.gd (Ah v.gx) ga all.length ca (all.length:Int) false])) (Ar v D W++[Dn ga qs sp,yZ gq v.m.gd (Ah v.gx) ga all.length ca (all.length:Int) false])) (hn0:∀ x∈bl (Ar v D W++[Dn ga qs sp,yZ gq v.m.gd (Ah v.gx) ga all.length ca (all.length:Int) false]),n0≤x) (hnw:n0≤w0.heap.size) (hok:Wj w0 v D W b (fun x=>x∈bl (Ar v D W++[Dn ga qs sp,yZ gq v.m.gd (Ah v.gx) ga all.length ca (all.length:Int) false]))) (hk:Vu D W b L s c W1 all) (hA:nA w0 n0 ga ca qs sp all) (hm:all.length+8≤m) (hm2:m≤1000) (hc:c≤90000000) (kd nn:Int) (hnn:-9223372036854775808≤nn∧nn≤9223372036854775807) (AN:Option Addr) (l:List Nt) (kn:Nat) (hl:Sl (NtR w0 (fun x=>x < n0)) 16 w0 (fun x=>x < n0) AN l) (hlk:l.length≤kn) (hnt:∀ n∈l,NtB n) (B:Option Addr) (keep:List Int) (kc:Nat) (hkp:Rd w0 B keep.length 1 (iO keep)) (hkB:0 < keep.length→∀ p,B=some p→p.block < n0):Aj 26 #[Ah gq,.agg (Gt kd nn AN l.length kn B keep.length kc).toArray] w0 (fun r w'=>r=.bool true∧∃ f es',Hp w0 w' (bl (Ar v D W++[Dn ga qs sp,yZ gq v.m.gd (Ah v.gx) ga all.length ca (all.length:Int) false])) es'∧Ud w' n0 v.m.gd v.m.gk gq (c+1300000) m f es'):=by
 refine zE Tryz.func26 Tryz.ntmps26 Y<|cR Kz ?_
 have H:Hp w0 w0 (bl (Ar v D W++[Dn ga qs sp,yZ gq v.m.gd (Ah v.gx) ga all.length ca (all.length:Int) false])) (Ar v D W++[Dn ga qs sp,yZ gq v.m.gd (Ah v.gx) ga all.length ca (all.length:Int) false]):=H0
 have hv0:=Qn.begin hok H0
 have hgb:=hk.kp.Ls.good
 have hfw:=hk.kp.Ls.few
 refine Rq<|zW Y Y H<|fun w1 gs H1 _=>Xa Y<|Xr Kz<|J1<|Rq<|Xm Y<|Xc Y<|Xf kC Y<|OV (EL lE Y (H1.cell (i:=8) Y Y))<|Ae Kz ?_
 have hv1:=hv0.on (R':=[Dn ga qs sp,yZ gq v.m.gd (Ah v.gx) ga all.length ca (all.length:Int) false,((some gs,62,Gt kd nn AN l.length kn B keep.length kc):Ent)]) H1
 have hA1:=hA.to H1 hn0
 have hS1:=after hv1.H hn0 hnw
 have hd1:=fE v.m.gd v.m.gk v.m.gw v.m.cw v.m.sp D _ (hv1.H.pick [0,1,2] (by decide)).here hv1.ok.ok.d
 rw[hk.kp.Ls.up]at hd1
 refine OC (EC L4 Y) hd1<|fun w2 Hd1=>?_
 have HX2:Hp _ w2 (bl (Ar v D W++[Dn ga qs sp,yZ gq v.m.gd (Ah v.gx) ga all.length ca (all.length:Int) false,((some gs,62,Gt kd nn AN l.length kn B keep.length kc):Ent)])) (Ar v D W++[Dn ga qs sp,yZ gq v.m.gd (Ah v.gx) ga all.length ca (all.length:Int) false,((some gs,62,Gt kd nn AN l.length kn B keep.length kc):Ent)]):=(hv1.H.here.Dq [0,1,2] rfl Hd1).pick [10,11,12,3,4,5,6,7,8,9] (by decide)
 have hv2:=hv1.on HX2
 have hA2:=hA1.to HX2 hS1
 have hS2:=after hv2.H hn0 hnw
 have hsz2:=hv2.H.size
 have H2:=hv2.H.here
 refine Xm Y<|Ae Kz<|OY Y<|Xf QG Y<|OY Y<|OV (EL ty3 Y (H2.cell (i:=9) Y Y))<|Ae Kz<|OY Y<|OT (yU Y Y) (fun hp16=>?_) (fun hp16=>?_)
 refine Xu Y Y<|Xr Kz<|J3 Y<|Rq<|Xm Y<|Xf QF Y<|OV (EL DL Y (H2.cell (i:=9) Y Y)) ?_
 have HP:Hp w0 w2 (bl (Ar v D W++[Dn ga qs sp,yZ gq v.m.gd (Ah v.gx) ga all.length ca (all.length:Int) false])) (Bv v.m.gd v.m.gk v.m.gw v.m.cw v.m.sp D++[Dn ga qs sp,yZ gq v.m.gd (Ah v.gx) ga all.length ca (all.length:Int) false]):=hv2.H.pick [0,1,2,7,8] (by decide)
 have hko:Rd w2 B keep.length 1 (iO keep):=Rd.away hkp HP fun h0 p hp hb=>by
  have h1:=hkB h0 p hp
  have h2:=hn0 _ hb
  omega
 refine OQ (EC XW Y) (dU n0 v.m.gd v.m.gk gq c m ga ca qs sp all v.m.gw v.m.cw v.m.sp D _ all.length _ HP.here (after HP hn0 hnw) (Ci hnw hsz2) hv2.ok.ok.d hA2 (by omega) hm2 (Ai _) (hk.fall (by omega)) hc B keep kc hko hkB) ?_
 rintro _ w3 ⟨rfl,f,es',Hes,hst⟩
 have H3:=HP.all Hes
 refine Ae Kz<|Xa Y<|Xr Kz<|J5<|Cj Y Y<|⟨Y,f,es',H3,hst.less (by omega) (Ai _)⟩
 refine Xu Y Y<|Xr Kz<|J4 Y<|J6<|J1<|Rq<|Xf QG Y<|OV (EL ty3 Y (H2.cell (i:=9) Y Y))<|Xr Kz<|J7<|Rq<|OT (yU Y Y) (fun hp25=>?_) (fun hp25=>?_)
 refine Xa Y<|Xr Kz<|J3 Y<|J1<|zQ 8 [(true,0),(true,1),(true,2),(true,3),(true,4),(true,5),(false,6),(true,7),(false,8)] H2 [8,9] yF (by decide) (by kernel_rfl) ?_
 rintro w3 hw3
 have H3:=Hp.drew H2;rw[← hw3]at H3
 have hv3:=hv2.on H3
 have hA3:=hA2.to H3 hS2
 have hS3:=after hv3.H hn0 hnw
 refine Zm Y Y<|Zc Y Y<|Zf Y kC Y<|MP Y<|MV (fun wz hz=>EL lE Y (hz.cell (i:=0) Y Y))<|cZ Kz<|Zf Y XZ Y<|MP Y<|MV (fun wz hz=>EL ty3 Y (hz.cell (i:=1) Y Y))<|MO Y<|OQ (EC gf23 Y) (U2 v.m.gd v.m.gk v.m.gw v.m.cw v.m.sp D _ (hv3.H.pick [0,1,2] (by decide)).here hv3.ok.ok.d nn hnn.1 hnn.2) ?_
 rintro _ w4 ⟨rfl,hpA⟩
 have har:=YD (n:=nn) hk.kp.Ls.up
 obtain⟨D3,hD3⟩:∃ D',D'=(D.arm nn).1:=⟨_,rfl⟩
 rw[← hD3]at hpA
 obtain⟨hD4,hD5,hD6⟩:D3.kept=D.kept∧D3.wait=D.wait∧D3.down=false:=by rw[hD3,har];exact⟨rfl,rfl,hk.kp.Ls.up⟩
 obtain⟨v4,_,_,hv4,ZR⟩:=hv3.log (D':=D3) (W':=W) (Lr.disk hv3.ok.ok hv3.H.less.less hpA (by rw[hD4]))
 have hA4:=hA3.to ZR hS3
 have hS4:=after hv4.H hn0 hnw
 obtain⟨⟨gd4,gk4,gw4,cw4,sp4,gv4,gr4,cr4,xs4,sr4,gp4,cp4,sq4⟩,gx4,cs4⟩:=v4
 obtain rfl:gd4=v.m.gd:=hv4.gd
 obtain rfl:gk4=v.m.gk:=hv4.gk
 obtain rfl:gx4=v.gx:=hv4.gx
 have H4:=H3.all ZR
 refine OE ?_
 refine⟨fun hne=>H4.pick [8,9] (by decide),?_⟩
 refine cZ Kz<|MP Y<|nJ (fun wz hz=>yU Y Y) (by rw[har];rfl)<|MO Y<|Xa Y<|OE<|⟨fun hne=>absurd Y hne,?_⟩
 refine cZ Kz<|ME<|cR Kz<|J5<|BR<|Cj Y Y ?_
 have HXf:Hp _ w4 _ (Ar (⟨⟨v.m.gd,v.m.gk,gw4,cw4,sp4,gv4,gr4,cr4,xs4,sr4,gp4,cp4,sq4⟩,v.gx,cs4⟩:Vm) D3 W++[Dn ga qs sp,yZ gq v.m.gd (Ah v.gx) ga all.length ca (all.length:Int) false]):=hv4.H.here.pick [0,1,2,3,4,5,6,7,8] (by decide)
 exact⟨Y,Ud.live (hv4.on HXf) (hA4.to HXf hS4) (by omega) hn0 hnw ((hk.arm hD4 hD5 hD6).less (by omega)) Y Y⟩
 refine Xa Y<|Xr Kz<|J4 Y<|Rq<|OT (yU Y Y) (fun hp35=>?_) (fun hp35=>?_)
 refine Xa Y<|Xr Kz<|J3 Y<|Rq<|Xm Y<|Xc Y<|Xf iU Y<|OV (EL gB Y (H2.cell (i:=8) Y Y))<|Ae Kz<|OQ (EC L6 Y) (kO v D W b _ _ hv2.H.less.here hv2.ok L.length hgb (by omega) (fun x hx=> .inr (Fp hx))) ?_
 rintro _ w3 ⟨_,rfl,⟨Z1,z1,Z2,z2,Z3,z3,rfl,hz1,hz2,_⟩,hcap,Hd3⟩
 have hc2:b.rights.length≤z2:=hcap _ _ _ _ _ rfl
 have HX3:=H2.front Hd3
 have hv3:=hv2.on HX3
 have hA3:=hA2.to HX3 hS2
 have hS3:=after hv3.H hn0 hnw
 have H3:=hv3.H.here
 refine OA xH H3<|fun w4 gb H4 _=>OS xH H4 10 Y Y Y Y Y (by first|exact NL Y|simp[zG]) Y<|fun w5 H5=>Xr Kz<|J1<|zQ 7 [(true,0),(true,1),(true,2),(true,3),(true,4),(true,5),(false,6),(false,7)] H5 [8,10] yF (by decide) (by kernel_rfl) ?_
 rintro w6 hw6
 have H6:=Hp.drew H5;rw[← hw6]at H6
 have ZR:Hp _ w6 (bl (Ar v D W++[Dn ga qs sp,yZ gq v.m.gd (Ah v.gx) ga all.length ca (all.length:Int) false,((some gs,62,Gt kd nn AN l.length kn B keep.length kc):Ent)])) (Ar v D W++[Dn ga qs sp,yZ gq v.m.gd (Ah v.gx) ga all.length ca (all.length:Int) false,((some gs,62,Gt kd nn AN l.length kn B keep.length kc):Ent),((some gb,41,Az Z1 b z1 Z2 z2 Z3 z3):Ent)]):=H6
 have hv4:=hv3.on ZR
 have hA4:=hA3.to ZR hS3
 have hS4:=after hv4.H hn0 hnw
 have hko:∀ x,(_≤x∧x∉bl (Ar v D W))→x < _→x∉bl (Ar v D W++[Dn ga qs sp,yZ gq v.m.gd (Ah v.gx) ga all.length ca (all.length:Int) false,((some gs,62,Gt kd nn AN l.length kn B keep.length kc):Ent)])∧x∉bl (Ar v D W++[Dn ga qs sp,yZ gq v.m.gd (Ah v.gx) ga all.length ca (all.length:Int) false,((some gs,62,Gt kd nn AN l.length kn B keep.length kc):Ent),((some gb,41,Az Z1 b z1 Z2 z2 Z3 z3):Ent)]):=fun x hx hl=>off ZR x (mD hv2.H (Ai _) x hx.1) hl
 have hq1:=hz1.toS ZR hko
 have hq2:=hz2.toR ZR hko
 refine Zm Y Y<|Zc Y Y<|Zf Y iU Y<|MP Y<|MV (fun wz hz=>EL gB Y (hz.cell (i:=0) Y Y))<|cZ Kz<|Zf Y rP Y<|MP Y<|MV (fun wz hz=>EL gA Y (hz.cell (i:=1) Y Y))<|MO Y ?_
 have hmany:=hk.kp.Ls.many
 refine OQ (EC gf12 Y) (SC v D W b (iW w0 Z7 (Ar v D W++[Dn ga qs sp,yZ gq v.m.gd (Ah v.gx) ga all.length ca (all.length:Int) false,((some gs,62,Gt kd nn AN l.length kn B keep.length kc):Ent),((some gb,41,Az Z1 b z1 Z2 z2 Z3 z3):Ent)])) _ hv4.H.less.here hv4.ok (fun x hx=> .inr (Fp hx)) Z2 b.rights z2 _ (hq2.toR (ok':=fun x=>x∉bl (Ar v D W++[Dn ga qs sp,yZ gq v.m.gd (Ah v.gx) ga all.length ca (all.length:Int) false,((some gs,62,Gt kd nn AN l.length kn B keep.length kc):Ent),((some gb,41,Az Z1 b z1 Z2 z2 Z3 z3):Ent)])) (Hp.refl _) (fun x hx _=>⟨by simp,hx⟩)) hc2 (fun x hx hb=>hb.elim (fun h=>h.1.elim) hx) L.length hgb hk.kp.Ls.bob (by omega) (by omega) s hk.kp.Ls.lg hk.kp.Ls.up hk.kp.Ls.dead (Ci hk.kp.Ls.wait (by omega)) (Ci hk.kp.Ls.first (Ci hc (by decide))) (Ci hk.kp.Ls.turn (Ci hc (by decide)))) ?_
 rintro _ w7 ⟨x,D5,W5,b5,rfl,hres,hpo⟩
 have hks:=hk.fold (by omega) hres
 obtain⟨v5,_,_,_,hv5,_,Uz⟩:=hv4.call hpo
 obtain⟨⟨gd5,gk5,Ru,Rx,Qj,Ui,Uj,Um,Uf,Ug,Uk,cp5,Uh⟩,gx5,Ul⟩:=v5
 obtain rfl:gd5=v.m.gd:=hv5.gd
 obtain rfl:gk5=v.m.gk:=hv5.gk
 obtain rfl:gx5=v.gx:=hv5.gx
 have hA5:=hA4.to Uz hS4
 have hS5:=after hv5.H hn0 hnw
 have hq3:=hq1.toS Uz (off Uz)
 have hq4:=hq2.toR Uz (off Uz)
 have H7:=H6.all Uz
 refine OE ?_
 refine⟨fun hne=>H7.pick [8,10] (by decide),?_⟩
 refine cZ Kz<|MO Y<|Xa Y<|OE<|⟨fun hne=>absurd Y hne,?_⟩
 refine cZ Kz<|ME<|cR Kz<|J1<|Rq<|Xm Y<|OT (yU Y Y) (fun Zh=>?_) (fun Zh=>?_)
 replace H7:=hv5.H.here
 obtain⟨hdn,hFa⟩:D5.down=true∧ZU D5 all all.length (c+2048):=by
  rcases hks with ⟨h,_⟩ | ⟨h,_⟩ | ⟨_,h⟩
  · omega
  · omega
  exact h
 refine Xr Kz<|J3 Y<|Rq<|Xm Y<|Xc Y<|Xf kC Y<|OV (EL lE Y (H7.cell (i:=8) Y Y))<|Ae Kz ?_
 have HP7:Hp _ w7 _ (Bv v.m.gd v.m.gk Ru Rx Qj D5++[Dn ga qs sp,yZ gq v.m.gd (Ah v.gx) ga all.length ca (all.length:Int) false]):=H7.pick [0,1,2,7,8] (by decide)
 have hd8:=fE v.m.gd v.m.gk Ru Rx Qj D5 _ HP7.less.here hv5.ok.ok.d
 rw[hdn]at hd8
 refine OC (EC L4 Y) hd8<|fun w8 Hd8=>have H8:=HP7.front Hd8;Xa Y<|Xr Kz<|J5<|BR<|Cj Y Y<|⟨Y,Ud.down (hv5.H.all H8) (hA5.to H8 hS5) (by omega) hn0 hnw hv5.ok.ok.d hdn (Ai _) (hFa.less (by omega))⟩
 replace H7:=hv5.H.here
 obtain⟨L5,s5,U5,hk5,hx5,hal,hla⟩:∃ (L5:List Nt) (s5:Nat) (U5:Wl),Vu D5 W5 b5 L5 s5 (c+1228800) U5 all∧(x=3∨x=0)∧(b.groups=b5.groups∧b.rights=b5.rights)∧(x=0→b5.last=[]):=by
  rcases hks with ⟨h,h2,L',h1⟩ | ⟨h,h2,s',h1⟩ | ⟨h,_⟩
  · subst h2
    exact⟨L',s,W1,h1,.inl h,⟨Y,Y⟩,fun h2=>by omega⟩
  · subst h2
    exact⟨_,s',_,h1.less (by omega),.inr h,⟨Y,Y⟩,fun _=>Y⟩
  omega
 have hg5:=hk5.kp.Ls.good
 have hf5:=hk5.kp.Ls.few
 have hfb:ZK b:=by
  obtain⟨n1,n2,n3,n4⟩:=Rep.size (l:=L) (.inl ⟨hk.kp.Ls.rep,rfl,hgb⟩) (by omega)
  exact⟨n1,n2,n3,n4⟩
 have hfc:ZK b5:=by
  obtain⟨n1,n2,n3,n4⟩:=Rep.size (l:=L5) (.inl ⟨hk5.kp.Ls.rep,rfl,hg5⟩) (by omega)
  exact⟨n1,n2,n3,n4⟩
 refine Xr Kz<|J4 Y<|J6<|Rq<|Xm Y<|Xc Y<|Xf iU Y<|OV (EL gB Y (H7.cell (i:=8) Y Y))<|Ae Kz<|OQ (EC L6 Y) (kO (⟨⟨v.m.gd,v.m.gk,Ru,Rx,Qj,Ui,Uj,Um,Uf,Ug,Uk,cp5,Uh⟩,v.gx,Ul⟩:Vm) D5 W5 b5 _ _ hv5.H.less.here hv5.ok L5.length hg5 (by omega) (fun x hx=> .inr (Fp hx))) ?_
 rintro _ w8 ⟨_,rfl,⟨X1,x1,X2,x2,X3,x3,rfl,hx1,hx2,_⟩,_,Hd6⟩
 have HX6:=H7.front Hd6
 have hv6:=hv5.on HX6
 have Zz:=hA5.to HX6 hS5
 have hS6:=after hv6.H hn0 hnw
 have hq5:=hq3.toS HX6 (off HX6)
 have hq6:=hq4.toR HX6 (off HX6)
 have H8:=hv6.H.here
 refine OA xH H8<|fun w9 gx H9 _=>OS xH H9 11 Y Y Y Y Y (by first|exact NL Y|simp[zG]) Y<|fun w10 Df=>Xr Kz<|Rq<|Xm Y<|OT (yU Y Y) (fun Ux=>?_) (fun Ux=>?_)
 refine Xm Y<|Ae Kz<|Oz 2 Y<|Xt Y Y<|Xm Y<|Ae Kz<|OY Y<|OV (EN xH Y (vs:=Az Z1 b z1 Z2 z2 Z3 z3) Y (Df.Ak (i:=10) Y Y))<|OY Y<|OV (EN xH Y (vs:=Az X1 b5 x1 X2 x2 X3 x3) Y (Df.Ak (i:=11) Y Y))<|Ae Kz<|OY Y ?_
 have Wn:Hp _ w10 (bl (Ar (⟨⟨v.m.gd,v.m.gk,Ru,Rx,Qj,Ui,Uj,Um,Uf,Ug,Uk,cp5,Uh⟩,v.gx,Ul⟩:Vm) D5 W5++[Dn ga qs sp,yZ gq v.m.gd (Ah v.gx) ga all.length ca (all.length:Int) false,((some gs,62,Gt kd nn AN l.length kn B keep.length kc):Ent),((some gb,41,Az Z1 b z1 Z2 z2 Z3 z3):Ent)])) (Ar (⟨⟨v.m.gd,v.m.gk,Ru,Rx,Qj,Ui,Uj,Um,Uf,Ug,Uk,cp5,Uh⟩,v.gx,Ul⟩:Vm) D5 W5++[Dn ga qs sp,yZ gq v.m.gd (Ah v.gx) ga all.length ca (all.length:Int) false,((some gs,62,Gt kd nn AN l.length kn B keep.length kc):Ent),((some gb,41,Az Z1 b z1 Z2 z2 Z3 z3):Ent),((some gx,41,Az X1 b5 x1 X2 x2 X3 x3):Ent)]):=Df
 have hk7:∀ x,(_≤x∧x∉bl (Ar (⟨⟨v.m.gd,v.m.gk,Ru,Rx,Qj,Ui,Uj,Um,Uf,Ug,Uk,cp5,Uh⟩,v.gx,Ul⟩:Vm) D5 W5))→x < _→x∉bl (Ar (⟨⟨v.m.gd,v.m.gk,Ru,Rx,Qj,Ui,Uj,Um,Uf,Ug,Uk,cp5,Uh⟩,v.gx,Ul⟩:Vm) D5 W5++[Dn ga qs sp,yZ gq v.m.gd (Ah v.gx) ga all.length ca (all.length:Int) false,((some gs,62,Gt kd nn AN l.length kn B keep.length kc):Ent),((some gb,41,Az Z1 b z1 Z2 z2 Z3 z3):Ent)])∧x∉bl (Ar (⟨⟨v.m.gd,v.m.gk,Ru,Rx,Qj,Ui,Uj,Um,Uf,Ug,Uk,cp5,Uh⟩,v.gx,Ul⟩:Vm) D5 W5++[Dn ga qs sp,yZ gq v.m.gd (Ah v.gx) ga all.length ca (all.length:Int) false,((some gs,62,Gt kd nn AN l.length kn B keep.length kc):Ent),((some gb,41,Az Z1 b z1 Z2 z2 Z3 z3):Ent),((some gx,41,Az X1 b5 x1 X2 x2 X3 x3):Ent)]):=fun x hx hl=>off Wn x (mD hv5.H (Ai _) x hx.1) hl
 have hqk:=FM b Z1 z1 Z2 z2 Z3 z3 b.last.length b5.last.length b5 X1 x1 X2 x2 X3 x3 _ _ _ (hq5.toS Wn (off Wn)) (hq6.toR Wn (off Wn)) (hx1.toS Wn hk7) (hx2.toR Wn hk7) hfb hfc
 rw[decide_eq_true hal]at hqk
 refine OC (EC P0 Y) hqk<|fun Nu Hdk=>have Eh:=Df.Ap Hdk;Xt Y Y<|Xm Y<|Ae Kz<|OY Y<|Xm Y<|OY Y<|Jt (yR Y Y) (by omega)<|Ae Kz<|OY Y<|Xm Y<|OY Y<|Xf tP Y<|Ae Kz<|OY Y<|OV (EL mX Y (Eh.cell (i:=11) Y Y))<|OY Y<|OV (ES La Y)<|Ae Kz<|OY Y<|Qg (yU Y Y) (by rw[hla Ux];rfl)<|OY Y<|Xu Y Y ?_
 have m1:=()
 rotate_left 1
 refine Xm Y<|Ae Kz<|OY Y<|Xm Y<|OY Y<|Qg (yU Y Y) (by omega)<|Xu Y Y<|Xm Y<|Ae Kz<|OY Y<|OV (EN xH Y (vs:=Az Z1 b z1 Z2 z2 Z3 z3) Y (Df.Ak (i:=10) Y Y))<|OY Y<|OV (EN xH Y (vs:=Az X1 b5 x1 X2 x2 X3 x3) Y (Df.Ak (i:=11) Y Y))<|Ae Kz<|OY Y ?_
 have Wn:Hp _ w10 (bl (Ar (⟨⟨v.m.gd,v.m.gk,Ru,Rx,Qj,Ui,Uj,Um,Uf,Ug,Uk,cp5,Uh⟩,v.gx,Ul⟩:Vm) D5 W5++[Dn ga qs sp,yZ gq v.m.gd (Ah v.gx) ga all.length ca (all.length:Int) false,((some gs,62,Gt kd nn AN l.length kn B keep.length kc):Ent),((some gb,41,Az Z1 b z1 Z2 z2 Z3 z3):Ent)])) (Ar (⟨⟨v.m.gd,v.m.gk,Ru,Rx,Qj,Ui,Uj,Um,Uf,Ug,Uk,cp5,Uh⟩,v.gx,Ul⟩:Vm) D5 W5++[Dn ga qs sp,yZ gq v.m.gd (Ah v.gx) ga all.length ca (all.length:Int) false,((some gs,62,Gt kd nn AN l.length kn B keep.length kc):Ent),((some gb,41,Az Z1 b z1 Z2 z2 Z3 z3):Ent),((some gx,41,Az X1 b5 x1 X2 x2 X3 x3):Ent)]):=Df
 have hk7:∀ x,(_≤x∧x∉bl (Ar (⟨⟨v.m.gd,v.m.gk,Ru,Rx,Qj,Ui,Uj,Um,Uf,Ug,Uk,cp5,Uh⟩,v.gx,Ul⟩:Vm) D5 W5))→x < _→x∉bl (Ar (⟨⟨v.m.gd,v.m.gk,Ru,Rx,Qj,Ui,Uj,Um,Uf,Ug,Uk,cp5,Uh⟩,v.gx,Ul⟩:Vm) D5 W5++[Dn ga qs sp,yZ gq v.m.gd (Ah v.gx) ga all.length ca (all.length:Int) false,((some gs,62,Gt kd nn AN l.length kn B keep.length kc):Ent),((some gb,41,Az Z1 b z1 Z2 z2 Z3 z3):Ent)])∧x∉bl (Ar (⟨⟨v.m.gd,v.m.gk,Ru,Rx,Qj,Ui,Uj,Um,Uf,Ug,Uk,cp5,Uh⟩,v.gx,Ul⟩:Vm) D5 W5++[Dn ga qs sp,yZ gq v.m.gd (Ah v.gx) ga all.length ca (all.length:Int) false,((some gs,62,Gt kd nn AN l.length kn B keep.length kc):Ent),((some gb,41,Az Z1 b z1 Z2 z2 Z3 z3):Ent),((some gx,41,Az X1 b5 x1 X2 x2 X3 x3):Ent)]):=fun x hx hl=>off Wn x (mD hv5.H (Ai _) x hx.1) hl
 have hqk:=FM b Z1 z1 Z2 z2 Z3 z3 b.last.length b5.last.length b5 X1 x1 X2 x2 X3 x3 _ _ _ (hq5.toS Wn (off Wn)) (hq6.toR Wn (off Wn)) (hx1.toS Wn hk7) (hx2.toR Wn hk7) hfb hfc
 rw[decide_eq_true hal]at hqk
 refine OC (EC P0 Y) hqk<|fun Nu Hdk=>have Eh:=Df.Ap Hdk;Xt Y Y<|Xm Y<|Ae Kz<|OY Y<|Xm Y<|OY Y<|Qg (yR Y Y) (by omega)<|Ae Kz<|OY Y<|Xm Y<|Oz 4 Y<|Ae Kz<|OY Y<|Xt Y Y ?_
 have m1:=()
 rotate_left 1
 refine Xa Y<|Xr Kz<|J4 Y<|J6<|zA (zD ?_)
 refine J1<|Rq<|Xf aB Y<|OV (EL lF Y (H2.cell (i:=9) Y Y))<|OV (ES Ns Y)<|OT (yP Y Y) (fun Ze=>?_) (fun Ze=>?_)
 refine Xr Kz<|J3 Y<|J2<|Xf aB Y<|OV (EL lF Y (H2.cell (i:=9) Y Y))<|OV (pX Ns xT Y Y (by omega))<|Xf aB Y<|Ae Kz<|OW lF H2 9 Y Y Y Y (by first|exact NL Y|simp[zG]) Y<|fun w3 H3=>Xr Kz<|Rq<|Xm Y<|Xf aB Y<|OV (EL lF Y (H3.cell (i:=9) Y Y)) ?_
 have HX3:Hp _ w3 _ (Ar v D W++[Dn ga qs sp,yZ gq v.m.gd (Ah v.gx) ga all.length ca (all.length:Int) false]):=H3.pick [0,1,2,3,4,5,6,7,8] (by decide)
 have hv3:=hv2.on HX3
 have hA3:=hA2.to HX3 hS2
 have hl3:=hl.toN hv3.H (fun x (hx:x < n0) _=>⟨fun hb=>by have:=hn0 x hb;omega,hx⟩)
 have hl8:(l.take 8).length=8:=by rw[Aw];omega
 have hs3:=JD n0 gq c m ga ca qs sp all v D W b L s W1 _ hv3.H.here (after hv3.H hn0 hnw) (Ci hnw hv3.H.size) hv3.bare hk hA3 hm hm2 hc AN (l.take 8) kn (hl3.take (by omega)) (by omega) (fun n hn=>hnt n (Fa hn))
 rw[hl8]at hs3
 refine OQ (EC gf53 Y) hs3 ?_
 rintro _ w4 ⟨rfl,f,es',Hes,hst⟩
 have H4:=hv3.H.all Hes
 refine Ae Kz<|Xa Y<|Xr Kz<|J5<|Cj Y Y<|⟨Y,f,es',H4,hst⟩
 refine Xr Kz<|J4 Y<|J6<|Rq<|Xm Y<|Xf aB Y<|OV (EL lF Y (H2.cell (i:=9) Y Y)) ?_
 have HX3:Hp _ w2 _ (Ar v D W++[Dn ga qs sp,yZ gq v.m.gd (Ah v.gx) ga all.length ca (all.length:Int) false]):=H2.pick [0,1,2,3,4,5,6,7,8] (by decide)
 have hv3:=hv2.on HX3
 have hA3:=hA2.to HX3 hS2
 have hl3:=hl.toN hv3.H (fun x (hx:x < n0) _=>⟨fun hb=>by have:=hn0 x hb;omega,hx⟩)
 have hs3:=JD n0 gq c m ga ca qs sp all v D W b L s W1 _ hv3.H.here (after hv3.H hn0 hnw) (Ci hnw hv3.H.size) hv3.bare hk hA3 hm hm2 hc AN l kn hl3 (by omega) hnt
 refine OQ (EC gf53 Y) hs3 ?_
 rintro _ w3 ⟨rfl,f,es',Hes,hst⟩
 have H3:=hv3.H.all Hes
 refine Ae Kz<|Xa Y<|Xr Kz<|J5<|Cj Y Y<|⟨Y,f,es',H3,hst⟩
 any_goals
  clear m1
  refine Xt Y Y<|Xa Y<|Xr Kz<|J5<|BR<|Cj Y Y ?_
  have HXf:Hp _ Nu _ (Ar (⟨⟨v.m.gd,v.m.gk,Ru,Rx,Qj,Ui,Uj,Um,Uf,Ug,Uk,cp5,Uh⟩,v.gx,Ul⟩:Vm) D5 W5++[Dn ga qs sp,yZ gq v.m.gd (Ah v.gx) ga all.length ca (all.length:Int) false]):=Eh.pick [0,1,2,3,4,5,6,7,8] (by decide)
  exact⟨Y,Ud.live (hv6.on HXf) (Zz.to HXf hS6) (by omega) hn0 hnw (hk5.less (by omega)) Y Y⟩
end Go.Proofs.YtjoeklkmnfaabaaGreat
namespace Go.Proofs.YtjoeklkmnfaabaaGreat
open Go Go.ChangeShapes Go.WideShapes Go.ChangeAt Go.RowKit
section
variable {H:Type} {enc:TypeId×Value→H} {P:Program} {w:World} {base:Nat} {spare:Nat→Bool} {held:Bool}
theorem wf8 {n:Int} (h:(Lit.int .u8 n).wf=true):∃ c:UInt8,n=(c.toNat:Int):=by
 simp only[Lit.wf,Ce,decide_eq_true_eq]at h
 have h1:IntKind.u8.min=0:=rfl
 have h2:IntKind.u8.max=255:=rfl
 refine⟨UInt8.ofNat n.toNat,?_⟩
 have:(UInt8.ofNat n.toNat).toNat=n.toNat:=by simp;omega
 rw[this];omega
theorem wf8s :∀ {zs:List Int},(∀ n∈zs,(Lit.int .u8 n).wf=true)→∃ b:List UInt8,zs=b.map fun c=>(c.toNat:Int)
 | [],_=>⟨[],rfl⟩
 | z::zs,h=>by
  obtain⟨c,hc⟩:=wf8 (h z (by simp))
  obtain⟨b,hb⟩:=wf8s (fun n hn=>h n (Es _ hn))
  exact⟨c::b,by rw[hc,hb];rfl⟩
end
end Go.Proofs.YtjoeklkmnfaabaaGreat
namespace Go.Proofs.YtjoeklkmnfaabaaGreat
open Go Go.ChangeShapes Go.WideShapes Go.ChangeAt Go.RowKit
inductive Fk 
 | int
 | text
 | bytes
def Fl (w:World):Fk→Value→Prop
 | .int,v=>∃ n:Int,v=.int .i64 n∧i64 n
 | .text,v=>∃ s:Blk,v=yI s
 | .bytes,v=>∃ (A:Option Addr) (b:Blk) (c:Nat),v=.slice A b.length c∧Bs w (fun _=>True) A b
theorem wfi64 {n:Int} (h:(Lit.int .i64 n).wf=true):i64 n:=by
 simp only[Lit.wf,Ce,decide_eq_true_eq]at h
 exact h
def fkF (P:Program) (rec:TypeId→List Fk→Bool) (ks:List Fk):Nat→List Field→Bool
 | off,[]=>decide (off=ks.length)
 | off,f::fs=>match P.info? f.type with
  | some i=>decide (f.offset=off) && decide (off+i.size≤ks.length) && rec f.type ((ks.drop off).take i.size) && fkF P rec ks (off+i.size) fs
  | none=>false
def UG (P:Program):Nat→TypeId→List Fk→Bool
 | 0,_,_=>false
 | d+1,t,ks=>match P.underlying t with
  | some (.int .i64)=>match ks with | [.int]=>true | _=>false
  | some .string=>match ks with | [.text]=>true | _=>false
  | some (.slice e)=>match ks with
   | [.bytes]=>match P.underlying e with | some (.int .u8)=>decide (P.cellsOf e=1) && decide (P.bytesOf e=1) | _=>false
   | _=>false
  | some (.struct fs)=>decide (P.cellsOf t=ks.length) && fkF P (UG P d) ks 0 fs.toList
  | _=>false
section
variable {H:Type} {enc:TypeId×Value→H} {P:Program} {w:World} {base:Nat} {spare:Nat→Bool} {held:Bool}
theorem BK {rec:TypeId→List Fk→Bool} {ks:List Fk} {cs:List Value} (hl:cs.length=ks.length) {m:Nat}
 (ih:∀ t k n y,rec t ((ks.drop k).take n)=true→DataW.trod enc P w base spare held m t ((cs.drop k).take n)=some y→(∀ q∈y.1.weights P t,q≤140737488351232)→wT (Fl w) ((ks.drop k).take n) ((cs.drop k).take n)):
 ∀ (fs:List Field) (ys:List (DataW H×List MemPlace)) (off:Nat),off≤ks.length→fkF P rec ks off fs=true→fs.length=ys.length→
  (∀ (i:Nat) (f:Field),fs[i]? =some f→DataW.trod enc P w base spare held m f.type ((cs.drop f.offset).take (P.cellsOf f.type))=ys[i]?)→(∀ q∈DataW.weightsEach P (fs.map (·.type)) (ys.map (·.1)),q≤140737488351232)→
  wT (Fl w) (ks.drop off) (cs.drop off)
 | [],_,off,_,h,_,_,_=>by
  unfold fkF at h
  have h0:=of_decide_eq_true h
  rw[Gm (by omega),Gm (by omega)];trivial
 | f::fs,ys,off,hoff,h,hlen,hall,hw=>by
  unfold fkF at h
  split at h
  · rename_i i hi
    simp only[Ce,decide_eq_true_eq]at h
    obtain⟨⟨⟨h1,h2⟩,h3⟩,h4⟩:=h
    have hco:P.cellsOf f.type=i.size:=by simp[Program.cellsOf,hi]
    match ys,hlen with
    | y::ys,hlen=>
     have h5:=hall 0 f rfl
     rw[h1,hco]at h5
     have hw':∀ q∈y.1.weights P f.type++DataW.weightsEach P (fs.map (·.type)) (ys.map (·.1)),q≤140737488351232:=hw
     have F1:=ih f.type off i.size y h3 h5 fun q hq=>hw' q (Qa _ hq)
     have F2:=BK hl ih fs ys (off+i.size) h2 h4 (by simpa using hlen) (fun j g hg=>hall (j+1) g hg) fun q hq=>hw' q (Nl _ hq)
     have:=F1.app F2
     rwa [← Fz,Eu,← Fz,Eu]at this
  cases h
theorem WA :∀ (d:Nat) (t:TypeId) (ks:List Fk) (cs:List Value) (m:Nat) (y:DataW H×List MemPlace),UG P d t ks=true→DataW.trod enc P w base (fun _=>true) true m t cs=some y→(∀ q∈y.1.weights P t,q≤140737488351232)→wT (Fl w) ks cs
 | 0,_,_,_,_,_,h,_,_=>by cases h
 | d+1,t,ks,cs,m,y,h,ht,hw=>by
  unfold UG at h
  split at h
  · rename_i hu
    split at h
    · obtain⟨n,rfl,_,hwf⟩:=DataW.trod_int hu ht
      exact⟨⟨n,Y,wfi64 hwf⟩,trivial⟩
    cases h
  · rename_i hu
    split at h
    · obtain⟨s,rfl,_⟩:=DataW.trod_string hu ht
      exact⟨⟨s.data.toList,by simp[yI]⟩,trivial⟩
    cases h
  · rename_i e hu
    split at h
    · split at h
      · rename_i he
        simp only[Ce,decide_eq_true_eq]at h
        rcases open_ints hu he h.1 ht with ⟨rfl,_⟩ | ⟨x,l,c,zs,rfl,_,hl,hm,hz,hdd,hcell,hwz⟩
        · exact⟨⟨none,[],0,Y,Bs.none _ _⟩,trivial⟩
        rw[if_pos rfl]at hz
        obtain⟨b,hb⟩:=wf8s (zs:=zs.take l) (fun n hn=>hwz n (Fa hn))
        have hlen:b.length=l:=by
         have:=congrArg List.length hb
         simp at this;omega
        refine⟨⟨some x,b,c,by rw[hlen],⟨by simp[u8s],fun a ha j u hu=>?_,fun h=>(by cases h)⟩,fun _ _ _=>trivial,?_⟩,trivial⟩
        · cases ha
          have hj:j < b.length:=by
           have:=(Ea.1 hu).1
           simpa[u8s]using this
          rw[hcell j (by omega)]
          have h1:(zs.take l)[j]? =some ((b[j]'hj).toNat:Int):=by rw[hb];simp[hj]
          have h2:zs[j]? =some ((b[j]'hj).toNat:Int):=by rw[← h1,Hw,if_pos (by omega)]
          have h3:u=.int .u8 ((b[j]'hj).toNat:Int):=by
           simp[u8s,Oy,Bq hj]at hu
           exact hu.symm
          rw[h3,Dz,h2];rfl
        refine Ci ?_ (hw (((lits .u8 (zs.take l):List (DataW H)).length+(lits .u8 (zs.drop l):List (DataW H)).length)*P.bytesOf e) ?_)
        · rw[h.2];simp[lits];omega
        rw[(Prod.mk.inj hdd).1]
        unfold DataW.weights
        rw[hu]
        exact Gn
      cases h
    cases h
  · rename_i fs hu
    simp only[Ce,decide_eq_true_eq]at h
    obtain⟨h1,h2⟩:=h
    obtain⟨ys,n,rfl,rfl,hl,hlen,hall⟩:=DataW.trod_struct hu ht
    refine BK (rec:=UG P d) (cs:=cs) (ks:=ks) (by omega) (fun t' k n' y' h3 h4 h5=>WA d t' _ _ n y' h3 h4 h5) fs.toList ys 0 (Am _) h2 (by simp[hlen]) (fun i f hf=>hall i f (by simpa using hf)) ?_
    unfold DataW.weights at hw
    rw[hu]at hw
    exact hw
  cases h
end
def ntK :List Fk:=[.int,.int,.int,.int,.int,.int,.int,.bytes,.int,.bytes,.int,.text,.int,.int,.int,.int]
theorem nt_of {w:World} {cs:List Value} (h:wT (Fl w) ntK cs):∃ n:Nt,NtR w (fun _=>True) cs n∧NtB n:=by
 have hlen:cs.length=16:=h.len.symm
 match cs,hlen,h with
 | [c0,c1,c2,c3,c4,c5,c6,c7,c8,c9,c10,c11,c12,c13,c14,c15],_,h=>
  obtain⟨⟨n0,rfl,z0⟩,⟨n1,rfl,z1⟩,⟨n2,rfl,z2⟩,⟨n3,rfl,z3⟩,⟨n4,rfl,z4⟩,⟨n5,rfl,z5⟩,⟨n6,rfl,z6⟩,⟨A,b,c,rfl,hb⟩,⟨n8,rfl,z8⟩,⟨A2,b2,c2',rfl,hb2⟩,⟨n10,rfl,z10⟩,⟨s,rfl⟩,⟨n12,rfl,z12⟩,⟨n13,rfl,z13⟩,⟨n14,rfl,z14⟩,⟨n15,rfl,z15⟩,_⟩:=h
  exact⟨⟨n0,n1,⟨n2,n3⟩,⟨n4,⟨n5,n6⟩,b⟩,⟨n8,b2⟩,⟨n10,s,n12,n13⟩,n14,n15⟩,⟨A,c,A2,c2',Y,hb,hb2⟩,⟨z0,z1,z2,z3,z4,z5,z6,z8,z10,z12,z13,z14,z15⟩⟩
theorem GD {H:Type} {P:Program} {t:TypeId} {l:List (DataW H)} {d:DataW H} (hd:d∈l) {n:Nat} (hn:n∈d.weights P t):n∈DataW.weightsAll P t l:=by
 induction l with
 | nil=>cases hd
 | cons a l ih=>
  show n∈a.weights P t++DataW.weightsAll P t l
  rcases Cm.1 hd with rfl | hd
  · exact Qa _ hn
  exact Nl _ (ih hd)
theorem KG {α:Type} {R:List Value→α→Prop}:∀ n (f:Nat→List Value),(∀ i,i < n→∃ a,R (f i) a)→∃ l:List α,l.length=n∧wT R ((List.range n).map f) l
 | 0,_,_=>⟨[],rfl,trivial⟩
 | n+1,f,h=>by
  obtain⟨l,hl,hR⟩:=KG n f fun i hi=>h i (by omega)
  obtain⟨a,ha⟩:=h n (by omega)
  refine⟨l++[a],by simp[hl],?_⟩
  rw[List.range_succ,Ez]
  exact hR.app ⟨ha,trivial⟩
section
variable {H:Type} {enc:TypeId×Value→H} {w:World}
end
end Go.Proofs.YtjoeklkmnfaabaaGreat
namespace Go.Proofs.YtjoeklkmnfaabaaGreat
open Go Go.ChangeShapes Go.WideShapes Go.ChangeAt Go.RowKit
section
variable {H:Type} {enc:TypeId×Value→H} {w:World}
set_option maxRecDepth 100000
theorem cI :Tryz.prog.cellsOf 3=1:=by kernel_rfl
theorem wf64 {n:Int} (h:(Lit.int .i64 n).wf=true):-9223372036854775808≤n∧n≤9223372036854775807:=by
 simp only[Lit.wf,Ce,decide_eq_true_eq]at h
 exact h
theorem T5 {base:Nat} {spare:Nat→Bool} {held:Bool} {n:Nat} {cs:List Value} {y:DataW H×List MemPlace} (h:DataW.trod enc Tryz.prog w base spare held n 50 cs=some y):
 ∃ (B:Option Addr) (l:List Int) (c:Nat),cs=[.slice B l.length c]∧Rd w B l.length 1 (iO l):=by
 rcases open_ints U50 Tryz.underlying3 cI h with ⟨hcs,_⟩ | ⟨x,l,c,zs,hcs,_,hl,hm,hz,hdd,hcell,hwz⟩
 · exact⟨none,[],0,hcs,⟨Y,fun _ h=>(by cases h),fun _=>Y⟩⟩
 have hzl:l≤zs.length:=by rw[hz];split <;>omega
 have hlen:(zs.take l).length=l:=by rw[Aw];omega
 refine⟨some x,zs.take l,c,by rw[hlen];exact hcs,⟨by simp[iO],fun a ha j u hu=>?_,fun h=>(by cases h)⟩⟩
 cases ha
 have hj:j < l:=by
  have:=(Ea.1 hu).1
  simp only[iO,Bl,hlen]at this
  exact this
 rw[hcell j (by omega)]
 simp only[iO,Oy,Hw,hj,if_true]at hu
 rw[Bq (by omega)]at hu
 simp only[Hy,Option.some.injEq]at hu
 rw[← hu,Dz,Bq (by omega)]
 rfl
end
end Go.Proofs.YtjoeklkmnfaabaaGreat
namespace Go.Proofs.YtjoeklkmnfaabaaGreat
open Go Go.ChangeShapes Go.WideShapes Go.ChangeAt Go.RowKit
structure Stp where
 kind:Int
 n:Int
 notes:List Nt
 keep:List Int
def ZJ (w:World) (ok:Nat→Prop) (p:List Value) (x:Stp):Prop:=
 ∃ A1 k1 A2 k2,p=[.int .i64 x.kind,.int .i64 x.n,.slice A1 x.notes.length k1,.slice A2 x.keep.length k2]∧Sl (NtR w ok) 16 w ok A1 x.notes∧x.notes.length≤k1∧(∀ n∈x.notes,NtB n)∧Rd w A2 x.keep.length 1 (iO x.keep)∧(0 < x.keep.length→∀ p,A2=some p→ok p.block)∧-9223372036854775808≤x.n∧x.n≤9223372036854775807
section
variable {w w':World} {ok ok':Nat→Prop} {S:List Nat} {es:List Ent} {A:Option Addr} {p:List Value}
theorem ZJ.to {x:Stp} (h:ZJ w ok p x) (H:Hp w w' S es) (hk:∀ x,ok x→x < w.heap.size→x∉S∧ok' x):ZJ w' ok' p x:=by
 obtain⟨A1,k1,A2,k2,rfl,h1,h2,h3,h4,h5,h6⟩:=h
 obtain⟨h7,h8⟩:=h4.move (by decide) h5 H hk
 exact⟨A1,k1,A2,k2,Y,h1.toN H hk,h2,h3,h7,h8,h6⟩
theorem Sl.toP {xs:List Stp} (h:Sl (ZJ w ok) 4 w ok A xs) (H:Hp w w' S es) (hk:∀ x,ok x→x < w.heap.size→x∉S∧ok' x):Sl (ZJ w' ok') 4 w' ok' A xs:=h.to (by decide) H hk fun _ _ h=>h.to H hk
end
end Go.Proofs.YtjoeklkmnfaabaaGreat
namespace Go.Proofs.YtjoeklkmnfaabaaGreat
open Go Go.RowKit
set_option linter.unusedVariables false
set_option linter.unusedSimpArgs false
attribute [local irreducible] yT Ops zO Cd
set_option maxRecDepth 100000
set_option maxHeartbeats 32000000
theorem pl59 :wW Tryz.prog 59=some [(0,1),(1,1),(2,1),(3,1),(4,1)]:=by kernel_rfl
theorem LT (n0 gd gk gq c m m':Nat) (es:List Ent) (w0:World) (H0:Hp w0 w0 (bl es) es) (hnw:n0≤w0.heap.size) (hst:Ud w0 n0 gd gk gq c m' false es) (hm:m'+8≤m) (hm2:m≤1000) (hc:c≤90000000) (kd nn:Int) (hnn:-9223372036854775808≤nn∧nn≤9223372036854775807) (AN:Option Addr) (l:List Nt) (kn:Nat) (hl:Sl (NtR w0 (fun x=>x < n0)) 16 w0 (fun x=>x < n0) AN l) (hlk:l.length≤kn) (hnt:∀ n∈l,NtB n) (B:Option Addr) (keep:List Int) (kc:Nat) (hkp:Rd w0 B keep.length 1 (iO keep)) (hkB:0 < keep.length→∀ p,B=some p→p.block < n0):Aj 26 #[Ah gq,.agg (Gt kd nn AN l.length kn B keep.length kc).toArray] w0 (fun r w'=>r=.bool true∧∃ f es',Hp w0 w' (bl es) es'∧Ud w' n0 gd gk gq (c+1300000) m f es'):=by
 obtain⟨ga,ca,qs,sp,all,hA,hal,hn0,h4⟩:=hst
 rcases h4 with ⟨_,v,D,W,b,L,s,W1,rfl,rfl,rfl,hok,hk⟩ | ⟨_,D,gw,cw,Qe,vp,sure,rfl,hD,hdn,hsu,hF⟩ | ⟨h,_⟩
 have H1:Hp w0 w0 _ (Ar v D W++[Dn ga qs sp,yZ gq v.m.gd (Ah v.gx) ga all.length ca (all.length:Int) false]):=H0.pick [2,3,4,5,6,7,8,1,0] (by decide)
 have hsub:=Gl (is:=[2,3,4,5,6,7,8,1,0]) H0
 exact(TW n0 gq c m ga ca qs sp all v D W b L s W1 w0 H1.here (fun x hx=>hn0 x (hsub x hx)) hnw hok hk hA (by omega) hm2 hc kd nn hnn AN l kn hl hlk hnt B keep kc hkp hkB).mono fun r w' ⟨h1,f,es',h2,h3⟩=>⟨h1,f,es',h2.widen hsub,h3⟩
 have H1:Hp w0 w0 _ (Bv gd gk gw cw Qe D++[Dn ga qs sp,yZ gq gd vp ga all.length ca (sure:Int) false]):=H0.pick [2,3,4,1,0] (by decide)
 have hsub:=Gl (is:=[2,3,4,1,0]) H0
 exact(TX n0 gd gk gq c m ga ca qs sp all gw cw Qe D vp sure w0 H1.here (fun x hx=>hn0 x (hsub x hx)) hnw hD hdn hA (by omega) hm2 hsu hF hc kd nn hnn AN l kn hl hlk hnt B keep kc hkp hkB).mono fun r w' ⟨h1,f,es',h2,h3⟩=>⟨h1,f,es',h2.widen hsub,h3⟩
 cases h
theorem LU (n0 gd gk gq c m m':Nat) (es:List Ent) (w0:World) (H0:Hp w0 w0 (bl es) es) (hnw:n0≤w0.heap.size) (hst:Ud w0 n0 gd gk gq c m' false es) (hm:m'≤m) (hm2:m≤1000) (hc:c≤90000000):Aj 27 #[Ah gq,Dj] w0 (fun r w'=>r=.bool true∧∃ f es',Hp w0 w' (bl es) es'∧Ud w' n0 gd gk gq c m f es'):=by
 obtain⟨ga,ca,qs,sp,all,hA,hal,hn0,h4⟩:=hst
 have hkn:Rd w0 none ([]:List Int).length 1 (iO []):=Rd.none_ _ 1
 rcases h4 with ⟨_,v,D,W,b,L,s,W1,rfl,rfl,rfl,hok,hk⟩ | ⟨_,D,gw,cw,Qe,vp,sure,rfl,hD,hdn,hsu,hF⟩ | ⟨h,_⟩
 have H1:Hp w0 w0 _ (Bv v.m.gd v.m.gk v.m.gw v.m.cw v.m.sp D++[Dn ga qs sp,yZ gq v.m.gd (Ah v.gx) ga all.length ca (all.length:Int) false]):=H0.pick [2,3,4,1,0] (by decide)
 have hsub:=Gl (is:=[2,3,4,1,0]) H0
 exact(dU n0 v.m.gd v.m.gk gq c m ga ca qs sp all v.m.gw v.m.cw v.m.sp D _ all.length w0 H1.here (fun x hx=>hn0 x (hsub x hx)) hnw hok.ok.d hA (by omega) hm2 (Ai _) (hk.fall (by omega)) hc none [] 0 hkn (fun h=>by cases h)).mono fun r w' ⟨h1,f,es',h2,h3⟩=>⟨h1,f,es',h2.widen hsub,h3⟩
 have H1:Hp w0 w0 _ (Bv gd gk gw cw Qe D++[Dn ga qs sp,yZ gq gd vp ga all.length ca (sure:Int) false]):=H0.pick [2,3,4,1,0] (by decide)
 have hsub:=Gl (is:=[2,3,4,1,0]) H0
 exact(dU n0 gd gk gq c m ga ca qs sp all gw cw Qe D vp sure w0 H1.here (fun x hx=>hn0 x (hsub x hx)) hnw hD hA (by omega) hm2 hsu hF hc none [] 0 hkn (fun h=>by cases h)).mono fun r w' ⟨h1,f,es',h2,h3⟩=>⟨h1,f,es',h2.widen hsub,h3⟩
 cases h
theorem NE (A:Option Addr) (k:Nat) (l:List Stp) (Ov:Nat→Prop) (w0:World) (hl:Sl (ZJ w0 Ov) 4 w0 Ov A l):Aj 6 #[Ac A l.length k] w0 (fun r w'=>r=.bool true∧Hp w0 w' [] []):=by
 refine zE Tryz.func6 Tryz.ntmps6 Y<|cR Qs ?_
 have H:=Hp.refl w0
 have hlo:Sl (ZJ w0 (fun x=>x < w0.heap.size)) 4 w0 (fun x=>x < w0.heap.size) A l:=hl.toP (Hp.refl w0) (fun x _ hx=>⟨by simp,hx⟩)
 refine Rq<|Xa Y<|Xr Qs<|Rq<|OQ (EC gf8 Y) (O6 4096 _ (by decide) (by decide)) ?_
 rintro _ w1 ⟨gd,gk,rfl,Hd⟩
 have H1:=(H.call0 Hd).pick [0,1,2] (by decide)
 refine Xm Y<|Xe Y Y<|Xe Y Y<|Ae Qs<|Xa Y<|Xa Y<|Xr Qs<|Rq<|Xm Y ?_
 have hO:=newOk (n:=4096) (by decide) (by decide)
 refine OQ (EC gf7 Y) ((Rn.Yh gd gk none 0 [] aO _ H1.here hO Y (Am _) (Wl.anew 0 0 0) 0 XD Y (Am _) (Am _) [] Y (fun n hn=>by cases hn) Bo.empty Y (Am _)).d (fun _ _ h=>h)) ?_
 rintro _ w2 ⟨v1,W1,rfl,e1,e2,f1,f2,f3,f4,f5,hlg1,hok1,Hd1⟩
 subst e1 e2
 have hv1:Qn w0 w2 [] Z7 v1 v1 aO W1 Bo.empty []:=Qn.opened (by rw[Dt];exact H1) hok1 Hd1
 have kp1:Rf aO W1 Bo.empty [] 0 0 W1:=Rf.opened UZ rfl rfl (List.length_replicate ..) rfl (fun n hn=>by cases hn) rfl (Ai _) (Ai _) f1 f2 f3 (by rw[f4,f1]) f5 hlg1
 have H2:=hv1.H.here
 refine Xm Y<|Xe Y Y<|Ae Qs<|Xe Y Y<|Xa Y<|Xa Y<|Xr Qs<|J1<|Rq<|OC (EC gf10 Y) (U1 _)<|fun w3 Hd=>have H3:=H2.Ap Hd;Xn Y<|Xm Y<|Ae Qs<|OY Y<|Xm Y<|OY Y<|Jt (yR Y Y) (by decide)<|Xu Y Y<|Xm Y<|Ae Qs<|OY Y<|Xm Y<|OY Y<|Jt (yE U23 Y) (by simp)<|Xu Y Y<|Xm Y<|Ae Qs<|OY Y<|Xm Y<|OY Y ?_
 have hv2:=hv1.on (R':=[]) H3
 refine OQ (EC L6 Y) (kO v1 aO W1 Bo.empty _ _ hv2.H.less.here hv2.ok 0 rU.empty (Am _) (fun x hx=> .inr (Fp hx))) ?_
 rintro _ w4 ⟨_,rfl,⟨Z1,z1,Z2,z2,Z3,z3,rfl,hz1,hz2,hz3⟩,_,Hd3⟩
 have H4:=H3.front Hd3
 refine Ae Qs<|OY Y<|OQ (EC gf15 Y) (J9 _) ?_
 rintro _ w5 ⟨_,rfl,⟨F1,fx1,F2,fx2,F3,fx3,rfl,hF1,hF2,hF3⟩,HdF⟩
 have H5:=H4.Ap HdF
 refine OY Y ?_
 have hfe:ZK Bo.empty:=⟨(Rep.size (l:=[]) (.inl ⟨rfl,rfl,rU.empty⟩) (by decide)).1,(Rep.size (l:=[]) (.inl ⟨rfl,rfl,rU.empty⟩) (by decide)).2.1,(Rep.size (l:=[]) (.inl ⟨rfl,rfl,rU.empty⟩) (by decide)).2.2.1,(Rep.size (l:=[]) (.inl ⟨rfl,rfl,rU.empty⟩) (by decide)).2.2.2⟩
 have hqe:=eq_bo Bo.empty Z1 z1 Z2 z2 Z3 z3 Bo.empty F1 fx1 F2 fx2 F3 fx3 _ _ _ (hz1.toS HdF k0) (hz2.toR HdF k0) (hz3.toM HdF k0) hF1 hF2 hF3 hfe hfe
 rw[decide_eq_true (rfl:Bo.empty=Bo.empty)]at hqe
 refine OC (EC gf13 Y) hqe<|fun w6 Hd=>have H6:=H5.Ap Hd;Ae Qs<|OY Y<|Xn Y<|Xu Y Y<|Xm Y<|Ae Qs<|OY Y<|Xm Y<|OY Y ?_
 have hv3:=hv1.on (R':=[]) H6
 refine OC (EC gf16 Y) (WM v1 aO W1 Bo.empty _ _ hv3.H.less.here hv3.ok)<|fun w7 Hd4=>have H7:=H6.front Hd4;Ae Qs<|OY Y<|Jt (yR Y Y) (by rw[f1];exact fun h=>h Y)<|Xu Y Y<|Xr Qs<|J4 Y<|J6<|Rq<|Xm Y<|Xm Y<|OV (EB ty59 pl59 Y Y)<|zW Y Y H7<|fun w8 gq H8 _=>Ae Qs<|Xa Y<|Xr Qs<|J1<|Rq<|Xa Y<|Xr Qs<|J7<|zU (fun nQ lQ w=>∃ (i:Nat) (y:Int) (f:Bool) (es:List Ent),l.length - i=nQ∧xO (Ik [(0,Ac A l.length k),(7,Ah gq),(8,Aa y)] 0 76) lQ∧y=(i:Int)∧i≤l.length∧i≤60∧Hp w0 w [] es∧Ud w w0.heap.size v1.m.gd v1.m.gk gq (i*1300000) (i*8) f es) (l.length) ?_ ?_
 have HX:Hp _ w8 (bl (Ar v1 aO W1++[])) (Ar v1 aO W1++[Dn none [] [],yZ gq v1.m.gd (Ah v1.gx) none ([]:List Nt).length 0 (([]:List Nt).length:Int) false]):=(H8.nil 81).pick [0,1,2,3,4,5,6,8,7] (by decide)
 obtain⟨ff,es0,HE0,hst0⟩:=Ud.live (n0:=w0.heap.size) (m:=0) (c:=0) (hv1.on HX) ⟨Gw.nil 16,trivial,fun n hn=>by cases hn⟩ (Ai _) (fun x hx=>by cases hx) (Ai _) ⟨kp1,Bo.empty,rfl,ZL.rfl',[],Bo.empty,f1,(fun n hn=>by cases hn),rfl,ZL.rfl'⟩ rfl rfl
 exact⟨0,_,ff,es0,Y,(Uy Y Y Y Y),Y,Am _,Am _,HE0,hst0⟩
 rintro nQ lQ w9 ⟨i,y,f,es,rfl,hfit,rfl,hi,hi60,H9,hst⟩
 obtain⟨j,rfl⟩:=hfit.open
 refine cR Qs ?_
 clear hfit
 obtain⟨vp,ga,na,ca,sure,rest,rfl⟩:=hst.krow
 have HB:=H9
 replace H9:=HB.here
 refine J1<|Rq<|Xm Y<|Xm Y<|OV (ES U56 Y)<|OT (zR Y Y) (fun Ot=>?_) (fun Ot=>?_)
 have hil:i < l.length:=by omega
 obtain⟨st,hx⟩:=yM hil
 refine Xm Y<|Ae Qs<|OY Y<|Xm Y<|OY Y<|OT (zR Y Y) (fun Y8=>?_) (fun Y8=>?_)
 refine Xt Y Y<|Xm Y<|Ae Qs<|OY Y<|Xm Y<|OY Y<|Xc Y<|Ae Qs<|OY Y<|Xf CT Y<|OY Y<|OV (EL ty4 Y (H9.cell (i:=0) (o:=4) Y Y))<|Ae Qs<|OY Y<|Xn Y<|Xt Y Y<|Xr Qs<|wP Y (fun hb58=>?_) (fun hb58=>?_)
 have hf:f=false:=by simpa using hb58
 subst hf
 refine J6<|J1<|J7<|Rq ?_
 obtain⟨ps,hp,hr,ha,h2⟩:=hlo.toP HB (fun x hx _=>⟨by simp,hx⟩)
 obtain⟨p1,hp1,hR⟩:=h2.get hx
 obtain⟨A1,k1,A2,k2,rfl,hN,hNk,hNb,hKr,hKb,hnb⟩:=hR
 obtain⟨a1,ha1⟩:=hr.some_ (by omega)
 subst ha1
 refine Xm Y<|Xm Y<|Xm Y<|OV (EI U56 ty62 Y Y Y hil Y)<|Ae Qs<|OV (EN ty62 Y (vs:=[Aa st.kind,Aa st.n,Ac A1 st.notes.length k1,Ac A2 st.keep.length k2]) Y (hr.elem hp hp1))<|OQ (EC gf26 Y) (LT w0.heap.size v1.m.gd v1.m.gk gq (i*1300000) (i*8+8) (i*8) _ _ H9 HB.size hst (Ai _) (by omega) (by omega) st.kind st.n hnb A1 st.notes k1 hN hNk hNb A2 st.keep k2 hKr hKb) ?_
 rintro _ w10 ⟨rfl,f2,es2,Hes,hst2⟩
 have Df:=HB.all Hes
 refine Xn Y<|Xr Qs<|J4 Y<|J6<|zA (zD ?_)
 refine J2<|Xm Y<|OV (zL Y Y (Ad _ (by omega)))<|Xa Y<|Xr Qs<|zA (zH ?_)
 have e1:(i+1)*1300000=i*1300000+1300000:=by omega
 have e2:(i+1)*8=i*8+8:=by omega
 exact⟨l.length - (i+1),by omega,i+1,_,f2,es2,Y,(Uy Y Y Y Y),by omega,by omega,by omega,Df,by rw[e1,e2];exact hst2⟩
 have hf:f=true:=by simpa using hb58
 have m1:=()
 rotate_left 1
 refine Xt Y Y ?_
 have m2:=()
 rotate_left 1
 refine Xm Y<|Ae Qs<|Oz 2 Y<|Xu Y Y ?_
 have m2:=()
 rotate_left 1
 any_goals
  clear m2
  refine Xm Y<|Ae Qs<|Oz 5 Y<|Ae Qs<|Xu Y Y<|Xr Qs<|J4 Y ?_
  have m1:=()
  rotate_left 1
 any_goals
  clear m1
  refine J8<|zT<|zS<|J1 ?_
  cases f
  refine J2<|Xm Y<|Xc Y<|Xf CT Y<|OV (EL ty4 Y (H9.cell (i:=0) (o:=4) Y Y))<|Ae Qs<|Xm Y<|OY Y<|Xm Y<|Ae Qs<|OY Y<|OQ (EC XW Y) (LU w0.heap.size v1.m.gd v1.m.gk gq (i*1300000) (i*8) (i*8) _ _ H9 HB.size hst (Ai _) (by omega) (by omega)) ?_
  rintro _ w10 ⟨rfl,f2,es2,Hes,_⟩
  have Df:=H9.all Hes
  refine Xu Y Y<|Xa Y<|Xr Qs<|J5<|Cj Y Y<|⟨Y,(HB.all Df).Ag⟩
  refine J2<|Xm Y<|Xc Y<|Xf CT Y<|OV (EL ty4 Y (H9.cell (i:=0) (o:=4) Y Y))<|Ae Qs<|Xm Y<|Oz 2 Y<|Ae Qs<|Xt Y Y<|Xa Y<|Xr Qs<|J5<|Cj Y Y<|⟨Y,(HB.all H9).Ag⟩
end Go.Proofs.YtjoeklkmnfaabaaGreat
namespace Go.Proofs.YtjoeklkmnfaabaaGreat
open Go Go.ChangeShapes Go.WideShapes Go.ChangeAt Go.RowKit
section
variable {H:Type} {enc:TypeId×Value→H} {w:World}
set_option maxRecDepth 100000
theorem JC {X:Type} {R:List Value→X→Prop} {sz:Nat} {base:Nat} {n0:Nat} {T e:TypeId} {cs:List Value} {y:DataW H×List MemPlace} (hz:0 < sz) (hu:Tryz.prog.underlying T=some (.slice e)) (hce:Tryz.prog.cellsOf e=sz) (hR:∀ p x,R p x→p.length=sz)
 (he:∀ (n:Nat) (cs:List Value) (z:DataW H×List MemPlace),DataW.trod enc Tryz.prog w base (fun _=>true) true n e cs=some z→(∀ q∈z.1.weights Tryz.prog e,q≤140737488351232)→∃ x,R cs x)
 (h:DataW.trod enc Tryz.prog w base (fun _=>true) true n0 T cs=some y) (hw:∀ q∈y.1.weights Tryz.prog T,q≤140737488351232):
 ∃ (A:Option Addr) (l:List X) (c:Nat),cs=[Ac A l.length c]∧Sl R sz w (fun _=>True) A l∧l.length≤c:=by
 rcases DataW.trod_slice hu h with ⟨rfl,_⟩ | ⟨a,len,cap,elems,rest,n,_,rfl,hdd,_,hlc,_,hlen,hel,_,_⟩
 · exact⟨none,[],0,Y,Sl.none _ _ _ _,Ai _⟩
 obtain⟨xs,hxl,hRx⟩:=KG (R:=fun p x=>R p x∧p.length=sz) len (fun i=>(w.cells? base (a.add (i*sz)) sz).getD []) fun i hi=>by
  have hb:=hel i hi
  rw[hce,Bq (by omega),Option.bind_eq_some_iff]at hb
  obtain⟨cs',hcs,hy'⟩:=hb
  rw[hcs]
  obtain⟨x,hx⟩:=he n cs' _ hy' fun q hq=>hw q (by
   rw[hdd]
   unfold DataW.weights
   rw[hu]
   exact Es _ (Qa _ (GD (Ie.2 ⟨elems[i]'(by omega),Jk _,Y⟩) hq)))
  exact⟨x,hx,hR _ _ hx⟩
 have hpl:Pl sz ((List.range len).map fun i=>(w.cells? base (a.add (i*sz)) sz).getD []):=fun p hp=>by
  obtain⟨k,hk⟩:=Dh hp
  obtain⟨x,_,hx⟩:=hRx.getL hk
  exact hx.2
 refine⟨some a,xs,cap,by rw[hxl],⟨_,hpl,⟨by rw[hpl.len,Bl,List.length_range,hxl],fun a' ha k u hu=>?_,fun h=>(by cases h)⟩,fun _ _ _=>trivial,hRx.imp fun p x h=>h.1⟩,by omega⟩
 cases ha
 have hk:=(Ea.1 hu).1
 rw[hpl.len,Bl,List.length_range]at hk
 have hi:k / sz < len:=Nat.div_lt_of_lt_mul (by rw[Nat.mul_comm];exact hk)
 have hb:=hel (k / sz) hi
 rw[hce,Bq (by omega),Option.bind_eq_some_iff]at hb
 obtain⟨cs',hcs,_⟩:=hb
 have hat:((List.range len).map fun i=>(w.cells? base (a.add (i*sz)) sz).getD [])[k / sz]? =some cs':=by
  rw[Oy,List.getElem?_range hi]
  simp only[Hy]
  rw[hcs];rfl
 have hms:k % sz < sz:=Gv _ hz
 have hdm:k / sz*sz+k % sz=k:=Nat.div_add_mod' k sz
 have hq:cs'[k % sz]? =some u:=by
  have hlt:k % sz < cs'.length:=by rw[hpl.at hat];exact hms
  have h2:=hpl.get hat (Bq hlt)
  rw[hdm,hu]at h2
  rw[Bq hlt];exact h2.symm
 have h3:=(World.cells?_some hcs).2.2 (k % sz) hms
 rw[hq,tV,hdm]at h3
 exact h3
theorem O2 {base n : Nat} {cs : List Value} {y : DataW H × List MemPlace} (h : DataW.trod enc Tryz.prog w base (fun _ => true) true n 22 cs = some y) (hw : ∀ q ∈ y.1.weights Tryz.prog 22, q ≤ 140737488351232) :
    ∃ (A : Option Addr) (l : List Nt) (c : Nat), cs = [Ac A l.length c] ∧ Sl (NtR w (fun _ => True)) 16 w (fun _ => True) A l ∧ l.length ≤ c ∧ ∀ n ∈ l, NtB n := by
  obtain ⟨A, l, c, h1, ⟨ps, hp, hr, ha, h2⟩, h3⟩ := JC (R := fun p x => NtR w (fun _ => True) p x ∧ NtB x) (sz := 16) (by decide) Ns (by kernel_rfl) (fun _ _ h => h.1.len)
    (fun n cs z hz hq => nt_of (WA 4 81 ntK cs n z (by kernel_rfl) hz hq)) h hw
  refine ⟨A, l, c, h1, ⟨ps, hp, hr, ha, h2.imp fun _ _ h => h.1⟩, h3, fun n hn => ?_⟩
  obtain ⟨i, hi⟩ := Dh hn
  obtain ⟨p, _, hp⟩ := h2.get hi
  exact hp.2
theorem st_of {base n:Nat} {cs:List Value} {y:DataW H×List MemPlace} (h:DataW.trod enc Tryz.prog w base (fun _=>true) true n 62 cs=some y) (hw:∀ q∈y.1.weights Tryz.prog 62,q≤140737488351232):
 ∃ x:Stp,ZJ w (fun _=>True) cs x:=by
 obtain⟨ys,m,rfl,rfl,hl,hlen,hall⟩:=DataW.trod_struct Tryz.underlying62 h
 have hc4:Tryz.prog.cellsOf 62=4:=by kernel_rfl
 have c1:Tryz.prog.cellsOf 3=1:=by kernel_rfl
 have c2:Tryz.prog.cellsOf 22=1:=by kernel_rfl
 have c3:Tryz.prog.cellsOf 50=1:=by kernel_rfl
 rw[hc4]at hl
 have hl4:ys.length=4:=hlen
 match cs,hl,ys,hl4 with
 | [v0,v1,v2,v3],_,[y0,y1,y2,y3],_=>
  have h0:=hall 0 _ rfl
  have h1:=hall 1 _ rfl
  have h2:=hall 2 _ rfl
  have h3:=hall 3 _ rfl
  simp only[c1,c2,c3,Ei,List.drop_succ_cons,List.take_succ_cons,Nk,Jc,Jp]at h0 h1 h2 h3
  obtain⟨n0,e0,_,_⟩:=DataW.trod_int Tryz.underlying3 h0
  obtain⟨n1,e1,_,w1⟩:=DataW.trod_int Tryz.underlying3 h1
  obtain⟨A1,l1,k1,e2,s2,hk,nb⟩:=O2 h2 fun q hq=>hw q (by
   unfold DataW.weights
   rw[Tryz.underlying62]
   exact Nl _ (Nl _ (Qa _ hq)))
  obtain⟨A2,l2,k2,e3,s3⟩:=T5 h3
  obtain rfl:=(List.cons.inj e0).1
  obtain rfl:=(List.cons.inj e1).1
  obtain rfl:=(List.cons.inj e2).1
  obtain rfl:=(List.cons.inj e3).1
  have hb:=wf64 w1
  exact⟨⟨n0,n1,l1,l2⟩,A1,k1,A2,k2,Y,s2,hk,nb,s3,fun _ _ _=>trivial,hb.1,hb.2⟩
theorem ZJ.len {ok:Nat→Prop} {p:List Value} {x:Stp} (h:ZJ w ok p x):p.length=4:=by
 obtain⟨A1,k1,A2,k2,rfl,_⟩:=h
 rfl
theorem NP {r:Reach} {b0:Nat} {v:Value} {d:DataW H} {ps:List MemPlace} (hval:Value.okWide Tryz.prog w r b0 56 v) (hd:DataW.Trod enc Tryz.prog w 0 (fun _=>true) true 56 v d ps)
 {ts:List TypeId} {ds:List (DataW H)} (hs:(DataW.weightsEach Tryz.prog ts ds).all (·≤reachBytes)=true) {j:Nat} (hts:ts[j]? =some 56) (hds:ds[j]? =some d):
 ∃ (A:Option Addr) (l:List Stp) (c:Nat),v=Ac A l.length c∧Sl (ZJ w (fun _=>True)) 4 w (fun _=>True) A l:=by
 have hw:∀ q∈d.weights Tryz.prog 56,q≤140737488351232:=fun q hq=>by
  have:=Ew.1 hs _ (DataW.weights_mem_each hts hds q hq)
  have this:=of_decide_eq_true this
  simp only[reachBytes]at this
  omega
 obtain⟨A,len,cap,rfl⟩:=okWide_slice U56 hval
 obtain⟨fuel,hf⟩:=hd
 obtain⟨A',l,c,h1,h2,_⟩:=JC (R:=ZJ w (fun _=>True)) (sz:=4) (by decide) U56 (by kernel_rfl) (fun _ _ h=>h.len) (fun n cs z hz hq=>st_of hz hq) hf hw
 simp[Value.cells]at h1
 obtain⟨rfl,rfl,rfl⟩:=h1
 exact⟨A,l,cap,Y,h2⟩
end
end Go.Proofs.YtjoeklkmnfaabaaGreat
