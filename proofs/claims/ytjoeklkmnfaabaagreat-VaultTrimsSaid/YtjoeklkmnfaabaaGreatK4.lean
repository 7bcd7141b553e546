/-
  Parts of the walk, one behind the other.
-/
import Derived.Test.YtjoeklkmnfaabaaGreatK3
namespace Go.Proofs.YtjoeklkmnfaabaaGreat
open Go Go.RowKit
set_option linter.unusedVariables false
set_option linter.unusedSimpArgs false
attribute [local irreducible] yW Ops zP Cd
set_option maxRecDepth 100000
set_option maxHeartbeats 16000000
theorem TK (g:Option Nat) (cap i gv n:Nat) (ps:List (List Value)) (hn:ps.length=n) (vs sp:List Value) (w0:World) (H0:Hp w0 w0 (bl [((g,77,ps.flatten++sp):Ent)]) [((g,77,ps.flatten++sp):Ent)]) (hp:Pl 4 ps) (ho:∀ p∈ps,p.all (·.oneCell')=true) (hl:ps.length≤cap) (hcz:cap*4≤(ps.flatten++sp).length) (hg0:g=none→cap=0) (hi:i≤ps.length) (hv:w0.heap[gv]? =some (.cells vs.toArray 77 (0,0))) (hvl:vs.length=4) (ZJ:vs.all (·.oneCell')=true) (hgv:gv∉bl [((g,77,ps.flatten++sp):Ent)]) (hb:(ps.length+1)*48≤211106232532992):Aj 166 #[Ac (hd g) n cap,Aa (i:Int),Ac (some ⟨gv,0,none⟩) 1 1] w0 (fun r w'=>∃ g' cap' sp',r=Ac (hd g') (ps.length+1) cap'∧ps.length+1≤cap'∧cap'*4≤((ps.take i++vs::ps.drop i).flatten++sp').length∧(g'=none→cap'=0)∧Hp w0 w' (bl [((g,77,ps.flatten++sp):Ent)]) [((g',77,(ps.take i++vs::ps.drop i).flatten++sp'):Ent)]):=by
 refine zG Tryz.func166 Tryz.ntmps166 Y<|cR Hu ?_
 subst hn
 have H:=H0
 have hrd:=H.rd (i:=0) rfl hp.len (by decide)
 have Pn:=xI ho
 refine Rq<|Xa Y<|Xr Hu<|Rq<|Xm Y<|Xm Y<|OV (vD Jd xE Y Y ⟨by omega,by omega⟩)<|Xr Hu<|Rq<|Xm Y<|OV (ES Jd Y)<|Xa Y<|Xr Hu<|J1<|Rq<|Xm Y<|Jw (xR Y Y) (by decide)<|Xr Hu<|J4 Y<|J6<|Rq<|Xm Y<|OV (ES Jd Y)<|Xa Y<|Xr Hu<|J1<|Rq<|Xm Y<|Xm Y ?_
 refine OT (xR Y Y) (fun Oy=>?_) (fun Oy=>?_)
 obtain rfl:i=ps.length:=by omega
 refine Xr Hu<|J3 Y<|Rq<|Xm Y<|Xm Y ?_
 have X7:=(⟨by rw[hvl],fun a ha jx u hu=>by cases ha;rw[Ir,Ba];exact(by simp[World.cell?,H.keep hv hgv,hu]),fun h=>by cases h⟩:Rd w0 (some ⟨gv,0,none⟩) 1 4 vs)
 refine xC Jd xE (by decide) H 0 (g:=g) (xs:=ps.flatten) (sp:=sp) Y Y hp.len hcz hl hg0 Y X7 ZJ (by omega) (by omega) (by decide)<|fun w1 g2 cap2 sp2 H1 hcz2 hl2 hg2=>Xa Y<|Xr Hu<|J5<|Cm Y Y ?_
 have e1:(ps.take ps.length++vs::ps.drop ps.length).flatten=ps.flatten++vs:=by rw[Bz,List.drop_length];simp
 refine⟨g2,cap2,sp2,Y,hl2,by rw[e1];exact hcz2,hg2,?_⟩
 rw[e1]
 exact H1
 have hil:i < ps.length:=by omega
 obtain⟨gx,rfl⟩:=vK H (i:=0) rfl (by rw[Ae,hp.len];have:0 < ps.length*4:=Nat.mul_pos (by omega) (by decide);omega)
 refine Xr Hu<|J4 Y<|J6<|J1<|Rq<|Xm Y<|Xm Y<|OV (zL Y Y (Ad _ (by omega)))<|Xm Y<|Ag Hu<|OV (pG Jd Y)<|OT (yS Y Y) (fun Nv=>?_) (fun Nv=>?_)
 refine Xr Hu<|J3 Y<|Rq<|Xm Y<|Xm Y<|OV (gX Jd xE Y Y Y (by omega))<|Xm Y<|Ag Hu<|Xm Y<|OV (zL Y Y (Ad _ (by omega)))<|Xm Y<|OV (tA Y Y ((Ad _ (by omega)).trans (show((ps.length:Int)+1 - (i:Int))=((ps.length+1 - i:Nat):Int) by omega)))<|Ag Hu<|lR Jd Tryz.underlying3 xE (by decide) H Y (hrd.Zd (by omega) (fun h=>by cases h)) Y (by omega) (by omega) (by omega) (by omega) (by decide)<|fun w1 g2 cap2 sp2 H1 hcz2 hl2=>Xa Y<|Xr Hu<|Rq<|Xm Y<|Xm Y ?_
 have hie:i+(ps.length+1 - i)=ps.length+1:=by omega
 have hrow2:(ps.flatten.take (i*4)++initL [Aa 0,Aa 0,Aa 0,Dn] (ps.length+1 - i)).length=(ps.length+1)*4:=by
  rw[Ae,Aw,hp.len,wO,Io (Dp _ (by omega))]
  show i*4+(ps.length+1 - i)*4=_
  rw[← Dv,hie]
 have hlv:(i+1)*4≤(ps.length+1)*4:=Dp _ (by omega)
 have X7:=(⟨by rw[hvl],fun a ha jx u hu=>by cases ha;rw[Ir,Ba];exact(by simp[World.cell?,H1.keep hv hgv,hu]),fun h=>by cases h⟩:Rd w1 (some ⟨gv,0,none⟩) 1 4 vs)
 refine OV (tV Jd xE Y Y Y (by omega) (by omega))<|Xm Y<|Ag Hu<|uH Jd xE H1 1 (o:=0+i*4) (vs:=vs) (by first | rfl | (rw[← Ir];rfl)) Y Y (by rw[hvl];show 4=Nat.min 1 (i+(ps.length+1 - i) - i)*4;rw[gI];omega) (fun jx u hu=>X7.cells _ Y jx u hu) (by rw[Ae,hrow2,hvl];omega) ZJ<|fun w2 H2=>Xr Hu<|J1<|zR 8 [(true,0),(true,1),(true,2),(true,3),(true,4),(true,5),(true,6),(true,7),(false,8)] H2 [0,1] yE (by decide) (by kernel_rfl) ?_
 rintro w3 hw3
 have H3:=Hp.drew H2;rw[← hw3]at H3
 refine Zm Y Y<|Zm Y Y<|Zm Y Y<|MP Y<|MV (fun wz hz=>zL Y Y (Ad _ (by omega)))<|cZ Hu<|MP Y<|MV (fun wz hz=>tV Jd xE Y Y (i:=i+1) (by omega) (by omega) (by omega))<|Zm Y Y<|Zm Y Y<|MP Y<|MV (fun wz hz=>tV Jd xE Y Y Y (by omega) (by omega))<|cZ Hu<|MO Y ?_
 have hdl:(ps.flatten.drop (i*4)).length=(ps.length - i)*4:=by rw[Bl,hp.len,← Ll]
 refine uH Jd xE H3 1 (o:=0+(i+1)*4) (vs:=ps.flatten.drop (i*4)) (by first | rfl | (rw[← Ir];rfl)) Y Y (by rw[hdl];show _=Nat.min (ps.length - i) (i+(ps.length+1 - i) - (i+1))*4;rw[gI];omega) (fun jx u hu=>by
  rw[tW,Ir,Ba]
  exact H3.cell (i:=0) Y (by rw[Di (by have:=lt_of_get hu;rw[Bl]at this;omega)];rwa [Em]at hu)) (by rw[vN (by rw[Ae,hrow2,hvl];omega),Ae,hrow2,hdl,Ba,← Dv,show i+1+(ps.length - i)=ps.length+1 by omega];omega) (by rw[Et]at Pn ⊢;exact fun x hx=>Pn x (Es hx)) ?_
 intro w4 H4
 refine OE ?_
 refine⟨fun hne=>absurd Y hne,?_⟩
 refine cZ Hu<|ME<|cR Hu<|Rq<|Xm Y<|Xa Y<|Xr Hu<|J5<|Cm Y Y ?_
 have HZ:=H4.pick [1] (by decide)
 change Hp _ _ _ [((some g2,77,zJ (zJ _ (0+i*4) _) (0+(i+1)*4) _):Ent)]at HZ
 rw[Ba,Ba,CQ (sp:=sp2) hp rfl (by omega) hvl (by rw[wO];rfl) rfl]at HZ
 refine⟨some g2,cap2,sp2,by rw[hie],by omega,?_,(fun h=>by cases h),HZ⟩
 rw[Ae]at hcz2 ⊢
 rw[hrow2]at hcz2
 have hp2:Pl 4 (ps.take i++vs::ps.drop i):=(hp.sub fun x hx=>Gg hx).app fun x hx=>by
  rcases Cj.1 hx with rfl | hx
  · exact hvl
  exact hp x (Es hx)
 rw[hp2.len]
 have:(ps.take i++vs::ps.drop i).length=ps.length+1:=by rw[Ae,Bj,Aw,Bl];omega
 rw[this];exact hcz2
 refine Xr Hu<|J4 Y<|J6<|Rq<|Xm Y<|Xm Y<|Xm Y<|OV (zL Y Y (Ad _ (by omega)))<|Ag Hu ?_
 have ZO:4≤sp.length:=by
  rw[Ae,hp.len]at hcz
  have:(ps.length+1)*4≤cap*4:=Dp _ (by omega)
  omega
 refine OV (gX Jd xE Y Y (i:=ps.length+1) (by omega) (by omega))<|Xa Y<|Xr Hu<|J1<|Rq<|Xm Y<|Xm Y<|Xm Y<|Xm Y<|Ag Hu<|OV (zL Y Y (Ad _ (by omega)))<|OV (tV Jd xE Y Y (i:=i+1) (by omega) (by omega) (by omega)) ?_
 have Uw:=H.keep hv hgv
 have Z8:=H.at (i:=0) rfl
 have hne:gv≠gx:=fun h=>hgv (by rw[h];simp[bl])
 refine mE (fn:=(Tryz.prog.funcs[192]?).get!) (e:=Extern.SlicesOverlaps.overlaps #[94,94] #[4]) (v:=.bool false) (by kernel_rfl) (by kernel_rfl) (by kernel_rfl) (by kernel_rfl) (by kernel_rfl) Y (Lib.run_overlaps_apart w0 94 4 77 Jd 4 (fun w=>vJ xE) ⟨gv,0,none⟩ _ 1 1 _ _ (by rw[Ir];exact hne) 77 77 4 _ (by simp[World.shape?,Uw];exact hvl) (by rw[Ir];simp only[World.shape?,Z8];rfl) (by simp only[Ib,Ae];omega) (by simp[World.frozen?,Uw]) (by simp[World.frozen?,Uw]))<|Xn Y<|Xr Hu<|J3 Y<|J1<|zR 8 [(true,0),(true,1),(true,2),(true,3),(true,4),(true,5),(true,6),(true,7),(false,8)] H [0] yE (by decide) (by kernel_rfl) ?_
 rintro w1 hw1
 have H1:=Hp.drew H;rw[← hw1]at H1
 refine Zm Y Y<|Zm Y Y<|Zm Y Y<|MP Y<|MV (fun wz hz=>zL Y Y (Ad _ (by omega)))<|cZ Hu<|MP Y<|MV (fun wz hz=>tV Jd xE Y Y (i:=i+1) (by omega) (by omega) (by omega))<|Zm Y Y<|Zm Y Y<|MP Y<|MV (fun wz hz=>tV Jd xE Y Y Y (by omega) (by omega))<|cZ Hu<|MO Y ?_
 have hdl:(ps.flatten.drop (i*4)).length=(ps.length - i)*4:=by rw[Bl,hp.len,← Ll]
 have hlv:(i+1)*4+(ps.length - i)*4=(ps.length+1)*4:=by rw[← Dv,show i+1+(ps.length - i)=ps.length+1 by omega]
 have hlw:(ps.length+1)*4=ps.length*4+4:=by omega
 refine uH Jd xE H1 0 (o:=0+(i+1)*4) (vs:=ps.flatten.drop (i*4)) (by first | rfl | (rw[← Ir];rfl)) Y Y (by rw[hdl];show _=Nat.min (ps.length+1 - i) (ps.length+1 - (i+1))*4;rw[show Nat.min (ps.length+1 - i) (ps.length+1 - (i+1))=ps.length - i from(by show min _ _=_;omega)]) (fun jx u hu=>by
  rw[tW,Ir,Ba]
  exact H1.cell (i:=0) Y (by rw[Di (by have:=lt_of_get hu;rw[Bl]at this;omega)];rwa [Em]at hu)) (by rw[Ae,hp.len,hdl];omega) (by rw[Et]at Pn ⊢;exact fun x hx=>Pn x (Es hx)) ?_
 intro w2 H2
 refine OE ?_
 refine⟨fun hne=>absurd Y hne,?_⟩
 refine cZ Hu<|ME<|cR Hu<|Rq<|Xm Y<|Xm Y<|OV (tV Jd xE Y Y Y (by omega) (by omega))<|Xm Y<|Ag Hu ?_
 have X7:=(⟨by rw[hvl],fun a ha jx u hu=>by cases ha;rw[Ir,Ba];exact(by simp[World.cell?,H2.keep hv hgv,hu]),fun h=>by cases h⟩:Rd w2 (some ⟨gv,0,none⟩) 1 4 vs)
 refine uH Jd xE H2 0 (o:=0+i*4) (vs:=vs) (by first | rfl | (rw[← Ir];rfl)) Y Y (by rw[hvl];show 4=Nat.min 1 (ps.length+1 - i)*4;rw[gI];omega) (fun jx u hu=>X7.cells _ Y jx u hu) (by rw[vN (by rw[Ae,hp.len,hdl];omega),Ae,hp.len,hvl];have:i*4≤ps.length*4:=Dp _ (by omega);omega) ZJ<|fun w3 H3=>Xr Hu<|Rq<|Xm Y<|Xa Y<|Xr Hu<|J5<|Cm Y Y ?_
 have HZ:=H3
 change Hp _ _ _ [((some gx,77,zJ (zJ _ (0+(i+1)*4) _) (0+i*4) _):Ent)]at HZ
 rw[Ba,Ba,G2 hp rfl (by omega) hvl ZO]at HZ
 have hp2:Pl 4 (ps.take i++vs::ps.drop i):=(hp.sub fun x hx=>Gg hx).app fun x hx=>by
  rcases Cj.1 hx with rfl | hx
  · exact hvl
  exact hp x (Es hx)
 have hl3:(ps.take i++vs::ps.drop i).length=ps.length+1:=by rw[Ae,Bj,Aw,Bl];omega
 refine⟨some gx,cap,sp.drop 4,Y,by omega,?_,(fun h=>by cases h),HZ⟩
 rw[Ae,hp.len]at hcz
 rw[Ae,hp2.len,hl3,Bl]
 omega
theorem TL (g:Option Nat) (cap i gv n:Nat) (ps:List (List Value)) (hn:ps.length=n) (vs sp:List Value) (w0:World) (H0:Hp w0 w0 (bl [((g,35,ps.flatten++sp):Ent)]) [((g,35,ps.flatten++sp):Ent)]) (hp:Pl 4 ps) (ho:∀ p∈ps,p.all (·.oneCell')=true) (hl:ps.length≤cap) (hcz:cap*4≤(ps.flatten++sp).length) (hg0:g=none→cap=0) (hi:i≤ps.length) (hv:w0.heap[gv]? =some (.cells vs.toArray 35 (0,0))) (hvl:vs.length=4) (ZJ:vs.all (·.oneCell')=true) (hgv:gv∉bl [((g,35,ps.flatten++sp):Ent)]) (hb:(ps.length+1)*40≤211106232532992):Aj 156 #[Ac (hd g) n cap,Aa (i:Int),Ac (some ⟨gv,0,none⟩) 1 1] w0 (fun r w'=>∃ g' cap' sp',r=Ac (hd g') (ps.length+1) cap'∧ps.length+1≤cap'∧cap'*4≤((ps.take i++vs::ps.drop i).flatten++sp').length∧(g'=none→cap'=0)∧Hp w0 w' (bl [((g,35,ps.flatten++sp):Ent)]) [((g',35,(ps.take i++vs::ps.drop i).flatten++sp'):Ent)]):=by
 refine zG Tryz.func156 Tryz.ntmps156 Y<|cR Hu ?_
 subst hn
 have H:=H0
 have hrd:=H.rd (i:=0) rfl hp.len (by decide)
 have Pn:=xI ho
 refine Rq<|Xa Y<|Xr Hu<|Rq<|Xm Y<|Xm Y<|OV (vD Ht xA Y Y ⟨by omega,by omega⟩)<|Xr Hu<|Rq<|Xm Y<|OV (ES Ht Y)<|Xa Y<|Xr Hu<|J1<|Rq<|Xm Y<|Jw (xR Y Y) (by decide)<|Xr Hu<|J4 Y<|J6<|Rq<|Xm Y<|OV (ES Ht Y)<|Xa Y<|Xr Hu<|J1<|Rq<|Xm Y<|Xm Y ?_
 refine OT (xR Y Y) (fun Oy=>?_) (fun Oy=>?_)
 obtain rfl:i=ps.length:=by omega
 refine Xr Hu<|J3 Y<|Rq<|Xm Y<|Xm Y ?_
 have X7:=(⟨by rw[hvl],fun a ha jx u hu=>by cases ha;rw[Ir,Ba];exact(by simp[World.cell?,H.keep hv hgv,hu]),fun h=>by cases h⟩:Rd w0 (some ⟨gv,0,none⟩) 1 4 vs)
 refine xC Ht xA (by decide) H 0 (g:=g) (xs:=ps.flatten) (sp:=sp) Y Y hp.len hcz hl hg0 Y X7 ZJ (by omega) (by omega) (by decide)<|fun w1 g2 cap2 sp2 H1 hcz2 hl2 hg2=>Xa Y<|Xr Hu<|J5<|Cm Y Y ?_
 have e1:(ps.take ps.length++vs::ps.drop ps.length).flatten=ps.flatten++vs:=by rw[Bz,List.drop_length];simp
 refine⟨g2,cap2,sp2,Y,hl2,by rw[e1];exact hcz2,hg2,?_⟩
 rw[e1]
 exact H1
 have hil:i < ps.length:=by omega
 obtain⟨gx,rfl⟩:=vK H (i:=0) rfl (by rw[Ae,hp.len];have:0 < ps.length*4:=Nat.mul_pos (by omega) (by decide);omega)
 refine Xr Hu<|J4 Y<|J6<|J1<|Rq<|Xm Y<|Xm Y<|OV (zL Y Y (Ad _ (by omega)))<|Xm Y<|Ag Hu<|OV (pG Ht Y)<|OT (yS Y Y) (fun Nv=>?_) (fun Nv=>?_)
 refine Xr Hu<|J3 Y<|Rq<|Xm Y<|Xm Y<|OV (gX Ht xA Y Y Y (by omega))<|Xm Y<|Ag Hu<|Xm Y<|OV (zL Y Y (Ad _ (by omega)))<|Xm Y<|OV (tA Y Y ((Ad _ (by omega)).trans (show((ps.length:Int)+1 - (i:Int))=((ps.length+1 - i:Nat):Int) by omega)))<|Ag Hu<|lR Ht Tryz.underlying3 xA (by decide) H Y (hrd.Zd (by omega) (fun h=>by cases h)) Y (by omega) (by omega) (by omega) (by omega) (by decide)<|fun w1 g2 cap2 sp2 H1 hcz2 hl2=>Xa Y<|Xr Hu<|Rq<|Xm Y<|Xm Y ?_
 have hie:i+(ps.length+1 - i)=ps.length+1:=by omega
 have hrow2:(ps.flatten.take (i*4)++initL [Aa 0,.string .empty,Aa 0,Aa 0] (ps.length+1 - i)).length=(ps.length+1)*4:=by
  rw[Ae,Aw,hp.len,wO,Io (Dp _ (by omega))]
  show i*4+(ps.length+1 - i)*4=_
  rw[← Dv,hie]
 have hlv:(i+1)*4≤(ps.length+1)*4:=Dp _ (by omega)
 have X7:=(⟨by rw[hvl],fun a ha jx u hu=>by cases ha;rw[Ir,Ba];exact(by simp[World.cell?,H1.keep hv hgv,hu]),fun h=>by cases h⟩:Rd w1 (some ⟨gv,0,none⟩) 1 4 vs)
 refine OV (tV Ht xA Y Y Y (by omega) (by omega))<|Xm Y<|Ag Hu<|uH Ht xA H1 1 (o:=0+i*4) (vs:=vs) (by first | rfl | (rw[← Ir];rfl)) Y Y (by rw[hvl];show 4=Nat.min 1 (i+(ps.length+1 - i) - i)*4;rw[gI];omega) (fun jx u hu=>X7.cells _ Y jx u hu) (by rw[Ae,hrow2,hvl];omega) ZJ<|fun w2 H2=>Xr Hu<|J1<|zR 8 [(true,0),(true,1),(true,2),(true,3),(true,4),(true,5),(true,6),(true,7),(false,8)] H2 [0,1] yE (by decide) (by kernel_rfl) ?_
 rintro w3 hw3
 have H3:=Hp.drew H2;rw[← hw3]at H3
 refine Zm Y Y<|Zm Y Y<|Zm Y Y<|MP Y<|MV (fun wz hz=>zL Y Y (Ad _ (by omega)))<|cZ Hu<|MP Y<|MV (fun wz hz=>tV Ht xA Y Y (i:=i+1) (by omega) (by omega) (by omega))<|Zm Y Y<|Zm Y Y<|MP Y<|MV (fun wz hz=>tV Ht xA Y Y Y (by omega) (by omega))<|cZ Hu<|MO Y ?_
 have hdl:(ps.flatten.drop (i*4)).length=(ps.length - i)*4:=by rw[Bl,hp.len,← Ll]
 refine uH Ht xA H3 1 (o:=0+(i+1)*4) (vs:=ps.flatten.drop (i*4)) (by first | rfl | (rw[← Ir];rfl)) Y Y (by rw[hdl];show _=Nat.min (ps.length - i) (i+(ps.length+1 - i) - (i+1))*4;rw[gI];omega) (fun jx u hu=>by
  rw[tW,Ir,Ba]
  exact H3.cell (i:=0) Y (by rw[Di (by have:=lt_of_get hu;rw[Bl]at this;omega)];rwa [Em]at hu)) (by rw[vN (by rw[Ae,hrow2,hvl];omega),Ae,hrow2,hdl,Ba,← Dv,show i+1+(ps.length - i)=ps.length+1 by omega];omega) (by rw[Et]at Pn ⊢;exact fun x hx=>Pn x (Es hx)) ?_
 intro w4 H4
 refine OE ?_
 refine⟨fun hne=>absurd Y hne,?_⟩
 refine cZ Hu<|ME<|cR Hu<|Rq<|Xm Y<|Xa Y<|Xr Hu<|J5<|Cm Y Y ?_
 have HZ:=H4.pick [1] (by decide)
 change Hp _ _ _ [((some g2,35,zJ (zJ _ (0+i*4) _) (0+(i+1)*4) _):Ent)]at HZ
 rw[Ba,Ba,CQ (sp:=sp2) hp rfl (by omega) hvl (by rw[wO];rfl) rfl]at HZ
 refine⟨some g2,cap2,sp2,by rw[hie],by omega,?_,(fun h=>by cases h),HZ⟩
 rw[Ae]at hcz2 ⊢
 rw[hrow2]at hcz2
 have hp2:Pl 4 (ps.take i++vs::ps.drop i):=(hp.sub fun x hx=>Gg hx).app fun x hx=>by
  rcases Cj.1 hx with rfl | hx
  · exact hvl
  exact hp x (Es hx)
 rw[hp2.len]
 have:(ps.take i++vs::ps.drop i).length=ps.length+1:=by rw[Ae,Bj,Aw,Bl];omega
 rw[this];exact hcz2
 refine Xr Hu<|J4 Y<|J6<|Rq<|Xm Y<|Xm Y<|Xm Y<|OV (zL Y Y (Ad _ (by omega)))<|Ag Hu ?_
 have ZO:4≤sp.length:=by
  rw[Ae,hp.len]at hcz
  have:(ps.length+1)*4≤cap*4:=Dp _ (by omega)
  omega
 refine OV (gX Ht xA Y Y (i:=ps.length+1) (by omega) (by omega))<|Xa Y<|Xr Hu<|J1<|Rq<|Xm Y<|Xm Y<|Xm Y<|Xm Y<|Ag Hu<|OV (zL Y Y (Ad _ (by omega)))<|OV (tV Ht xA Y Y (i:=i+1) (by omega) (by omega) (by omega)) ?_
 have Uw:=H.keep hv hgv
 have Z8:=H.at (i:=0) rfl
 have hne:gv≠gx:=fun h=>hgv (by rw[h];simp[bl])
 refine mE (fn:=(Tryz.prog.funcs[187]?).get!) (e:=Extern.SlicesOverlaps.overlaps #[38,38] #[4]) (v:=.bool false) (by kernel_rfl) (by kernel_rfl) (by kernel_rfl) (by kernel_rfl) (by kernel_rfl) Y (Lib.run_overlaps_apart w0 38 4 35 Ht 4 (fun w=>vJ xA) ⟨gv,0,none⟩ _ 1 1 _ _ (by rw[Ir];exact hne) 35 35 4 _ (by simp[World.shape?,Uw];exact hvl) (by rw[Ir];simp only[World.shape?,Z8];rfl) (by simp only[Ib,Ae];omega) (by simp[World.frozen?,Uw]) (by simp[World.frozen?,Uw]))<|Xn Y<|Xr Hu<|J3 Y<|J1<|zR 8 [(true,0),(true,1),(true,2),(true,3),(true,4),(true,5),(true,6),(true,7),(false,8)] H [0] yE (by decide) (by kernel_rfl) ?_
 rintro w1 hw1
 have H1:=Hp.drew H;rw[← hw1]at H1
 refine Zm Y Y<|Zm Y Y<|Zm Y Y<|MP Y<|MV (fun wz hz=>zL Y Y (Ad _ (by omega)))<|cZ Hu<|MP Y<|MV (fun wz hz=>tV Ht xA Y Y (i:=i+1) (by omega) (by omega) (by omega))<|Zm Y Y<|Zm Y Y<|MP Y<|MV (fun wz hz=>tV Ht xA Y Y Y (by omega) (by omega))<|cZ Hu<|MO Y ?_
 have hdl:(ps.flatten.drop (i*4)).length=(ps.length - i)*4:=by rw[Bl,hp.len,← Ll]
 have hlv:(i+1)*4+(ps.length - i)*4=(ps.length+1)*4:=by rw[← Dv,show i+1+(ps.length - i)=ps.length+1 by omega]
 have hlw:(ps.length+1)*4=ps.length*4+4:=by omega
 refine uH Ht xA H1 0 (o:=0+(i+1)*4) (vs:=ps.flatten.drop (i*4)) (by first | rfl | (rw[← Ir];rfl)) Y Y (by rw[hdl];show _=Nat.min (ps.length+1 - i) (ps.length+1 - (i+1))*4;rw[show Nat.min (ps.length+1 - i) (ps.length+1 - (i+1))=ps.length - i from(by show min _ _=_;omega)]) (fun jx u hu=>by
  rw[tW,Ir,Ba]
  exact H1.cell (i:=0) Y (by rw[Di (by have:=lt_of_get hu;rw[Bl]at this;omega)];rwa [Em]at hu)) (by rw[Ae,hp.len,hdl];omega) (by rw[Et]at Pn ⊢;exact fun x hx=>Pn x (Es hx)) ?_
 intro w2 H2
 refine OE ?_
 refine⟨fun hne=>absurd Y hne,?_⟩
 refine cZ Hu<|ME<|cR Hu<|Rq<|Xm Y<|Xm Y<|OV (tV Ht xA Y Y Y (by omega) (by omega))<|Xm Y<|Ag Hu ?_
 have X7:=(⟨by rw[hvl],fun a ha jx u hu=>by cases ha;rw[Ir,Ba];exact(by simp[World.cell?,H2.keep hv hgv,hu]),fun h=>by cases h⟩:Rd w2 (some ⟨gv,0,none⟩) 1 4 vs)
 refine uH Ht xA H2 0 (o:=0+i*4) (vs:=vs) (by first | rfl | (rw[← Ir];rfl)) Y Y (by rw[hvl];show 4=Nat.min 1 (ps.length+1 - i)*4;rw[gI];omega) (fun jx u hu=>X7.cells _ Y jx u hu) (by rw[vN (by rw[Ae,hp.len,hdl];omega),Ae,hp.len,hvl];have:i*4≤ps.length*4:=Dp _ (by omega);omega) ZJ<|fun w3 H3=>Xr Hu<|Rq<|Xm Y<|Xa Y<|Xr Hu<|J5<|Cm Y Y ?_
 have HZ:=H3
 change Hp _ _ _ [((some gx,35,zJ (zJ _ (0+(i+1)*4) _) (0+i*4) _):Ent)]at HZ
 rw[Ba,Ba,G2 hp rfl (by omega) hvl ZO]at HZ
 have hp2:Pl 4 (ps.take i++vs::ps.drop i):=(hp.sub fun x hx=>Gg hx).app fun x hx=>by
  rcases Cj.1 hx with rfl | hx
  · exact hvl
  exact hp x (Es hx)
 have hl3:(ps.take i++vs::ps.drop i).length=ps.length+1:=by rw[Ae,Bj,Aw,Bl];omega
 refine⟨some gx,cap,sp.drop 4,Y,by omega,?_,(fun h=>by cases h),HZ⟩
 rw[Ae,hp.len]at hcz
 rw[Ae,hp2.len,hl3,Bl]
 omega
theorem dR (g:Option Nat) (cap i gv n:Nat) (ps:List (List Value)) (hn:ps.length=n) (vs sp:List Value) (w0:World) (H0:Hp w0 w0 (bl [((g,110,ps.flatten++sp):Ent)]) [((g,110,ps.flatten++sp):Ent)]) (hp:Pl 7 ps) (ho:∀ p∈ps,p.all (·.oneCell')=true) (hl:ps.length≤cap) (hcz:cap*7≤(ps.flatten++sp).length) (hg0:g=none→cap=0) (hi:i≤ps.length) (hv:w0.heap[gv]? =some (.cells vs.toArray 110 (0,0))) (hvl:vs.length=7) (ZJ:vs.all (·.oneCell')=true) (hgv:gv∉bl [((g,110,ps.flatten++sp):Ent)]) (hb:(ps.length+1)*56≤211106232532992):Aj 115 #[Ac (hd g) n cap,Aa (i:Int),Ac (some ⟨gv,0,none⟩) 1 1] w0 (fun r w'=>∃ g' cap' sp',r=Ac (hd g') (ps.length+1) cap'∧ps.length+1≤cap'∧cap'*7≤((ps.take i++vs::ps.drop i).flatten++sp').length∧(g'=none→cap'=0)∧Hp w0 w' (bl [((g,110,ps.flatten++sp):Ent)]) [((g',110,(ps.take i++vs::ps.drop i).flatten++sp'):Ent)]):=by
 refine zG Tryz.func115 Tryz.ntmps115 Y<|cR Hu ?_
 subst hn
 have H:=H0
 have hrd:=H.rd (i:=0) rfl hp.len (by decide)
 have Pn:=xI ho
 refine Rq<|Xa Y<|Xr Hu<|Rq<|Xm Y<|Xm Y<|OV (vD Lp yT Y Y ⟨by omega,by omega⟩)<|Xr Hu<|Rq<|Xm Y<|OV (ES Lp Y)<|Xa Y<|Xr Hu<|J1<|Rq<|Xm Y<|Jw (xR Y Y) (by decide)<|Xr Hu<|J4 Y<|J6<|Rq<|Xm Y<|OV (ES Lp Y)<|Xa Y<|Xr Hu<|J1<|Rq<|Xm Y<|Xm Y ?_
 refine OT (xR Y Y) (fun Oy=>?_) (fun Oy=>?_)
 obtain rfl:i=ps.length:=by omega
 refine Xr Hu<|J3 Y<|Rq<|Xm Y<|Xm Y ?_
 have X7:=(⟨by rw[hvl],fun a ha jx u hu=>by cases ha;rw[Ir,Ba];exact(by simp[World.cell?,H.keep hv hgv,hu]),fun h=>by cases h⟩:Rd w0 (some ⟨gv,0,none⟩) 1 7 vs)
 refine xC Lp yT (by decide) H 0 (g:=g) (xs:=ps.flatten) (sp:=sp) Y Y hp.len hcz hl hg0 Y X7 ZJ (by omega) (by omega) (by decide)<|fun w1 g2 cap2 sp2 H1 hcz2 hl2 hg2=>Xa Y<|Xr Hu<|J5<|Cm Y Y ?_
 have e1:(ps.take ps.length++vs::ps.drop ps.length).flatten=ps.flatten++vs:=by rw[Bz,List.drop_length];simp
 refine⟨g2,cap2,sp2,Y,hl2,by rw[e1];exact hcz2,hg2,?_⟩
 rw[e1]
 exact H1
 have hil:i < ps.length:=by omega
 obtain⟨gx,rfl⟩:=vK H (i:=0) rfl (by rw[Ae,hp.len];have:0 < ps.length*7:=Nat.mul_pos (by omega) (by decide);omega)
 refine Xr Hu<|J4 Y<|J6<|J1<|Rq<|Xm Y<|Xm Y<|OV (zL Y Y (Ad _ (by omega)))<|Xm Y<|Ag Hu<|OV (pG Lp Y)<|OT (yS Y Y) (fun Nv=>?_) (fun Nv=>?_)
 refine Xr Hu<|J3 Y<|Rq<|Xm Y<|Xm Y<|OV (gX Lp yT Y Y Y (by omega))<|Xm Y<|Ag Hu<|Xm Y<|OV (zL Y Y (Ad _ (by omega)))<|Xm Y<|OV (tA Y Y ((Ad _ (by omega)).trans (show((ps.length:Int)+1 - (i:Int))=((ps.length+1 - i:Nat):Int) by omega)))<|Ag Hu<|lR Lp Tryz.underlying3 yT (by decide) H Y (hrd.Zd (by omega) (fun h=>by cases h)) Y (by omega) (by omega) (by omega) (by omega) (by decide)<|fun w1 g2 cap2 sp2 H1 hcz2 hl2=>Xa Y<|Xr Hu<|Rq<|Xm Y<|Xm Y ?_
 have hie:i+(ps.length+1 - i)=ps.length+1:=by omega
 have hrow2:(ps.flatten.take (i*7)++initL Ti (ps.length+1 - i)).length=(ps.length+1)*7:=by
  rw[Ae,Aw,hp.len,wO,Io (Dp _ (by omega))]
  show i*7+(ps.length+1 - i)*7=_
  rw[← Dv,hie]
 have hlv:(i+1)*7≤(ps.length+1)*7:=Dp _ (by omega)
 have X7:=(⟨by rw[hvl],fun a ha jx u hu=>by cases ha;rw[Ir,Ba];exact(by simp[World.cell?,H1.keep hv hgv,hu]),fun h=>by cases h⟩:Rd w1 (some ⟨gv,0,none⟩) 1 7 vs)
 refine OV (tV Lp yT Y Y Y (by omega) (by omega))<|Xm Y<|Ag Hu<|uH Lp yT H1 1 (o:=0+i*7) (vs:=vs) (by first | rfl | (rw[← Ir];rfl)) Y Y (by rw[hvl];show 7=Nat.min 1 (i+(ps.length+1 - i) - i)*7;rw[gI];omega) (fun jx u hu=>X7.cells _ Y jx u hu) (by rw[Ae,hrow2,hvl];omega) ZJ<|fun w2 H2=>Xr Hu<|J1<|zR 8 [(true,0),(true,1),(true,2),(true,3),(true,4),(true,5),(true,6),(true,7),(false,8)] H2 [0,1] yE (by decide) (by kernel_rfl) ?_
 rintro w3 hw3
 have H3:=Hp.drew H2;rw[← hw3]at H3
 refine Zm Y Y<|Zm Y Y<|Zm Y Y<|MP Y<|MV (fun wz hz=>zL Y Y (Ad _ (by omega)))<|cZ Hu<|MP Y<|MV (fun wz hz=>tV Lp yT Y Y (i:=i+1) (by omega) (by omega) (by omega))<|Zm Y Y<|Zm Y Y<|MP Y<|MV (fun wz hz=>tV Lp yT Y Y Y (by omega) (by omega))<|cZ Hu<|MO Y ?_
 have hdl:(ps.flatten.drop (i*7)).length=(ps.length - i)*7:=by rw[Bl,hp.len,← Ll]
 refine uH Lp yT H3 1 (o:=0+(i+1)*7) (vs:=ps.flatten.drop (i*7)) (by first | rfl | (rw[← Ir];rfl)) Y Y (by rw[hdl];show _=Nat.min (ps.length - i) (i+(ps.length+1 - i) - (i+1))*7;rw[gI];omega) (fun jx u hu=>by
  rw[tW,Ir,Ba]
  exact H3.cell (i:=0) Y (by rw[Di (by have:=lt_of_get hu;rw[Bl]at this;omega)];rwa [Em]at hu)) (by rw[vN (by rw[Ae,hrow2,hvl];omega),Ae,hrow2,hdl,Ba,← Dv,show i+1+(ps.length - i)=ps.length+1 by omega];omega) (by rw[Et]at Pn ⊢;exact fun x hx=>Pn x (Es hx)) ?_
 intro w4 H4
 refine OE ?_
 refine⟨fun hne=>absurd Y hne,?_⟩
 refine cZ Hu<|ME<|cR Hu<|Rq<|Xm Y<|Xa Y<|Xr Hu<|J5<|Cm Y Y ?_
 have HZ:=H4.pick [1] (by decide)
 change Hp _ _ _ [((some g2,110,zJ (zJ _ (0+i*7) _) (0+(i+1)*7) _):Ent)]at HZ
 rw[Ba,Ba,CQ (sp:=sp2) hp rfl (by omega) hvl (by rw[wO];rfl) rfl]at HZ
 refine⟨some g2,cap2,sp2,by rw[hie],by omega,?_,(fun h=>by cases h),HZ⟩
 rw[Ae]at hcz2 ⊢
 rw[hrow2]at hcz2
 have hp2:Pl 7 (ps.take i++vs::ps.drop i):=(hp.sub fun x hx=>Gg hx).app fun x hx=>by
  rcases Cj.1 hx with rfl | hx
  · exact hvl
  exact hp x (Es hx)
 rw[hp2.len]
 have:(ps.take i++vs::ps.drop i).length=ps.length+1:=by rw[Ae,Bj,Aw,Bl];omega
 rw[this];exact hcz2
 refine Xr Hu<|J4 Y<|J6<|Rq<|Xm Y<|Xm Y<|Xm Y<|OV (zL Y Y (Ad _ (by omega)))<|Ag Hu ?_
 have ZO:7≤sp.length:=by
  rw[Ae,hp.len]at hcz
  have:(ps.length+1)*7≤cap*7:=Dp _ (by omega)
  omega
 refine OV (gX Lp yT Y Y (i:=ps.length+1) (by omega) (by omega))<|Xa Y<|Xr Hu<|J1<|Rq<|Xm Y<|Xm Y<|Xm Y<|Xm Y<|Ag Hu<|OV (zL Y Y (Ad _ (by omega)))<|OV (tV Lp yT Y Y (i:=i+1) (by omega) (by omega) (by omega)) ?_
 have Uw:=H.keep hv hgv
 have Z8:=H.at (i:=0) rfl
 have hne:gv≠gx:=fun h=>hgv (by rw[h];simp[bl])
 refine mE (fn:=(Tryz.prog.funcs[160]?).get!) (e:=Extern.SlicesOverlaps.overlaps #[39,39] #[4]) (v:=.bool false) (by kernel_rfl) (by kernel_rfl) (by kernel_rfl) (by kernel_rfl) (by kernel_rfl) Y (Lib.run_overlaps_apart w0 39 4 110 Lp 7 (fun w=>vJ yT) ⟨gv,0,none⟩ _ 1 1 _ _ (by rw[Ir];exact hne) 110 110 7 _ (by simp[World.shape?,Uw];exact hvl) (by rw[Ir];simp only[World.shape?,Z8];rfl) (by simp only[Ib,Ae];omega) (by simp[World.frozen?,Uw]) (by simp[World.frozen?,Uw]))<|Xn Y<|Xr Hu<|J3 Y<|J1<|zR 8 [(true,0),(true,1),(true,2),(true,3),(true,4),(true,5),(true,6),(true,7),(false,8)] H [0] yE (by decide) (by kernel_rfl) ?_
 rintro w1 hw1
 have H1:=Hp.drew H;rw[← hw1]at H1
 refine Zm Y Y<|Zm Y Y<|Zm Y Y<|MP Y<|MV (fun wz hz=>zL Y Y (Ad _ (by omega)))<|cZ Hu<|MP Y<|MV (fun wz hz=>tV Lp yT Y Y (i:=i+1) (by omega) (by omega) (by omega))<|Zm Y Y<|Zm Y Y<|MP Y<|MV (fun wz hz=>tV Lp yT Y Y Y (by omega) (by omega))<|cZ Hu<|MO Y ?_
 have hdl:(ps.flatten.drop (i*7)).length=(ps.length - i)*7:=by rw[Bl,hp.len,← Ll]
 have hlv:(i+1)*7+(ps.length - i)*7=(ps.length+1)*7:=by rw[← Dv,show i+1+(ps.length - i)=ps.length+1 by omega]
 have hlw:(ps.length+1)*7=ps.length*7+7:=by omega
 refine uH Lp yT H1 0 (o:=0+(i+1)*7) (vs:=ps.flatten.drop (i*7)) (by first | rfl | (rw[← Ir];rfl)) Y Y (by rw[hdl];show _=Nat.min (ps.length+1 - i) (ps.length+1 - (i+1))*7;rw[show Nat.min (ps.length+1 - i) (ps.length+1 - (i+1))=ps.length - i from(by show min _ _=_;omega)]) (fun jx u hu=>by
  rw[tW,Ir,Ba]
  exact H1.cell (i:=0) Y (by rw[Di (by have:=lt_of_get hu;rw[Bl]at this;omega)];rwa [Em]at hu)) (by rw[Ae,hp.len,hdl];omega) (by rw[Et]at Pn ⊢;exact fun x hx=>Pn x (Es hx)) ?_
 intro w2 H2
 refine OE ?_
 refine⟨fun hne=>absurd Y hne,?_⟩
 refine cZ Hu<|ME<|cR Hu<|Rq<|Xm Y<|Xm Y<|OV (tV Lp yT Y Y Y (by omega) (by omega))<|Xm Y<|Ag Hu ?_
 have X7:=(⟨by rw[hvl],fun a ha jx u hu=>by cases ha;rw[Ir,Ba];exact(by simp[World.cell?,H2.keep hv hgv,hu]),fun h=>by cases h⟩:Rd w2 (some ⟨gv,0,none⟩) 1 7 vs)
 refine uH Lp yT H2 0 (o:=0+i*7) (vs:=vs) (by first | rfl | (rw[← Ir];rfl)) Y Y (by rw[hvl];show 7=Nat.min 1 (ps.length+1 - i)*7;rw[gI];omega) (fun jx u hu=>X7.cells _ Y jx u hu) (by rw[vN (by rw[Ae,hp.len,hdl];omega),Ae,hp.len,hvl];have:i*7≤ps.length*7:=Dp _ (by omega);omega) ZJ<|fun w3 H3=>Xr Hu<|Rq<|Xm Y<|Xa Y<|Xr Hu<|J5<|Cm Y Y ?_
 have HZ:=H3
 change Hp _ _ _ [((some gx,110,zJ (zJ _ (0+(i+1)*7) _) (0+i*7) _):Ent)]at HZ
 rw[Ba,Ba,G2 hp rfl (by omega) hvl ZO]at HZ
 have hp2:Pl 7 (ps.take i++vs::ps.drop i):=(hp.sub fun x hx=>Gg hx).app fun x hx=>by
  rcases Cj.1 hx with rfl | hx
  · exact hvl
  exact hp x (Es hx)
 have hl3:(ps.take i++vs::ps.drop i).length=ps.length+1:=by rw[Ae,Bj,Aw,Bl];omega
 refine⟨some gx,cap,sp.drop 7,Y,by omega,?_,(fun h=>by cases h),HZ⟩
 rw[Ae,hp.len]at hcz
 rw[Ae,hp2.len,hl3,Bl]
 omega
set_option maxHeartbeats 4000000
section
variable {w w0:World} {ok:Nat→Prop} {n:Int} {ps:List (List Value)} {l:List Vt} {gc:Nat} {X4:List Value} {Tc:TypeId}
theorem voteC (s n:Int) (c1 c2 c3:Value) (w0:World):Aj 165 #[.agg [Aa s,c1,c2,c3].toArray,Aa n] w0 (fun r w'=>r=Aa (sN s n)∧Hp w0 w' [] []):=by
 refine zG Tryz.func165 Tryz.ntmps165 Y<|cR e15 ?_
 have H:=Hp.refl w0
 refine Rq<|yA Y Y H<|fun w1 g1 H1 hg1=>Xa Y<|Xr e15<|J1<|J7<|Rq<|Xf vF Y<|OV (EL ty3 Y (H1.cell (i:=0) Y Y))<|Xm Y<|OT (zQ Y Y) (fun hp9=>?_) (fun hp9=>?_)
 refine Xa Y<|Xr e15<|J3 Y<|Rq<|Xa Y<|Xr e15<|J5<|BR<|Cm Y Y<|⟨by unfold sN;rw[if_pos (by omega)],H1.Af⟩
 refine Xa Y<|Xr e15<|J4 Y<|Rq<|Xf vF Y<|OV (EL ty3 Y (H1.cell (i:=0) Y Y))<|Xm Y<|OT (yS Y Y) (fun hp14=>?_) (fun hp14=>?_)
 refine Xa Y<|Xr e15<|J3 Y<|Rq<|Xa Y<|Xr e15<|J5<|BR<|Cm Y Y<|⟨by unfold sN;rw[if_neg (by omega),if_pos (by omega)],H1.Af⟩
 refine Xa Y<|Xr e15<|J4 Y<|J6<|zA (zB ?_)
 refine Rq<|Xa Y<|Xr e15<|J5<|Cm Y Y<|⟨by unfold sN;rw[if_neg (by omega),if_neg (by omega)],H1.Af⟩
theorem V8 (s n:Int) (c1 c2 c3 c4 c5 c6:Value) (w0:World):Aj 190 #[.agg [Aa s,c1,c2,c3,c4,c5,c6].toArray,Aa n] w0 (fun r w'=>r=Aa (sN s n)∧Hp w0 w' [] []):=by
 refine zG Tryz.func190 Tryz.ntmps190 Y<|cR e15 ?_
 have H:=Hp.refl w0
 refine Rq<|yA Y Y H<|fun w1 g1 H1 hg1=>Xa Y<|Xr e15<|J1<|J7<|Rq<|Xf tU Y<|OV (EL ty3 Y (H1.cell (i:=0) Y Y))<|Xm Y<|OT (zQ Y Y) (fun hp9=>?_) (fun hp9=>?_)
 refine Xa Y<|Xr e15<|J3 Y<|Rq<|Xa Y<|Xr e15<|J5<|BR<|Cm Y Y<|⟨by unfold sN;rw[if_pos (by omega)],H1.Af⟩
 refine Xa Y<|Xr e15<|J4 Y<|Rq<|Xf tU Y<|OV (EL ty3 Y (H1.cell (i:=0) Y Y))<|Xm Y<|OT (yS Y Y) (fun hp14=>?_) (fun hp14=>?_)
 refine Xa Y<|Xr e15<|J3 Y<|Rq<|Xa Y<|Xr e15<|J5<|BR<|Cm Y Y<|⟨by unfold sN;rw[if_neg (by omega),if_pos (by omega)],H1.Af⟩
 refine Xa Y<|Xr e15<|J4 Y<|J6<|zA (zB ?_)
 refine Rq<|Xa Y<|Xr e15<|J5<|Cm Y Y<|⟨by unfold sN;rw[if_neg (by omega),if_neg (by omega)],H1.Af⟩
theorem UK (s n:Int) (c1 c2 c3:Value) (w0:World) (gc:Nat) (X4:List Value) (Tc:TypeId) (hgc:w0.heap[gc]? =some (.cells X4.toArray Tc (0,0))) (hv:X4[0]? =some (Aa n)):Aj 195 #[.agg [Aa s,c1,c2,c3].toArray,Ah gc] w0 (fun r w'=>r=.bool (decide (s≤n))∧Hp w0 w' [] []):=by
 refine zG Tryz.func195 Tryz.ntmps195 Y<|cR e8 ?_
 have H:=Hp.refl w0
 refine Rq<|yA Y Y H<|fun w1 g1 H1 hg1=>Xa Y<|Xr e8<|Rq<|Xf vF Y<|OV (EL ty3 Y (H1.cell (i:=0) Y Y))<|OV (EL ty3 Y (fD (H1.keep hgc (by simp)) hv))<|OT (tB Y Y) (fun Ua=>?_) (fun Ua=>?_)
 refine Xa Y<|Xr e8<|J5<|Cm Y Y<|⟨bt (by omega),H1.Af⟩
 refine Xa Y<|Xr e8<|J5<|Cm Y Y<|⟨bf (by omega),H1.Af⟩
theorem WR (s n:Int) (c1:Value) (w0:World) (gc:Nat) (X4:List Value) (Tc:TypeId) (hgc:w0.heap[gc]? =some (.cells X4.toArray Tc (0,0))) (hv:X4[0]? =some (Aa n)):Aj 169 #[.agg [Aa s,c1].toArray,Ah gc] w0 (fun r w'=>r=.bool (decide (s≤n))∧Hp w0 w' [] []):=by
 refine zG Tryz.func169 Tryz.ntmps169 Y<|cR e9 ?_
 have H:=Hp.refl w0
 refine Rq<|yA Y Y H<|fun w1 g1 H1 hg1=>Xa Y<|Xr e9<|Rq<|Xf wF Y<|OV (EL ty3 Y (H1.cell (i:=0) Y Y))<|Xf wF Y<|OV (EL ty3 Y (fD (H1.keep hgc (by simp)) hv))<|Ag e9<|OT (tB Y Y) (fun hp8=>?_) (fun hp8=>?_)
 refine Xa Y<|Xr e9<|J5<|Cm Y Y<|⟨bt (by omega),H1.Af⟩
 refine Xa Y<|Xr e9<|J5<|Cm Y Y<|⟨bf (by omega),H1.Af⟩
theorem V2 (s n:Int) (c1 c2 c3 c4 c5 c6:Value) (w0:World) (gc:Nat) (X4:List Value) (Tc:TypeId) (hgc:w0.heap[gc]? =some (.cells X4.toArray Tc (0,0))) (hv:X4[14]? =some (Aa n)):Aj 114 #[.agg [Aa s,c1,c2,c3,c4,c5,c6].toArray,Ah gc] w0 (fun r w'=>r=.bool (decide (s=n))∧Hp w0 w' [] []):=by
 refine zG Tryz.func114 Tryz.ntmps114 Y<|cR e9 ?_
 have H:=Hp.refl w0
 refine Rq<|yA Y Y H<|fun w1 g1 H1 hg1=>Xa Y<|Xr e9<|Rq<|Xf tU Y<|OV (EL ty3 Y (H1.cell (i:=0) Y Y))<|Xf uZ Y<|OV (EL ty3 Y (fD (H1.keep hgc (by simp)) hv))<|Ag e9<|OT (xR Y Y) (fun hp8=>?_) (fun hp8=>?_)
 refine Xa Y<|Xr e9<|J5<|Cm Y Y<|⟨bt (by omega),H1.Af⟩
 refine Xa Y<|Xr e9<|J5<|Cm Y Y<|⟨bf (by omega),H1.Af⟩
theorem XO (a b:Blk) (w0:World):Aj 209 #[zT a,zT b] w0 (fun r w'=>r=Aa (Lib.compareBytes a b)∧Hp w0 w' [] []):=by
 refine zG Tryz.func209 Tryz.ntmps209 Y<|cR e8 ?_
 have H:=Hp.refl w0
 refine Rq<|Xa Y<|Xr e8<|Rq<|Xm Y<|Xm Y<|mE (fn:=(Tryz.prog.funcs[218]?).get!) (e:=Extern.BytealgCompare.compare) (v:=Aa (Lib.compareBytes a b)) (by kernel_rfl) (by kernel_rfl) (by kernel_rfl) (by kernel_rfl) (by kernel_rfl) Y (Lib.run_compareString ⟨a.toArray⟩ ⟨b.toArray⟩ _)<|Xa Y<|Xr e8<|J5<|Cm Y Y<|⟨Y,H⟩
theorem V1 (a b:Blk) (w0:World):Aj 186 #[zT a,zT b] w0 (fun r w'=>r=Aa (Lib.compareBytes a b)∧Hp w0 w' [] []):=by
 refine zG Tryz.func186 Tryz.ntmps186 Y<|cR e8 ?_
 have H:=Hp.refl w0
 refine Rq<|Xa Y<|Xr e8<|Rq<|Xm Y<|Xm Y<|OC (EC gf209 Y) (XO _ _ _)<|fun w1 Hd=>have H1:=H.Au Hd;Xa Y<|Xr e8<|J5<|Cm Y Y<|⟨Y,H1⟩
theorem N3 (a b:Rt) (w0:World):Aj 155 #[.agg (Ar a).toArray,.agg (Ar b).toArray] w0 (fun r w'=>r=Aa (nM a b)∧Hp w0 w' [] []):=by
 refine zG Tryz.func155 Tryz.ntmps155 Y<|cR e20 ?_
 have H:=Hp.refl w0
 refine Rq<|yA Y Y H<|fun w1 g1 H1 hg1=>yA Y Y H1<|fun w2 g2 H2 hg2=>Xa Y<|Xr e20<|J1<|Rq<|Xf qK Y<|OV (EL ty3 Y (H2.cell (i:=0) Y Y))<|Xf qK Y<|OV (EL ty3 Y (H2.cell (i:=1) Y Y))<|Ag e20<|OT (yR Y Y) (fun hp9=>?_) (fun hp9=>?_)
 refine Xr e20<|J3 Y<|J1<|Rq<|Xf qK Y<|OV (EL ty3 Y (H2.cell (i:=0) Y Y))<|Xf qK Y<|OV (EL ty3 Y (H2.cell (i:=1) Y Y))<|Ag e20<|OT (zQ Y Y) (fun hp14=>?_) (fun hp14=>?_)
 refine Xr e20<|J3 Y<|Rq<|Xa Y<|Xr e20<|J5<|Cm Y Y<|⟨by unfold nM;rw[if_pos (by omega),if_pos (by omega)],H2.Af⟩
 refine Xr e20<|J4 Y<|J6<|Rq<|Xa Y<|Xr e20<|J5<|Cm Y Y<|⟨by unfold nM;rw[if_pos (by omega),if_neg (by omega)],H2.Af⟩
 refine Xr e20<|J4 Y<|J6<|Rq<|Xf oZ Y<|OV (EL ty9 Y (H2.cell (i:=0) Y Y))<|Xf oZ Y<|OV (EL ty9 Y (H2.cell (i:=1) Y Y))<|Ag e20<|OC (EC gf186 Y) (V1 _ _ _)<|fun w3 Hd=>have H3:=H2.Au Hd;Xa Y<|Xr e20<|J5<|Cm Y Y<|⟨by unfold nM;rw[if_neg (by omega)],H3.Af⟩
theorem QQ (h2:wC (Oe w ok) ps l) (hr:dG (fun x:Vt=>sN x.slot n) l):Cmp Tryz.prog 165 (Aa n) (VY n) ps:=
 ⟨gf165,fun w1 p hp=>by
  obtain⟨i,hi⟩:=Dh hp
  obtain⟨x,_,hR⟩:=h2.getL hi
  obtain⟨A,k,rfl,_⟩:=hR
  exact voteC x.slot n _ _ _ w1,hr.mono h2 fun p x h=>BX h⟩
theorem QR {l:List Mk} (h2:wC Pv ps l) (hr:dG (fun x:Mk=>sN x.client n) l):Cmp Tryz.prog 190 (Aa n) (OM n) ps:=
 ⟨gf190,fun w1 p hp=>by
  obtain⟨i,hi⟩:=Dh hp
  obtain⟨x,_,hR⟩:=h2.getL hi
  unfold Pv at hR
  subst hR
  exact V8 x.client n _ _ _ _ _ _ w1,hr.mono h2 fun p x h=>gL h⟩
theorem L5 {r:Rt} {l:List Rt} (h2:wC Nu ps l) (hr:dG (fun x:Rt=>nM x r) l):Cmp Tryz.prog 155 (.agg (Jv r).toArray) (R7 r) ps:=
 ⟨U9,fun w1 p hp=>by
  obtain⟨i,hi⟩:=Dh hp
  obtain⟨x,_,hR⟩:=h2.getL hi
  have e:=dO (r:=r) hR
  unfold Nu at hR
  subst hR
  rw[e]
  exact N3 x r w1,hr.mono h2 fun p x h=>dO h⟩
theorem YJ (h2:wC (Oe w ok) ps l) (hgc:w0.heap[gc]? =some (.cells X4.toArray Tc (0,0))) (hv:X4[0]? =some (Aa n)):Prd Tryz.prog 195 gc (Jl n) ps w0:=
 ⟨gf195,(Dw.1 hgc).1,fun w1 h1 p hp=>by
  obtain⟨i,hi⟩:=Dh hp
  obtain⟨x,_,hR⟩:=h2.getL hi
  obtain⟨A,k,rfl,_⟩:=hR
  exact UK x.slot n _ _ _ w1 gc X4 Tc (h1.trans hgc) hv⟩
theorem Yd {l:List En} (h2:wC (Qp w ok) ps l) (hgc:w0.heap[gc]? =some (.cells X4.toArray Tc (0,0))) (hv:X4[0]? =some (Aa n)):Prd Tryz.prog 169 gc (Jl n) ps w0:=
 ⟨gf169,(Dw.1 hgc).1,fun w1 h1 p hp=>by
  obtain⟨i,hi⟩:=Dh hp
  obtain⟨x,_,hR⟩:=h2.getL hi
  obtain⟨A,k,rfl,_⟩:=hR
  exact WR x.slot n _ w1 gc X4 Tc (h1.trans hgc) hv⟩
theorem Vp {l:List Mk} (h2:wC Pv ps l) (hgc:w0.heap[gc]? =some (.cells X4.toArray Tc (0,0))) (hv:X4[14]? =some (Aa n)):Prd Tryz.prog 114 gc (Jb n) ps w0:=
 ⟨gf114,(Dw.1 hgc).1,fun w1 h1 p hp=>by
  obtain⟨i,hi⟩:=Dh hp
  obtain⟨x,_,hR⟩:=h2.getL hi
  unfold Pv at hR
  subst hR
  exact V2 x.client n _ _ _ _ _ _ w1 gc X4 Tc (h1.trans hgc) hv⟩
end
theorem CD :wY Tryz.prog 75=some [(0,1),(1,1)]:=by kernel_rfl
theorem pl77 :wY Tryz.prog 77=some [(0,1),(1,2),(3,1)]:=by kernel_rfl
theorem SR :wY Tryz.prog 79=some [(0,1),(1,1)]:=by kernel_rfl
theorem V9 :wY Tryz.prog 35=some [(0,1),(1,1),(2,1),(3,1)]:=by kernel_rfl
theorem eZ :wY Tryz.prog 110=some [(0,1),(1,1),(2,1),(3,4)]:=by kernel_rfl
theorem ST :wY Tryz.prog 41=some [(0,1),(1,1),(2,1)]:=by kernel_rfl
theorem oA :wY Tryz.prog 81=some [(0,1),(1,1),(2,2),(4,4),(8,2),(10,4),(14,1),(15,1)]:=by kernel_rfl
theorem UZ :wY Tryz.prog 263=some [(0,2),(2,1),(3,1)]:=by kernel_rfl
theorem U0 :wY Tryz.prog 245=some [(0,2),(2,1),(3,1)]:=by kernel_rfl
theorem TC (n:Int) (w0:World):Aj 197 #[Aa n] w0 (fun r w'=>r=.bool (decide (1≤n∧n≤5))∧Hp w0 w' [] []):=by
 refine zG Tryz.func197 Tryz.ntmps197 Y<|cR e9 ?_
 have H:=Hp.refl w0
 refine Rq<|Xa Y<|Xr e9<|Rq<|Xm Y<|OT (wM Y Y) (fun hp4=>?_) (fun hp4=>?_)
 refine Xm Y<|Ag e9<|OY Y<|Xm Y<|OY Y<|OT (tB Y Y) (fun Ua=>?_) (fun Ua=>?_)
 refine Xt Y Y<|Xa Y<|Xr e9<|J5<|Cm Y Y<|⟨bt (by omega),H.Af⟩
 refine Xt Y Y<|Xa Y<|Xr e9<|J5<|Cm Y Y<|⟨bf (by omega),H.Af⟩
 refine Xm Y<|Ag e9<|Oz 2 Y<|Xu Y Y<|Xa Y<|Xr e9<|J5<|Cm Y Y<|⟨bf (by omega),H.Af⟩
theorem WG (n:Int) (w0:World):Aj 175 #[Aa n] w0 (fun r w'=>r=.bool (decide (1≤n∧n≤5))∧Hp w0 w' [] []):=by
 refine zG Tryz.func175 Tryz.ntmps175 Y<|cR e9 ?_
 have H:=Hp.refl w0
 refine Rq<|Xa Y<|Xr e9<|Rq<|Xm Y<|OT (wM Y Y) (fun hp4=>?_) (fun hp4=>?_)
 refine Xm Y<|Ag e9<|OY Y<|Xm Y<|OY Y<|OT (tB Y Y) (fun Ua=>?_) (fun Ua=>?_)
 refine Xt Y Y<|Xa Y<|Xr e9<|J5<|Cm Y Y<|⟨bt (by omega),H.Af⟩
 refine Xt Y Y<|Xa Y<|Xr e9<|J5<|Cm Y Y<|⟨bf (by omega),H.Af⟩
 refine Xm Y<|Ag e9<|Oz 2 Y<|Xu Y Y<|Xa Y<|Xr e9<|J5<|Cm Y Y<|⟨bf (by omega),H.Af⟩
theorem FX (n:Int) (w0:World):Aj 92 #[Aa n] w0 (fun r w'=>r=.bool (decide (1≤n∧n≤8))∧Hp w0 w' [] []):=by
 refine zG Tryz.func92 Tryz.ntmps92 Y<|cR e9 ?_
 have H:=Hp.refl w0
 refine Rq<|Xa Y<|Xr e9<|Rq<|Xm Y<|OT (wM Y Y) (fun hp4=>?_) (fun hp4=>?_)
 refine Xm Y<|Ag e9<|OY Y<|Xm Y<|OY Y<|OT (tB Y Y) (fun Ua=>?_) (fun Ua=>?_)
 refine Xt Y Y<|Xa Y<|Xr e9<|J5<|Cm Y Y<|⟨bt (by omega),H.Af⟩
 refine Xt Y Y<|Xa Y<|Xr e9<|J5<|Cm Y Y<|⟨bf (by omega),H.Af⟩
 refine Xm Y<|Ag e9<|Oz 2 Y<|Xu Y Y<|Xa Y<|Xr e9<|J5<|Cm Y Y<|⟨bf (by omega),H.Af⟩
theorem UY (n:Int) (w0:World):Aj 93 #[Aa n] w0 (fun r w'=>r=.bool (decide (1≤n∧n≤4611686018427387904))∧Hp w0 w' [] []):=by
 refine zG Tryz.func93 Tryz.ntmps93 Y<|cR e9 ?_
 have H:=Hp.refl w0
 refine Rq<|Xa Y<|Xr e9<|Rq<|Xm Y<|OT (wM Y Y) (fun hp4=>?_) (fun hp4=>?_)
 refine Xm Y<|Ag e9<|OY Y<|Xm Y<|OY Y<|OT (tB Y Y) (fun Ua=>?_) (fun Ua=>?_)
 refine Xt Y Y<|Xa Y<|Xr e9<|J5<|Cm Y Y<|⟨bt (by omega),H.Af⟩
 refine Xt Y Y<|Xa Y<|Xr e9<|J5<|Cm Y Y<|⟨bf (by omega),H.Af⟩
 refine Xm Y<|Ag e9<|Oz 2 Y<|Xu Y Y<|Xa Y<|Xr e9<|J5<|Cm Y Y<|⟨bf (by omega),H.Af⟩
theorem TO (n:Int) (w0:World):Aj 172 #[Aa n] w0 (fun r w'=>r=.bool (decide (1≤n∧n < 8))∧Hp w0 w' [] []):=by
 refine zG Tryz.func172 Tryz.ntmps172 Y<|cR e9 ?_
 have H:=Hp.refl w0
 refine Rq<|Xa Y<|Xr e9<|Rq<|Xm Y<|OT (wM Y Y) (fun hp4=>?_) (fun hp4=>?_)
 refine Xm Y<|Ag e9<|OY Y<|Xm Y<|OY Y<|OT (zQ Y Y) (fun Ua=>?_) (fun Ua=>?_)
 refine Xt Y Y<|Xa Y<|Xr e9<|J5<|Cm Y Y<|⟨bt (by omega),H.Af⟩
 refine Xt Y Y<|Xa Y<|Xr e9<|J5<|Cm Y Y<|⟨bf (by omega),H.Af⟩
 refine Xm Y<|Ag e9<|Oz 2 Y<|Xu Y Y<|Xa Y<|Xr e9<|J5<|Cm Y Y<|⟨bf (by omega),H.Af⟩
theorem TN (n:Int) (w0:World):Aj 185 #[Aa n] w0 (fun r w'=>r=.bool (decide (1≤n∧n < 8))∧Hp w0 w' [] []):=by
 refine zG Tryz.func185 Tryz.ntmps185 Y<|cR e9 ?_
 have H:=Hp.refl w0
 refine Rq<|Xa Y<|Xr e9<|Rq<|Xm Y<|OT (wM Y Y) (fun hp4=>?_) (fun hp4=>?_)
 refine Xm Y<|Ag e9<|OY Y<|Xm Y<|OY Y<|OT (zQ Y Y) (fun Ua=>?_) (fun Ua=>?_)
 refine Xt Y Y<|Xa Y<|Xr e9<|J5<|Cm Y Y<|⟨bt (by omega),H.Af⟩
 refine Xt Y Y<|Xa Y<|Xr e9<|J5<|Cm Y Y<|⟨bf (by omega),H.Af⟩
 refine Xm Y<|Ag e9<|Oz 2 Y<|Xu Y Y<|Xa Y<|Xr e9<|J5<|Cm Y Y<|⟨bf (by omega),H.Af⟩
theorem G0 (a b:Bal) (w0:World):Aj 162 #[.agg [Aa a.r,Aa a.n].toArray,.agg [Aa b.r,Aa b.n].toArray] w0 (fun r w'=>r=.bool (decide (Bal.lt a b))∧Hp w0 w' [] []):=by
 refine zG Tryz.func162 Tryz.ntmps162 Y<|cR e24 ?_
 have H:=Hp.refl w0
 refine Rq<|yA Y Y H<|fun w1 g1 H1 hg1=>yA Y Y H1<|fun w2 g2 H2 hg2=>Xa Y<|Xr e24<|Rq<|Xf rD Y<|OV (EL ty3 Y (H2.cell (i:=0) Y Y))<|Xf rD Y<|OV (EL ty3 Y (H2.cell (i:=1) Y Y))<|Ag e24<|OT (zQ Y Y) (fun hp9=>?_) (fun hp9=>?_)
 refine Xm Y<|Oz 12 Y<|Ag e24<|Xt Y Y<|Xa Y<|Xr e24<|J5<|Cm Y Y<|⟨bt (by omega),H2.Af⟩
 refine Xm Y<|OY Y<|Xf rD Y<|Ag e24<|OY Y<|OV (EL ty3 Y (H2.cell (i:=0) Y Y))<|OY Y<|Xf rD Y<|Ag e24<|OY Y<|OV (EL ty3 Y (H2.cell (i:=1) Y Y))<|OY Y<|OT (xR Y Y) (fun Js=>?_) (fun Js=>?_)
 refine OY Y<|Xm Y<|Ag e24<|OY Y<|Xf qJ Y<|OY Y<|OV (EL ty3 Y (H2.cell (i:=0) Y Y))<|Ag e24<|OY Y<|Xf qJ Y<|OY Y<|OV (EL ty3 Y (H2.cell (i:=1) Y Y))<|Ag e24<|OY Y<|OT (zQ Y Y) (fun hp21=>?_) (fun hp21=>?_)
 refine OY Y<|Xt Y Y<|Xu Y Y<|Xa Y<|Xr e24<|J5<|Cm Y Y<|⟨bt (by omega),H2.Af⟩
 refine OY Y<|Xt Y Y<|Xu Y Y<|Xa Y<|Xr e24<|J5<|Cm Y Y<|⟨bf (by omega),H2.Af⟩
 refine OY Y<|Xm Y<|Ag e24<|Oz 5 Y<|Ag e24<|OY Y<|Xu Y Y<|Xu Y Y<|Xa Y<|Xr e24<|J5<|Cm Y Y<|⟨bf (by omega),H2.Af⟩
theorem O3 (a b:Bal) (w0:World):Aj 174 #[.agg [Aa a.r,Aa a.n].toArray,.agg [Aa b.r,Aa b.n].toArray] w0 (fun r w'=>r=.bool (decide (Bal.lt a b))∧Hp w0 w' [] []):=by
 refine zG Tryz.func174 Tryz.ntmps174 Y<|cR e20 ?_
 have H:=Hp.refl w0
 refine Rq<|yA Y Y H<|fun w1 g1 H1 hg1=>yA Y Y H1<|fun w2 g2 H2 hg2=>Xa Y<|Xr e20<|J1<|Rq<|Xf rD Y<|OV (EL ty3 Y (H2.cell (i:=0) Y Y))<|Xf rD Y<|OV (EL ty3 Y (H2.cell (i:=1) Y Y))<|Ag e20<|OT (yR Y Y) (fun hp9=>?_) (fun hp9=>?_)
 refine Xr e20<|J3 Y<|Rq<|Xf rD Y<|OV (EL ty3 Y (H2.cell (i:=0) Y Y))<|Xf rD Y<|OV (EL ty3 Y (H2.cell (i:=1) Y Y))<|Ag e20<|OT (zQ Y Y) (fun hp14=>?_) (fun hp14=>?_)
 refine Xa Y<|Xr e20<|J5<|Cm Y Y<|⟨bt (by omega),H2.Af⟩
 refine Xa Y<|Xr e20<|J5<|Cm Y Y<|⟨bf (by omega),H2.Af⟩
 refine Xr e20<|J4 Y<|J6<|Rq<|Xf qJ Y<|OV (EL ty3 Y (H2.cell (i:=0) Y Y))<|Xf qJ Y<|OV (EL ty3 Y (H2.cell (i:=1) Y Y))<|Ag e20<|OT (zQ Y Y) (fun hp19=>?_) (fun hp19=>?_)
 refine Xa Y<|Xr e20<|J5<|Cm Y Y<|⟨bt (by omega),H2.Af⟩
 refine Xa Y<|Xr e20<|J5<|Cm Y Y<|⟨bf (by omega),H2.Af⟩
theorem may_b (a:Bal) (n:Int) (w0:World):Aj 170 #[.agg [Aa a.r,Aa a.n].toArray,Aa n] w0 (fun r w'=>r=.bool (decide (1≤n∧n≤5∧1≤a.r∧1≤a.n∧a.n≤n))∧Hp w0 w' [] []):=by
 refine zG Tryz.func170 Tryz.ntmps170 Y<|cR e23 ?_
 have H:=Hp.refl w0
 refine Rq<|yA Y Y H<|fun w1 g1 H1 hg1=>Xa Y<|Xr e23<|Rq<|Xm Y<|OX (EC gf197 Y) (TC _ _) (fun hp6 w2 Hd=>?_) (fun hp6 w2 Hd=>?_)
 have H2:=H1.Au Hd
 refine Xm Y<|Ag e23<|OY Y<|Xf rD Y<|OY Y<|OV (EL ty3 Y (H2.cell (i:=0) Y Y))<|Ag e23<|OY Y<|OT (wM Y Y) (fun hp10=>?_) (fun hp10=>?_)
 refine Xt Y Y<|Xm Y<|Ag e23<|OY Y<|Xf qJ Y<|OY Y<|OV (EL ty3 Y (H2.cell (i:=0) Y Y))<|Ag e23<|OY Y<|OT (wM Y Y) (fun Js=>?_) (fun Js=>?_)
 refine Xt Y Y<|Xm Y<|Ag e23<|OY Y<|Xf qJ Y<|OY Y<|OV (EL ty3 Y (H2.cell (i:=0) Y Y))<|Ag e23<|OY Y<|Xm Y<|OY Y<|OT (tB Y Y) (fun hp21=>?_) (fun hp21=>?_)
 refine Xt Y Y<|Xa Y<|Xr e23<|J5<|Cm Y Y<|⟨bt (by omega),H2.Af⟩
 refine Xt Y Y<|Xa Y<|Xr e23<|J5<|Cm Y Y<|⟨bf (by omega),H2.Af⟩
 refine Xt Y Y ?_
 have m1:=()
 rotate_left 1
 refine Xt Y Y<|Xm Y<|Ag e23<|Oz 3 Y<|Ag e23<|Xu Y Y ?_
 have m1:=()
 rotate_left 1
 have H2:=H1.Au Hd
 refine Xm Y<|Ag e23<|Oz 3 Y<|Ag e23<|Xu Y Y<|Xm Y<|Ag e23<|Oz 3 Y<|Ag e23<|Xu Y Y ?_
 have m1:=()
 rotate_left 1
 any_goals
  clear m1
  refine Xm Y<|Ag e23<|Oz 4 Y<|Ag e23<|Xu Y Y<|Xa Y<|Xr e23<|J5<|Cm Y Y<|⟨bf (by omega),H2.Af⟩
theorem may9 (a:Bal) (n:Int) (w0:World):Aj 139 #[.agg [Aa a.r,Aa a.n].toArray,Aa n] w0 (fun r w'=>r=.bool (decide (1≤n∧n≤5∧1≤a.r∧1≤a.n∧a.n≤n))∧Hp w0 w' [] []):=by
 refine zG Tryz.func139 Tryz.ntmps139 Y<|cR e23 ?_
 have H:=Hp.refl w0
 refine Rq<|yA Y Y H<|fun w1 g1 H1 hg1=>Xa Y<|Xr e23<|Rq<|Xm Y<|OX (EC gf175 Y) (WG _ _) (fun hp6 w2 Hd=>?_) (fun hp6 w2 Hd=>?_)
 have H2:=H1.Au Hd
 refine Xm Y<|Ag e23<|OY Y<|Xf qJ Y<|OY Y<|OV (EL ty3 Y (H2.cell (i:=0) Y Y))<|Ag e23<|OY Y<|OT (wM Y Y) (fun hp10=>?_) (fun hp10=>?_)
 refine Xt Y Y<|Xm Y<|Ag e23<|OY Y<|Xf qJ Y<|OY Y<|OV (EL ty3 Y (H2.cell (i:=0) Y Y))<|Ag e23<|OY Y<|Xm Y<|OY Y<|OT (tB Y Y) (fun hp16=>?_) (fun hp16=>?_)
 refine Xt Y Y<|Xm Y<|Ag e23<|OY Y<|Xf rD Y<|OY Y<|OV (EL ty3 Y (H2.cell (i:=0) Y Y))<|Ag e23<|OY Y<|OT (wM Y Y) (fun hp21=>?_) (fun hp21=>?_)
 refine Xt Y Y<|Xa Y<|Xr e23<|J5<|Cm Y Y<|⟨bt (by omega),H2.Af⟩
 refine Xt Y Y<|Xa Y<|Xr e23<|J5<|Cm Y Y<|⟨bf (by omega),H2.Af⟩
 refine Xt Y Y ?_
 have m1:=()
 rotate_left 1
 refine Xt Y Y<|Xm Y<|Ag e23<|Oz 4 Y<|Ag e23<|Xu Y Y ?_
 have m1:=()
 rotate_left 1
 have H2:=H1.Au Hd
 refine Xm Y<|Ag e23<|Oz 3 Y<|Ag e23<|Xu Y Y<|Xm Y<|Ag e23<|Oz 4 Y<|Ag e23<|Xu Y Y ?_
 have m1:=()
 rotate_left 1
 any_goals
  clear m1
  refine Xm Y<|Ag e23<|Oz 3 Y<|Ag e23<|Xu Y Y<|Xa Y<|Xr e23<|J5<|Cm Y Y<|⟨bf (by omega),H2.Af⟩
theorem GS (a:Bal) (w0:World):Aj 198 #[.agg [Aa a.r,Aa a.n].toArray] w0 (fun r w'=>r=.bool (decide (1≤a.r∧1≤a.n))∧Hp w0 w' [] []):=by
 refine zG Tryz.func198 Tryz.ntmps198 Y<|cR e11 ?_
 have H:=Hp.refl w0
 refine Rq<|yA Y Y H<|fun w1 g1 H1 hg1=>Xa Y<|Xr e11<|Rq<|Xf rD Y<|OV (EL ty3 Y (H1.cell (i:=0) Y Y))<|OT (wM Y Y) (fun hp5=>?_) (fun hp5=>?_)
 refine Xm Y<|Ag e11<|OY Y<|Xf qJ Y<|OY Y<|OV (EL ty3 Y (H1.cell (i:=0) Y Y))<|Ag e11<|OY Y<|OT (wM Y Y) (fun hp9=>?_) (fun hp9=>?_)
 refine Xt Y Y<|Xa Y<|Xr e11<|J5<|Cm Y Y<|⟨bt (by omega),H1.Af⟩
 refine Xt Y Y<|Xa Y<|Xr e11<|J5<|Cm Y Y<|⟨bf (by omega),H1.Af⟩
 refine Xm Y<|Ag e11<|Oz 3 Y<|Ag e11<|Xu Y Y<|Xa Y<|Xr e11<|J5<|Cm Y Y<|⟨bf (by omega),H1.Af⟩
theorem GI (a:Bal) (w0:World):Aj 176 #[.agg [Aa a.r,Aa a.n].toArray] w0 (fun r w'=>r=.bool (decide (1≤a.r∧1≤a.n))∧Hp w0 w' [] []):=by
 refine zG Tryz.func176 Tryz.ntmps176 Y<|cR e11 ?_
 have H:=Hp.refl w0
 refine Rq<|yA Y Y H<|fun w1 g1 H1 hg1=>Xa Y<|Xr e11<|Rq<|Xf rD Y<|OV (EL ty3 Y (H1.cell (i:=0) Y Y))<|OT (wM Y Y) (fun hp5=>?_) (fun hp5=>?_)
 refine Xm Y<|Ag e11<|OY Y<|Xf qJ Y<|OY Y<|OV (EL ty3 Y (H1.cell (i:=0) Y Y))<|Ag e11<|OY Y<|OT (wM Y Y) (fun hp9=>?_) (fun hp9=>?_)
 refine Xt Y Y<|Xa Y<|Xr e11<|J5<|Cm Y Y<|⟨bt (by omega),H1.Af⟩
 refine Xt Y Y<|Xa Y<|Xr e11<|J5<|Cm Y Y<|⟨bf (by omega),H1.Af⟩
 refine Xm Y<|Ag e11<|Oz 3 Y<|Ag e11<|Xu Y Y<|Xa Y<|Xr e11<|J5<|Cm Y Y<|⟨bf (by omega),H1.Af⟩
theorem key15 (s:Blk) (w0:World):Aj 173 #[zT s] w0 (fun r w'=>r=.bool (decide (1≤s.length∧s.length≤16))∧Hp w0 w' [] []):=by
 refine zG Tryz.func173 Tryz.ntmps173 Y<|cR e11 ?_
 have H:=Hp.refl w0
 refine Rq<|Xa Y<|Xr e11<|Rq<|Xm Y<|OV (oJ Tryz.underlying9 Y)<|OT (wM Y Y) (fun hp5=>?_) (fun hp5=>?_)
 refine Xm Y<|Ag e11<|OY Y<|Xm Y<|OY Y<|OV (oJ Tryz.underlying9 Y)<|Ag e11<|OY Y<|OT (tB Y Y) (fun hp9=>?_) (fun hp9=>?_)
 refine Xt Y Y<|Xa Y<|Xr e11<|J5<|Cm Y Y<|⟨bt (by omega),H.Af⟩
 refine Xt Y Y<|Xa Y<|Xr e11<|J5<|Cm Y Y<|⟨bf (by omega),H.Af⟩
 refine Xm Y<|Ag e11<|Oz 3 Y<|Ag e11<|Xu Y Y<|Xa Y<|Xr e11<|J5<|Cm Y Y<|⟨bf (by omega),H.Af⟩
theorem U1 (a:Rt) (w0:World):Aj 153 #[.agg (Ar a).toArray] w0 (fun r w'=>r=.bool (decide (mH a))∧Hp w0 w' [] []):=by
 refine zG Tryz.func153 Tryz.ntmps153 Y<|cR e23 ?_
 have H:=Hp.refl w0
 refine Rq<|yA Y Y H<|fun w1 g1 H1 hg1=>Xa Y<|Xr e23<|Rq<|Xf qK Y<|OV (EL ty3 Y (H1.cell (i:=0) Y Y))<|OX (EC gf185 Y) (TN _ _) (fun hp5 w2 Hd=>?_) (fun hp5 w2 Hd=>?_)
 have H2:=H1.Au Hd
 refine Xm Y<|Ag e23<|OY Y<|Xf oZ Y<|OY Y<|OV (EL ty9 Y (H2.cell (i:=0) Y Y))<|Ag e23<|OY Y<|OV (oJ Tryz.underlying9 Y)<|OY Y<|OT (wM Y Y) (fun hp10=>?_) (fun hp10=>?_)
 refine Xt Y Y<|Xm Y<|Ag e23<|OY Y<|Xf oZ Y<|OY Y<|OV (EL ty9 Y (H2.cell (i:=0) Y Y))<|Ag e23<|OY Y<|OV (oJ Tryz.underlying9 Y)<|OY Y<|OT (tB Y Y) (fun hp16=>?_) (fun hp16=>?_)
 refine Xt Y Y<|Xm Y<|Ag e23<|OY Y<|Xf bX Y<|OY Y<|OV (EL ty3 Y (H2.cell (i:=0) Y Y))<|Ag e23<|OY Y<|OT (wM Y Y) (fun hp21=>?_) (fun hp21=>?_)
 refine Xt Y Y<|Xa Y<|Xr e23<|J5<|Cm Y Y<|⟨bt (by omega),H2.Af⟩
 refine Xt Y Y<|Xa Y<|Xr e23<|J5<|Cm Y Y<|⟨bf (by omega),H2.Af⟩
 refine Xt Y Y ?_
 have m1:=()
 rotate_left 1
 refine Xt Y Y<|Xm Y<|Ag e23<|Oz 4 Y<|Ag e23<|Xu Y Y ?_
 have m1:=()
 rotate_left 1
 have H2:=H1.Au Hd
 refine Xm Y<|Ag e23<|Oz 4 Y<|Ag e23<|Xu Y Y<|Xm Y<|Ag e23<|Oz 4 Y<|Ag e23<|Xu Y Y ?_
 have m1:=()
 rotate_left 1
 any_goals
  clear m1
  refine Xm Y<|Ag e23<|Oz 3 Y<|Ag e23<|Xu Y Y<|Xa Y<|Xr e23<|J5<|Cm Y Y<|⟨bf (by omega),H2.Af⟩
theorem U2 (a:Rt) (w0:World):Aj 132 #[.agg (Ar a).toArray] w0 (fun r w'=>r=.bool (decide (mH a))∧Hp w0 w' [] []):=by
 refine zG Tryz.func132 Tryz.ntmps132 Y<|cR e16 ?_
 have H:=Hp.refl w0
 refine Rq<|yA Y Y H<|fun w1 g1 H1 hg1=>Xa Y<|Xr e16<|Rq<|Xf qK Y<|OV (EL ty3 Y (H1.cell (i:=0) Y Y))<|OX (EC gf172 Y) (TO _ _) (fun hp5 w2 Hd=>?_) (fun hp5 w2 Hd=>?_)
 have H2:=H1.Au Hd
 refine Xm Y<|Ag e16<|OY Y<|Xf oZ Y<|OY Y<|OV (EL ty9 Y (H2.cell (i:=0) Y Y))<|Ag e16<|OY Y<|OX (EC gf173 Y) (key15 _ _) (fun hp9 w3 Hd=>?_) (fun hp9 w3 Hd=>?_)
 have H3:=H2.Au Hd
 refine Xt Y Y<|Xm Y<|Ag e16<|OY Y<|Xf bX Y<|OY Y<|OV (EL ty3 Y (H3.cell (i:=0) Y Y))<|Ag e16<|OY Y<|OT (wM Y Y) (fun hp14=>?_) (fun hp14=>?_)
 refine Xt Y Y<|Xa Y<|Xr e16<|J5<|Cm Y Y<|⟨bt (by omega),H3.Af⟩
 refine Xt Y Y<|Xa Y<|Xr e16<|J5<|Cm Y Y<|⟨bf (by omega),H3.Af⟩
 have H3:=H2.Au Hd
 refine Xt Y Y<|Xm Y<|Ag e16<|Oz 3 Y<|Ag e16<|Xu Y Y<|Xa Y<|Xr e16<|J5<|Cm Y Y<|⟨bf (by omega),H3.Af⟩
 have H2:=H1.Au Hd
 refine Xm Y<|Ag e16<|Oz 3 Y<|Ag e16<|Xu Y Y<|Xm Y<|Ag e16<|Oz 3 Y<|Ag e16<|Xu Y Y<|Xa Y<|Xr e16<|J5<|Cm Y Y<|⟨bf (by omega),H2.Af⟩
theorem cB (a b:Rt) (w0:World):Aj 133 #[.agg (Ar a).toArray,.agg (Ar b).toArray] w0 (fun r w'=>r=.bool (decide (Pm a b=true))∧Hp w0 w' [] []):=by
 refine zG Tryz.func133 Tryz.ntmps133 Y<|cR e24 ?_
 have H:=Hp.refl w0
 refine Rq<|yA Y Y H<|fun w1 g1 H1 hg1=>yA Y Y H1<|fun w2 g2 H2 hg2=>Xa Y<|Xr e24<|Rq<|Xf qK Y<|OV (EL ty3 Y (H2.cell (i:=0) Y Y))<|Xf qK Y<|OV (EL ty3 Y (H2.cell (i:=1) Y Y))<|Ag e24<|OT (zQ Y Y) (fun hp9=>?_) (fun hp9=>?_)
 refine Xm Y<|Oz 12 Y<|Ag e24<|Xt Y Y<|Xa Y<|Xr e24<|J5<|Cm Y Y<|⟨bt (by simp_all [Pm]),H2.Af⟩
 refine Xm Y<|OY Y<|Xf qK Y<|Ag e24<|OY Y<|OV (EL ty3 Y (H2.cell (i:=0) Y Y))<|OY Y<|Xf qK Y<|Ag e24<|OY Y<|OV (EL ty3 Y (H2.cell (i:=1) Y Y))<|OY Y<|OT (xR Y Y) (fun Js=>?_) (fun Js=>?_)
 refine OY Y<|Xm Y<|Ag e24<|OY Y<|Xf oZ Y<|OY Y<|OV (EL ty9 Y (H2.cell (i:=0) Y Y))<|Ag e24<|OY Y<|Xf oZ Y<|OY Y<|OV (EL ty9 Y (H2.cell (i:=1) Y Y))<|Ag e24<|OY Y<|OT (HT Y Y) (fun hp21=>?_) (fun hp21=>?_)
 refine OY Y<|Xt Y Y<|Xu Y Y<|Xa Y<|Xr e24<|J5<|Cm Y Y<|⟨bt (by simp_all [Pm]),H2.Af⟩
 refine OY Y<|Xt Y Y<|Xu Y Y<|Xa Y<|Xr e24<|J5<|Cm Y Y<|⟨bf (by simp_all [Pm]),H2.Af⟩
 refine OY Y<|Xm Y<|Ag e24<|Oz 5 Y<|Ag e24<|OY Y<|Xu Y Y<|Xu Y Y<|Xa Y<|Xr e24<|J5<|Cm Y Y<|⟨bf (by simp_all [Pm]),H2.Af⟩
set_option maxHeartbeats 16000000
theorem O5 (gs:Nat) (c0 c1 c2 c4:Value) (x:Int) (A3:Option Addr) (m k3:Nat) (w0:World) (hrow:w0.heap[gs]? =some (.cells [c0,c1,c2,Aa x,c4,Ac A3 m k3].toArray 97 (0,0))) (hx:-1000000000000000000≤x∧x≤1000000000000000000) (hm:m≤1000000000000000000):Aj 163 #[Ah gs] w0 (fun r w'=>r=Aa (x+m)∧Hp w0 w' [] []):=by
 refine zG Tryz.func163 Tryz.ntmps163 Y<|cR e13 ?_
 have H:=Hp.refl w0
 refine Rq<|Xa Y<|Xr e13<|J1<|zR 10 [(true,0),(true,1),(true,2),(true,3),(true,4),(true,5),(true,6),(true,7),(true,8),(true,9),(false,10)] H [] yE (by decide) (by kernel_rfl) ?_
 rintro w1 hw1
 have H1:=Hp.drew H;rw[← hw1]at H1
 refine Zm Y Y<|Zc Y Y<|Zf Y wT Y<|MP Y<|MV (fun wz hz=>EL ty3 Y (fD (hz.keep hrow (by simp)) Y))<|cZ e13<|Zm Y Y<|Zc Y Y<|Zf Y xZ Y<|MP Y<|MV (fun wz hz=>EL uY Y (fD (hz.keep hrow (by simp)) Y))<|cZ e13<|MP Y<|MV (fun wz hz=>ES Lr Y)<|MP Y<|MV (fun wz hz=>zL Y Y (Ad _ (by omega)))<|MO Y<|Xa Y<|OE<|⟨fun hne=>absurd Y hne,?_⟩
 refine cZ e13<|ME<|cR e13<|J5<|Cm Y Y<|⟨Y,H1.Af⟩
theorem fY (gs:Nat) (p:Bal) (c2 c3 c4 c5:Value) (n:Nt) (B1:Option Addr) (j1:Nat) (B2:Option Addr) (j2:Nat) (w0:World) (hrow:w0.heap[gs]? =some (.cells [Aa p.r,Aa p.n,c2,c3,c4,c5].toArray 97 (0,0))):Aj 116 #[Ah gs,.agg (Ed n B1 j1 B2 j2).toArray] w0 (fun _ w'=>Hp w0 w' [gs] [((some gs,97,[Aa (rz p n.b).r,Aa (rz p n.b).n,c2,c3,c4,c5]):Ent)]):=by
 refine zG Tryz.func116 Tryz.ntmps116 Y<|cR e16 ?_
 have H:=Hp.old hrow
 refine Rq<|yA Y Y H<|fun w1 g1 H1 hg1=>Xr e16<|J1<|zR 6 [(true,0),(true,1),(true,2),(true,3),(true,4),(true,5),(false,6)] H1 [0,1] yE (by decide) (by kernel_rfl) ?_
 rintro w2 hw2
 have H2:=Hp.drew H1;rw[← hw2]at H2
 refine Zm Y Y<|Zc Y Y<|Zf Y vZ Y<|MP Y<|MV (fun wz hz=>EN vA Y (vs:=[Aa p.r,Aa p.n]) Y (hz.Ap (i:=0) Y Y))<|cZ e16<|Zf Y iR Y<|MP Y<|MV (fun wz hz=>EN vA Y (vs:=[Aa n.b.r,Aa n.b.n]) Y (hz.Ap (i:=1) Y Y))<|MO Y<|OX (EC PO Y) (G0 _ _ _) (fun hp10 w3 Hd=>?_) (fun hp10 w3 Hd=>?_)
 have H3:=H2.Au Hd
 refine OE ?_
 refine⟨fun hne=>absurd Y hne,?_⟩
 refine ME<|cR e16<|J3 Y<|J2<|Xm Y<|Xf iR Y<|OV (EN vA Y (vs:=[Aa n.b.r,Aa n.b.n]) Y (H3.Ap (i:=1) Y Y))<|Xc Y<|Ag e16<|Xf vZ Y<|OS vA H3 0 Y Y Y Y Y (by first|exact NL Y|simp[zJ]) Y<|fun w4 H4=>Xr e16<|zA<|yQ Y ?_
 unfold rz
 rw[if_pos hp10]
 exact H4.pick [0] (by decide)
 have H3:=H2.Au Hd
 refine OE ?_
 refine⟨fun hne=>absurd Y hne,?_⟩
 refine ME<|cR e16<|J4 Y<|J6<|zA<|yQ Y ?_
 unfold rz
 rw[if_neg hp10]
 exact H3.pick [0] (by decide)
theorem fE (A:Option Addr) (k:Nat) (l:List Vt) (n:Int) (ok:Nat→Prop) (w0:World) (hl:Sl (Oe w0 ok) 4 w0 ok A l) (hn:l.length≤1099511627776):Aj 167 #[Ac A l.length k,Aa n] w0 (fun r w'=>∃ A' k',r=Ac A' (vR l n).length k'∧Sl (Oe w' (up ok w0.heap.size)) 4 w' (up ok w0.heap.size) A' (vR l n)∧Hp w0 w' [] []):=by
 refine zG Tryz.func167 Tryz.ntmps167 Y<|cR e9 ?_
 have H:=Hp.refl w0
 obtain⟨ps,hp,hr,ha,h2⟩:=hl
 have hlen:=h2.len
 have hon:=h2.ones fun _ _ h=>h.ones
 refine Rq<|yA Y Y H<|fun w1 gc H1 hgc=>Xa Y<|Xr e9<|Rq<|Xm Y<|OQ (EC WW Y) (HU A l.length k ps.flatten _ (hr.to0 H1) (xI hon) (by omega)) ?_
 rintro _ w2 ⟨g,cap,sp,rfl,hgn,hcz,hg0,Hc⟩
 have hgf:=wQ (ok:=ok) Hc (i:=0) rfl (fun _ h=>by cases h)
 have hsz1:=H1.size
 have H2:=H1.call0 Hc
 refine OV (wL Y Y) ?_
 have hgcx:=H2.at (i:=0) rfl
 refine OQ (EC gf194 Y) (UA g cap l.length ps hlen sp 195 gc (Jl n) _ (H2.pick [1] (by decide)).here hp hon (by omega) (by omega) hcz (YJ h2 hgcx Y) (Fa H2 (i:=0) (is:=[1]) Y (by decide))) ?_
 rintro _ w3 ⟨sp2,rfl,hl2,Hd⟩
 have H3:=H2.Du [1] rfl Hd
 refine Ag e9<|Xa Y<|Xr e9<|J5<|Cm Y Y ?_
 have hf:=h2.filter (f:=fun p=>!Jl n p) (g:=fun x=>!decide (x.slot≤n)) fun p x h=>by rw[IM h]
 rw[MB]at hf
 rw[hf.len]
 refine⟨_,cap,Y,Sl.row H3 (i:=2) Y (hp.sub fun x hx=>(Dz.1 hx).1) (by decide) (hf.imp fun p x h=>h.to H3 vG) (fun b hb=>?_),H3.Af⟩
 rcases hgf b hb with h | h
 exact .inl h
 exact .inr (by omega)
theorem VZ (gs:Nat) (s:Sv) (A1:Option Addr) (k1:Nat) (A2:Option Addr) (k2:Nat) (A3:Option Addr) (k3:Nat) (n:Nt) (B1:Option Addr) (j1:Nat) (B2:Option Addr) (j2:Nat) (Ul:Nat→Prop) (w0:World) (hrow:w0.heap[gs]? =some (.cells (Bv s A1 k1 A2 k2 A3 k3).toArray 97 (0,0))) (ok:Nat→Prop) (hok:¬ok gs) (hv1:Sl (Oe w0 ok) 4 w0 ok A1 s.Bc) (hv2:Bs w0 ok A2 s.image) (hv3:Sl (Qp w0 ok) 2 w0 ok A3 s.entries) (YQ:¬Ul gs) (hb:Bs w0 Ul B1 n.Eh.val) (hrise:dG (fun x:Vt=>sN x.slot n.Eh.slot) s.Bc) (hvl:s.Bc.length≤1000) (hi:0≤s.index∧s.index≤1099511627776) (he:s.entries.length≤1099511627776):Aj 117 #[Ah gs,.agg (Ed n B1 j1 B2 j2).toArray] w0 (fun _ w'=>∃ cs',Hp w0 w' [gs] [((some gs,97,cs'):Ent)]∧Qz w' (up ok w0.heap.size) cs' (if n.Eh.slot≤s.last then s else({ s with Bc:=Jy s.Bc n.Eh }:Sv).raise n.Eh.b)):=by
 refine zG Tryz.func117 Tryz.ntmps117 Y<|cR e53 ?_
 have H:=Hp.old hrow
 have hks:=KT (n:=w0.heap.size) (ok:=ok) (S:=[gs]) fun x hx hg=>hok (by rw[← Az.1 hg];exact hx)
 have hkn:∀ x,Ul x→x < w0.heap.size→x∉[gs]∧Ul x:=fun x hx _=>⟨fun hg=>YQ (by rw[← Az.1 hg];exact hx),hx⟩
 obtain⟨ps,hp,hr,ha,h2⟩:=id hv1
 have hlen:=h2.len
 have hon:=h2.ones fun _ _ h=>h.ones
 refine Rq<|yA Y Y H<|fun w1 g1 H1 hg1=>Xr e53<|Rq<|Xf oX Y<|OV (EN xE Y (vs:=Jt n B1 j1) Y (H1.Ap (i:=1) Y Y))<|OA xE H1<|fun w2 g2 H2 hg2=>OS xE H2 2 Y Y Y Y Y (by first|exact NL Y|simp[zJ]) Y<|fun w3 H3=>Xr e53<|J1<|J1<|zR 4 [(true,0),(true,1),(true,2),(false,3),(false,4)] H3 [0,1,2] yE (by decide) (by kernel_rfl) ?_
 rintro w4 hw4
 have H4:=Hp.drew H3;rw[← hw4]at H4
 refine Zf Y vF Y<|MP Y<|MV (fun wz hz=>EL ty3 Y (hz.cell (i:=2) Y Y))<|Zm Y Y<|MO Y<|OC (EC U8 Y) (O5 gs _ _ _ _ s.index A3 s.entries.length k3 _ (H4.at (i:=0) Y) ⟨by omega,by omega⟩ (by omega))<|fun w5 Hd=>have H5:=H4.Au Hd;OE<|⟨fun hne=>H5.pick [0,1,2] (by decide),?_⟩
 refine cZ e53<|MO Y<|OT (tB Y Y) (fun hp14=>?_) (fun hp14=>?_)
 refine OE ?_
 refine⟨fun hne=>absurd Y hne,?_⟩
 refine ME<|cR e53<|J3 Y<|J5<|rW Y ?_
 rw[if_pos (by unfold Sv.last;exact hp14)]
 exact⟨_,H5.pick [0] (by decide),A1,k1,A2,k2,A3,k3,Y,hv1.Qn H5 hks,hv2.to H5 hks,hv3.Tt H5 hks⟩
 refine OE ?_
 refine⟨fun hne=>absurd Y hne,?_⟩
 refine ME<|cR e53<|J4 Y<|J6<|Rq<|Xf rC Y<|OV (EL xO Y (H5.cell (i:=2) Y Y))<|yZ (EC jR Y) (vO B1 n.Eh.val j1 _ (hb.to H5 hkn).1 (by have:=hb.2.2;omega))<|fun w6 gb cb sb hmb hcb hgb Hc=>have H6:=H5.call0 Hc;Xf rC Y<|Ag e53<|OW xO H6 2 Y Y Y Y (by first|exact NL Y|simp[zJ]) Y<|fun w7 H7=>Xr e53<|J1<|zR 11 [(true,0),(true,1),(true,2),(true,3),(true,4),(true,5),(false,6),(true,7),(true,8),(true,9),(true,10),(false,11)] H7 [0,1,2,3] yE (by decide) (by kernel_rfl) ?_
 rintro w8 hw8
 have H8:=Hp.drew H7;rw[← hw8]at H8
 refine Zm Y Y<|Zc Y Y<|Zf Y xW Y<|MP Y<|MV (fun wz hz=>EL uP Y (hz.cell (i:=0) Y Y))<|cZ e53<|Zf Y vF Y<|MP Y<|MV (fun wz hz=>EL ty3 Y (hz.cell (i:=2) Y Y))<|MO Y<|OQ (EC gf164 Y) (QU A1 k1 ps s.Bc.length hlen 165 n.Eh.slot (VY n.Eh.slot) _ hp (by rw[hlen];exact(hr.move (by decide) ha H8 hks).1) (by omega) (QQ h2 hrise)) ?_
 rintro _ w9 ⟨i,f,rfl,hfd,Hd⟩
 have H9:=H8.Au Hd
 refine OE ?_
 refine⟨fun hne=>H9.pick [0,1,2,3] (by decide),?_⟩
 refine cZ e53<|Zm Y Y<|MP Y<|MV (fun wz hz=>xF Y Y)<|MP Y<|MV (fun wz hz=>xF Y Y)<|MP Y<|MV (fun wz hz=>zO Y)<|cZ e53<|MO Y<|Xa Y<|OE<|⟨fun hne=>absurd Y hne,?_⟩
 refine cZ e53<|ME<|cR e53<|Rq<|Xm Y<|Xc Y<|Xf xW Y<|OV (EL uP Y (H9.cell (i:=0) Y Y))<|Ag e53<|OQ (EC WW Y) (HU A1 s.Bc.length k1 ps.flatten _ (hr.move (by decide) ha H9 hks).1 (xI hon) (by omega)) ?_
 rintro _ Uf ⟨gv,cv,sv,rfl,hmv,hcv,Si,Hc⟩
 have Ip:=H9.call0 Hc
 refine Xa Y<|Xr e53<|J1<|Rq<|Xm Y<|Xr e53<|wU Y (fun hb34=>?_) (fun hb34=>?_)
 obtain⟨pi,hpi,_⟩:=hfd.yes hb34
 have hil:=lt_of_get hpi
 obtain⟨gw,rfl⟩:=vK Ip (i:=4) rfl (by rw[Ae,hp.len];omega)
 subst hb34
 refine J2<|Xm Y<|Xm Y<|OV (EN xE Y (vs:=Jt n (hd gb) cb) Y (Ip.Ap (i:=2) Y Y))<|OV (uR Jd xE Y Y Y (by omega))<|Ag e53<|OS xE Ip 4 Y Y Y Y Y (by rw[Ae,hp.len];show 0+i*4+4≤_;omega) Y<|fun w10 Df=>?_
 rw[nX (sz:=4) (vs:=Jt n (hd gb) cb) hp hil rfl]at Df
 replace Df:=Df.pick [0,1,2,3,4] (by decide)
 refine Xr e53<|Rq<|Xm Y<|Xm Y<|Xc Y<|Xf xW Y<|Ag e53<|OW uP Df 0 Y Y Y Y (by simp) Y<|fun w12 Fj=>Xr e53<|J2<|Xm Y<|Xf sH Y<|OV (EN vA Y (vs:=[Aa n.Eh.b.r,Aa n.Eh.b.n]) Y (Fj.Ap (i:=2) Y Y))<|OV (EB xH oA Y Y)<|Ag e53<|OQ (EC PP Y) (fY gs s.p _ _ _ _ ⟨0,0,n.Eh.b,⟨0,⟨0,0⟩,[]⟩,⟨0,[]⟩,⟨0,[],0,0⟩,0,0⟩ none 0 none 0 _ (Fj.at (i:=0) Y)) ?_
 rintro r Oa Hd
 have Ei:=(Fj.Du [0] rfl Hd).pick [5,1,2,3,4] (by decide)
 refine Xr e53<|zA<|yQ Y ?_
 rw[if_neg (by unfold Sv.last;exact hp14)]
 have HZ:=Ei
 have Rl:=wQ (ok:=ok) HZ (i:=3) rfl (fun b hb=>by rw[Az.1 hb];exact fun e=>HZ.ne (i:=3) (j:=0) (g:=gs) (by rw[e];rfl) rfl (by decide) rfl)
 have hgv2:=wQ (ok:=ok) HZ (i:=4) rfl (fun b hb=>by rw[Az.1 hb];exact fun e=>HZ.ne (i:=4) (j:=0) (g:=gs) (by rw[e];rfl) rfl (by decide) rfl)
 have hnew:Oe Oa (up ok w0.heap.size) (Jt n (hd gb) cb) n.Eh:=⟨hd gb,cb,rfl,Bs.row HZ (i:=3) rfl hb.2.2 Rl⟩
 have hold:=h2.imp (R':=Oe Oa (up ok w0.heap.size)) fun p x h=>h.to HZ hks
 have hput:=hfd.put (v:=n.Eh) h2 (fun p x h=>BX h) hrise
 rw[← D8]at hput
 rw[nJ,hput]
 rw[if_pos rfl]
 have hset:=hold.set i hnew
 refine⟨_,HZ.pick [0] (by decide),hd (some gw),cv,A2,k2,A3,k3,by rw[Kt],?_,hv2.to HZ hks,hv3.Tt HZ hks⟩
 exact Sl.row HZ (i:=4) Y (hp.Ru Y) (by decide) hset hgv2
 subst hb34
 refine J2<|Xm Y<|Xm Y<|OV (EN xE Y (vs:=Jt n (hd gb) cb) Y (Ip.Ap (i:=2) Y Y))<|zE Jd xE Ip Y (by decide) Y<|fun w10 g11 Df hg11=>Ag e53<|OQ (EC gf166 Y) (TK gv cv i _ s.Bc.length ps hlen (Jt n (hd gb) cb) sv _ (Df.pick [4] (by decide)).here hp hon (by omega) hcv Si hfd.le (Df.at (i:=5) Y) Y Y (Fa Df (i:=5) (is:=[4]) Y (by decide)) (by omega)) ?_
 rintro _ w12 ⟨gw,cw,sw,rfl,hnw,hcw,hgw,Hd⟩
 rw[hlen]
 have Fj:=(Df.Du [4] rfl Hd).pick [0,1,2,3,6] (by decide)
 refine Xa Y<|Xr e53<|Rq<|Xm Y<|Xm Y<|Xc Y<|Xf xW Y<|Ag e53<|OW uP Fj 0 Y Y Y Y (by simp) Y<|fun Oa Ei=>Xr e53<|J2<|Xm Y<|Xf sH Y<|OV (EN vA Y (vs:=[Aa n.Eh.b.r,Aa n.Eh.b.n]) Y (Ei.Ap (i:=2) Y Y))<|OV (EB xH oA Y Y)<|Ag e53<|OQ (EC PP Y) (fY gs s.p _ _ _ _ ⟨0,0,n.Eh.b,⟨0,⟨0,0⟩,[]⟩,⟨0,[]⟩,⟨0,[],0,0⟩,0,0⟩ none 0 none 0 _ (Ei.at (i:=0) Y)) ?_
 rintro r Vu Hd
 have Ny:=(Ei.Du [0] rfl Hd).pick [5,1,2,3,4] (by decide)
 refine Xr e53<|zA<|yQ Y ?_
 rw[if_neg (by unfold Sv.last;exact hp14)]
 have HZ:=Ny
 have Rl:=wQ (ok:=ok) HZ (i:=3) rfl (fun b hb=>by rw[Az.1 hb];exact fun e=>HZ.ne (i:=3) (j:=0) (g:=gs) (by rw[e];rfl) rfl (by decide) rfl)
 have hgv2:=wQ (ok:=ok) HZ (i:=4) rfl (fun b hb=>by rw[Az.1 hb];exact fun e=>HZ.ne (i:=4) (j:=0) (g:=gs) (by rw[e];rfl) rfl (by decide) rfl)
 have hnew:Oe Vu (up ok w0.heap.size) (Jt n (hd gb) cb) n.Eh:=⟨hd gb,cb,rfl,Bs.row HZ (i:=3) rfl hb.2.2 Rl⟩
 have hold:=h2.imp (R':=Oe Vu (up ok w0.heap.size)) fun p x h=>h.to HZ hks
 have hput:=hfd.put (v:=n.Eh) h2 (fun p x h=>BX h) hrise
 rw[← D8]at hput
 rw[nJ,hput]
 rw[if_neg (by decide)]
 have hle:=hfd.le
 have hil3:(s.Bc.take i++n.Eh::s.Bc.drop i).length=s.Bc.length+1:=by rw[Ae,Bj,Aw,Bl];omega
 refine⟨_,HZ.pick [0] (by decide),hd gw,cw,A2,k2,A3,k3,by rw[hil3],?_,hv2.to HZ hks,hv3.Tt HZ hks⟩
 exact Sl.row HZ (i:=4) Y ((hp.sub fun x hx=>Gg hx).app fun x hx=>by
  rcases Cj.1 hx with rfl | hx
  · rfl
  exact hp x (Es hx)) (by decide) ((hold.take i).app ⟨hnew,hold.drop i⟩) hgv2
theorem T7 (gs:Nat) (s:Sv) (A1:Option Addr) (k1:Nat) (A2:Option Addr) (k2:Nat) (A3:Option Addr) (k3:Nat) (n:Nt) (B1:Option Addr) (j1:Nat) (B2:Option Addr) (j2:Nat) (Ul:Nat→Prop) (w0:World) (hrow:w0.heap[gs]? =some (.cells (Bv s A1 k1 A2 k2 A3 k3).toArray 97 (0,0))) (ok:Nat→Prop) (hok:¬ok gs) (hv1:Sl (Oe w0 ok) 4 w0 ok A1 s.Bc) (hv2:Bs w0 ok A2 s.image) (hv3:Sl (Qp w0 ok) 2 w0 ok A3 s.entries) (YQ:¬Ul gs) (hb:Bs w0 Ul B2 n.entry.val) (hvl:s.Bc.length≤1000) (hi:0≤s.index∧s.index≤1099511627776) (he:s.entries.length≤1099511627776):Aj 118 #[Ah gs,.agg (Ed n B1 j1 B2 j2).toArray] w0 (fun _ w'=>∃ cs',Hp w0 w' [gs] [((some gs,97,cs'):Ent)]∧Qz w' (up ok w0.heap.size) cs' (if n.entry.slot=s.last+1 then { s with entries:=s.entries++[n.entry],Bc:=vR s.Bc n.entry.slot } else s)):=by
 refine zG Tryz.func118 Tryz.ntmps118 Y<|cR e38 ?_
 have H:=Hp.old hrow
 have hks:=KT (n:=w0.heap.size) (ok:=ok) (S:=[gs]) fun x hx hg=>hok (by rw[← Az.1 hg];exact hx)
 have hkn:∀ x,Ul x→x < w0.heap.size→x∉[gs]∧Ul x:=fun x hx _=>⟨fun hg=>YQ (by rw[← Az.1 hg];exact hx),hx⟩
 obtain⟨pe,hpe,hre,hae,he2⟩:=id hv3
 have hel:=he2.len
 have hon:=he2.ones fun _ _ h=>h.ones
 have hkB:∀ x,ok x→x < w0.heap.size→x∉[gs]∧(ok x∧x < w0.heap.size):=fun x hx hl=>⟨(hks x hx hl).1,hx,hl⟩
 refine Rq<|yA Y Y H<|fun w1 g1 H1 hg1=>Xr e38<|Rq<|Xf uF Y<|OV (EN wE Y (vs:=Ie n B2 j2) Y (H1.Ap (i:=1) Y Y))<|OA wE H1<|fun w2 g2 H2 hg2=>OS wE H2 2 Y Y Y Y Y (by first|exact NL Y|simp[zJ]) Y<|fun w3 H3=>Xr e38<|J1<|J1<|zR 5 [(true,0),(true,1),(true,2),(false,3),(true,4),(false,5)] H3 [0,1,2] yE (by decide) (by kernel_rfl) ?_
 rintro w4 hw4
 have H4:=Hp.drew H3;rw[← hw4]at H4
 refine Zf Y wF Y<|MP Y<|MV (fun wz hz=>EL ty3 Y (hz.cell (i:=2) Y Y))<|Zm Y Y<|MO Y<|OC (EC U8 Y) (O5 gs _ _ _ _ s.index A3 s.entries.length k3 _ (H4.at (i:=0) Y) ⟨by omega,by omega⟩ (by omega))<|fun w5 Hd=>have H5:=H4.Au Hd;OE<|⟨fun hne=>H5.pick [0,1,2] (by decide),?_⟩
 refine cZ e38<|MP Y<|MV (fun wz hz=>zL Y Y (Ad _ (by omega)))<|MO Y<|OT (yR Y Y) (fun Pg=>?_) (fun Pg=>?_)
 refine OE ?_
 refine⟨fun hne=>absurd Y hne,?_⟩
 refine ME<|cR e38<|J3 Y<|J5<|rW Y ?_
 rw[if_neg (by unfold Sv.last;exact Pg)]
 exact⟨_,H5.pick [0] (by decide),A1,k1,A2,k2,A3,k3,Y,hv1.Qn H5 hks,hv2.to H5 hks,hv3.Tt H5 hks⟩
 refine OE ?_
 refine⟨fun hne=>absurd Y hne,?_⟩
 refine ME<|cR e38<|J4 Y<|J6<|Rq<|Xf uU Y<|OV (EL xO Y (H5.cell (i:=2) Y Y))<|yZ (EC jR Y) (vO B2 n.entry.val j2 _ (hb.to H5 hkn).1 (by have:=hb.2.2;omega))<|fun w6 gb cb sb hmb hcb hgb Hc=>have H6:=H5.call0 Hc;Xf uU Y<|Ag e38<|OW xO H6 2 Y Y Y Y (by first|exact NL Y|simp[zJ]) Y<|fun w7 H7=>Xr e38<|J1<|rT 11 (.p 0 (.p 1 (.p 2 (.p 3 (.p 4 (.p 6 (.two 5 (.o 7 (.o 8 (.p 9 (.p 10 (.o 11 .nil))))) 7 (.o 5 (.o 8 (.p 9 (.p 10 (.o 11 .nil)))))))))))) H7 [0,1,2,3] yE (by decide) (by kernel_rfl) ?_
 rintro w8 hw8
 have H8:=Hp.drew H7;rw[← hw8]at H8
 refine Tm Y Y<|Tm Y Y<|TP Y<|MV (fun wz hz=>yJ Y)<|Tf Y xZ Y<|cT e38<|TP Y<|MV (fun wz hz=>EL uY Y (hz.cell (i:=0) Y Y))<|TP Y<|MV (fun wz hz=>EN wE Y (vs:=Ie n (hd gb) cb) Y (hz.Ap (i:=2) Y Y))<|sD ?_ ?_
 refine TQ Y<|OQ (EC TR Y) (C8 A3 s.entries.length k3 pe.flatten _ (hre.move (by decide) hae H8 hks).1 (xI hon) (by omega)) ?_
 rintro _ w9 ⟨ge,ce,se,rfl,hme,hce,hge0,Hc⟩
 have H9:=H8.call0 Hc
 refine OE ?_
 refine⟨fun hne=>H9.pick [0,1,2,3] (by decide),?_⟩
 refine cT e38<|TQ Y<|zE Lr wE H9 Y (by decide) Y<|fun Oa g10 Ei hg10=>have m1:=();?_
 rotate_left 1
 refine TQ Y<|zE Lr wE H8 Y (by decide) Y<|fun w9 g9 H9 hg9=>OE<|⟨fun hne=>H9.pick [0,1,2,3] (by decide),?_⟩
 refine cT e38<|TQ Y<|OQ (EC TR Y) (C8 A3 s.entries.length k3 pe.flatten _ (hre.move (by decide) hae H9 hks).1 (xI hon) (by omega)) ?_
 rintro _ Oa ⟨ge,ce,se,rfl,hme,hce,hge0,Hc⟩
 have Ei:=(H9.call0 Hc).pick [0,1,2,3,5,4] (by decide)
 have m1:=()
 rotate_left 1
 any_goals
  clear m1
  refine OE ?_
  refine⟨fun hne=>Ei.pick [0,1,2,3] (by decide),?_⟩
  refine cT e38<|TQ Y<|xC Lr wE (by decide) Ei 4 (g:=ge) (n:=s.entries.length) (xs:=pe.flatten) (sp:=se) Y Y (by rw[hpe.len,hel]) hce hme hge0 Y (Ei.rd (i:=5) (o:=some _) (xs:=((Ie n (hd gb) cb):List Value)) (sp:=[]) Y Y (by decide)) Y (by omega) (by omega) (by decide)<|fun Vu gw cw sw Ny hcw hmw hgw=>OE<|⟨fun hne=>Ny.pick [0,1,2,3] (by decide),?_⟩
  refine cT e38<|TP Y<|MV (fun wz hz=>yJ Y)<|Tf Y xZ Y<|TQ Y<|OW uY Ny 0 Y Y Y Y (by first|exact NL Y|simp[zJ]) Y<|fun YX Ph=>OE<|⟨fun hne=>absurd Y hne,?_⟩
  refine cT e38<|tH<|cR e38<|zR 10 [(true,0),(true,1),(true,2),(true,3),(true,4),(true,5),(true,6),(false,7),(true,8),(true,9),(false,10)] Ph [0,1,2,3,4,5] yE (by decide) (by kernel_rfl) ?_
  rintro w10 Me
  have Df:=Hp.drew Ph;rw[← Me]at Df
  refine Zm Y Y<|Zm Y Y<|Zc Y Y<|Zf Y xW Y<|cZ e38<|MP Y<|MV (fun wz hz=>EL uP Y (hz.cell (i:=0) Y Y))<|Zf Y wF Y<|MP Y<|MV (fun wz hz=>EL ty3 Y (hz.cell (i:=2) Y Y))<|MO Y<|OQ (EC JF Y) (fE A1 k1 s.Bc n.entry.slot (fun x=>ok x∧x < w0.heap.size) _ (hv1.Qn Df hkB) (by omega)) ?_
  rintro _ Uf ⟨A9,k9,rfl,Ry,Hd⟩
  have hsz9:=Df.size
  have YR:=fun x hx=>oM Df (b:=x) hx
  have Ip:=Df.Au Hd
  have YL:=bl_place Ip
  refine OE ?_
  refine⟨fun hne=>Ip.pick [0,1,2,3,4,5] (by decide),?_⟩
  refine cZ e38<|Zc Y Y<|Zf Y xW Y<|MO Y ?_
  have HB:=Ip
  have HL:=HB.here
  refine OW uP HL 0 Y Y Y Y (by first | (simp;done) | simp[zJ]) Y<|fun w12 Fj=>have HW:=HB.all Fj;?_
  have Ry:=Ry.Qn (ok':=up ok w0.heap.size) Fj (fun x hx hl=>?_)
  rotate_left
  rcases hx with hx | hx
  refine⟨fun hb=>?_,.inl hx.1⟩
  rcases YL x hb with h | h
  exact(hks x hx.1 hx.2).1 h
  have:=hx.2;omega
  exact⟨fun hb=>by have:=YR x hb;omega,.inr (by omega)⟩
  refine OE ?_
  refine⟨fun hne=>absurd Y hne,?_⟩
  refine cZ e38<|ME<|cR e38<|zA<|yQ Y ?_
  rw[if_pos (by unfold Sv.last;omega)]
  have Rl:=wQ (ok:=ok) HW (i:=3) rfl (fun b hb=>by rw[Az.1 hb];exact fun e=>HW.ne (i:=3) (j:=0) (g:=gs) (by rw[e];rfl) rfl (by decide) rfl)
  have hgw2:=wQ (ok:=ok) HW (i:=4) rfl (fun b hb=>by rw[Az.1 hb];exact fun e=>HW.ne (i:=4) (j:=0) (g:=gs) (by rw[e];rfl) rfl (by decide) rfl)
  have hnew:Qp w12 (up ok w0.heap.size) ((Ie n (hd gb) cb):List Value) n.entry:=⟨hd gb,cb,rfl,Bs.row HW (i:=3) rfl hb.2.2 Rl⟩
  have hold:=he2.imp (R':=Qp w12 (up ok w0.heap.size)) fun p x h=>h.to HW hks
  have hfl:pe.flatten++((Ie n (hd gb) cb):List Value)=(pe++[((Ie n (hd gb) cb):List Value)]).flatten:=by rw[Kr];simp
  refine⟨_,HW.pick [0] (by decide),A9,k9,A2,k2,hd gw,cw,by rw[Ae];rfl,Ry,hv2.to HW hks,?_⟩
  exact Sl.row HW (i:=4) (by rw[← hfl];rfl) (hpe.app (Pl.one Y)) (by decide) (hold.app (wC.one hnew)) hgw2
theorem TM (gs:Nat) (s:Sv) (A1:Option Addr) (k1:Nat) (A2:Option Addr) (k2:Nat) (A3:Option Addr) (k3:Nat) (n:Nt) (B1:Option Addr) (j1:Nat) (B2:Option Addr) (j2:Nat) (Ul:Nat→Prop) (w0:World) (hrow:w0.heap[gs]? =some (.cells (Bv s A1 k1 A2 k2 A3 k3).toArray 97 (0,0))) (ok:Nat→Prop) (hok:¬ok gs) (hv1:Sl (Oe w0 ok) 4 w0 ok A1 s.Bc) (hv2:Bs w0 ok A2 s.image) (hv3:Sl (Qp w0 ok) 2 w0 ok A3 s.entries) (YQ:¬Ul gs) (hb:Bs w0 Ul B2 n.entry.val) (hvl:s.Bc.length≤1000) (hes:∀ x∈s.entries,x.slot≤1099511627776) (hi:0≤s.index∧s.index≤1099511627776) (he:s.entries.length≤1099511627776):Aj 119 #[Ah gs,.agg (Ed n B1 j1 B2 j2).toArray] w0 (fun _ w'=>∃ cs',Hp w0 w' [gs] [((some gs,97,cs'):Ent)]∧Qz w' (up ok w0.heap.size) cs' (if n.entry.slot≤s.index then s else { s with index:=n.entry.slot,image:=n.entry.val,entries:=rM s.entries n.entry.slot,Bc:=vR s.Bc n.entry.slot })):=by
 refine zG Tryz.func119 Tryz.ntmps119 Y<|cR Np ?_
 have H:=Hp.old hrow
 have hks:=KT (n:=w0.heap.size) (ok:=ok) (S:=[gs]) fun x hx hg=>hok (by rw[← Az.1 hg];exact hx)
 have hkn:∀ x,Ul x→x < w0.heap.size→x∉[gs]∧Ul x:=fun x hx _=>⟨fun hg=>YQ (by rw[← Az.1 hg];exact hx),hx⟩
 obtain⟨pe,hpe,hre,hae,he2⟩:=id hv3
 have hel:=he2.len
 have hon:=he2.ones fun _ _ h=>h.ones
 have hkB:∀ x,ok x→x < w0.heap.size→x∉[gs]∧(ok x∧x < w0.heap.size):=fun x hx hl=>⟨(hks x hx hl).1,hx,hl⟩
 refine Rq<|yA Y Y H<|fun w1 g1 H1 hg1=>Xr Np<|Rq<|Xf uF Y<|OV (EN wE Y (vs:=Ie n B2 j2) Y (H1.Ap (i:=1) Y Y))<|OA wE H1<|fun w2 g2 H2 hg2=>OS wE H2 2 Y Y Y Y Y (by first|exact NL Y|simp[zJ]) Y<|fun w3 H3=>Xr Np<|J1<|J1<|zR 6 [(true,0),(true,1),(true,2),(true,3),(true,4),(true,5),(false,6)] H3 [0,1,2] yE (by decide) (by kernel_rfl) ?_
 rintro w4 hw4
 have H4:=Hp.drew H3;rw[← hw4]at H4
 refine Zf Y wF Y<|MP Y<|MV (fun wz hz=>EL ty3 Y (hz.cell (i:=2) Y Y))<|Zm Y Y<|Zc Y Y<|cZ Np<|Zf Y wT Y<|MP Y<|MV (fun wz hz=>EL ty3 Y (hz.cell (i:=0) Y Y))<|MO Y<|OT (tB Y Y) (fun Pj=>?_) (fun Pj=>?_)
 refine OE ?_
 refine⟨fun hne=>absurd Y hne,?_⟩
 refine ME<|cR Np<|J3 Y<|J5<|rW Y ?_
 rw[if_pos Pj]
 exact⟨_,H4.pick [0] (by decide),A1,k1,A2,k2,A3,k3,Y,hv1.Qn H4 hks,hv2.to H4 hks,hv3.Tt H4 hks⟩
 refine OE ?_
 refine⟨fun hne=>absurd Y hne,?_⟩
 refine ME<|cR Np<|J4 Y<|J6<|Rq<|Xm Y<|Xm Y<|Xc Y<|Xf xZ Y<|Ag Np<|OV (EL uY Y (H4.cell (i:=0) Y Y))<|OQ (EC TR Y) (C8 A3 s.entries.length k3 pe.flatten _ (hre.move (by decide) hae H4 hks).1 (xI hon) (by omega)) ?_
 rintro _ w5 ⟨ge,ce,se,rfl,hme,hce,hge0,Hc⟩
 have H5:=H4.call0 Hc
 refine OV (wL Y Y)<|OQ (EC gf168 Y) (UB ge ce s.entries.length pe hel se 169 _ (Jl n.entry.slot) _ (H5.pick [3] (by decide)).here hpe hon (by omega) (by omega) hce (Yd he2 (H5.at (i:=2) Y) Y) (Fa H5 (i:=2) (is:=[3]) Y (by decide))) ?_
 rintro _ w6 ⟨se2,rfl,hl2,Hd⟩
 have H6:=(H5.Du [3] rfl Hd).pick [0,1,2,4] (by decide)
 have HI:=H6
 have hef:=he2.filter (f:=fun p=>!Jl n.entry.slot p) (g:=fun x=>decide (n.entry.slot < x.slot)) (fun p x h=>by
  rw[JU h]
  by_cases hx:x.slot≤n.entry.slot
  · rw[decide_eq_true hx,decide_eq_false (by omega)];rfl
  rw[decide_eq_false hx,decide_eq_true (by omega)];rfl)
 have hefl:=hef.len
 have hpf:Pl 2 (pe.filter fun p=>!Jl n.entry.slot p):=hpe.sub fun x hx=>(Dz.1 hx).1
 refine Ag Np<|Xc Y<|Xf xZ Y<|OW uY H6 0 Y Y Y Y (by first | (simp;done) | simp[zJ]) Y<|fun w7 H7=>Xr Np<|J1<|J1<|zR 18 [(true,0),(true,1),(true,2),(true,3),(true,4),(true,5),(true,6),(true,7),(true,8),(true,9),(true,10),(true,11),(true,12),(true,13),(true,14),(true,15),(true,16),(true,17),(false,18)] H7 [0,1,2,3] yE (by decide) (by kernel_rfl) ?_
 rintro w8 hw8
 have H8:=Hp.drew H7;rw[← hw8]at H8
 refine Zm Y Y<|Zc Y Y<|Zf Y xZ Y<|MP Y<|MV (fun wz hz=>EL uY Y (hz.cell (i:=0) Y Y))<|cZ Np<|MP Y<|MV (fun wz hz=>ES Lr Y)<|MP Y<|vS (fun wz hz=>yS Y Y) (fun YP=>?_) (fun YP=>?_)
 obtain⟨p0,hp0⟩:=yL (l:=(pe.filter fun p=>!Jl n.entry.slot p)) (j:=0) (by omega)
 obtain⟨e0,he0,hR0⟩:=hef.getL hp0
 have hmem0:=(Dz.1 (Fe he0))
 have hsl0:=hes e0 hmem0.1
 have hgt0:n.entry.slot < e0.slot:=by simpa using hmem0.2
 obtain⟨Aq,kq,hpq,_⟩:=hR0
 subst hpq
 have hc0:((pe.filter fun p=>!Jl n.entry.slot p).flatten++se2)[0+0*2+0]? =some (Aa e0.slot):=by
  have h1:=hpf.get hp0 (j:=0) (u:=Aa e0.slot) rfl
  rw[Di (lt_of_get h1)];exact h1
 obtain⟨gx,rfl⟩:=vK HI (i:=3) rfl (lt_of_get hc0)
 refine Zm Y Y<|MP Y<|MY Y<|MV (fun wz hz=>zI Y)<|MP Y<|MY Y<|MV (fun wz hz=>yJ Y)<|cZ Np<|MP Y<|MY Y<|MV (fun wz hz=>EF xZ Y)<|MP Y<|MY Y<|MV (fun wz hz=>EL uY Y (hz.cell (i:=0) Y Y))<|MP Y<|MY Y<|MV (fun wz hz=>uR Lr wE Y Y (i:=0) Y (by omega))<|MP Y<|MY Y<|MV (fun wz hz=>EF wF Y)<|cZ Np<|MP Y<|MY Y<|MV (fun wz hz=>EL ty3 Y (hz.cell (i:=3) Y hc0))<|MP Y<|MY Y<|MV (fun wz hz=>EF wF Y)<|MP Y<|MY Y<|MV (fun wz hz=>EL ty3 Y (hz.cell (i:=2) Y Y))<|MP Y<|MY Y<|MV (fun wz hz=>zL Y Y (Ad _ (by omega)))<|cZ Np<|MP Y<|MY Y<|vS (fun wz hz=>yR Y Y) (fun hp41=>?_) (fun hp41=>?_)
 · refine MO Y<|Xt Y Y<|OE<|⟨fun hne=>absurd Y hne,?_⟩
   refine cZ Np<|ME<|cR Np<|J3 Y<|J2<|Xm Y<|Xc Y<|Xf xZ Y<|OW uY H8 0 Y Y Y Y (by first | (simp;done) | simp[zJ]) Y<|fun w9 H9=>Xr Np<|J1<|zR 12 [(true,0),(true,1),(true,2),(true,3),(true,4),(true,5),(false,6),(true,7),(true,8),(false,9),(true,10),(true,11),(false,12)] H9 [1,2,3] yE (by decide) (by kernel_rfl) ?_
   rintro w12 ZI
   have Fj:=Hp.drew H9;rw[← ZI]at Fj
   refine Zm Y Y<|Zm Y Y<|Zf Y wF Y<|MP Y<|MV (fun wz hz=>EL ty3 Y (hz.cell (i:=1) Y Y))<|cZ Np<|Zf Y uU Y<|MP Y<|MV (fun wz hz=>EL xO Y (hz.cell (i:=1) Y Y))<|MO Y<|yZ (EC jR Y) (vO B2 n.entry.val j2 _ (hb.to Fj hkn).1 (by have:=hb.2.2;omega))<|fun Vu gb cb sb hmb hcb hgb Hc=>have Ny:=Fj.call0 Hc;OE<|⟨fun hne=>Ny.pick [1,2,3] (by decide),?_⟩
   refine cZ Np<|Zc Y Y<|Zf Y wT Y<|MO Y<|OW ty3 Ny 0 Y Y Y Y (by first|exact NL Y|simp[zJ]) Y<|fun YX Ph=>OE<|⟨fun hne=>Ph.pick [1,2,3] (by decide),?_⟩
   refine cZ Np<|Zc Y Y<|Zf Y uT Y<|MO Y<|OW xO Ph 0 Y Y Y Y (by first|exact NL Y|simp[zJ]) Y<|fun w10 Df=>OE<|⟨fun hne=>absurd Y hne,?_⟩
   refine cZ Np<|ME<|cR Np<|zR 10 [(true,0),(true,1),(true,2),(true,3),(true,4),(true,5),(true,6),(false,7),(true,8),(true,9),(false,10)] Df [0,1,2,3,4] yE (by decide) (by kernel_rfl) ?_
   rintro Oa Vz
   have Ei:=Hp.drew Df;rw[← Vz]at Ei
   refine Zm Y Y<|Zm Y Y<|Zc Y Y<|Zf Y xW Y<|cZ Np<|MP Y<|MV (fun wz hz=>EL uP Y (hz.cell (i:=0) Y Y))<|Zf Y wF Y<|MP Y<|MV (fun wz hz=>EL ty3 Y (hz.cell (i:=2) Y Y))<|MO Y<|OQ (EC JF Y) (fE A1 k1 s.Bc n.entry.slot (fun x=>ok x∧x < w0.heap.size) _ (hv1.Qn Ei hkB) (by omega)) ?_
   rintro _ Uf ⟨A9,k9,rfl,Ry,Hd⟩
   have hsz9:=Ei.size
   have YR:=fun x hx=>oM Ei (b:=x) hx
   have Ip:=Ei.Au Hd
   have YL:=bl_place Ip
   refine OE ?_
   refine⟨fun hne=>Ip.pick [0,1,2,3,4] (by decide),?_⟩
   refine cZ Np<|Zc Y Y<|Zf Y xW Y<|MO Y ?_
   have HB:=Ip
   have HL:=HB.here
   refine OW uP HL 0 Y Y Y Y (by first | (simp;done) | simp[zJ]) Y<|fun w16 Qx=>have HW:=HB.all Qx;?_
   have Ry:=Ry.Qn (ok':=up ok w0.heap.size) Qx (fun x hx hl=>?_)
   rotate_left
   rcases hx with hx | hx
   refine⟨fun hb=>?_,.inl hx.1⟩
   rcases YL x hb with h | h
   exact(hks x hx.1 hx.2).1 h
   have:=hx.2;omega
   exact⟨fun hb=>by have:=YR x hb;omega,.inr (by omega)⟩
   refine OE ?_
   refine⟨fun hne=>absurd Y hne,?_⟩
   refine cZ Np<|ME<|cR Np<|zA<|yQ Y ?_
   rw[if_neg Pj]
   have Rl:=wQ (ok:=ok) HW (i:=4) rfl (fun b hb=>by rw[Az.1 hb];exact fun e=>HW.ne (i:=4) (j:=0) (g:=gs) (by rw[e];rfl) rfl (by decide) rfl)
   have hge2:=wQ (ok:=ok) HW (i:=3) rfl (fun b hb=>by rw[Az.1 hb];exact fun e=>HW.ne (i:=3) (j:=0) (g:=gs) (by rw[e];rfl) rfl (by decide) rfl)
   have hold:=hef.imp (R':=Qp w16 (up ok w0.heap.size)) fun p x h=>h.to HW hks
   have h0:rM s.entries n.entry.slot=[]:=by
    unfold rM
    cases hq:(s.entries.filter fun x=>decide (n.entry.slot < x.slot))with
    | nil=>rfl
    | cons a r=>
     rw[hq]at he0
     cases he0
     exact if_neg hp41
   rw[h0]
   refine⟨_,HW.pick [0] (by decide),A9,k9,hd gb,cb,none,0,Y,Ry,Bs.row HW (i:=4) Y hb.2.2 Rl,Sl.none _ _ _ _⟩
 · refine MO Y<|Xt Y Y<|OE<|⟨fun hne=>absurd Y hne,?_⟩
   refine cZ Np<|ME<|cR Np<|J4 Y<|J6<|J1<|zR 12 [(true,0),(true,1),(true,2),(true,3),(true,4),(true,5),(false,6),(true,7),(true,8),(false,9),(true,10),(true,11),(false,12)] H8 [1,2,3] yE (by decide) (by kernel_rfl) ?_
   rintro w9 hw9
   have H9:=Hp.drew H8;rw[← hw9]at H9
   refine Zm Y Y<|Zm Y Y<|Zf Y wF Y<|MP Y<|MV (fun wz hz=>EL ty3 Y (hz.cell (i:=1) Y Y))<|cZ Np<|Zf Y uU Y<|MP Y<|MV (fun wz hz=>EL xO Y (hz.cell (i:=1) Y Y))<|MO Y<|yZ (EC jR Y) (vO B2 n.entry.val j2 _ (hb.to H9 hkn).1 (by have:=hb.2.2;omega))<|fun w12 gb cb sb hmb hcb hgb Hc=>have Fj:=H9.call0 Hc;OE<|⟨fun hne=>Fj.pick [1,2,3] (by decide),?_⟩
   refine cZ Np<|Zc Y Y<|Zf Y wT Y<|MO Y<|OW ty3 Fj 0 Y Y Y Y (by first|exact NL Y|simp[zJ]) Y<|fun Vu Ny=>OE<|⟨fun hne=>Ny.pick [1,2,3] (by decide),?_⟩
   refine cZ Np<|Zc Y Y<|Zf Y uT Y<|MO Y<|OW xO Ny 0 Y Y Y Y (by first|exact NL Y|simp[zJ]) Y<|fun YX Ph=>OE<|⟨fun hne=>absurd Y hne,?_⟩
   refine cZ Np<|ME<|cR Np<|zR 10 [(true,0),(true,1),(true,2),(true,3),(true,4),(true,5),(true,6),(false,7),(true,8),(true,9),(false,10)] Ph [0,1,2,3,4] yE (by decide) (by kernel_rfl) ?_
   rintro w10 Me
   have Df:=Hp.drew Ph;rw[← Me]at Df
   refine Zm Y Y<|Zm Y Y<|Zc Y Y<|Zf Y xW Y<|cZ Np<|MP Y<|MV (fun wz hz=>EL uP Y (hz.cell (i:=0) Y Y))<|Zf Y wF Y<|MP Y<|MV (fun wz hz=>EL ty3 Y (hz.cell (i:=2) Y Y))<|MO Y<|OQ (EC JF Y) (fE A1 k1 s.Bc n.entry.slot (fun x=>ok x∧x < w0.heap.size) _ (hv1.Qn Df hkB) (by omega)) ?_
   rintro _ Oa ⟨A9,k9,rfl,Ry,Hd⟩
   have hsz9:=Df.size
   have YR:=fun x hx=>oM Df (b:=x) hx
   have Ei:=Df.Au Hd
   have YL:=bl_place Ei
   refine OE ?_
   refine⟨fun hne=>Ei.pick [0,1,2,3,4] (by decide),?_⟩
   refine cZ Np<|Zc Y Y<|Zf Y xW Y<|MO Y ?_
   have HB:=Ei
   have HL:=HB.here
   refine OW uP HL 0 Y Y Y Y (by first | (simp;done) | simp[zJ]) Y<|fun Uf Ip=>have HW:=HB.all Ip;?_
   have Ry:=Ry.Qn (ok':=up ok w0.heap.size) Ip (fun x hx hl=>?_)
   rotate_left
   rcases hx with hx | hx
   refine⟨fun hb=>?_,.inl hx.1⟩
   rcases YL x hb with h | h
   exact(hks x hx.1 hx.2).1 h
   have:=hx.2;omega
   exact⟨fun hb=>by have:=YR x hb;omega,.inr (by omega)⟩
   refine OE ?_
   refine⟨fun hne=>absurd Y hne,?_⟩
   refine cZ Np<|ME<|cR Np<|zA<|yQ Y ?_
   rw[if_neg Pj]
   have Rl:=wQ (ok:=ok) HW (i:=4) rfl (fun b hb=>by rw[Az.1 hb];exact fun e=>HW.ne (i:=4) (j:=0) (g:=gs) (by rw[e];rfl) rfl (by decide) rfl)
   have hge2:=wQ (ok:=ok) HW (i:=3) rfl (fun b hb=>by rw[Az.1 hb];exact fun e=>HW.ne (i:=3) (j:=0) (g:=gs) (by rw[e];rfl) rfl (by decide) rfl)
   have hold:=hef.imp (R':=Qp Uf (up ok w0.heap.size)) fun p x h=>h.to HW hks
   have h0:rM s.entries n.entry.slot=(s.entries.filter fun x=>decide (n.entry.slot < x.slot)):=by
    unfold rM
    cases hq:(s.entries.filter fun x=>decide (n.entry.slot < x.slot))with
    | nil=>simp[hq]at he0
    | cons a r=>
     rw[hq]at he0
     cases he0
     exact if_pos (by omega)
   rw[h0]
   refine⟨_,HW.pick [0] (by decide),A9,k9,hd gb,cb,hd (some gx),ce,by rw[← hefl];rfl,Ry,Bs.row HW (i:=4) Y hb.2.2 Rl,Sl.row HW (i:=3) Y hpf (by decide) hold hge2⟩
 · refine Zm Y Y<|MP Y<|MZ Y<|cZ Np<|MP Y<|MZ Y<|MP Y<|MZ Y<|cZ Np<|MP Y<|MZ Y<|MP Y<|MZ Y<|cZ Np<|MP Y<|MZ Y<|MP Y<|MZ Y<|cZ Np<|MP Y<|MZ Y<|MP Y<|MZ Y<|cZ Np<|MP Y<|MZ Y<|MP Y<|MZ Y<|cZ Np<|MO Y<|Xu Y Y<|OE<|⟨fun hne=>absurd Y hne,?_⟩
   refine cZ Np<|ME<|cR Np<|J4 Y<|J6<|J1<|zR 12 [(true,0),(true,1),(true,2),(true,3),(true,4),(true,5),(false,6),(true,7),(true,8),(false,9),(true,10),(true,11),(false,12)] H8 [1,2,3] yE (by decide) (by kernel_rfl) ?_
   rintro w9 hw9
   have H9:=Hp.drew H8;rw[← hw9]at H9
   refine Zm Y Y<|Zm Y Y<|Zf Y wF Y<|MP Y<|MV (fun wz hz=>EL ty3 Y (hz.cell (i:=1) Y Y))<|cZ Np<|Zf Y uU Y<|MP Y<|MV (fun wz hz=>EL xO Y (hz.cell (i:=1) Y Y))<|MO Y<|yZ (EC jR Y) (vO B2 n.entry.val j2 _ (hb.to H9 hkn).1 (by have:=hb.2.2;omega))<|fun w12 gb cb sb hmb hcb hgb Hc=>have Fj:=H9.call0 Hc;OE<|⟨fun hne=>Fj.pick [1,2,3] (by decide),?_⟩
   refine cZ Np<|Zc Y Y<|Zf Y wT Y<|MO Y<|OW ty3 Fj 0 Y Y Y Y (by first|exact NL Y|simp[zJ]) Y<|fun Vu Ny=>OE<|⟨fun hne=>Ny.pick [1,2,3] (by decide),?_⟩
   refine cZ Np<|Zc Y Y<|Zf Y uT Y<|MO Y<|OW xO Ny 0 Y Y Y Y (by first|exact NL Y|simp[zJ]) Y<|fun YX Ph=>OE<|⟨fun hne=>absurd Y hne,?_⟩
   refine cZ Np<|ME<|cR Np<|zR 10 [(true,0),(true,1),(true,2),(true,3),(true,4),(true,5),(true,6),(false,7),(true,8),(true,9),(false,10)] Ph [0,1,2,3,4] yE (by decide) (by kernel_rfl) ?_
   rintro w10 Me
   have Df:=Hp.drew Ph;rw[← Me]at Df
   refine Zm Y Y<|Zm Y Y<|Zc Y Y<|Zf Y xW Y<|cZ Np<|MP Y<|MV (fun wz hz=>EL uP Y (hz.cell (i:=0) Y Y))<|Zf Y wF Y<|MP Y<|MV (fun wz hz=>EL ty3 Y (hz.cell (i:=2) Y Y))<|MO Y<|OQ (EC JF Y) (fE A1 k1 s.Bc n.entry.slot (fun x=>ok x∧x < w0.heap.size) _ (hv1.Qn Df hkB) (by omega)) ?_
   rintro _ Oa ⟨A9,k9,rfl,Ry,Hd⟩
   have hsz9:=Df.size
   have YR:=fun x hx=>oM Df (b:=x) hx
   have Ei:=Df.Au Hd
   have YL:=bl_place Ei
   refine OE ?_
   refine⟨fun hne=>Ei.pick [0,1,2,3,4] (by decide),?_⟩
   refine cZ Np<|Zc Y Y<|Zf Y xW Y<|MO Y ?_
   have HB:=Ei
   have HL:=HB.here
   refine OW uP HL 0 Y Y Y Y (by first | (simp;done) | simp[zJ]) Y<|fun Uf Ip=>have HW:=HB.all Ip;?_
   have Ry:=Ry.Qn (ok':=up ok w0.heap.size) Ip (fun x hx hl=>?_)
   rotate_left
   rcases hx with hx | hx
   refine⟨fun hb=>?_,.inl hx.1⟩
   rcases YL x hb with h | h
   exact(hks x hx.1 hx.2).1 h
   have:=hx.2;omega
   exact⟨fun hb=>by have:=YR x hb;omega,.inr (by omega)⟩
   refine OE ?_
   refine⟨fun hne=>absurd Y hne,?_⟩
   refine cZ Np<|ME<|cR Np<|zA<|yQ Y ?_
   rw[if_neg Pj]
   have Rl:=wQ (ok:=ok) HW (i:=4) rfl (fun b hb=>by rw[Az.1 hb];exact fun e=>HW.ne (i:=4) (j:=0) (g:=gs) (by rw[e];rfl) rfl (by decide) rfl)
   have hge2:=wQ (ok:=ok) HW (i:=3) rfl (fun b hb=>by rw[Az.1 hb];exact fun e=>HW.ne (i:=3) (j:=0) (g:=gs) (by rw[e];rfl) rfl (by decide) rfl)
   have hold:=hef.imp (R':=Qp Uf (up ok w0.heap.size)) fun p x h=>h.to HW hks
   have h0:rM s.entries n.entry.slot=(s.entries.filter fun x=>decide (n.entry.slot < x.slot)):=by
    unfold rM
    have:(s.entries.filter fun x=>decide (n.entry.slot < x.slot))=[]:=Ee (by omega)
    rw[this]
   rw[h0]
   refine⟨_,HW.pick [0] (by decide),A9,k9,hd gb,cb,hd ge,ce,by rw[← hefl];rfl,Ry,Bs.row HW (i:=4) Y hb.2.2 Rl,Sl.row HW (i:=3) Y hpf (by decide) hold hge2⟩
theorem FV (x:Vt) (Ax:Option Addr) (kx:Nat) (ok:Nat→Prop) (w0:World) (hb:Bs w0 ok Ax x.val):Aj 199 #[.agg (Dl x Ax kx).toArray] w0 (fun _ w'=>Hp w0 w' [] []):=by
 refine zG Tryz.func199 Tryz.ntmps199 Y<|cR e8 ?_
 have H:=Hp.refl w0
 refine Rq<|yA Y Y H<|fun w1 g1 H1 hg1=>OA xE H1<|fun w2 g2 H2 hg2=>Xr e8<|Rq<|Xf rC Y<|OV (EL xO Y (H2.cell (i:=0) Y Y))<|yZ (EC jR Y) (vO Ax x.val kx _ (hb.1.to0 H2) (by have:=hb.2.2;omega))<|fun w3 gb cb sb hmb hcb hgb Hc=>have H3:=H2.call0 Hc;Xf rC Y<|Ag e8<|OW xO H3 0 Y Y Y Y (by first|exact NL Y|simp[zJ]) Y<|fun w4 H4=>Xr e8<|Rq<|OV (EN xE Y (vs:=Dl x (hd gb) cb) Y (H4.Ap (i:=0) Y Y))<|OS xE H4 1 Y Y Y Y Y (by first|exact NL Y|simp[zJ]) Y<|fun w5 H5=>Xr e8<|J5<|uL Y xE (cs:=Dl x (hd gb) cb) Y Y (H5.Ap (i:=1) Y Y)<|H5.Af
theorem O2 (p:Bal) (first:Int) (A:Option Addr) (k:Nat) (l:List Vt) (ok:Nat→Prop) (w0:World) (hl:Sl (Oe w0 ok) 4 w0 ok A l) (hn:l.length≤1000000000000000000):Aj 171 #[.agg [Aa p.r,Aa p.n].toArray,Aa first,Ac A l.length k] w0 (fun r w'=>∃ (v:Value) (e:Int),r=.tuple #[v,Aa e]∧Ans (oV p first l) e∧Hp w0 w' [] []):=by
 refine zG Tryz.func171 Tryz.ntmps171 Y<|cR Gt ?_
 have H:=Hp.refl w0
 obtain⟨ps,hp,hr,ha,h2⟩:=hl
 have hlen:=h2.len
 refine Rq<|yA Y Y H<|fun w1 gp H1 _=>Xa Y<|Xa Y<|Xr Gt<|J1<|Rq<|Xm Y<|OT (zQ Y Y) (fun Pj=>?_) (fun Pj=>?_)
 refine Xm Y<|Ag Gt<|Oz 2 Y<|Xt Y Y ?_
 have m3:=()
 rotate_left 1
 refine Xm Y<|Ag Gt<|OY Y<|Xm Y<|OY Y<|OT (yS Y Y) (fun hp16=>?_) (fun hp16=>?_)
 refine Xu Y Y ?_
 have m3:=()
 rotate_left 1
 refine Xu Y Y<|Xm Y<|Ag Gt<|OY Y<|OV (EN vA Y (vs:=[Aa p.r,Aa p.n]) Y (H1.Ap (i:=0) Y Y))<|OY Y<|OV (EB vA CD Y Y)<|Ag Gt<|OY Y<|OT (sL Y Y) (fun hp21=>?_) (fun hp21=>?_)
 refine OY Y<|Xm Y<|OY Y<|OV (EN vA Y (vs:=[Aa p.r,Aa p.n]) Y (H1.Ap (i:=0) Y Y))<|Ag Gt<|OY Y<|OX (EC PJ Y) (GS _ _) (fun hp24 w2 Hd=>?_) (fun hp24 w2 Hd=>?_)
 have H2:=H1.Au Hd
 refine OY Y<|Xn Y<|OY Y<|Xt Y Y<|Xu Y Y<|Xr Gt<|J4 Y<|J6<|Rq<|OV (EN vA Y (vs:=[Aa p.r,Aa p.n]) Y (H2.Ap (i:=0) Y Y))<|Xm Y<|dA H2<|fun w3 gm H3 hgm hgm0=>have Ws:=mW.new hgm;?_
 have hgmw:w0.heap.size≤gm:=by have:=H2.size;omega
 refine OV (EB UT UZ Y Y)<|Ag Gt ?_
 have HB:=H3
 have H3:=HB.here
 refine yA Y Y H3<|fun w4 ga H4 _=>?_
 have Ws:=Ws.to H4 (fun hb=>by obtain⟨arr,T,z,hh⟩:=sP HB gm hb;exact Ws.not _ _ _ hh)
 replace H4:=HB.all H4
 refine Xa Y<|Xr Gt<|Rq<|Xm Y<|Xa Y<|Xr Gt<|J1<|Rq<|Xm Y<|OV (ES Jd Y)<|Xm Y<|Xr Gt<|J7<|zV (fun nQ lQ w=>∃ (i:Nat) (y m:Int),l.length - i=nQ∧xM (Hy [(0,.agg [Aa p.r,Aa p.n].toArray),(1,Aa first),(3,Ah gp),(8,Ah ga),(9,Aa m),(34,Ac A l.length k),(35,Aa (l.length:Int)),(36,Aa y)] 0 82) lQ∧y=(i:Int)∧i≤l.length∧uD p first first l=uD p first m (l.drop i)∧first≤m∧mW w gm∧Hp w0 w [] [((some gp,75,[Aa p.r,Aa p.n]):Ent),(some ga,263,[Aa p.r,Aa p.n,Aa first,.map (some gm)])]) (l.length) ?_ ?_
 exact⟨0,_,first,Y,(ft8 Y Y Y Y Y Y Y Y Y),Y,Am _,Y,Int.le_refl _,Ws,H4⟩
 rintro nQ lQ w5 ⟨i,y,m,rfl,hfit,rfl,hi,hinv,hfm,Ws,H5⟩
 obtain⟨j,rfl⟩:=hfit.open
 refine cR Gt ?_
 clear hfit
 have HB:=H5
 replace H5:=HB.here
 have hgmn:gm∉bl _:=fun hb=>by obtain⟨arr,T,z,hh⟩:=sP HB gm hb;exact Ws.not _ _ _ hh
 refine Rq<|OT (zQ Y Y) (fun hp37=>?_) (fun hp37=>?_)
 have hil:i < l.length:=by omega
 obtain⟨x,hx⟩:=yL hil
 obtain⟨p1,hp1,hR⟩:=h2.get hx
 obtain⟨Ax,kx,rfl,hbx⟩:=hR
 obtain⟨a1,ha1⟩:=hr.some_ (by omega)
 subst ha1
 refine Xr Gt<|J1<|J3 Y<|J6<|J1<|J7<|Rq<|OV (EI Jd xE Y Y Y hil Y)<|OV (EN xE Y (vs:=Dl x Ax kx) Y ((hr.to0 (HB.all H5)).elem hp hp1))<|OA xE H5<|fun w6 g6 H6 hg6=>OS xE H6 2 Y Y Y Y Y (by first|exact NL Y|simp[zJ]) Y<|fun w7 H7=>Xr Gt<|J1<|Rq<|Xf vF Y<|OV (EL ty3 Y (H7.cell (i:=2) Y Y))<|Xm Y<|OT (zQ Y Y) (fun ZW=>?_) (fun ZW=>?_)
 refine Xm Y<|Ag Gt<|Oz 5 Y<|Ag Gt<|Xt Y Y ?_
 have m1:=()
 rotate_left 1
 refine Xm Y<|Ag Gt<|OY Y<|Xf vF Y<|OY Y<|OV (EL ty3 Y (H7.cell (i:=2) Y Y))<|Ag Gt<|OY Y<|Xm Y<|OY Y<|OV (zL Y Y (Ad _ (by omega)))<|Ag Gt<|OY Y<|OT (wM Y Y) (fun hp49=>?_) (fun hp49=>?_)
 refine Xu Y Y ?_
 have m1:=()
 rotate_left 1
 refine Xu Y Y<|Xm Y<|Ag Gt<|OY Y<|Xf sH Y<|OY Y<|OV (EN vA Y (vs:=[Aa x.b.r,Aa x.b.n]) Y (H7.Ap (i:=2) Y Y))<|Ag Gt<|OY Y<|OX (EC PJ Y) (GS _ _) (fun Qk w8 Hd=>?_) (fun Qk w8 Hd=>?_)
 have H8:=H7.Au Hd
 refine OY Y<|Xn Y<|Xu Y Y<|Xm Y<|Ag Gt<|OY Y<|OV (EN vA Y (vs:=[Aa p.r,Aa p.n]) Y (H8.Ap (i:=0) Y Y))<|OY Y<|Xf sH Y<|Ag Gt<|OY Y<|OV (EN vA Y (vs:=[Aa x.b.r,Aa x.b.n]) Y (H8.Ap (i:=2) Y Y))<|OY Y<|OX (EC PO Y) (G0 _ _ _) (fun Wj w9 Hd=>?_) (fun Wj w9 Hd=>?_)
 have H9:=H8.Au Hd
 refine Xu Y Y<|Xm Y<|Ag Gt<|Oz 4 Y<|Ag Gt<|Xt Y Y<|Xr Gt<|J3 Y<|Rq<|Xa Y<|Xa Y<|Xr Gt<|J5<|BR<|yN<|BR<|Kz Y Y Y<|⟨_,_,Y,Ans.no (by rw[nO (by omega) (by omega),hinv];exact sZ hx fun hh=>hh.2.2.2.2.1 Wj),(HB.all H9).Af⟩
 have H9:=H8.Au Hd
 refine Xu Y Y<|Xm Y<|Ag Gt<|OY Y<|Xf rC Y<|OY Y<|OV (EL xO Y (H9.cell (i:=2) Y Y))<|Ag Gt<|OY Y<|OV (ES Gz Y)<|OY Y<|OT (yS Y Y) (fun Wh=>?_) (fun Wh=>?_)
 refine Xu Y Y<|Xr Gt<|J3 Y<|Rq<|Xa Y<|Xa Y<|Xr Gt<|J5<|BR<|yN<|BR<|Kz Y Y Y<|⟨_,_,Y,Ans.no (by rw[nO (by omega) (by omega),hinv];exact sZ hx fun hh=>by omega),(HB.all H9).Af⟩
 refine Xu Y Y<|Xr Gt<|J4 Y<|J6<|J1<|zR 8 [(true,0),(true,1),(true,2),(true,3),(true,4),(true,5),(true,6),(false,7),(false,8)] H9 [0,1,2] yE (by decide) (by kernel_rfl) ?_
 rintro w10 Me
 have Df:=Hp.drew H9;rw[← Me]at Df
 refine Zm Y Y<|Zc Y Y<|Zf Y JL Y<|MP Y<|MV (fun wz hz=>EL UU Y (hz.cell (i:=1) Y Y))<|cZ Gt<|Zf Y vF Y<|MP Y<|MV (fun wz hz=>EL ty3 Y (hz.cell (i:=2) Y Y))<|MP Y<|MV (fun wz hz=>EN xE Y (vs:=Dl x Ax kx) Y (hz.Ap (i:=2) Y Y))<|MO Y<|OQ (EC U6 Y) (FV x Ax kx (fun _=>True) _ (hbx.to (HB.all Df) (fun _ _ _=>⟨by simp,trivial⟩)))<|fun r Oa Hd=>have Ei:=Df.Au Hd;OE<|⟨fun hne=>Ei.pick [0,1,2] (by decide),?_⟩
 refine cZ Gt<|MO Y ?_
 have HW:=HB.all Ei
 refine jU Tryz.underlying261 Tryz.underlying3 HW Y Y Y (Ws.to Ei hgmn) hgmw<|fun w12 Fj Ws _=>?_
 have hgo:=BU (p:=p) (first:=first) (m:=m) hx ⟨by omega,by omega,Qk.1,Qk.2,Wj,by omega⟩
 refine OE ?_
 refine⟨fun hne=>absurd Y hne,?_⟩
 refine cZ Gt<|ME<|cR Gt<|J2<|Xf vF Y<|OV (EL ty3 Y (Fj.cell (i:=2) Y Y))<|OV (zL Y Y (Ad _ (by omega)))<|Xa Y<|Xr Gt<|zA (zB ?_)
 refine J2<|OV (zL Y Y (Ad _ (by omega)))<|Xm Y<|Xr Gt<|zA (zH ?_)
 exact⟨l.length - (i+1),by omega,i+1,_,x.slot+1,Y,(ft8 Y Y Y Y Y Y Y Y Y),by omega,by omega,by rw[hinv,hgo],by omega,Ws,Fj.pick [0,1] (by decide)⟩
 have H8:=H7.Au Hd
 refine OY Y<|Xn Y<|Xu Y Y<|Xm Y<|Ag Gt<|Oz 4 Y<|Ag Gt<|Xt Y Y<|Xm Y<|Ag Gt<|Oz 4 Y<|Ag Gt<|Xt Y Y<|Xr Gt<|J3 Y<|Rq<|Xa Y<|Xa Y<|Xr Gt<|J5<|BR<|yN<|BR<|Kz Y Y Y<|⟨_,_,Y,Ans.no (by rw[nO (by omega) (by omega),hinv];exact sZ hx fun hh=>Qk ⟨hh.2.2.1,hh.2.2.2.1⟩),(HB.all H8).Af⟩
 obtain rfl:i=l.length:=by omega
 refine Xr Gt<|J1<|J4 Y<|J8<|zU<|zS<|Rq<|Xm Y<|Xa Y<|Xa Y<|Xr Gt<|J5<|Kz Y Y Y<|⟨_,_,Y,Ans.ok (by rw[nO (by omega) (by omega),hinv];exact dI),(HB.all H5).Af⟩
 have H2:=H1.Au Hd
 refine OY Y<|Xn Y<|OY Y<|Xt Y Y<|Xu Y Y<|Xr Gt<|J3 Y<|Rq<|Xa Y<|Xa Y<|Xr Gt<|J5<|Kz Y Y Y<|⟨_,_,Y,Ans.no (U3 (by omega)),H2.Af⟩
 refine OY Y<|Xm Y<|Oz 3 Y<|Ag Gt<|OY Y<|Xu Y Y<|Xu Y Y<|Xr Gt<|J4 Y<|J6<|Rq<|OV (EN vA Y (vs:=[Aa p.r,Aa p.n]) Y (H1.Ap (i:=0) Y Y))<|Xm Y<|dA H1<|fun w2 gm H2 hgm hgm0=>have Ws:=mW.new hgm;?_
 have hgmw:w0.heap.size≤gm:=by have:=H1.size;omega
 refine OV (EB UT UZ Y Y)<|Ag Gt ?_
 have HB:=H2
 have H2:=HB.here
 refine yA Y Y H2<|fun w3 ga H3 _=>?_
 have Ws:=Ws.to H3 (fun hb=>by obtain⟨arr,T,z,hh⟩:=sP HB gm hb;exact Ws.not _ _ _ hh)
 replace H3:=HB.all H3
 refine Xa Y<|Xr Gt<|Rq<|Xm Y<|Xa Y<|Xr Gt<|J1<|Rq<|Xm Y<|OV (ES Jd Y)<|Xm Y<|Xr Gt<|J7<|zV (fun nQ lQ w=>∃ (i:Nat) (y m:Int),l.length - i=nQ∧xM (Hy [(0,.agg [Aa p.r,Aa p.n].toArray),(1,Aa first),(3,Ah gp),(8,Ah ga),(9,Aa m),(34,Ac A l.length k),(35,Aa (l.length:Int)),(36,Aa y)] 0 82) lQ∧y=(i:Int)∧i≤l.length∧uD p first first l=uD p first m (l.drop i)∧first≤m∧mW w gm∧Hp w0 w [] [((some gp,75,[Aa p.r,Aa p.n]):Ent),(some ga,263,[Aa p.r,Aa p.n,Aa first,.map (some gm)])]) (l.length) ?_ ?_
 exact⟨0,_,first,Y,(ft8 Y Y Y Y Y Y Y Y Y),Y,Am _,Y,Int.le_refl _,Ws,H3⟩
 rintro nQ lQ w4 ⟨i,y,m,rfl,hfit,rfl,hi,hinv,hfm,Ws,H4⟩
 obtain⟨j,rfl⟩:=hfit.open
 refine cR Gt ?_
 clear hfit
 have HB:=H4
 replace H4:=HB.here
 have hgmn:gm∉bl _:=fun hb=>by obtain⟨arr,T,z,hh⟩:=sP HB gm hb;exact Ws.not _ _ _ hh
 refine Rq<|OT (zQ Y Y) (fun hp37=>?_) (fun hp37=>?_)
 have hil:i < l.length:=by omega
 obtain⟨x,hx⟩:=yL hil
 obtain⟨p1,hp1,hR⟩:=h2.get hx
 obtain⟨Ax,kx,rfl,hbx⟩:=hR
 obtain⟨a1,ha1⟩:=hr.some_ (by omega)
 subst ha1
 refine Xr Gt<|J1<|J3 Y<|J6<|J1<|J7<|Rq<|OV (EI Jd xE Y Y Y hil Y)<|OV (EN xE Y (vs:=Dl x Ax kx) Y ((hr.to0 (HB.all H4)).elem hp hp1))<|OA xE H4<|fun w5 g5 H5 hg5=>OS xE H5 2 Y Y Y Y Y (by first|exact NL Y|simp[zJ]) Y<|fun w6 H6=>Xr Gt<|J1<|Rq<|Xf vF Y<|OV (EL ty3 Y (H6.cell (i:=2) Y Y))<|Xm Y<|OT (zQ Y Y) (fun ZW=>?_) (fun ZW=>?_)
 refine Xm Y<|Ag Gt<|Oz 5 Y<|Ag Gt<|Xt Y Y ?_
 have m2:=()
 rotate_left 1
 refine Xm Y<|Ag Gt<|OY Y<|Xf vF Y<|OY Y<|OV (EL ty3 Y (H6.cell (i:=2) Y Y))<|Ag Gt<|OY Y<|Xm Y<|OY Y<|OV (zL Y Y (Ad _ (by omega)))<|Ag Gt<|OY Y<|OT (wM Y Y) (fun hp49=>?_) (fun hp49=>?_)
 refine Xu Y Y ?_
 have m2:=()
 rotate_left 1
 refine Xu Y Y<|Xm Y<|Ag Gt<|OY Y<|Xf sH Y<|OY Y<|OV (EN vA Y (vs:=[Aa x.b.r,Aa x.b.n]) Y (H6.Ap (i:=2) Y Y))<|Ag Gt<|OY Y<|OX (EC PJ Y) (GS _ _) (fun Qk w7 Hd=>?_) (fun Qk w7 Hd=>?_)
 have H7:=H6.Au Hd
 refine OY Y<|Xn Y<|Xu Y Y<|Xm Y<|Ag Gt<|OY Y<|OV (EN vA Y (vs:=[Aa p.r,Aa p.n]) Y (H7.Ap (i:=0) Y Y))<|OY Y<|Xf sH Y<|Ag Gt<|OY Y<|OV (EN vA Y (vs:=[Aa x.b.r,Aa x.b.n]) Y (H7.Ap (i:=2) Y Y))<|OY Y<|OX (EC PO Y) (G0 _ _ _) (fun Wj w8 Hd=>?_) (fun Wj w8 Hd=>?_)
 have H8:=H7.Au Hd
 refine Xu Y Y<|Xm Y<|Ag Gt<|Oz 4 Y<|Ag Gt<|Xt Y Y<|Xr Gt<|J3 Y<|Rq<|Xa Y<|Xa Y<|Xr Gt<|J5<|BR<|yN<|BR<|Kz Y Y Y<|⟨_,_,Y,Ans.no (by rw[nO (by omega) (by omega),hinv];exact sZ hx fun hh=>hh.2.2.2.2.1 Wj),(HB.all H8).Af⟩
 have H8:=H7.Au Hd
 refine Xu Y Y<|Xm Y<|Ag Gt<|OY Y<|Xf rC Y<|OY Y<|OV (EL xO Y (H8.cell (i:=2) Y Y))<|Ag Gt<|OY Y<|OV (ES Gz Y)<|OY Y<|OT (yS Y Y) (fun Wh=>?_) (fun Wh=>?_)
 refine Xu Y Y<|Xr Gt<|J3 Y<|Rq<|Xa Y<|Xa Y<|Xr Gt<|J5<|BR<|yN<|BR<|Kz Y Y Y<|⟨_,_,Y,Ans.no (by rw[nO (by omega) (by omega),hinv];exact sZ hx fun hh=>by omega),(HB.all H8).Af⟩
 refine Xu Y Y<|Xr Gt<|J4 Y<|J6<|J1<|zR 8 [(true,0),(true,1),(true,2),(true,3),(true,4),(true,5),(true,6),(false,7),(false,8)] H8 [0,1,2] yE (by decide) (by kernel_rfl) ?_
 rintro w9 hw9
 have H9:=Hp.drew H8;rw[← hw9]at H9
 refine Zm Y Y<|Zc Y Y<|Zf Y JL Y<|MP Y<|MV (fun wz hz=>EL UU Y (hz.cell (i:=1) Y Y))<|cZ Gt<|Zf Y vF Y<|MP Y<|MV (fun wz hz=>EL ty3 Y (hz.cell (i:=2) Y Y))<|MP Y<|MV (fun wz hz=>EN xE Y (vs:=Dl x Ax kx) Y (hz.Ap (i:=2) Y Y))<|MO Y<|OQ (EC U6 Y) (FV x Ax kx (fun _=>True) _ (hbx.to (HB.all H9) (fun _ _ _=>⟨by simp,trivial⟩)))<|fun r w10 Hd=>have Df:=H9.Au Hd;OE<|⟨fun hne=>Df.pick [0,1,2] (by decide),?_⟩
 refine cZ Gt<|MO Y ?_
 have HW:=HB.all Df
 refine jU Tryz.underlying261 Tryz.underlying3 HW Y Y Y (Ws.to Df hgmn) hgmw<|fun Oa Ei Ws _=>?_
 have hgo:=BU (p:=p) (first:=first) (m:=m) hx ⟨by omega,by omega,Qk.1,Qk.2,Wj,by omega⟩
 refine OE ?_
 refine⟨fun hne=>absurd Y hne,?_⟩
 refine cZ Gt<|ME<|cR Gt<|J2<|Xf vF Y<|OV (EL ty3 Y (Ei.cell (i:=2) Y Y))<|OV (zL Y Y (Ad _ (by omega)))<|Xa Y<|Xr Gt<|zA (zB ?_)
 refine J2<|OV (zL Y Y (Ad _ (by omega)))<|Xm Y<|Xr Gt<|zA (zH ?_)
 exact⟨l.length - (i+1),by omega,i+1,_,x.slot+1,Y,(ft8 Y Y Y Y Y Y Y Y Y),by omega,by omega,by rw[hinv,hgo],by omega,Ws,Ei.pick [0,1] (by decide)⟩
 have H7:=H6.Au Hd
 refine OY Y<|Xn Y<|Xu Y Y<|Xm Y<|Ag Gt<|Oz 4 Y<|Ag Gt<|Xt Y Y<|Xm Y<|Ag Gt<|Oz 4 Y<|Ag Gt<|Xt Y Y<|Xr Gt<|J3 Y<|Rq<|Xa Y<|Xa Y<|Xr Gt<|J5<|BR<|yN<|BR<|Kz Y Y Y<|⟨_,_,Y,Ans.no (by rw[nO (by omega) (by omega),hinv];exact sZ hx fun hh=>Qk ⟨hh.2.2.1,hh.2.2.2.1⟩),(HB.all H7).Af⟩
 obtain rfl:i=l.length:=by omega
 refine Xr Gt<|J1<|J4 Y<|J8<|zU<|zS<|Rq<|Xm Y<|Xa Y<|Xa Y<|Xr Gt<|J5<|Kz Y Y Y<|⟨_,_,Y,Ans.ok (by rw[nO (by omega) (by omega),hinv];exact dI),(HB.all H4).Af⟩
 any_goals
  clear m3
  refine Xm Y<|Ag Gt<|Oz 8 Y<|Ag Gt<|Xt Y Y<|Xr Gt<|J3 Y<|Rq<|Xa Y<|Xa Y<|Xr Gt<|J5<|Kz Y Y Y<|⟨_,_,Y,Ans.no (U4 (by omega)),H1.Af⟩
 any_goals
  clear m2
  refine Xm Y<|Ag Gt<|Oz 4 Y<|Ag Gt<|Xt Y Y<|Xm Y<|Ag Gt<|Oz 4 Y<|Ag Gt<|Xt Y Y<|Xm Y<|Ag Gt<|Oz 4 Y<|Ag Gt<|Xt Y Y<|Xr Gt<|J3 Y<|Rq<|Xa Y<|Xa Y<|Xr Gt<|J5<|BR<|yN<|BR<|Kz Y Y Y<|⟨_,_,Y,Ans.no (by rw[nO (by omega) (by omega),hinv];exact sZ hx fun hh=>by omega),(HB.all H6).Af⟩
 any_goals
  clear m1
  refine Xm Y<|Ag Gt<|Oz 4 Y<|Ag Gt<|Xt Y Y<|Xm Y<|Ag Gt<|Oz 4 Y<|Ag Gt<|Xt Y Y<|Xm Y<|Ag Gt<|Oz 4 Y<|Ag Gt<|Xt Y Y<|Xr Gt<|J3 Y<|Rq<|Xa Y<|Xa Y<|Xr Gt<|J5<|BR<|yN<|BR<|Kz Y Y Y<|⟨_,_,Y,Ans.no (by rw[nO (by omega) (by omega),hinv];exact sZ hx fun hh=>by omega),(HB.all H7).Af⟩
theorem WJ (s:Sv) (A1:Option Addr) (k1:Nat) (A2:Option Addr) (k2:Nat) (A3:Option Addr) (k3:Nat) (ok:Nat→Prop) (w0:World) (hv1:Sl (Oe w0 ok) 4 w0 ok A1 s.Bc) (hv2:Bs w0 ok A2 s.image) (hv3:Sl (Qp w0 ok) 2 w0 ok A3 s.entries) (hvl:s.Bc.length≤1000000000000000000) (hel2:s.entries.length≤1000000000000000000):Aj 120 #[Aa 1,Aa 5,.agg (Bv s A1 k1 A2 k2 A3 k3).toArray] w0 (fun r w'=>∃ (v:Value) (e:Int),r=.tuple #[v,Aa e]∧Ans (chk s) e∧Hp w0 w' [] []):=by
 refine zG Tryz.func120 Tryz.ntmps120 Y<|cR e115 ?_
 have H:=Hp.refl w0
 obtain⟨pe,hpe,hre,hae,he2⟩:=id hv3
 have hel:=he2.len
 refine Rq<|yA Y Y H<|fun w1 gs H1 _=>Xa Y<|Xa Y<|Xr e115<|J1<|Rq<|Xm Y<|Ui (yR Y Y) (by decide)<|Xm Y<|Ag e115<|OY Y<|Xm Y<|OY Y<|Ui (yR Y Y) (by decide)<|Xt Y Y<|Xm Y<|Ag e115<|OY Y<|Xm Y<|OY Y<|Jw (yR Y Y) (by decide)<|Xt Y Y<|Xm Y<|Ag e115<|OY Y<|Xm Y<|OY Y<|Jw (zQ Y Y) (by decide)<|Xu Y Y<|Xm Y<|Ag e115<|OY Y<|Xm Y<|OY Y<|Xm Y ?_
 refine Ag e115<|OY Y<|Jw (yS Y Y) (by decide)<|Xu Y Y<|Xr e115<|J4 Y<|J6<|J1<|Rq<|Xf vZ Y<|OV (EN vA Y (vs:=Gq s) Y (H1.Ap (i:=0) Y Y))<|OV (EB vA CD Y Y)<|OT (sL Y Y) (fun Wn=>?_) (fun Wn=>?_)
 refine Xm Y<|Ag e115<|OY Y<|Xf vZ Y<|OY Y<|OV (EN vA Y (vs:=Gq s) Y (H1.Ap (i:=0) Y Y))<|Ag e115<|OY Y<|Xm Y<|OY Y<|OX (EC gf170 Y) (may_b _ _ _) (fun Rj w2 Hd=>?_) (fun Rj w2 Hd=>?_)
 have H2:=H1.Au Hd
 refine OY Y<|Xn Y<|Xt Y Y<|Xm Y<|Ag e115<|OY Y<|Xf wT Y<|OY Y<|OV (EL ty3 Y (H2.cell (i:=0) Y Y))<|Ag e115<|OY Y<|OT (zQ Y Y) (fun hp45=>?_) (fun hp45=>?_)
 refine Xu Y Y<|Xm Y<|Ag e115<|Oz 3 Y<|Ag e115<|Xt Y Y ?_
 have m5:=()
 rotate_left 1
 refine Xu Y Y<|Xm Y<|Ag e115<|OY Y<|Xf wT Y<|OY Y<|OV (EL ty3 Y (H2.cell (i:=0) Y Y))<|Ag e115<|OY Y<|OT (yS Y Y) (fun ZV=>?_) (fun ZV=>?_)
 refine Xu Y Y ?_
 have m5:=()
 rotate_left 1
 refine Xu Y Y<|Xm Y<|Ag e115<|OY Y<|Xf wT Y<|OY Y<|OV (EL ty3 Y (H2.cell (i:=0) Y Y))<|Ag e115<|OY Y<|OT (xR Y Y) (fun hp55=>?_) (fun hp55=>?_)
 refine OY Y<|Xm Y<|OY Y<|Xf uT Y<|Ag e115<|OY Y<|OV (EL xO Y (H2.cell (i:=0) Y Y))<|OY Y<|OV (ES Gz Y)<|Ag e115<|OY Y<|OT (yS Y Y) (fun hp60=>?_) (fun hp60=>?_)
 refine OY Y<|Xt Y Y<|Xu Y Y ?_
 have m3:=()
 rotate_left 1
 refine OY Y<|Xt Y Y ?_
 have m1:=()
 rotate_left 1
 refine OY Y<|Xm Y<|Oz 4 Y<|Ag e115<|OY Y<|Xu Y Y ?_
 have m1:=()
 rotate_left 1
 have H2:=H1.Au Hd
 refine OY Y<|Xn Y<|Xt Y Y<|Xm Y<|Ag e115<|Oz 3 Y<|Ag e115<|Xt Y Y<|Xm Y<|Ag e115<|Oz 3 Y<|Ag e115<|Xt Y Y<|Xm Y<|Ag e115<|Oz 9 Y<|Ag e115<|Xt Y Y<|Xm Y<|Ag e115<|Oz 4 Y<|Ag e115 ?_
 refine Xt Y Y<|Xr e115<|J3 Y<|Rq<|Xa Y<|Xa Y<|Xr e115<|J5<|Kz Y Y Y<|⟨_,_,Y,Ans.no (QT (by omega)),H2.Af⟩
 refine Xm Y<|Ag e115<|Oz 5 Y<|Ag e115<|Xu Y Y<|Xm Y<|Ag e115<|OY Y<|Xf wT Y<|OY Y<|OV (EL ty3 Y (H1.cell (i:=0) Y Y))<|Ag e115<|OY Y<|OT (zQ Y Y) (fun hp45=>?_) (fun hp45=>?_)
 refine Xu Y Y<|Xm Y<|Ag e115<|Oz 3 Y<|Ag e115<|Xt Y Y ?_
 have m6:=()
 rotate_left 1
 refine Xu Y Y<|Xm Y<|Ag e115<|OY Y<|Xf wT Y<|OY Y<|OV (EL ty3 Y (H1.cell (i:=0) Y Y))<|Ag e115<|OY Y<|OT (yS Y Y) (fun ZV=>?_) (fun ZV=>?_)
 refine Xu Y Y ?_
 have m6:=()
 rotate_left 1
 refine Xu Y Y<|Xm Y<|Ag e115<|OY Y<|Xf wT Y<|OY Y<|OV (EL ty3 Y (H1.cell (i:=0) Y Y))<|Ag e115<|OY Y<|OT (xR Y Y) (fun hp55=>?_) (fun hp55=>?_)
 refine OY Y<|Xm Y<|OY Y<|Xf uT Y<|Ag e115<|OY Y<|OV (EL xO Y (H1.cell (i:=0) Y Y))<|OY Y<|OV (ES Gz Y)<|Ag e115<|OY Y<|OT (yS Y Y) (fun hp60=>?_) (fun hp60=>?_)
 refine OY Y<|Xt Y Y<|Xu Y Y ?_
 have m4:=()
 rotate_left 1
 refine OY Y<|Xt Y Y ?_
 have m2:=()
 rotate_left 1
 refine OY Y<|Xm Y<|Oz 4 Y<|Ag e115<|OY Y<|Xu Y Y ?_
 have m2:=()
 rotate_left 1
 any_goals
  clear m6
  refine Xm Y<|Ag e115<|Oz 9 Y<|Ag e115<|Xt Y Y ?_
  have m4:=()
  rotate_left 1
 any_goals
  clear m5
  refine Xm Y<|Ag e115<|Oz 9 Y<|Ag e115<|Xt Y Y ?_
  have m3:=()
  rotate_left 1
 any_goals
  clear m4
  refine Xm Y<|Ag e115<|Oz 4 Y<|Ag e115<|Xt Y Y<|Xr e115<|J3 Y<|Rq<|Xa Y<|Xa Y<|Xr e115<|J5<|Kz Y Y Y<|⟨_,_,Y,Ans.no (kF (by omega)),H1.Af⟩
 any_goals
  clear m3
  refine Xm Y<|Ag e115<|Oz 4 Y<|Ag e115<|Xt Y Y<|Xr e115<|J3 Y<|Rq<|Xa Y<|Xa Y<|Xr e115<|J5<|Kz Y Y Y<|⟨_,_,Y,Ans.no (kF (by omega)),H2.Af⟩
 any_goals
  clear m2
  refine Xu Y Y<|Xm Y<|Ag e115<|OY Y<|Xf uT Y<|OY Y<|OV (EL xO Y (H1.cell (i:=0) Y Y))<|Ag e115<|OY Y<|OV (ES Gz Y)<|OY Y<|OT (yS Y Y) (fun Wh=>?_) (fun Wh=>?_)
  refine Xu Y Y<|Xr e115<|J3 Y<|Rq<|Xa Y<|Xa Y<|Xr e115<|J5<|Kz Y Y Y<|⟨_,_,Y,Ans.no (kF (by omega)),H1.Af⟩
  refine Xu Y Y<|Xr e115<|J4 Y<|J6<|J1<|Rq<|Xf xZ Y<|OV (EL uY Y (H1.cell (i:=0) Y Y))<|OV (ES Lr Y)<|Xm Y<|Xr e115<|J7<|zV (fun nQ lQ w=>∃ (i:Nat) (y:Int),s.entries.length - i=nQ∧xM (Hy [(1,Aa 5),(5,Ah gs),(70,Ac A3 s.entries.length k3),(71,Aa (s.entries.length:Int)),(72,Aa y)] 0 115) lQ∧y=(i:Int)∧i≤s.entries.length∧tK s.index s.entries=tK (s.index+i) (s.entries.drop i)∧Hp w0 w [] [((some gs,97,Bv s A1 k1 A2 k2 A3 k3):Ent)]) (s.entries.length) ?_ ?_
  exact⟨0,_,Y,(Oc Y Y Y Y Y Y),Y,Am _,by simp,H1⟩
  rintro nQ lQ w2 ⟨i,y,rfl,hfit,rfl,hi,hinv,H2⟩
  obtain⟨j,rfl⟩:=hfit.open
  refine cR e115 ?_
  clear hfit
  refine Rq<|OT (zQ Y Y) (fun YO=>?_) (fun YO=>?_)
  have hil:i < s.entries.length:=by omega
  obtain⟨x,hx⟩:=yL hil
  obtain⟨p1,hp1,hR⟩:=he2.get hx
  obtain⟨Ax,kx,rfl,hbx⟩:=hR
  obtain⟨a1,ha1⟩:=hre.some_ (by omega)
  subst ha1
  refine Xr e115<|J1<|J3 Y<|J6<|J1<|J7<|Rq<|Xm Y<|OV (EI Lr wE Y Y Y hil Y)<|OV (EN wE Y (vs:=Ez x Ax kx) Y ((hre.to0 H2).elem hpe hp1))<|OA wE H2<|fun w3 g3 H3 hg3=>Ag e115<|Xa Y<|OS wE H3 1 Y Y Y Y Y (by first|exact NL Y|simp[zJ]) Y<|fun w4 H4=>Xr e115<|Rq<|Xf wF Y<|OV (EL ty3 Y (H4.cell (i:=1) Y Y))<|Xf wT Y<|OV (EL ty3 Y (H4.cell (i:=0) Y Y))<|Ag e115<|OV (zL Y Y (Ad _ (by omega)))<|Xm Y<|OV (zL Y Y (Ad _ (by omega)))<|OT (yR Y Y) (fun hp84=>?_) (fun hp84=>?_)
  refine Xm Y<|Ag e115<|Oz 3 Y<|Ag e115<|Xt Y Y<|Xm Y<|Ag e115<|Oz 4 Y<|Ag e115<|Xt Y Y<|Xr e115<|J3 Y<|Rq<|Xa Y<|Xa Y<|Xr e115<|J5<|BR<|yN<|BR<|Kz Y Y Y<|⟨_,_,Y,Ans.no (qT (by rw[hinv];exact qS hx fun hh=>by omega)),H4.Af⟩
  refine Xm Y<|Ag e115<|OY Y<|Xf wF Y<|OY Y<|OV (EL ty3 Y (H4.cell (i:=1) Y Y))<|Ag e115<|OY Y<|OT (yS Y Y) (fun hp88=>?_) (fun hp88=>?_)
  refine Xu Y Y<|Xm Y<|Ag e115<|Oz 4 Y<|Ag e115<|Xt Y Y<|Xr e115<|J3 Y<|Rq<|Xa Y<|Xa Y<|Xr e115<|J5<|BR<|yN<|BR<|Kz Y Y Y<|⟨_,_,Y,Ans.no (qT (by rw[hinv];exact qS hx fun hh=>by omega)),H4.Af⟩
  refine Xu Y Y<|Xm Y<|Ag e115<|OY Y<|Xf uU Y<|OY Y<|OV (EL xO Y (H4.cell (i:=1) Y Y))<|Ag e115<|OY Y<|OV (ES Gz Y)<|OY Y<|OT (yS Y Y) (fun Yh=>?_) (fun Yh=>?_)
  refine Xu Y Y<|Xr e115<|J3 Y<|Rq<|Xa Y<|Xa Y<|Xr e115<|J5<|BR<|yN<|BR<|Kz Y Y Y<|⟨_,_,Y,Ans.no (qT (by rw[hinv];exact qS hx fun hh=>by omega)),H4.Af⟩
  refine Xu Y Y<|Xr e115<|J4 Y<|J6<|zA (zB ?_)
  refine J2<|OV (zL Y Y (Ad _ (by omega)))<|Xm Y<|Xr e115<|zA (zH ?_)
  have hgo:=C6 (m:=s.index+i) hx ⟨by omega,by omega,by omega⟩
  exact⟨s.entries.length - (i+1),by omega,i+1,_,Y,(Oc Y Y Y Y Y Y),by omega,by omega,by rw[hinv,hgo];congr 1;omega,H4.pick [0] (by decide)⟩
  obtain rfl:i=s.entries.length:=by omega
  have hent:=hinv.trans dY
  refine Xr e115<|J1<|J4 Y<|J8<|zU<|zS<|Rq<|Xf vZ Y<|OV (EN vA Y (vs:=Gq s) Y (H2.Ap (i:=0) Y Y))<|Xf wT Y<|OV (EL ty3 Y (H2.cell (i:=0) Y Y))<|Ag e115<|Xf xZ Y<|OV (EL uY Y (H2.cell (i:=0) Y Y))<|OV (ES Lr Y)<|OV (zL Y Y (Ad _ (by omega)))<|Ag e115<|OV (zL Y Y (Ad _ (by omega)))<|Xf xW Y<|OV (EL uP Y (H2.cell (i:=0) Y Y))<|OQ (EC U7 Y) (O2 s.p (s.index+s.entries.length+1) A1 k1 s.Bc ok _ (hv1.Qn H2 k0) (by omega)) ?_
  rintro _ w3 ⟨v,e,rfl,hans,Hd⟩
  have H3:=H2.Au Hd
  rw[← C9 (by omega) (by omega) hent]at hans
  refine Ag e115<|Xm Y<|Xe Y Y<|Xe Y Y<|Xa Y<|Ag e115<|Xa Y<|Xr e115<|J1<|Rq<|Xm Y<|OT (yR Y Y) (fun X9=>?_) (fun X9=>?_)
  refine Xr e115<|J3 rfl<|Rq<|Xa rfl<|Xa rfl<|Xr e115<|J5<|Kz rfl rfl rfl<|⟨_,_,rfl,Ans.no (by cases hc:chk s with | false=>rfl | true=>exact absurd (hans.1 hc) X9),H3.Af⟩
  refine Xr e115<|J4 rfl<|J6<|Rq<|Xm rfl<|Xa rfl<|Xa rfl<|Xr e115<|J5<|Kz rfl rfl rfl<|⟨_,_,rfl,Ans.ok (by cases hc:chk s with | true=>rfl | false=>have:=hans.2 hc;omega),H3.Af⟩
 any_goals
  clear m1
  refine Xu Y Y<|Xm Y<|Ag e115<|OY Y<|Xf uT Y<|OY Y<|OV (EL xO Y (H2.cell (i:=0) Y Y))<|Ag e115<|OY Y<|OV (ES Gz Y)<|OY Y<|OT (yS Y Y) (fun Wh=>?_) (fun Wh=>?_)
  refine Xu Y Y<|Xr e115<|J3 Y<|Rq<|Xa Y<|Xa Y<|Xr e115<|J5<|Kz Y Y Y<|⟨_,_,Y,Ans.no (kF (by omega)),H2.Af⟩
  refine Xu Y Y<|Xr e115<|J4 Y<|J6<|J1<|Rq<|Xf xZ Y<|OV (EL uY Y (H2.cell (i:=0) Y Y))<|OV (ES Lr Y)<|Xm Y<|Xr e115<|J7<|zV (fun nQ lQ w=>∃ (i:Nat) (y:Int),s.entries.length - i=nQ∧xM (Hy [(1,Aa 5),(5,Ah gs),(70,Ac A3 s.entries.length k3),(71,Aa (s.entries.length:Int)),(72,Aa y)] 0 115) lQ∧y=(i:Int)∧i≤s.entries.length∧tK s.index s.entries=tK (s.index+i) (s.entries.drop i)∧Hp w0 w [] [((some gs,97,Bv s A1 k1 A2 k2 A3 k3):Ent)]) (s.entries.length) ?_ ?_
  exact⟨0,_,Y,(Oc Y Y Y Y Y Y),Y,Am _,by simp,H2⟩
  rintro nQ lQ w3 ⟨i,y,rfl,hfit,rfl,hi,hinv,H3⟩
  obtain⟨j,rfl⟩:=hfit.open
  refine cR e115 ?_
  clear hfit
  refine Rq<|OT (zQ Y Y) (fun YO=>?_) (fun YO=>?_)
  have hil:i < s.entries.length:=by omega
  obtain⟨x,hx⟩:=yL hil
  obtain⟨p1,hp1,hR⟩:=he2.get hx
  obtain⟨Ax,kx,rfl,hbx⟩:=hR
  obtain⟨a1,ha1⟩:=hre.some_ (by omega)
  subst ha1
  refine Xr e115<|J1<|J3 Y<|J6<|J1<|J7<|Rq<|Xm Y<|OV (EI Lr wE Y Y Y hil Y)<|OV (EN wE Y (vs:=Ez x Ax kx) Y ((hre.to0 H3).elem hpe hp1))<|OA wE H3<|fun w4 g4 H4 hg4=>Ag e115<|Xa Y<|OS wE H4 1 Y Y Y Y Y (by first|exact NL Y|simp[zJ]) Y<|fun w5 H5=>Xr e115<|Rq<|Xf wF Y<|OV (EL ty3 Y (H5.cell (i:=1) Y Y))<|Xf wT Y<|OV (EL ty3 Y (H5.cell (i:=0) Y Y))<|Ag e115<|OV (zL Y Y (Ad _ (by omega)))<|Xm Y<|OV (zL Y Y (Ad _ (by omega)))<|OT (yR Y Y) (fun hp84=>?_) (fun hp84=>?_)
  refine Xm Y<|Ag e115<|Oz 3 Y<|Ag e115<|Xt Y Y<|Xm Y<|Ag e115<|Oz 4 Y<|Ag e115<|Xt Y Y<|Xr e115<|J3 Y<|Rq<|Xa Y<|Xa Y<|Xr e115<|J5<|BR<|yN<|BR<|Kz Y Y Y<|⟨_,_,Y,Ans.no (qT (by rw[hinv];exact qS hx fun hh=>by omega)),H5.Af⟩
  refine Xm Y<|Ag e115<|OY Y<|Xf wF Y<|OY Y<|OV (EL ty3 Y (H5.cell (i:=1) Y Y))<|Ag e115<|OY Y<|OT (yS Y Y) (fun hp88=>?_) (fun hp88=>?_)
  refine Xu Y Y<|Xm Y<|Ag e115<|Oz 4 Y<|Ag e115<|Xt Y Y<|Xr e115<|J3 Y<|Rq<|Xa Y<|Xa Y<|Xr e115<|J5<|BR<|yN<|BR<|Kz Y Y Y<|⟨_,_,Y,Ans.no (qT (by rw[hinv];exact qS hx fun hh=>by omega)),H5.Af⟩
  refine Xu Y Y<|Xm Y<|Ag e115<|OY Y<|Xf uU Y<|OY Y<|OV (EL xO Y (H5.cell (i:=1) Y Y))<|Ag e115<|OY Y<|OV (ES Gz Y)<|OY Y<|OT (yS Y Y) (fun Yh=>?_) (fun Yh=>?_)
  refine Xu Y Y<|Xr e115<|J3 Y<|Rq<|Xa Y<|Xa Y<|Xr e115<|J5<|BR<|yN<|BR<|Kz Y Y Y<|⟨_,_,Y,Ans.no (qT (by rw[hinv];exact qS hx fun hh=>by omega)),H5.Af⟩
  refine Xu Y Y<|Xr e115<|J4 Y<|J6<|zA (zB ?_)
  refine J2<|OV (zL Y Y (Ad _ (by omega)))<|Xm Y<|Xr e115<|zA (zH ?_)
  have hgo:=C6 (m:=s.index+i) hx ⟨by omega,by omega,by omega⟩
  exact⟨s.entries.length - (i+1),by omega,i+1,_,Y,(Oc Y Y Y Y Y Y),by omega,by omega,by rw[hinv,hgo];congr 1;omega,H5.pick [0] (by decide)⟩
  obtain rfl:i=s.entries.length:=by omega
  have hent:=hinv.trans dY
  refine Xr e115<|J1<|J4 Y<|J8<|zU<|zS<|Rq<|Xf vZ Y<|OV (EN vA Y (vs:=Gq s) Y (H3.Ap (i:=0) Y Y))<|Xf wT Y<|OV (EL ty3 Y (H3.cell (i:=0) Y Y))<|Ag e115<|Xf xZ Y<|OV (EL uY Y (H3.cell (i:=0) Y Y))<|OV (ES Lr Y)<|OV (zL Y Y (Ad _ (by omega)))<|Ag e115<|OV (zL Y Y (Ad _ (by omega)))<|Xf xW Y<|OV (EL uP Y (H3.cell (i:=0) Y Y))<|OQ (EC U7 Y) (O2 s.p (s.index+s.entries.length+1) A1 k1 s.Bc ok _ (hv1.Qn H3 k0) (by omega)) ?_
  rintro _ w4 ⟨v,e,rfl,hans,Hd⟩
  have H4:=H3.Au Hd
  rw[← C9 (by omega) (by omega) hent]at hans
  refine Ag e115<|Xm Y<|Xe Y Y<|Xe Y Y<|Xa Y<|Ag e115<|Xa Y<|Xr e115<|J1<|Rq<|Xm Y<|OT (yR Y Y) (fun X9=>?_) (fun X9=>?_)
  refine Xr e115<|J3 rfl<|Rq<|Xa rfl<|Xa rfl<|Xr e115<|J5<|Kz rfl rfl rfl<|⟨_,_,rfl,Ans.no (by cases hc:chk s with | false=>rfl | true=>exact absurd (hans.1 hc) X9),H4.Af⟩
  refine Xr e115<|J4 rfl<|J6<|Rq<|Xm rfl<|Xa rfl<|Xa rfl<|Xr e115<|J5<|Kz rfl rfl rfl<|⟨_,_,rfl,Ans.ok (by cases hc:chk s with | true=>rfl | false=>have:=hans.2 hc;omega),H4.Af⟩
theorem UH (s:Sv) (A1:Option Addr) (k1:Nat) (A2:Option Addr) (k2:Nat) (A3:Option Addr) (k3:Nat) (ok:Nat→Prop) (w0:World) (hv1:Sl (Oe w0 ok) 4 w0 ok A1 s.Bc) (hv2:Bs w0 ok A2 s.image) (hv3:Sl (Qp w0 ok) 2 w0 ok A3 s.entries) (hvl:s.Bc.length≤1000000000000000000) (hel2:s.entries.length≤1000000000000000000):Aj 68 #[Aa 1,Aa 5,.agg (Bv s A1 k1 A2 k2 A3 k3).toArray] w0 (fun r w'=>∃ e:Int,r=Aa e∧Ans (chk s) e∧Hp w0 w' [] []):=by
 refine zG Tryz.func68 Tryz.ntmps68 Y<|cR e17 ?_
 have H:=Hp.refl w0
 refine Rq<|yA Y Y H<|fun w1 g1 H1 hg1=>Xa Y<|Xr e17<|Rq<|Xm Y<|Xm Y<|OV (EN wD Y (vs:=Bv s A1 k1 A2 k2 A3 k3) Y (H1.Ap (i:=0) Y Y))<|OQ (EC gf120 Y) (WJ s A1 k1 A2 k2 A3 k3 ok _ (hv1.Qn H1 k0) (hv2.to H1 k0) (hv3.Tt H1 k0) hvl hel2) ?_
 rintro _ w2 ⟨v,e,rfl,hans,Hd⟩
 have H2:=H1.Au Hd
 refine Ag e17<|Xm Y<|Xe Y Y<|Xe Y Y<|Xa Y<|Ag e17<|Xa Y<|Xr e17<|Rq<|Xm Y<|Xa Y<|Xr e17<|J5<|Cm Y Y<|⟨_,Y,hans,H2.Af⟩
theorem UI (A:Option Addr) (k:Nat) (l:List Rt) (ok:Nat→Prop) (w0:World) (hl:Sl Nu 4 w0 ok A l) (hn:l.length≤1000000000000) (hso:qV l):Aj 152 #[Ac A l.length k] w0 (fun r w'=>r=Aa 0∧Hp w0 w' [] []):=by
 refine zG Tryz.func152 Tryz.ntmps152 Y<|cR e30 ?_
 have H:=Hp.refl w0
 obtain⟨ps,hp,hr,ha,h2⟩:=id hl
 have hlen:=h2.len
 obtain⟨Vs,hrise⟩:=tZ hso
 refine Rq<|Xa Y<|Xr e30<|J1<|Rq<|Xm Y<|OV (ES Ht Y)<|Xm Y<|Xr e30<|J7<|zV (fun nQ lQ w=>∃ (i:Nat) (y:Int),l.length - i=nQ∧xM (Hy [(0,Ac A l.length k),(5,Ac A l.length k),(6,Aa (l.length:Int)),(7,Aa y)] 0 30) lQ∧y=(i:Int)∧i≤l.length∧Hp w0 w [] []) (l.length) ?_ ?_
 exact⟨0,_,Y,(Jg Y Y Y Y Y),Y,Am _,H⟩
 rintro nQ lQ w1 ⟨i,y,rfl,hfit,rfl,hi,H1⟩
 obtain⟨j,rfl⟩:=hfit.open
 refine cR e30 ?_
 clear hfit
 refine Rq<|OT (zQ Y Y) (fun hp8=>?_) (fun hp8=>?_)
 have hil:i < l.length:=by omega
 obtain⟨x,hx⟩:=yL hil
 obtain⟨p1,hp1,hR⟩:=h2.get hx
 unfold Nu at hR
 subst hR
 obtain⟨a1,ha1⟩:=hr.some_ (by omega)
 subst ha1
 have hmay:=Vs x (mem_of hx)
 refine Xr e30<|J1<|J3 Y<|J6<|J1<|J7<|Rq<|Xm Y<|OV (EI Ht xA Y Y Y hil Y)<|OV (EN xA Y (vs:=Ar x) Y ((hr.to0 H1).elem hp hp1))<|OA xA H1<|fun w2 g2 H2 hg2=>Ag e30<|Xa Y<|OS xA H2 0 Y Y Y Y Y (by first|exact NL Y|simp[zJ]) Y<|fun w3 H3=>Xr e30<|J1<|zR 16 [(true,0),(false,1),(true,2),(true,3),(true,4),(true,5),(true,6),(true,7),(true,8),(true,9),(true,10),(true,11),(true,12),(false,13),(true,14),(true,15),(false,16)] H3 [0] yE (by decide) (by kernel_rfl) ?_
 rintro w4 hw4
 have H4:=Hp.drew H3;rw[← hw4]at H4
 refine MP Y<|MV (fun wz hz=>EN xA Y (vs:=Ar x) Y (hz.Ap (i:=0) Y Y))<|MO Y<|oT (EC VA Y) (U1 _ _) (hmay)<|fun w5 Hd=>have H5:=H4.Au Hd;OE<|⟨fun hne=>H5.pick [0] (by decide),?_⟩
 refine cZ e30<|MP Y<|MV (fun wz hz=>pX Y)<|Zm Y Y<|MP Y<|MY Y<|MV (fun wz hz=>zI Y)<|MP Y<|MY Y<|vS (fun wz hz=>yS Y Y) (fun hp17=>?_) (fun hp17=>?_)
 obtain⟨y,hy⟩:=yL (l:=l) (j:=i - 1) (by omega)
 obtain⟨p2,hp2,hR2⟩:=h2.get hy
 unfold Nu at hR2
 subst hR2
 have hneg:nM y x < 0:=SW.2 (hrise (i - 1) i y x (by omega) hy hx)
 refine MP Y<|MY Y<|MV (fun wz hz=>zI Y)<|cZ e30<|MP Y<|MY Y<|MV (fun wz hz=>zI Y)<|MP Y<|MY Y<|MV (fun wz hz=>zI Y)<|MP Y<|MY Y<|MV (fun wz hz=>tA Y Y (Ad _ (by omega)))<|MP Y<|MY Y<|MV (fun wz hz=>EI Ht xA Y Y (len:=l.length) (i:=i - 1) (by omega) (by omega) Y)<|cZ e30<|MP Y<|MY Y<|MV (fun wz hz=>EN xA Y (vs:=Ar y) Y ((hr.to0 hz).elem hp hp2))<|MP Y<|MY Y<|MV (fun wz hz=>EN xA Y (vs:=Ar x) Y (hz.Ap (i:=0) Y Y))<|MO Y<|OY Y<|OC (EC U9 Y) (N3 y x _)<|fun w6 Hd=>have H6:=H5.Au Hd;OE<|⟨fun hne=>H6.pick [0] (by decide),?_⟩
 refine cZ e30<|MP Y<|MY Y<|sE (fun wz hz=>wM Y Y) (by omega)<|MP Y<|MY Y<|MV (fun wz hz=>xG Y Y)<|MO Y<|Xu Y Y<|OE<|⟨fun hne=>absurd Y hne,?_⟩
 refine cZ e30<|ME<|cR e30<|J4 Y<|J6<|zA (zB ?_)
 refine J2<|OV (zL Y Y (Ad _ (by omega)))<|Xm Y<|Xr e30<|zA (zH ?_)
 exact⟨l.length - (i+1),by omega,i+1,_,Y,(Jg Y Y Y Y Y),by omega,by omega,H6.Af⟩
 refine MP Y<|MY Y<|MV (fun wz hz=>zI Y)<|cZ e30<|MP Y<|MZ Y<|MP Y<|MZ Y<|cZ e30<|MP Y<|MZ Y<|MP Y<|MZ Y<|cZ e30<|MP Y<|MZ Y<|MP Y<|MZ Y<|cZ e30<|MO Y<|OZ Y<|OE<|⟨fun hne=>H5.pick [0] (by decide),?_⟩
 refine MP Y<|MZ Y<|cZ e30<|MP Y<|MY Y<|MV (fun wz hz=>xV Y Y)<|MO Y<|Xu Y Y<|OE<|⟨fun hne=>absurd Y hne,?_⟩
 refine cZ e30<|ME<|cR e30<|J4 Y<|J6<|zA (zB ?_)
 refine J2<|OV (zL Y Y (Ad _ (by omega)))<|Xm Y<|Xr e30<|zA (zH ?_)
 exact⟨l.length - (i+1),by omega,i+1,_,Y,(Jg Y Y Y Y Y),by omega,by omega,H5.Af⟩
 refine Xr e30<|J1<|J4 Y<|J8<|zU<|zS<|Rq<|Xa Y<|Xr e30<|J5<|Cm Y Y<|⟨Y,H1.Af⟩
theorem put_l (x:Rt) (A:Option Addr) (k:Nat) (l:List Rt) (ok:Nat→Prop) (w0:World) (hl:Sl Nu 4 w0 ok A l) (hn:l.length≤1000000000000) (hso:qV l):Aj 111 #[Ac A l.length k,.agg (Ar x).toArray] w0 (fun r w'=>(mH x→∃ A' k',r=.tuple #[Ac A' (Hf l x).length k',Aa 0]∧Sl Nu 4 w' (fun b=>w0.heap.size≤b) A' (Hf l x))∧(¬mH x→r=.tuple #[Dn,Aa 1])∧Hp w0 w' [] []):=by
 refine zG Tryz.func111 Tryz.ntmps111 Y<|cR e34 ?_
 have H:=Hp.refl w0
 obtain⟨ps,hp,hr,ha,h2⟩:=id hl
 have hlen:=h2.len
 obtain⟨Vs,hrise⟩:=tZ hso
 have hon:=h2.ones fun _ _ h=>h.ones
 refine Rq<|yA Y Y H<|fun w1 gx H1 _=>Xa Y<|Xa Y<|Xr e34<|J1<|Rq<|Xm Y<|OC (EC gf152 Y) (UI A k l ok _ (hl.toR H1 k0) hn hso)<|fun w2 Hd=>have H2:=H1.Au Hd;Jw (yR Y Y) (by decide)<|Xr e34<|J4 Y<|J6<|J1<|Rq<|OV (EN xA Y (vs:=Ar x) Y (H2.Ap (i:=0) Y Y))<|OX (EC VA Y) (U1 _ _) (fun Pj w3 Hd=>?_) (fun Pj w3 Hd=>?_)
 have H3:=H2.Au Hd
 refine Xn Y<|Xr e34<|J4 Y<|J6<|Rq<|Xm Y<|OQ (EC XB Y) (HV A l.length k ps.flatten _ (hr.to0 H3) (xI hon) (by omega)) ?_
 rintro _ w4 ⟨gv,cv,sv,rfl,hmv,hcv,Si,Hc⟩
 have hgf:=wQ (ok:=fun _=>False) Hc (i:=0) rfl (fun _ h=>by cases h)
 have hsz1:=H3.size
 have H4:=H3.call0 Hc
 refine Xa Y<|Xr e34<|Rq<|Xm Y<|OV (EN xA Y (vs:=Ar x) Y (H4.Ap (i:=0) Y Y)) ?_
 have hrs:=H4.rd (i:=1) (xs:=ps.flatten) (sp:=sv) rfl hp.len (by decide)
 refine OQ (EC gf154 Y) (QV (hd gv) cv ps l.length hlen 155 (Jv x) Y (R7 x) _ hp hrs (by omega) (L5 h2 (B7 hrise x))) ?_
 rintro _ w5 ⟨i,f,rfl,hfd,Hd⟩
 have H5:=H4.Au Hd
 refine Xm Y<|Ag e34<|Xe Y Y<|Xe Y Y<|Xa Y<|Xa Y<|Xr e34<|J1<|Rq<|Xm Y<|Xr e34<|wU Y (fun hb23=>?_) (fun hb23=>?_)
 obtain⟨pi,hpi,_⟩:=hfd.yes hb23
 have hil:=lt_of_get hpi
 obtain⟨gw,rfl⟩:=vK H5 (i:=1) rfl (by rw[Ae,hp.len];omega)
 subst hb23
 refine Rq<|Xm Y<|Xm Y<|OV (EN xA Y (vs:=Ar x) Y (H5.Ap (i:=0) Y Y))<|OV (uR Ht xA Y Y Y (by omega))<|Ag e34<|OS xA H5 1 Y Y Y Y Y (by rw[Ae,hp.len];show 0+i*4+4≤_;omega) Y<|fun w6 H6=>?_
 rw[nX (sz:=4) (vs:=Jv x) hp hil rfl]at H6
 replace H6:=H6.pick [0,1] (by decide)
 refine Xr e34<|Rq<|Xm Y<|Xa Y<|Xa Y<|Xr e34<|J5<|Kz Y Y Y ?_
 have hput:=hfd.put (v:=x) h2 (fun p x h=>dO h) (B7 hrise x)
 rw[← EA]at hput
 have HZ:=H6
 rw[if_pos rfl]at hput
 refine⟨fun _=>⟨hd (some gw),cv,by rw[hput,Kt],?_⟩,fun h=>absurd Pj h,H6.Af⟩
 rw[hput]
 exact Sl.row HZ (i:=1) Y (hp.Ru Y) (by decide) (h2.set i Y) (fun b hb=>by
  rcases HZ.place (i:=1) (g:=b) (by cases hb;rfl)with h | h
  · cases h
  exact h)
 subst hb23
 refine J6<|Rq<|Xm Y<|Xm Y<|OV (EN xA Y (vs:=Ar x) Y (H5.Ap (i:=0) Y Y))<|zE Ht xA H5 Y (by decide) Y<|fun w6 g6 H6 hg6=>Ag e34<|OQ (EC gf156 Y) (TL gv cv i _ l.length ps hlen (Jv x) sv _ (H6.pick [1] (by decide)).here hp hon (by omega) hcv Si hfd.le (H6.at (i:=2) Y) Y Y (Fa H6 (i:=2) (is:=[1]) Y (by decide)) (by omega)) ?_
 rintro _ w7 ⟨gw,cw,sw,rfl,hnw,hcw,hgw,Hd⟩
 rw[hlen]
 have H7:=(H6.Du [1] rfl Hd).pick [0,3] (by decide)
 refine Xa Y<|Xa Y<|Xr e34<|J5<|Kz Y Y Y ?_
 have hput:=hfd.put (v:=x) h2 (fun p x h=>dO h) (B7 hrise x)
 rw[← EA]at hput
 have HZ:=H7
 rw[if_neg (by decide)]at hput
 have hle:=hfd.le
 have hil3:(l.take i++x::l.drop i).length=l.length+1:=by rw[Ae,Bj,Aw,Bl];omega
 refine⟨fun _=>⟨hd gw,cw,by rw[hput,hil3],?_⟩,fun h=>absurd Pj h,H7.Af⟩
 rw[hput]
 exact Sl.row HZ (i:=1) Y ((hp.sub fun x hx=>Gg hx).app fun x hx=>by
  rcases Cj.1 hx with rfl | hx
  · rfl
  · exact hp x (Es hx)) (by decide) ((h2.take i).app ⟨Y,h2.drop i⟩) (fun b hb=>by
  rcases HZ.place (i:=1) (g:=b) (by cases hb;rfl)with h | h
  · cases h
  exact h)
 have H3:=H2.Au Hd
 refine Xn Y<|Xr e34<|J3 Y<|Rq<|Xa Y<|Xa Y<|Xr e34<|J5<|Kz Y Y Y<|⟨fun h=>absurd h Pj,fun _=>Y,H3.Af⟩
theorem UF (A:Option Addr) (k:Nat) (l:List Mk) (ok:Nat→Prop) (w0:World) (hl:Sl Pv 7 w0 ok A l) (hn:l.length≤1000000000000) (hso:sC 0 l):Aj 157 #[Ac A l.length k] w0 (fun r w'=>r=Aa 0∧Hp w0 w' [] []):=by
 refine zG Tryz.func157 Tryz.ntmps157 Y<|cR e49 ?_
 have H:=Hp.refl w0
 obtain⟨ps,hp,hr,ha,h2⟩:=id hl
 have hlen:=h2.len
 obtain⟨Zb,hrise⟩:=vY hso
 refine Rq<|Xa Y<|Xr e49<|Rq<|Xa Y<|Xr e49<|J1<|Rq<|Xm Y<|OV (ES Lp Y)<|Xm Y<|Xr e49<|J7<|zV (fun nQ lQ w=>∃ (i:Nat) (y m:Int),l.length - i=nQ∧xM (Hy [(3,Aa m),(6,Ac A l.length k),(7,Aa (l.length:Int)),(8,Aa y)] 0 49) lQ∧y=(i:Int)∧i≤l.length∧sC m (l.drop i)∧Hp w0 w [] []) (l.length) ?_ ?_
 exact⟨0,_,0,Y,(Jg Y Y Y Y Y),Y,Am _,hso,H⟩
 rintro nQ lQ w1 ⟨i,y,m,rfl,hfit,rfl,hi,hinv,H1⟩
 obtain⟨j,rfl⟩:=hfit.open
 refine cR e49 ?_
 clear hfit
 refine Rq<|OT (zQ Y Y) (fun hp9=>?_) (fun hp9=>?_)
 have hil:i < l.length:=by omega
 obtain⟨x,hx⟩:=yL hil
 obtain⟨p1,hp1,hR⟩:=h2.get hx
 unfold Pv at hR
 subst hR
 obtain⟨a1,ha1⟩:=hr.some_ (by omega)
 subst ha1
 rw[uX hx]at hinv
 obtain⟨hm1,hm2,hm3,hm4,hm5⟩:=hinv
 refine Xr e49<|J1<|J3 Y<|J6<|J1<|J7<|Rq<|OV (EI Lp yT Y Y Y hil Y)<|OV (EN yT Y (vs:=[Aa x.client,Aa x.seq,.bool false,Aa 0,Aa 0,Aa 0,Aa 0]) Y ((hr.to0 H1).elem hp hp1))<|OA yT H1<|fun w2 g2 H2 hg2=>OS yT H2 0 Y Y Y Y Y (by first|exact NL Y|simp[zJ]) Y<|fun w3 H3=>Xr e49<|J1<|Rq<|Xf tU Y<|OV (EL ty3 Y (H3.cell (i:=0) Y Y))<|Xm Y<|Jw (tB Y Y) (by omega)<|Ag e49<|Xm Y<|OY Y<|Xf tU Y<|Ag e49<|OY Y<|OV (EL ty3 Y (H3.cell (i:=0) Y Y))<|OY Y<|Jw (yS Y Y) (by omega)<|Xu Y Y<|Xm Y<|Ag e49<|OY Y<|Xf jL Y<|OY Y<|OV (EL ty3 Y (H3.cell (i:=0) Y Y)) ?_
 refine Ag e49<|OY Y<|Jw (zQ Y Y) (by omega)<|Xu Y Y<|Xm Y<|Ag e49<|OY Y<|Xf jL Y<|OY Y<|OV (EL ty3 Y (H3.cell (i:=0) Y Y))<|Ag e49<|OY Y<|Jw (yS Y Y) (by omega)<|Xu Y Y<|Xm Y<|Ag e49<|OY Y<|Xf JO Y<|OY Y<|OV (EL ty4 Y (H3.cell (i:=0) Y Y))<|Ag e49<|OY Y<|Xm Y<|Oz 9 Y<|Ag e49<|OY Y<|Xu Y Y<|Xu Y Y ?_
 refine Xr e49<|J4 Y<|J6<|J2<|Xf tU Y<|OV (EL ty3 Y (H3.cell (i:=0) Y Y))<|Xa Y<|Xr e49<|zA (zB ?_)
 refine J2<|OV (zL Y Y (Ad _ (by omega)))<|Xm Y<|Xr e49<|zA (zH ?_)
 exact⟨l.length - (i+1),by omega,i+1,_,x.client,Y,(Jg Y Y Y Y Y),by omega,by omega,hm5,H3.Af⟩
 refine Xr e49<|J1<|J4 Y<|J8<|zU<|zS<|Rq<|Xa Y<|Xr e49<|J5<|Cm Y Y<|⟨Y,H1.Af⟩
set_option maxHeartbeats 4000000
theorem SQ (A:Option Addr) (k:Nat) (l:List Mk) (c:Int) (ps:List (List Value)) (w0:World) (hp:Pl 7 ps) (hr:Rd w0 A l.length 7 ps.flatten) (h2:wC Pv ps l) (hn:l.length≤1000000) (hso:sC 0 l):Aj 158 #[Ac A l.length k,Aa c] w0 (fun r w'=>∃ (i:Nat) (f:Bool),r=.tuple #[Aa (i:Int),.bool f]∧BN ps (OM c) i f∧Hp w0 w' [] []):=by
 refine zG Tryz.func158 Tryz.ntmps158 Y<|cR e11 ?_
 have H:=Hp.refl w0
 have hlen:=h2.len
 refine Rq<|Xa Y<|Xa Y<|Xr e11<|Rq<|Xm Y<|Xm Y<|OQ (EC gf189 Y) (QW A k ps l.length hlen 190 c (OM c) _ hp (by rw[hlen];exact hr.to0 H) (by omega) (QR h2 (IT (vY hso).2 c))) ?_
 rintro _ w1 ⟨i,f,rfl,hfd,Hd⟩
 have H1:=H.Au Hd
 refine Xe Y Y<|Ag e11<|Xe Y Y<|Xa Y<|Xa Y<|Xr e11<|J5<|Kz Y Y Y<|⟨i,f,Y,hfd,H1.Af⟩
theorem P4 (A:Option Addr) (k:Nat) (l:List Mk) (c:Int) (ok:Nat→Prop) (w0:World) (hl:Sl Pv 7 w0 ok A l) (hn:l.length≤1000000) (hso:sC 0 l):Aj 112 #[Ac A l.length k,Aa c] w0 (fun r w'=>∃ (m:Mk) (f:Bool),r=.tuple #[.agg (Tz m).toArray,.bool f]∧(f=true→Fh l c=some m)∧(f=false→Fh l c=none)∧Hp w0 w' [] []):=by
 refine zG Tryz.func112 Tryz.ntmps112 Y<|cR e25 ?_
 have H:=Hp.refl w0
 obtain⟨ps,hp,hr,ha,h2⟩:=id hl
 have hlen:=h2.len
 refine Rq<|OA yT H<|fun w1 g1 H1 hg1=>Xa Y<|Xr e25<|J1<|Rq<|Xm Y<|OC (EC gf157 Y) (UF A k l ok _ (hl.toM H1 k0) (by omega) hso)<|fun w2 Hd=>have H2:=H1.Au Hd;Jw (yR Y Y) (by decide)<|Xr e25<|J4 Y<|J6<|Rq<|Xm Y<|Xm Y<|OQ (EC gf158 Y) (SQ A k l c ps _ hp (hr.to0 H2) h2 hn hso) ?_
 rintro _ w3 ⟨i,f,rfl,hfd,Hd⟩
 have H3:=H2.Au Hd
 obtain⟨hyes,hno⟩:=G7 hfd h2 (vY hso).2
 cases f
 refine Xm Y<|Xe Y Y<|Ag e25<|Xe Y Y<|Xa Y<|Xa Y<|Xr e25<|J1<|Rq<|Xm Y<|Xn Y<|Xr e25<|J3 Y<|Rq<|OV (EB yT eZ Y Y)<|OS yT H3 0 Y Y Y Y Y (by first|exact NL Y|simp[zJ]) Y<|fun w4 H4=>Xa Y<|Xr e25<|J5<|xS Y yT (cs:=Tz ⟨0,0⟩) Y Y Y (H4.Ap (i:=0) Y Y)<|⟨⟨0,0⟩,false,Y,(fun h=>by cases h),fun _=>hno Y,H4.Af⟩
 obtain⟨x,hx,hfx⟩:=hyes rfl
 obtain⟨p1,hp1,hR⟩:=h2.get hx
 unfold Pv at hR
 subst hR
 obtain⟨a1,ha1⟩:=hr.some_ (by have:=lt_of_get hx;omega)
 subst ha1
 refine Xm Y<|Xe Y Y<|Ag e25<|Xe Y Y<|Xa Y<|Xa Y<|Xr e25<|J1<|Rq<|Xm Y<|Xn Y<|Xr e25<|J4 Y<|J6<|Rq<|Xm Y<|Xm Y<|OV (EI Lp yT Y Y Y (lt_of_get hx) Y)<|OV (EN yT Y (vs:=Tz x) Y ((hr.to0 H3).elem hp hp1))<|Ag e25<|OS yT H3 0 Y Y Y Y Y (by first|exact NL Y|simp[zJ]) Y<|fun w4 H4=>Xa Y<|Xr e25<|J5<|xS Y yT (cs:=Tz x) Y Y Y (H4.Ap (i:=0) Y Y)<|⟨x,true,Y,fun _=>hfx,(fun h=>by cases h),H4.Af⟩
theorem R0 (n:Int) (w0:World):Aj 67 #[Aa n] w0 (fun r w'=>((n < 1∨4 < n)→r=.nilFunc)∧(n=1→r=.func (.func 116) #[] #[])∧(n=2→r=.func (.func 117) #[] #[])∧(n=3→r=.func (.func 118) #[] #[])∧(n=4→r=.func (.func 119) #[] #[])∧Hp w0 w' [] []):=by
 refine zG Tryz.func67 Tryz.ntmps67 Y<|cR e12 ?_
 have H:=Hp.refl w0
 refine Rq<|Xa Y<|Xr e12<|J1<|Rq<|Xm Y<|OT (zQ Y Y) (fun hp4=>?_) (fun hp4=>?_)
 refine Xm Y<|Ag e12<|Oz 2 Y<|Xt Y Y ?_
 have m1:=()
 rotate_left 1
 refine Xm Y<|Ag e12<|OY Y<|Xm Y<|OY Y<|OT (yS Y Y) (fun Ua=>?_) (fun Ua=>?_)
 refine Xu Y Y ?_
 have m1:=()
 rotate_left 1
 refine Xu Y Y<|Xr e12<|J4 Y<|J6<|Rq<|OV (LX ty192 U192 DM Y Y)<|Xm Y ?_
 obtain hk | hk | hk | hk:n=1∨n=2∨n=3∨n=4:=by omega
 subst hk
 refine OV (mR U192 DM Y Y (i:=1) Y (by decide) Y)<|Xa Y<|Xr e12<|J5<|Cm Y Y ?_
 refine⟨fun h=>by omega,fun _=>Y,fun h=>by omega,fun h=>by omega,fun h=>by omega,H.Af⟩
 subst hk
 refine OV (mR U192 DM Y Y (i:=2) Y (by decide) Y)<|Xa Y<|Xr e12<|J5<|Cm Y Y ?_
 refine⟨fun h=>by omega,fun h=>by omega,fun _=>Y,fun h=>by omega,fun h=>by omega,H.Af⟩
 subst hk
 refine OV (mR U192 DM Y Y (i:=3) Y (by decide) Y)<|Xa Y<|Xr e12<|J5<|Cm Y Y ?_
 refine⟨fun h=>by omega,fun h=>by omega,fun h=>by omega,fun _=>Y,fun h=>by omega,H.Af⟩
 subst hk
 refine OV (mR U192 DM Y Y (i:=4) Y (by decide) Y)<|Xa Y<|Xr e12<|J5<|Cm Y Y ?_
 refine⟨fun h=>by omega,fun h=>by omega,fun h=>by omega,fun h=>by omega,fun _=>Y,H.Af⟩
 any_goals
  clear m1
  refine Xr e12<|J3 Y<|Rq<|Xa Y<|Xr e12<|J5<|Cm Y Y ?_
  refine⟨fun _=>Y,fun h=>by omega,fun h=>by omega,fun h=>by omega,fun h=>by omega,H.Af⟩
set_option maxHeartbeats 32000000
@[reducible] def bof :Option Value→Nat
 | none=>0
 | some _=>1
@[reducible] def bty :Option Value→TypeId
 | none=>41
 | some _=>69
@[reducible] def bcs :Option Value→List Value→List Value
 | none,l=>l
 | some p,l=>p::l
theorem R2 (pre:Option Value) (gb:Nat) (b:Bo) (A1:Option Addr) (k1:Nat) (A2:Option Addr) (k2:Nat) (A3:Option Addr) (k3:Nat) (n:Nt) (B1:Option Addr) (j1:Nat) (B2:Option Addr) (j2:Nat) (N:Nat) (w0:World) (hrow:w0.heap[gb]? =some (.cells (bcs pre (Bd A1 b k1 A2 k2 A3 k3)).toArray (bty pre) (0,0))) (ok:Nat→Prop) (hok:¬ok gb) (hb1:Sl (Qz w0 ok) 6 w0 ok A1 b.groups) (hb2:Sl Nu 4 w0 ok A2 b.rights) (hb3:Sl Pv 7 w0 ok A3 b.last) (hg:rE b N) (hN:N≤900000000000):Aj 66 #[.pointer (some ⟨gb,bof pre,none⟩),.agg (Ed n B1 j1 B2 j2).toArray] w0 (fun r w'=>(mH n.right→r=.bool true∧∃ cs',Hp w0 w' [gb] [((some gb,bty pre,bcs pre cs'):Ent)]∧Qq w' (up ok w0.heap.size) cs' { b with rights:=Hf b.rights n.right,last:=uS b.last n.client n.seq })∧(¬mH n.right→r=.bool false∧Hp w0 w' [gb] [])):=by
 refine zG Tryz.func66 Tryz.ntmps66 Y<|cR Hg ?_
 let o:=bof pre
 rcases pre with _ | p
 all_goals
  have H:=Hp.old hrow
  have hks:=KT (n:=w0.heap.size) (ok:=ok) (S:=[gb]) fun x hx hg=>hok (by rw[← Az.1 hg];exact hx)
  have hml:=mG hg.Y4
  have hrl:=hg.few
  obtain⟨pm,hpm,hrm,ham,hm2⟩:=id hb3
  have hplen:=hm2.len
  have hon:=hm2.ones fun _ _ h=>h.ones
  refine Rq<|yA Y Y H<|fun w1 g1 H1 hg1=>Xa Y<|Xr Hg<|J1<|zR 11 [(true,0),(true,1),(true,2),(true,3),(true,4),(true,5),(false,6),(true,7),(true,8),(true,9),(true,10),(false,11)] H1 [0,1] yE (by decide) (by kernel_rfl) ?_
  rintro w2 hw2
  have H2:=Hp.drew H1;rw[← hw2]at H2
  refine Zm Y Y<|Zc Y Y<|Zf Y sI Y<|MP Y<|MV (fun wz hz=>EL lF Y (hz.cell (i:=0) Y Y))<|cZ Hg<|Zf Y eJ Y<|MP Y<|MV (fun wz hz=>EN xA Y (vs:=Uz n) Y (hz.Ap (i:=1) Y Y))<|MO Y ?_
  have hnb:=Hp.fresh H2
  have hszj:=H2.size
  refine OQ (EC gf111 Y) (put_l n.right A2 k2 b.rights (up ok w0.heap.size) _ (hb2.toR H2 hks) (by omega) hg.rts) ?_
  rintro r w3 ⟨hyes,hno,Hd⟩
  have H3:=H2.Au Hd
  by_cases hmay:mH n.right
  obtain⟨A9,k9,rfl,hS9⟩:=hyes hmay
  refine OE ?_
  refine⟨fun hne=>H3.pick [0,1] (by decide),?_⟩
  refine Zm Y Y<|MP Y<|MV (fun wz hz=>xF Y Y)<|cZ Hg<|MP Y<|MV (fun wz hz=>xF Y Y)<|MP Y<|MV (fun wz hz=>zO Y)<|MO Y<|Xa Y<|OE<|⟨fun hne=>absurd Y hne,?_⟩
  refine cZ Hg<|ME<|cR Hg<|J1<|Rq<|Xm Y<|Jw (yR Y Y) (by decide)<|Xr Hg<|J4 Y<|J6<|Rq<|Xm Y<|Xm Y<|Xc Y<|Xf sI Y<|Ag Hg ?_
  have HB:=H3
  replace H3:=HB.here
  refine OW lF H3 0 Y Y Y Y (Oi Y) Y<|fun w4 H4=>Xr Hg<|J1<|Rq<|Xf uZ Y<|OV (EL ty3 Y (H4.cell (i:=1) Y Y))<|OT (zQ Y Y) (fun YP=>?_) (fun YP=>?_)
  refine Xm Y<|Ag Hg<|Oz 3 Y<|Ag Hg<|Xt Y Y ?_
  have m4:=()
  rotate_left 1
  refine Xm Y<|Ag Hg<|OY Y<|Xf uZ Y<|OY Y<|OV (EL ty3 Y (H4.cell (i:=1) Y Y))<|Ag Hg<|OY Y<|OT (yS Y Y) (fun ZY=>?_) (fun ZY=>?_)
  refine Xu Y Y ?_
  have m4:=()
  rotate_left 1
  refine Xu Y Y<|Xm Y<|Ag Hg<|OY Y<|Xf rB Y<|OY Y<|OV (EL ty3 Y (H4.cell (i:=1) Y Y))<|Ag Hg<|OY Y<|OT (zQ Y Y) (fun hp38=>?_) (fun hp38=>?_)
  refine Xu Y Y<|Xm Y<|Ag Hg<|Oz 3 Y<|Ag Hg<|Xt Y Y ?_
  have m3:=()
  rotate_left 1
  refine Xu Y Y<|Xm Y<|Ag Hg<|OY Y<|Xf rB Y<|OY Y<|OV (EL ty3 Y (H4.cell (i:=1) Y Y))<|Ag Hg<|OY Y<|OT (yS Y Y) (fun ZW=>?_) (fun ZW=>?_)
  refine Xu Y Y ?_
  have m3:=()
  rotate_left 1
  refine Xu Y Y<|Xr Hg<|J4 Y<|J6<|J1<|J1<|rT 12 (.p 0 (.p 1 (.p 2 (.p 3 (.p 4 (.p 5 (.two 6 (.p 7 (.p 8 (.p 9 (.o 10 (.o 11 (.o 12 .nil)))))) 10 (.o 6 (.p 7 (.p 8 (.p 9 (.o 11 (.o 12 .nil))))))))))))) H4 [0,1] yE (by decide) (by kernel_rfl) ?_
  rintro w5 hw5
  have H5:=Hp.drew H4;rw[← hw5]at H5
  refine Tm Y Y<|TP Y<|MV (fun wz hz=>yJ Y)<|Tf Y tQ Y<|TP Y<|MV (fun wz hz=>EL mY Y (hz.cell (i:=0) Y Y))<|cT Hg<|Tf Y uZ Y<|TP Y<|MV (fun wz hz=>EL ty3 Y (hz.cell (i:=1) Y Y))<|sD ?_ ?_
  refine TQ Y<|OQ (EC VL Y) (P4 A3 k3 b.last n.client (up ok w0.heap.size) _ (hb3.toM (HB.all H5) hks) (by omega) hg.Y4) ?_
  rintro _ w6 ⟨mq,fq,rfl,hyq,hnq,Hd⟩
  have H6:=H5.Au Hd
  cases fq
  refine OE ?_
  refine⟨fun hne=>H6.pick [0,1] (by decide),?_⟩
  refine Tm Y Y<|TP Y<|MV (fun wz hz=>xF Y Y)<|cT Hg<|TP Y<|MV (fun wz hz=>xF Y Y)<|TQ Y<|OA yT H6<|fun w7 g7 H7 hg7=>OE<|⟨fun hne=>H7.pick [0,1] (by decide),?_⟩
  refine cT Hg ?_
  have m2:=()
  rotate_left 1
  refine OE ?_
  refine⟨fun hne=>H6.pick [0,1] (by decide),?_⟩
  refine Tm Y Y<|TP Y<|MV (fun wz hz=>xF Y Y)<|cT Hg<|TP Y<|MV (fun wz hz=>xF Y Y)<|TQ Y<|OA yT H6<|fun w7 g7 H7 hg7=>OE<|⟨fun hne=>H7.pick [0,1] (by decide),?_⟩
  refine cT Hg ?_
  have m1:=()
  rotate_left 1
  refine TQ Y<|OA yT H5<|fun w6 g6 H6 hg6=>OE<|⟨fun hne=>H6.pick [0,1] (by decide),?_⟩
  refine cT Hg<|TQ Y<|OQ (EC VL Y) (P4 A3 k3 b.last n.client (up ok w0.heap.size) _ (hb3.toM (HB.all H6) hks) (by omega) hg.Y4) ?_
  rintro _ w7 ⟨mq,fq,rfl,hyq,hnq,Hd⟩
  have H7:=H6.Au Hd
  cases fq
  refine OE ?_
  refine⟨fun hne=>H7.pick [0,1] (by decide),?_⟩
  refine Tm Y Y<|TP Y<|MV (fun wz hz=>xF Y Y)<|TP Y<|MV (fun wz hz=>xF Y Y) ?_
  have m2:=()
  rotate_left 1
  refine OE ?_
  refine⟨fun hne=>H7.pick [0,1] (by decide),?_⟩
  refine Tm Y Y<|TP Y<|MV (fun wz hz=>xF Y Y)<|TP Y<|MV (fun wz hz=>xF Y Y) ?_
  have m1:=()
  rotate_left 1
  obtain rfl:=hno hmay
  refine OE ?_
  refine⟨fun hne=>H3.pick [0,1] (by decide),?_⟩
  refine Zm Y Y<|MP Y<|MV (fun wz hz=>xF Y Y)<|cZ Hg<|MP Y<|MV (fun wz hz=>xF Y Y)<|MP Y<|MV (fun wz hz=>zO Y)<|MO Y<|Xa Y<|OE<|⟨fun hne=>absurd Y hne,?_⟩
  refine cZ Hg<|ME<|cR Hg<|J1<|Rq<|Xm Y<|Ui (yR Y Y) (by decide)<|Xr Hg<|J3 Y<|Rq<|Xa Y<|Xr Hg<|J5<|Cm Y Y<|⟨fun h=>absurd h hmay,fun _=>⟨Y,H3.Af⟩⟩
  any_goals
   clear m4
   refine Xm Y<|Ag Hg<|Oz 3 Y<|Ag Hg<|Xt Y Y<|Xm Y<|Ag Hg<|Oz 3 Y<|Ag Hg<|Xt Y Y ?_
   have m3:=()
   rotate_left 1
  any_goals
   clear m3
   refine Xr Hg<|J3 Y<|Rq<|Xa Y<|Xr Hg<|J5<|Cm Y Y ?_
   have HW:=HB.all H4
   refine⟨fun _=>⟨Y,_,HW.pick [0] (by decide),A1,k1,A9,k9,A3,k3,by rw[qO (by omega)];rfl,hb1.toS HW hks,hS9.toR H4 (fun x hx _=>⟨hnb x hx,.inr (by omega)⟩),?_⟩,fun h=>absurd hmay h⟩
   rw[qO (by omega)]
   exact hb3.toM HW hks
  any_goals
   clear m2
   refine TQ Y<|OS yT H7 2 Y Y Y Y Y (by first|exact NL Y|simp[zJ]) Y<|fun w8 H8=>OE<|⟨fun hne=>H8.pick [0,1] (by decide),?_⟩
   refine cT Hg<|TQ Y<|Xa Y<|OE<|⟨fun hne=>absurd Y hne,?_⟩
   refine cT Hg<|tH<|cR Hg<|Rq<|Xm Y<|Xm Y<|Ag Hg<|Oz 5 Y<|Ag Hg<|Xu Y Y<|Xr Hg<|J4 Y<|J6<|Rq<|Xm Y<|Xc Y<|Xf tQ Y<|OV (EL mY Y (H8.cell (i:=0) Y Y))<|Ag Hg<|OQ (EC WV Y) (HY A3 b.last.length k3 pm.flatten _ (hrm.move (by decide) ham (HB.all H8) hks).1 (xI hon) (by omega)) ?_
   rintro _ w9 ⟨gv,cv,sv,rfl,hmv,hcv,Si,Hc⟩
   have H9:=H8.call0 Hc
   refine OV (wL Y Y)<|OQ (EC VK Y) (JW gv cv b.last.length pm hplen sv 114 _ (Jb n.client) _ (H9.pick [3] (by decide)).here hpm hon (by omega) (by omega) hcv (Vp hm2 (H9.at (i:=1) Y) Y) (Fa H9 (i:=1) (is:=[3]) Y (by decide))) ?_
   rintro _ Vu ⟨sv2,rfl,hl2,Hd⟩
   have Ny:=(H9.Du [3] rfl Hd).pick [0,1,2,4] (by decide)
   have hmf:=hm2.filter (f:=fun p=>!Jb n.client p) (g:=fun x=>!decide (x.client=n.client)) (fun p x h=>EY h)
   have Uu:=hmf.len
   have hpf:Pl 7 (pm.filter fun p=>!Jb n.client p):=hpm.sub fun x hx=>(Dz.1 hx).1
   have hfl3:(pm.filter fun p=>!Jb n.client p).length≤pm.length:=Nk _ _
   have Z4:∀ p∈(pm.filter fun p=>!Jb n.client p),p.all (·.oneCell')=true:=fun x hx=>hon x (Dz.1 hx).1
   have HC:=Ny
   refine Xa Y<|Xr Hg<|Rq<|Xa Y<|Xr Hg<|J1<|J7<|zV (fun nQ lQ w=>∃ (i:Nat) (y:Int),(pm.filter fun p=>!Jb n.client p).length - i=nQ∧xM (Hy [(0,.pointer (some ⟨gb,o,none⟩)),(3,Ah g1),(9,Ac (hd gv) (pm.filter fun p=>!Jb n.client p).length cv),(10,Aa y)] 0 98) lQ∧y=(i:Int)∧i≤(pm.filter fun p=>!Jb n.client p).length∧(∀ (k:Nat) (m:Mk),k < i→(b.last.filter fun x=>!decide (x.client=n.client))[k]? =some m→m.client < n.client)∧Hp Vu w [] []) ((pm.filter fun p=>!Jb n.client p).length) ?_ ?_
   exact⟨0,_,Y,(Jg Y Y Y Y Y),Y,Am _,(fun k m h=>by omega),Hp.refl _⟩
   rintro nQ lQ YX ⟨i,y,rfl,hfit,rfl,hi,hlo,Ph⟩
   obtain⟨j,rfl⟩:=hfit.open
   refine cR Hg ?_
   clear hfit
   refine J1<|J1<|vW yE (by kernel_rfl) ?_
   rintro w10 Me
   have Df:=Hp.drew Ph;rw[← Me]at Df
   refine SV (zI Y)<|SV (zI Y)<|SV (ES Lp Y)<|vB (zQ Y Y) (fun YO=>?_) (fun YO=>?_)
   have hil:i < (pm.filter fun p=>!Jb n.client p).length:=by omega
   obtain⟨p1,hp1⟩:=yL hil
   obtain⟨x,hx,hR⟩:=hmf.getL hp1
   unfold Pv at hR
   subst hR
   have hc0:((pm.filter fun p=>!Jb n.client p).flatten++sv2)[0+i*7+0]? =some (Aa x.client):=by
    have h1:=hpf.get hp1 (j:=0) (u:=Aa x.client) rfl
    show(_++_)[0+i*7+0]? =_
    rw[Ba,Di (lt_of_get h1)];exact h1
   obtain⟨gz,rfl⟩:=vK HC (i:=3) rfl (by have:=lt_of_get hc0;omega)
   refine SV (zI Y)<|wX Hg<|yI Y<|SV (zI Y)<|yI Y<|SV (zI Y)<|wX Hg<|yI Y<|SV (uR Lp yT Y Y Y hil)<|yI Y<|SV (EF tU Y)<|wX Hg<|yI Y<|SV (EL ty3 Y ((HC.Au Df).cell (i:=3) Y hc0))<|yI Y<|SV (EF uZ Y)<|wX Hg<|yI Y<|SV (EL ty3 Y ((HC.Au Df).cell (i:=1) Y Y))<|yI Y<|vB (zQ Y Y) (fun YM=>?_) (fun YM=>?_)
   refine SV (xG Y Y)<|xJ<|cR Hg<|J3 Y<|J6<|J7<|J2<|Xm Y<|OV (zL Y Y (Ad _ (by omega)))<|Xa Y<|Xr Hg<|zA (zB ?_)
   refine zA (zH ?_)
   exact⟨(pm.filter fun p=>!Jb n.client p).length - (i+1),by omega,i+1,_,Y,(Jg Y Y Y Y Y),by omega,by omega,fun k m hk hm=>by
    rcases Nat.lt_or_eq_of_le (show k≤i by omega)with h | rfl
    · exact hlo k m h hm
    rw[hx]at hm
    simp only[Option.some.injEq]at hm
    subst hm;exact YM,Df⟩
   refine SV (xG Y Y)<|xJ<|cR Hg<|J4 Y<|J8<|zU<|zS<|Rq ?_
   replace Df:=HC.Au Df
   refine Xm Y<|Xm Y<|Xm Y<|Xf uZ Y<|Ag Hg<|OV (EL ty3 Y (Df.cell (i:=1) Y Y))<|Xf rB Y<|OV (EL ty3 Y (Df.cell (i:=1) Y Y))<|OV (EB yT eZ Y Y)<|Ag Hg<|zE Lp yT Df Y (by decide) Y<|fun Oa g13 Ei hg13=>OQ (EC JJ Y) (dR _ cv i _ (pm.filter fun p=>!Jb n.client p).length (pm.filter fun p=>!Jb n.client p) Y (Tz ⟨n.client,n.seq⟩) sv2 _ (Ei.pick [3] (by decide)).here hpf Z4 (by omega) (by rw[hl2];exact hcv) Si (by omega) (Ei.at (i:=4) Y) Y Y (Fa Ei (i:=4) (is:=[3]) Y (by decide)) (by omega)) ?_
   rintro _ Uf ⟨gw,cw,sw,rfl,hnw,hcw,hgw,Hd⟩
   have Ip:=(Ei.Du [3] rfl Hd).pick [0,1,2,5] (by decide)
   refine Xc Y<|Xf tQ Y<|Ag Hg<|OW mY Ip 0 Y Y Y Y (Oi Y) Y<|fun w12 Fj=>Xr Hg<|Rq<|Xa Y<|Xr Hg<|J5<|Cm Y Y ?_
   have HW:=HB.all Fj
   have hput:=kY (v:=⟨n.client,n.seq⟩) (i:=i) (vY hg.Y4).2 (by rw[← Uu];omega) hlo (.inr ⟨x,hx,YM⟩)
   have hsp:uS b.last n.client n.seq=uK b.last ⟨n.client,n.seq⟩:=kQ (by omega) (hnq rfl)
   rw[← hput]at hsp
   have hln:((b.last.filter fun x=>!decide (x.client=n.client)).take i++(⟨n.client,n.seq⟩:Mk)::(b.last.filter fun x=>!decide (x.client=n.client)).drop i).length=(pm.filter fun p=>!Jb n.client p).length+1:=by rw[Ae,Bj,Aw,Bl,← Uu];omega
   refine⟨fun _=>⟨Y,_,HW.pick [0] (by decide),A1,k1,A9,k9,hd gw,cw,by rw[hsp,hln];rfl,hb1.toS HW hks,hS9.toR Fj (fun x hx _=>⟨hnb x hx,.inr (by omega)⟩),?_⟩,fun h=>absurd hmay h⟩
   rw[hsp]
   exact Sl.row HW (i:=3) Y ((hpf.sub fun x hx=>Gg hx).app fun x hx=>by
    rcases Cj.1 hx with rfl | hx
    · rfl
    exact hpf x (Es hx)) (by decide) ((hmf.take i).app ⟨Y,hmf.drop i⟩) (fun b hb=>wQ (ok:=ok) HW (i:=3) Y (fun c hc=>by rw[Az.1 hc];exact fun e=>HW.ne (i:=3) (j:=0) (g:=gb) (by rw[e];rfl) Y (by decide) Y) b hb)
   refine SV (zI Y)<|wX Hg<|yU Y<|yU Y<|wX Hg<|yU Y<|yU Y<|wX Hg<|yU Y<|yU Y<|wX Hg<|yU Y<|yU Y<|SV (xV Y Y)<|xJ<|cR Hg<|J4 Y<|J8<|zU<|zS<|Rq ?_
   replace Df:=HC.Au Df
   refine Xm Y<|Xm Y<|Xm Y<|Xf uZ Y<|Ag Hg<|OV (EL ty3 Y (Df.cell (i:=1) Y Y))<|Xf rB Y<|OV (EL ty3 Y (Df.cell (i:=1) Y Y))<|OV (EB yT eZ Y Y)<|Ag Hg<|zE Lp yT Df Y (by decide) Y<|fun Oa g13 Ei hg13=>OQ (EC JJ Y) (dR _ cv i _ (pm.filter fun p=>!Jb n.client p).length (pm.filter fun p=>!Jb n.client p) Y (Tz ⟨n.client,n.seq⟩) sv2 _ (Ei.pick [3] (by decide)).here hpf Z4 (by omega) (by rw[hl2];exact hcv) Si (by omega) (Ei.at (i:=4) Y) Y Y (Fa Ei (i:=4) (is:=[3]) Y (by decide)) (by omega)) ?_
   rintro _ Uf ⟨gw,cw,sw,rfl,hnw,hcw,hgw,Hd⟩
   have Ip:=(Ei.Du [3] rfl Hd).pick [0,1,2,5] (by decide)
   refine Xc Y<|Xf tQ Y<|Ag Hg<|OW mY Ip 0 Y Y Y Y (Oi Y) Y<|fun w12 Fj=>Xr Hg<|Rq<|Xa Y<|Xr Hg<|J5<|Cm Y Y ?_
   have HW:=HB.all Fj
   have hput:=kY (v:=⟨n.client,n.seq⟩) (i:=i) (vY hg.Y4).2 (by rw[← Uu];omega) hlo (.inl (by rw[← Uu];omega))
   have hsp:uS b.last n.client n.seq=uK b.last ⟨n.client,n.seq⟩:=kQ (by omega) (hnq rfl)
   rw[← hput]at hsp
   have hln:((b.last.filter fun x=>!decide (x.client=n.client)).take i++(⟨n.client,n.seq⟩:Mk)::(b.last.filter fun x=>!decide (x.client=n.client)).drop i).length=(pm.filter fun p=>!Jb n.client p).length+1:=by rw[Ae,Bj,Aw,Bl,← Uu];omega
   refine⟨fun _=>⟨Y,_,HW.pick [0] (by decide),A1,k1,A9,k9,hd gw,cw,by rw[hsp,hln];rfl,hb1.toS HW hks,hS9.toR Fj (fun x hx _=>⟨hnb x hx,.inr (by omega)⟩),?_⟩,fun h=>absurd hmay h⟩
   rw[hsp]
   exact Sl.row HW (i:=3) Y ((hpf.sub fun x hx=>Gg hx).app fun x hx=>by
    rcases Cj.1 hx with rfl | hx
    · rfl
    exact hpf x (Es hx)) (by decide) ((hmf.take i).app ⟨Y,hmf.drop i⟩) (fun b hb=>wQ (ok:=ok) HW (i:=3) Y (fun c hc=>by rw[Az.1 hc];exact fun e=>HW.ne (i:=3) (j:=0) (g:=gb) (by rw[e];rfl) Y (by decide) Y) b hb)
  any_goals
   clear m1
   refine TQ Y<|OS yT H7 2 Y Y Y Y Y (by first|exact NL Y|simp[zJ]) Y<|fun w8 H8=>OE<|⟨fun hne=>H8.pick [0,1] (by decide),?_⟩
   refine cT Hg<|TQ Y<|Xa Y<|OE<|⟨fun hne=>absurd Y hne,?_⟩
   refine cT Hg<|tH<|cR Hg<|Rq<|Xm Y<|Xm Y<|Ag Hg<|OY Y<|Xf jL Y<|OY Y<|OV (EL ty3 Y (H8.cell (i:=2) Y Y))<|Ag Hg<|OY Y<|Xf rB Y<|OY Y<|OV (EL ty3 Y (H8.cell (i:=1) Y Y))<|Ag Hg<|OY Y<|OT (wM Y Y) (fun Wj=>?_) (fun Wj=>?_)
   refine Xt Y Y<|Xr Hg<|J3 Y<|Rq<|Xa Y<|Xr Hg<|J5<|Cm Y Y ?_
   have HW:=HB.all H8
   refine⟨fun _=>⟨Y,_,HW.pick [0] (by decide),A1,k1,A9,k9,A3,k3,by rw[kS (hyq Y) (by omega)];rfl,hb1.toS HW hks,hS9.toR H8 (fun x hx _=>⟨hnb x hx,.inr (by omega)⟩),?_⟩,fun h=>absurd hmay h⟩
   rw[kS (hyq rfl) (by omega)]
   exact hb3.toM HW hks
   refine Xt Y Y<|Xr Hg<|J4 Y<|J6<|Rq<|Xm Y<|Xc Y<|Xf tQ Y<|OV (EL mY Y (H8.cell (i:=0) Y Y))<|Ag Hg<|OQ (EC WV Y) (HY A3 b.last.length k3 pm.flatten _ (hrm.move (by decide) ham (HB.all H8) hks).1 (xI hon) (by omega)) ?_
   rintro _ w9 ⟨gv,cv,sv,rfl,hmv,hcv,Si,Hc⟩
   have H9:=H8.call0 Hc
   refine OV (wL Y Y)<|OQ (EC VK Y) (JW gv cv b.last.length pm hplen sv 114 _ (Jb n.client) _ (H9.pick [3] (by decide)).here hpm hon (by omega) (by omega) hcv (Vp hm2 (H9.at (i:=1) Y) Y) (Fa H9 (i:=1) (is:=[3]) Y (by decide))) ?_
   rintro _ Vu ⟨sv2,rfl,hl2,Hd⟩
   have Ny:=(H9.Du [3] rfl Hd).pick [0,1,2,4] (by decide)
   have hmf:=hm2.filter (f:=fun p=>!Jb n.client p) (g:=fun x=>!decide (x.client=n.client)) (fun p x h=>EY h)
   have Uu:=hmf.len
   have hpf:Pl 7 (pm.filter fun p=>!Jb n.client p):=hpm.sub fun x hx=>(Dz.1 hx).1
   have hfl3:(pm.filter fun p=>!Jb n.client p).length≤pm.length:=Nk _ _
   have Z4:∀ p∈(pm.filter fun p=>!Jb n.client p),p.all (·.oneCell')=true:=fun x hx=>hon x (Dz.1 hx).1
   have HC:=Ny
   refine Xa Y<|Xr Hg<|Rq<|Xa Y<|Xr Hg<|J1<|J7<|zV (fun nQ lQ w=>∃ (i:Nat) (y:Int),(pm.filter fun p=>!Jb n.client p).length - i=nQ∧xM (Hy [(0,.pointer (some ⟨gb,o,none⟩)),(3,Ah g1),(9,Ac (hd gv) (pm.filter fun p=>!Jb n.client p).length cv),(10,Aa y)] 0 98) lQ∧y=(i:Int)∧i≤(pm.filter fun p=>!Jb n.client p).length∧(∀ (k:Nat) (m:Mk),k < i→(b.last.filter fun x=>!decide (x.client=n.client))[k]? =some m→m.client < n.client)∧Hp Vu w [] []) ((pm.filter fun p=>!Jb n.client p).length) ?_ ?_
   exact⟨0,_,Y,(Jg Y Y Y Y Y),Y,Am _,(fun k m h=>by omega),Hp.refl _⟩
   rintro nQ lQ YX ⟨i,y,rfl,hfit,rfl,hi,hlo,Ph⟩
   obtain⟨j,rfl⟩:=hfit.open
   refine cR Hg ?_
   clear hfit
   refine J1<|J1<|vW yE (by kernel_rfl) ?_
   rintro w10 Me
   have Df:=Hp.drew Ph;rw[← Me]at Df
   refine SV (zI Y)<|SV (zI Y)<|SV (ES Lp Y)<|vB (zQ Y Y) (fun YO=>?_) (fun YO=>?_)
   have hil:i < (pm.filter fun p=>!Jb n.client p).length:=by omega
   obtain⟨p1,hp1⟩:=yL hil
   obtain⟨x,hx,hR⟩:=hmf.getL hp1
   unfold Pv at hR
   subst hR
   have hc0:((pm.filter fun p=>!Jb n.client p).flatten++sv2)[0+i*7+0]? =some (Aa x.client):=by
    have h1:=hpf.get hp1 (j:=0) (u:=Aa x.client) rfl
    show(_++_)[0+i*7+0]? =_
    rw[Ba,Di (lt_of_get h1)];exact h1
   obtain⟨gz,rfl⟩:=vK HC (i:=3) rfl (by have:=lt_of_get hc0;omega)
   refine SV (zI Y)<|wX Hg<|yI Y<|SV (zI Y)<|yI Y<|SV (zI Y)<|wX Hg<|yI Y<|SV (uR Lp yT Y Y Y hil)<|yI Y<|SV (EF tU Y)<|wX Hg<|yI Y<|SV (EL ty3 Y ((HC.Au Df).cell (i:=3) Y hc0))<|yI Y<|SV (EF uZ Y)<|wX Hg<|yI Y<|SV (EL ty3 Y ((HC.Au Df).cell (i:=1) Y Y))<|yI Y<|vB (zQ Y Y) (fun YM=>?_) (fun YM=>?_)
   refine SV (xG Y Y)<|xJ<|cR Hg<|J3 Y<|J6<|J7<|J2<|Xm Y<|OV (zL Y Y (Ad _ (by omega)))<|Xa Y<|Xr Hg<|zA (zB ?_)
   refine zA (zH ?_)
   exact⟨(pm.filter fun p=>!Jb n.client p).length - (i+1),by omega,i+1,_,Y,(Jg Y Y Y Y Y),by omega,by omega,fun k m hk hm=>by
    rcases Nat.lt_or_eq_of_le (show k≤i by omega)with h | rfl
    · exact hlo k m h hm
    rw[hx]at hm
    simp only[Option.some.injEq]at hm
    subst hm;exact YM,Df⟩
   refine SV (xG Y Y)<|xJ<|cR Hg<|J4 Y<|J8<|zU<|zS<|Rq ?_
   replace Df:=HC.Au Df
   refine Xm Y<|Xm Y<|Xm Y<|Xf uZ Y<|Ag Hg<|OV (EL ty3 Y (Df.cell (i:=1) Y Y))<|Xf rB Y<|OV (EL ty3 Y (Df.cell (i:=1) Y Y))<|OV (EB yT eZ Y Y)<|Ag Hg<|zE Lp yT Df Y (by decide) Y<|fun Oa g13 Ei hg13=>OQ (EC JJ Y) (dR _ cv i _ (pm.filter fun p=>!Jb n.client p).length (pm.filter fun p=>!Jb n.client p) Y (Tz ⟨n.client,n.seq⟩) sv2 _ (Ei.pick [3] (by decide)).here hpf Z4 (by omega) (by rw[hl2];exact hcv) Si (by omega) (Ei.at (i:=4) Y) Y Y (Fa Ei (i:=4) (is:=[3]) Y (by decide)) (by omega)) ?_
   rintro _ Uf ⟨gw,cw,sw,rfl,hnw,hcw,hgw,Hd⟩
   have Ip:=(Ei.Du [3] rfl Hd).pick [0,1,2,5] (by decide)
   refine Xc Y<|Xf tQ Y<|Ag Hg<|OW mY Ip 0 Y Y Y Y (Oi Y) Y<|fun w12 Fj=>Xr Hg<|Rq<|Xa Y<|Xr Hg<|J5<|Cm Y Y ?_
   have HW:=HB.all Fj
   have hput:=kY (v:=⟨n.client,n.seq⟩) (i:=i) (vY hg.Y4).2 (by rw[← Uu];omega) hlo (.inr ⟨x,hx,YM⟩)
   have hsp:uS b.last n.client n.seq=uK b.last ⟨n.client,n.seq⟩:=nY (by omega) (hyq rfl) (by omega)
   rw[← hput]at hsp
   have hln:((b.last.filter fun x=>!decide (x.client=n.client)).take i++(⟨n.client,n.seq⟩:Mk)::(b.last.filter fun x=>!decide (x.client=n.client)).drop i).length=(pm.filter fun p=>!Jb n.client p).length+1:=by rw[Ae,Bj,Aw,Bl,← Uu];omega
   refine⟨fun _=>⟨Y,_,HW.pick [0] (by decide),A1,k1,A9,k9,hd gw,cw,by rw[hsp,hln];rfl,hb1.toS HW hks,hS9.toR Fj (fun x hx _=>⟨hnb x hx,.inr (by omega)⟩),?_⟩,fun h=>absurd hmay h⟩
   rw[hsp]
   exact Sl.row HW (i:=3) Y ((hpf.sub fun x hx=>Gg hx).app fun x hx=>by
    rcases Cj.1 hx with rfl | hx
    · rfl
    exact hpf x (Es hx)) (by decide) ((hmf.take i).app ⟨Y,hmf.drop i⟩) (fun b hb=>wQ (ok:=ok) HW (i:=3) Y (fun c hc=>by rw[Az.1 hc];exact fun e=>HW.ne (i:=3) (j:=0) (g:=gb) (by rw[e];rfl) Y (by decide) Y) b hb)
   refine SV (zI Y)<|wX Hg<|yU Y<|yU Y<|wX Hg<|yU Y<|yU Y<|wX Hg<|yU Y<|yU Y<|wX Hg<|yU Y<|yU Y<|SV (xV Y Y)<|xJ<|cR Hg<|J4 Y<|J8<|zU<|zS<|Rq ?_
   replace Df:=HC.Au Df
   refine Xm Y<|Xm Y<|Xm Y<|Xf uZ Y<|Ag Hg<|OV (EL ty3 Y (Df.cell (i:=1) Y Y))<|Xf rB Y<|OV (EL ty3 Y (Df.cell (i:=1) Y Y))<|OV (EB yT eZ Y Y)<|Ag Hg<|zE Lp yT Df Y (by decide) Y<|fun Oa g13 Ei hg13=>OQ (EC JJ Y) (dR _ cv i _ (pm.filter fun p=>!Jb n.client p).length (pm.filter fun p=>!Jb n.client p) Y (Tz ⟨n.client,n.seq⟩) sv2 _ (Ei.pick [3] (by decide)).here hpf Z4 (by omega) (by rw[hl2];exact hcv) Si (by omega) (Ei.at (i:=4) Y) Y Y (Fa Ei (i:=4) (is:=[3]) Y (by decide)) (by omega)) ?_
   rintro _ Uf ⟨gw,cw,sw,rfl,hnw,hcw,hgw,Hd⟩
   have Ip:=(Ei.Du [3] rfl Hd).pick [0,1,2,5] (by decide)
   refine Xc Y<|Xf tQ Y<|Ag Hg<|OW mY Ip 0 Y Y Y Y (Oi Y) Y<|fun w12 Fj=>Xr Hg<|Rq<|Xa Y<|Xr Hg<|J5<|Cm Y Y ?_
   have HW:=HB.all Fj
   have hput:=kY (v:=⟨n.client,n.seq⟩) (i:=i) (vY hg.Y4).2 (by rw[← Uu];omega) hlo (.inl (by rw[← Uu];omega))
   have hsp:uS b.last n.client n.seq=uK b.last ⟨n.client,n.seq⟩:=nY (by omega) (hyq rfl) (by omega)
   rw[← hput]at hsp
   have hln:((b.last.filter fun x=>!decide (x.client=n.client)).take i++(⟨n.client,n.seq⟩:Mk)::(b.last.filter fun x=>!decide (x.client=n.client)).drop i).length=(pm.filter fun p=>!Jb n.client p).length+1:=by rw[Ae,Bj,Aw,Bl,← Uu];omega
   refine⟨fun _=>⟨Y,_,HW.pick [0] (by decide),A1,k1,A9,k9,hd gw,cw,by rw[hsp,hln];rfl,hb1.toS HW hks,hS9.toR Fj (fun x hx _=>⟨hnb x hx,.inr (by omega)⟩),?_⟩,fun h=>absurd hmay h⟩
   rw[hsp]
   exact Sl.row HW (i:=3) Y ((hpf.sub fun x hx=>Gg hx).app fun x hx=>by
    rcases Cj.1 hx with rfl | hx
    · rfl
    exact hpf x (Es hx)) (by decide) ((hmf.take i).app ⟨Y,hmf.drop i⟩) (fun b hb=>wQ (ok:=ok) HW (i:=3) Y (fun c hc=>by rw[Az.1 hc];exact fun e=>HW.ne (i:=3) (j:=0) (g:=gb) (by rw[e];rfl) Y (by decide) Y) b hb)
theorem K9 (gs:Nat) (s:Sv) (A1:Option Addr) (k1:Nat) (A2:Option Addr) (k2:Nat) (A3:Option Addr) (k3:Nat) (n:Nt) (B1:Option Addr) (j1:Nat) (B2:Option Addr) (j2:Nat) (w0:World) (hrow:w0.heap[gs]? =some (.cells (Bv s A1 k1 A2 k2 A3 k3).toArray 97 (0,0))) (ok:Nat→Prop) (hok:¬ok gs) (hv1:Sl (Oe w0 ok) 4 w0 ok A1 s.Bc) (hv2:Bs w0 ok A2 s.image) (hv3:Sl (Qp w0 ok) 2 w0 ok A3 s.entries):Aj 116 #[Ah gs,.agg (Ed n B1 j1 B2 j2).toArray] w0 (fun _ w'=>∃ cs',Hp w0 w' [gs] [((some gs,97,cs'):Ent)]∧Qz w' (up ok w0.heap.size) cs' (s.raise n.b)):=by
 refine(fY gs s.p _ _ _ _ n B1 j1 B2 j2 w0 hrow).mono fun r w' H=>?_
 have hks:=KT (n:=w0.heap.size) (ok:=ok) (S:=[gs]) fun x hx hg=>hok (by rw[← Az.1 hg];exact hx)
 rw[nJ]
 exact⟨_,H,A1,k1,A2,k2,A3,k3,Y,hv1.Qn H hks,hv2.to H hks,hv3.Tt H hks⟩
theorem CR (pre:Option Value) (gb:Nat) (b:Bo) (A1:Option Addr) (k1:Nat) (A2:Option Addr) (k2:Nat) (A3:Option Addr) (k3:Nat) (n:Nt) (B1:Option Addr) (j1:Nat) (B2:Option Addr) (j2:Nat) (Ul:Nat→Prop) (N:Nat) (w0:World) (hrow:w0.heap[gb]? =some (.cells (bcs pre (Bd A1 b k1 A2 k2 A3 k3)).toArray (bty pre) (0,0))) (ok:Nat→Prop) (hok:¬ok gb) (hb1:Sl (Qz w0 ok) 6 w0 ok A1 b.groups) (hb2:Sl Nu 4 w0 ok A2 b.rights) (hb3:Sl Pv 7 w0 ok A3 b.last) (YQ:¬Ul gb) (hbv:Bs w0 Ul B1 n.Eh.val) (hbe:Bs w0 Ul B2 n.entry.val) (hg:rE b N) (hN:N≤900000000000):Aj 32 #[.pointer (some ⟨gb,bof pre,none⟩),.agg (Ed n B1 j1 B2 j2).toArray] w0 (fun r w'=>(∀ b',b.into n=some b'→r=.bool true∧∃ cs',Hp w0 w' [gb] [((some gb,bty pre,bcs pre cs'):Ent)]∧Qq w' (up ok w0.heap.size) cs' b')∧(b.into n=none→r=.bool false∧Hp w0 w' [gb] [])):=by
 refine zG Tryz.func32 Tryz.ntmps32 Y<|cR e58 ?_
 have hsp:=R2 pre gb b A1 k1 A2 k2 A3 k3 n B1 j1 B2 j2
 let o:=bof pre
 rcases pre with _ | p
 all_goals
  have H:=Hp.old hrow
  have hks:=KT (n:=w0.heap.size) (ok:=ok) (S:=[gb]) fun x hx hg=>hok (by rw[← Az.1 hg];exact hx)
  have hkB:∀ x,ok x→x < w0.heap.size→x∉[gb]∧(ok x∧x < w0.heap.size):=fun x hx hl=>⟨(hks x hx hl).1,hx,hl⟩
  have hkn:∀ x,Ul x→x < w0.heap.size→x∉[gb]∧(Ul x∧x < w0.heap.size):=fun x hx hl=>⟨fun hg=>YQ (by rw[← Az.1 hg];exact hx),hx,hl⟩
  obtain⟨pg,hpg,hrg,hag,h2g⟩:=id hb1
  have hgl:=h2g.len
  have h8:=hg.eight
  have hong:=h2g.ones fun _ _ h=>h.ones
  refine Rq<|yA Y Y H<|fun w1 g1 H1 hg1=>Xa Y<|Xr e58<|J1<|Rq<|Xf oY Y<|OV (EL ty3 Y (H1.cell (i:=1) Y Y))<|OT (xR Y Y) (fun hp9=>?_) (fun hp9=>?_)
  refine Xr e58<|J3 Y<|Rq<|Xm Y<|OV (EN xH Y (vs:=Ed n B1 j1 B2 j2) Y (H1.Ap (i:=1) Y Y)) ?_
  have HZ0:=H1
  refine OQ (EC gf66 rfl) (hsp N _ (H1.at (i:=0) rfl) (up ok w0.heap.size) (fun hh=>by rcases hh with h | h;exact hok h;have:=(Dw.1 hrow).1;omega) (hb1.toS H1 hks) (hb2.toR H1 hks) (hb3.toM H1 hks) hg hN) ?_
  rintro r w2 ⟨hyes,hno⟩
  by_cases hmay:mH n.right
  obtain⟨rfl,cs',Hd,hB⟩:=hyes hmay
  have YK:=HZ0.size
  have Yx:=(HZ0.Du [0] rfl Hd).pick [2] (by decide)
  refine Xa Y<|Xr e58<|J5<|Cm Y Y ?_
  exact⟨fun b' hb'=>by
   rw[vL hp9 hmay]at hb'
   simp only[Option.some.injEq]at hb'
   subst hb'
   exact⟨Y,cs',Yx,hB.to (Hp.refl _) (fun x hx _=>⟨by simp,by
    rcases hx with hx | hx
    · exact hx
    exact .inr (by omega)⟩)⟩,fun h=>by rw[vL hp9 hmay]at h;cases h⟩
  obtain⟨rfl,Hd⟩:=hno hmay
  have Yx:=(HZ0.Du [0] rfl Hd).Af
  refine Xa Y<|Xr e58<|J5<|Cm Y Y<|⟨(fun b' hb'=>by rw[bO hp9 hmay]at hb';cases hb'),fun _=>⟨Y,Yx⟩⟩
  refine Xr e58<|J4 Y<|J6<|Rq<|Xf oY Y<|OV (EL ty3 Y (H1.cell (i:=1) Y Y))<|OQ (EC gf67 Y) (R0 n.kind _) ?_
  rintro r w2 ⟨h0,h1,h2,h3,h4,Hd⟩
  have H2:=H1.Au Hd
  obtain hk | hk | hk | hk | hk:(n.kind < 1∨4 < n.kind)∨n.kind=1∨n.kind=2∨n.kind=3∨n.kind=4:=by omega
  obtain rfl:=h0 hk
  refine Xa Y<|Xr e58<|J1<|Rq<|Xm Y<|OV (C0 U136 Y)<|Xm Y<|Ag e58<|Oz 3 Y<|Ag e58<|Xt Y Y<|Xm Y<|Ag e58<|Oz 3 Y<|Ag e58<|Xt Y Y ?_
  have m2:=()
  rotate_left 1
  obtain rfl:=h1 hk
  refine Xa Y<|Xr e58<|J1<|Rq<|Xm Y<|OV (oK U136 Y)<|Xm Y<|Ag e58<|OY Y<|Xf fl81_1 Y<|OY Y<|OV (EL ty3 Y (H2.cell (i:=1) Y Y))<|Ag e58<|OY Y<|OT (zQ Y Y) (fun hp21=>?_) (fun hp21=>?_)
  refine Xu Y Y<|Xm Y<|Ag e58<|Oz 3 Y<|Ag e58<|Xt Y Y ?_
  have m2:=()
  rotate_left 1
  refine Xu Y Y<|Xm Y<|Ag e58<|OY Y<|Xf fl81_1 Y<|OY Y<|OV (EL ty3 Y (H2.cell (i:=1) Y Y))<|Ag e58<|OY Y<|OT (wM Y Y) (fun Qs=>?_) (fun Qs=>?_)
  refine Xu Y Y ?_
  have m2:=()
  rotate_left 1
  obtain⟨s,hs⟩:=yL (l:=b.groups) (j:=n.group.toNat) (by omega)
  have hsl:=lt_of_get hs
  obtain⟨p1,hp1,hR⟩:=h2g.get hs
  obtain⟨C1,q1,C2,q2,C3,q3,rfl,hv1,hv2,hv3⟩:=hR
  obtain⟨a1,ha1⟩:=hrg.some_ (by omega)
  subst ha1
  have hce:=(tD s).1 (hg.chk s (mem_of hs))
  have Y5:=oB hce
  have Sj:=pY hce
  have Y6:=nR s n
  refine Xu Y Y<|Xr e58<|J4 Y<|J6<|J1<|zR 9 [(true,0),(true,1),(true,2),(true,3),(true,4),(true,5),(true,6),(true,7),(false,8),(false,9)] H2 [0,1] yE (by decide) (by kernel_rfl) ?_
  rintro w3 hw3
  have H3:=Hp.drew H2;rw[← hw3]at H3
  refine Zm Y Y<|Zc Y Y<|Zf Y uO Y<|MP Y<|MV (fun wz hz=>EL oO Y (hz.cell (i:=0) Y Y))<|cZ e58<|Zf Y fl81_1 Y<|MP Y<|MV (fun wz hz=>EL ty3 Y (hz.cell (i:=1) Y Y))<|MP Y<|MV (fun wz hz=>EI Ue wD Y Y (len:=b.groups.length) (i:=n.group.toNat) (by omega) (by omega) Y)<|MP Y<|MV (fun wz hz=>EN wD Y (vs:=Bv s C1 q1 C2 q2 C3 q3) Y ((hrg.move (by decide) hag hz hks).1.elem hpg hp1))<|cZ e58<|MO Y<|OA wD H3<|fun w4 gs H4 hgs=>?_
  have hgs0:w0.heap.size≤gs:=by have:=H3.size;omega
  refine OE ?_
  refine⟨fun hne=>H4.pick [0,1] (by decide),?_⟩
  refine cZ e58<|MO Y<|OS wD H4 2 Y Y Y Y Y (by first|exact NL Y|simp[zJ]) Y<|fun w5 H5=>OE<|⟨fun hne=>absurd Y hne,?_⟩
  refine cZ e58<|ME<|cR e58<|Rq<|Xm Y<|OV (EN xH Y (vs:=Ed n B1 j1 B2 j2) Y (H5.Ap (i:=1) Y Y))<|OQ (xL PP Y Y) (K9 gs s C1 q1 C2 q2 C3 q3 n B1 j1 B2 j2 _ (H5.at (i:=2) Y) (fun x=>ok x∧x < w0.heap.size) (fun hh=>by have:=hh.2;omega) (hv1.Qn H5 hkB) (hv2.to H5 hkB) (hv3.Tt H5 hkB)) ?_
  rintro _ w6 ⟨cs2,Hd,hsv⟩
  have hnp:=Hp.fresh H5
  have YK:=H5.size
  have hpl:=bl_place H5
  have HB:=(H5.Du [2] rfl Hd).pick [0,1,3] (by decide)
  rw[← JC hk]at hsv
  have m1:=()
  rotate_left 1
  obtain rfl:=h2 hk
  refine Xa Y<|Xr e58<|J1<|Rq<|Xm Y<|OV (oK U136 Y)<|Xm Y<|Ag e58<|OY Y<|Xf fl81_1 Y<|OY Y<|OV (EL ty3 Y (H2.cell (i:=1) Y Y))<|Ag e58<|OY Y<|OT (zQ Y Y) (fun hp21=>?_) (fun hp21=>?_)
  refine Xu Y Y<|Xm Y<|Ag e58<|Oz 3 Y<|Ag e58<|Xt Y Y ?_
  have m2:=()
  rotate_left 1
  refine Xu Y Y<|Xm Y<|Ag e58<|OY Y<|Xf fl81_1 Y<|OY Y<|OV (EL ty3 Y (H2.cell (i:=1) Y Y))<|Ag e58<|OY Y<|OT (wM Y Y) (fun Qs=>?_) (fun Qs=>?_)
  refine Xu Y Y ?_
  have m2:=()
  rotate_left 1
  obtain⟨s,hs⟩:=yL (l:=b.groups) (j:=n.group.toNat) (by omega)
  have hsl:=lt_of_get hs
  obtain⟨p1,hp1,hR⟩:=h2g.get hs
  obtain⟨C1,q1,C2,q2,C3,q3,rfl,hv1,hv2,hv3⟩:=hR
  obtain⟨a1,ha1⟩:=hrg.some_ (by omega)
  subst ha1
  have hce:=(tD s).1 (hg.chk s (mem_of hs))
  have Y5:=oB hce
  have Sj:=pY hce
  have Y6:=nR s n
  refine Xu Y Y<|Xr e58<|J4 Y<|J6<|J1<|zR 9 [(true,0),(true,1),(true,2),(true,3),(true,4),(true,5),(true,6),(true,7),(false,8),(false,9)] H2 [0,1] yE (by decide) (by kernel_rfl) ?_
  rintro w3 hw3
  have H3:=Hp.drew H2;rw[← hw3]at H3
  refine Zm Y Y<|Zc Y Y<|Zf Y uO Y<|MP Y<|MV (fun wz hz=>EL oO Y (hz.cell (i:=0) Y Y))<|cZ e58<|Zf Y fl81_1 Y<|MP Y<|MV (fun wz hz=>EL ty3 Y (hz.cell (i:=1) Y Y))<|MP Y<|MV (fun wz hz=>EI Ue wD Y Y (len:=b.groups.length) (i:=n.group.toNat) (by omega) (by omega) Y)<|MP Y<|MV (fun wz hz=>EN wD Y (vs:=Bv s C1 q1 C2 q2 C3 q3) Y ((hrg.move (by decide) hag hz hks).1.elem hpg hp1))<|cZ e58<|MO Y<|OA wD H3<|fun w4 gs H4 hgs=>?_
  have hgs0:w0.heap.size≤gs:=by have:=H3.size;omega
  refine OE ?_
  refine⟨fun hne=>H4.pick [0,1] (by decide),?_⟩
  refine cZ e58<|MO Y<|OS wD H4 2 Y Y Y Y Y (by first|exact NL Y|simp[zJ]) Y<|fun w5 H5=>OE<|⟨fun hne=>absurd Y hne,?_⟩
  refine cZ e58<|ME<|cR e58<|Rq<|Xm Y<|OV (EN xH Y (vs:=Ed n B1 j1 B2 j2) Y (H5.Ap (i:=1) Y Y))<|OQ (xL gf117 Y Y) (VZ gs s C1 q1 C2 q2 C3 q3 n B1 j1 B2 j2 (fun x=>Ul x∧x < w0.heap.size) _ (H5.at (i:=2) Y) (fun x=>ok x∧x < w0.heap.size) (fun hh=>by have:=hh.2;omega) (hv1.Qn H5 hkB) (hv2.to H5 hkB) (hv3.Tt H5 hkB) (fun hh=>by have:=hh.2;omega) (hbv.to H5 hkn) (SA (iX hce.v).2 _) (by omega) ⟨hce.i.1,hce.i.2.1⟩ Sj) ?_
  rintro _ w6 ⟨cs2,Hd,hsv⟩
  have hnp:=Hp.fresh H5
  have YK:=H5.size
  have hpl:=bl_place H5
  have HB:=(H5.Du [2] rfl Hd).pick [0,1,3] (by decide)
  rw[← FD hk]at hsv
  have m1:=()
  rotate_left 1
  obtain rfl:=h3 hk
  refine Xa Y<|Xr e58<|J1<|Rq<|Xm Y<|OV (oK U136 Y)<|Xm Y<|Ag e58<|OY Y<|Xf fl81_1 Y<|OY Y<|OV (EL ty3 Y (H2.cell (i:=1) Y Y))<|Ag e58<|OY Y<|OT (zQ Y Y) (fun hp21=>?_) (fun hp21=>?_)
  refine Xu Y Y<|Xm Y<|Ag e58<|Oz 3 Y<|Ag e58<|Xt Y Y ?_
  have m2:=()
  rotate_left 1
  refine Xu Y Y<|Xm Y<|Ag e58<|OY Y<|Xf fl81_1 Y<|OY Y<|OV (EL ty3 Y (H2.cell (i:=1) Y Y))<|Ag e58<|OY Y<|OT (wM Y Y) (fun Qs=>?_) (fun Qs=>?_)
  refine Xu Y Y ?_
  have m2:=()
  rotate_left 1
  obtain⟨s,hs⟩:=yL (l:=b.groups) (j:=n.group.toNat) (by omega)
  have hsl:=lt_of_get hs
  obtain⟨p1,hp1,hR⟩:=h2g.get hs
  obtain⟨C1,q1,C2,q2,C3,q3,rfl,hv1,hv2,hv3⟩:=hR
  obtain⟨a1,ha1⟩:=hrg.some_ (by omega)
  subst ha1
  have hce:=(tD s).1 (hg.chk s (mem_of hs))
  have Y5:=oB hce
  have Sj:=pY hce
  have Y6:=nR s n
  refine Xu Y Y<|Xr e58<|J4 Y<|J6<|J1<|zR 9 [(true,0),(true,1),(true,2),(true,3),(true,4),(true,5),(true,6),(true,7),(false,8),(false,9)] H2 [0,1] yE (by decide) (by kernel_rfl) ?_
  rintro w3 hw3
  have H3:=Hp.drew H2;rw[← hw3]at H3
  refine Zm Y Y<|Zc Y Y<|Zf Y uO Y<|MP Y<|MV (fun wz hz=>EL oO Y (hz.cell (i:=0) Y Y))<|cZ e58<|Zf Y fl81_1 Y<|MP Y<|MV (fun wz hz=>EL ty3 Y (hz.cell (i:=1) Y Y))<|MP Y<|MV (fun wz hz=>EI Ue wD Y Y (len:=b.groups.length) (i:=n.group.toNat) (by omega) (by omega) Y)<|MP Y<|MV (fun wz hz=>EN wD Y (vs:=Bv s C1 q1 C2 q2 C3 q3) Y ((hrg.move (by decide) hag hz hks).1.elem hpg hp1))<|cZ e58<|MO Y<|OA wD H3<|fun w4 gs H4 hgs=>?_
  have hgs0:w0.heap.size≤gs:=by have:=H3.size;omega
  refine OE ?_
  refine⟨fun hne=>H4.pick [0,1] (by decide),?_⟩
  refine cZ e58<|MO Y<|OS wD H4 2 Y Y Y Y Y (by first|exact NL Y|simp[zJ]) Y<|fun w5 H5=>OE<|⟨fun hne=>absurd Y hne,?_⟩
  refine cZ e58<|ME<|cR e58<|Rq<|Xm Y<|OV (EN xH Y (vs:=Ed n B1 j1 B2 j2) Y (H5.Ap (i:=1) Y Y))<|OQ (xL gf118 Y Y) (T7 gs s C1 q1 C2 q2 C3 q3 n B1 j1 B2 j2 (fun x=>Ul x∧x < w0.heap.size) _ (H5.at (i:=2) Y) (fun x=>ok x∧x < w0.heap.size) (fun hh=>by have:=hh.2;omega) (hv1.Qn H5 hkB) (hv2.to H5 hkB) (hv3.Tt H5 hkB) (fun hh=>by have:=hh.2;omega) (hbe.to H5 hkn) (by omega) ⟨hce.i.1,hce.i.2.1⟩ Sj) ?_
  rintro _ w6 ⟨cs2,Hd,hsv⟩
  have hnp:=Hp.fresh H5
  have YK:=H5.size
  have hpl:=bl_place H5
  have HB:=(H5.Du [2] rfl Hd).pick [0,1,3] (by decide)
  rw[← FB hk]at hsv
  have m1:=()
  rotate_left 1
  obtain rfl:=h4 hk
  refine Xa Y<|Xr e58<|J1<|Rq<|Xm Y<|OV (oK U136 Y)<|Xm Y<|Ag e58<|OY Y<|Xf fl81_1 Y<|OY Y<|OV (EL ty3 Y (H2.cell (i:=1) Y Y))<|Ag e58<|OY Y<|OT (zQ Y Y) (fun hp21=>?_) (fun hp21=>?_)
  refine Xu Y Y<|Xm Y<|Ag e58<|Oz 3 Y<|Ag e58<|Xt Y Y ?_
  have m2:=()
  rotate_left 1
  refine Xu Y Y<|Xm Y<|Ag e58<|OY Y<|Xf fl81_1 Y<|OY Y<|OV (EL ty3 Y (H2.cell (i:=1) Y Y))<|Ag e58<|OY Y<|OT (wM Y Y) (fun Qs=>?_) (fun Qs=>?_)
  refine Xu Y Y ?_
  have m2:=()
  rotate_left 1
  obtain⟨s,hs⟩:=yL (l:=b.groups) (j:=n.group.toNat) (by omega)
  have hsl:=lt_of_get hs
  obtain⟨p1,hp1,hR⟩:=h2g.get hs
  obtain⟨C1,q1,C2,q2,C3,q3,rfl,hv1,hv2,hv3⟩:=hR
  obtain⟨a1,ha1⟩:=hrg.some_ (by omega)
  subst ha1
  have hce:=(tD s).1 (hg.chk s (mem_of hs))
  have Y5:=oB hce
  have Sj:=pY hce
  have Y6:=nR s n
  refine Xu Y Y<|Xr e58<|J4 Y<|J6<|J1<|zR 9 [(true,0),(true,1),(true,2),(true,3),(true,4),(true,5),(true,6),(true,7),(false,8),(false,9)] H2 [0,1] yE (by decide) (by kernel_rfl) ?_
  rintro w3 hw3
  have H3:=Hp.drew H2;rw[← hw3]at H3
  refine Zm Y Y<|Zc Y Y<|Zf Y uO Y<|MP Y<|MV (fun wz hz=>EL oO Y (hz.cell (i:=0) Y Y))<|cZ e58<|Zf Y fl81_1 Y<|MP Y<|MV (fun wz hz=>EL ty3 Y (hz.cell (i:=1) Y Y))<|MP Y<|MV (fun wz hz=>EI Ue wD Y Y (len:=b.groups.length) (i:=n.group.toNat) (by omega) (by omega) Y)<|MP Y<|MV (fun wz hz=>EN wD Y (vs:=Bv s C1 q1 C2 q2 C3 q3) Y ((hrg.move (by decide) hag hz hks).1.elem hpg hp1))<|cZ e58<|MO Y<|OA wD H3<|fun w4 gs H4 hgs=>?_
  have hgs0:w0.heap.size≤gs:=by have:=H3.size;omega
  refine OE ?_
  refine⟨fun hne=>H4.pick [0,1] (by decide),?_⟩
  refine cZ e58<|MO Y<|OS wD H4 2 Y Y Y Y Y (by first|exact NL Y|simp[zJ]) Y<|fun w5 H5=>OE<|⟨fun hne=>absurd Y hne,?_⟩
  refine cZ e58<|ME<|cR e58<|Rq<|Xm rfl<|OV (EN xH rfl (vs:=Ed n B1 j1 B2 j2) rfl (H5.Ap (i:=1) rfl rfl))<|OQ (xL gf119 rfl rfl) (TM gs s C1 q1 C2 q2 C3 q3 n B1 j1 B2 j2 (fun x=>Ul x∧x < w0.heap.size) _ (H5.at (i:=2) rfl) (fun x=>ok x∧x < w0.heap.size) (fun hh=>by have:=hh.2;omega) (hv1.Qn H5 hkB) (hv2.to H5 hkB) (hv3.Tt H5 hkB) (fun hh=>by have:=hh.2;omega) (hbe.to H5 hkn) (by omega) (fun x hx=>by obtain⟨i,hi⟩:=Dh hx;exact(qL hce.e i x hi).2.1) ⟨hce.i.1,hce.i.2.1⟩ Sj) ?_
  rintro _ w6 ⟨cs2,Hd,hsv⟩
  have hnp:=Hp.fresh H5
  have YK:=H5.size
  have hpl:=bl_place H5
  have HB:=(H5.Du [2] rfl Hd).pick [0,1,3] (by decide)
  rw[← bS hk]at hsv
  have m1:=()
  rotate_left 1
  any_goals
   clear m2
   refine Xr e58<|J3 Y<|Rq<|Xa Y<|Xr e58<|J5<|Cm Y Y<|⟨(fun b' hb'=>by rw[E6 hp9 (by omega)]at hb';cases hb'),fun _=>⟨Y,H2.Af⟩⟩
  any_goals
   clear m1
   obtain⟨D1,e1,D2,e2,D3,e3,rfl,hw1,hw2,hw3⟩:=hsv
   have H6:=HB.here
   have hnk:∀ x,up (fun x=>ok x∧x < w0.heap.size) w5.heap.size x→x∉bl _:=fun x hx hb=>(show False from by
    rcases hx with hx | hx
    · rcases hpl x hb with h | h
      · exact(hks x hx.1 hx.2).1 h
      have:=hx.2;omega
    exact hnp x hx hb)
   have hkk:∀ x,up (fun x=>ok x∧x < w0.heap.size) w5.heap.size x→x < w6.heap.size→x∉bl _∧up ok w0.heap.size x:=fun x hx _=>⟨hnk x hx,by
    rcases hx with hx | hx
    · exact .inl hx.1
    exact .inr (by omega)⟩
   refine Xr e58<|J1<|Rq<|OV (EN wD Y (vs:=Bv (s.goes n) D1 e1 D2 e2 D3 e3) Y (H6.Ap (i:=2) Y Y))<|OQ (EC gf68 Y) (UH (s.goes n) D1 e1 D2 e2 D3 e3 _ _ hw1 hw2 hw3 (by omega) (by omega)) ?_
   rintro _ w7 ⟨e,rfl,hans,Hd⟩
   have H7:=H6.Au Hd
   refine OT (yR Y Y) (fun hp41=>?_) (fun hp41=>?_)
   refine Xr e58<|J3 rfl<|Rq<|Xa rfl<|Xr e58<|J5<|Cm rfl rfl<|⟨(fun b' hb'=>by rw[I9 hp9 hs (by cases hc:chk (s.goes n)with | false=>rfl | true=>exact absurd (hans.1 hc) hp41)]at hb';cases hb'),fun _=>⟨rfl,(HB.all H7).Af⟩⟩
   have Ze:chk (s.goes n)=true:=by cases hc:chk (s.goes n)with | true=>rfl | false=>have:=hans.2 hc;omega
   refine Xr e58<|J4 Y<|J6<|Rq<|Xm Y<|Xm Y<|Xc Y<|Xf uO Y<|Ag e58<|OV (EL oO Y (H7.cell (i:=0) Y Y))<|OQ (EC gf69 Y) (QS (some a1) b.groups.length k1 pg.flatten _ (hrg.move (by decide) hag (HB.all H7) hks).1 (xI hong) (by rw[h8];decide)) ?_
   rintro _ w8 ⟨gv,cv,sv,rfl,hmv,hcv,Si,Hc⟩
   have H8:=H7.call0 Hc
   obtain⟨gw,rfl⟩:=vK H8 (i:=3) rfl (by rw[Ae,hpg.len];omega)
   refine Xc Y<|Xf uO Y<|Ag e58<|OW oO H8 0 Y Y Y Y (Oi Y) Y<|fun w9 H9=>Xr e58<|J1<|zR 8 [(true,0),(true,1),(true,2),(true,3),(true,4),(true,5),(true,6),(true,7),(false,8)] H9 [0,1,2,3] yE (by decide) (by kernel_rfl) ?_
   rintro Oa Vz
   have Ei:=Hp.drew H9;rw[← Vz]at Ei
   refine Zm Y Y<|Zc Y Y<|Zf Y uO Y<|MP Y<|MV (fun wz hz=>EL oO Y (hz.cell (i:=0) Y Y))<|cZ e58<|Zf Y fl81_1 Y<|MP Y<|MV (fun wz hz=>EL ty3 Y (hz.cell (i:=1) Y Y))<|MP Y<|MV (fun wz hz=>EN wD Y (vs:=Bv (s.goes n) D1 e1 D2 e2 D3 e3) Y (hz.Ap (i:=2) Y Y))<|MP Y<|MV (fun wz hz=>uR Ue wD Y Y (len:=b.groups.length) (i:=n.group.toNat) (by omega) (by omega))<|cZ e58<|MO Y<|OS wD Ei 3 Y Y Y Y Y (by rw[Ae,hpg.len];show 0+n.group.toNat*6+6≤_;omega) Y<|fun w10 Df=>?_
   rw[nX (sz:=6) (vs:=Bv (s.goes n) D1 e1 D2 e2 D3 e3) hpg (by omega) rfl]at Df
   refine OE ?_
   refine⟨fun hne=>absurd Y hne,?_⟩
   refine cZ e58<|ME<|cR e58<|Rq<|Xa Y<|Xr e58<|J5<|Cm Y Y ?_
   have HW:=HB.all Df
   refine⟨fun b' hb'=>?_,fun h=>by rw[nP hp9 (by omega) hs Ze]at h;cases h⟩
   rw[nP hp9 (by omega) hs Ze]at hb'
   simp only[Option.some.injEq]at hb'
   subst hb'
   refine⟨Y,_,HW.pick [0] (by decide),hd (some gw),cv,A2,k2,A3,k3,by rw[Kt];rfl,?_,hb2.toR HW hks,hb3.toM HW hks⟩
   exact Sl.row HW (i:=3) Y (hpg.Ru Y) (by decide) ((h2g.imp (R':=Qz w10 (up ok w0.heap.size)) fun p x h=>h.to HW hks).set _ ⟨D1,e1,D2,e2,D3,e3,Y,hw1.Qn Df hkk,hw2.to Df hkk,hw3.Tt Df hkk⟩) (fun c hc=>wQ (ok:=ok) HW (i:=3) Y (fun c hc=>by rw[Az.1 hc];exact fun e=>HW.ne (i:=3) (j:=0) (g:=gb) (by rw[e];rfl) Y (by decide) Y) c hc)
end Go.Proofs.YtjoeklkmnfaabaaGreat
namespace Go.Proofs.YtjoeklkmnfaabaaGreat
open Go Go.RowKit
set_option linter.unusedVariables false
set_option linter.unusedSimpArgs false
section
def Wx (w:World) (bad:Nat→Prop) (xs:List Value) (bs:List Blk):Prop:=
 xs.length=bs.length∧∀ i (h:i < bs.length),∃ (B:Option Addr) (c:Nat),xs[i]? =some (.slice B bs[i].length c)∧Rd w B bs[i].length 1 (u8s bs[i])∧(0 < bs[i].length→∀ p,B=some p→¬bad p.block)
variable {w w':World} {S:List Nat} {bad bad':Nat→Prop} {es2:List Ent} {xs:List Value} {bs:List Blk} {D:Dk} {W:Wl} {b:Bo}
theorem Wx.keep (h:Wx w bad xs bs) (H:Hp w w' S es2) (hS:∀ b∈S,bad b) (hn:∀ b,bad' b→b < w.heap.size→bad b):Wx w' bad' xs bs:=by
 refine⟨h.1,fun i hi=>?_⟩
 obtain⟨B,c,h1,h2,h3⟩:=h.2 i hi
 by_cases h0:bs[i].length=0
 · exact⟨B,c,h1,h2.empty h0,fun h=>absurd h (by omega)⟩
 refine⟨B,c,h1,h2.to H (fun p hp hb=>h3 (by omega) p hp (hS _ hb)),fun _ p hp hb=>h3 (by omega) p hp (hn _ hb ?_)⟩
 have h5:0 < (u8s bs[i]).length:=by rw[zZ];omega
 have h6:=Iy w _ (h2.cells p hp 0 _ (Cb h5))
 rwa [Iw]at h6
theorem Wx.lsw {es:List Ent} (h:Wx w bad xs bs) (hb:∀ b∈bl es,bad b):Qa w es xs bs:=by
 refine⟨h.1,fun i hi=>?_⟩
 obtain⟨B,c,h1,h2,h3⟩:=h.2 i hi
 exact⟨B,c,h1,h2,fun h0 p hp hx=>h3 h0 p hp (hb _ hx)⟩
theorem Wx.frame {w1 w2:World} {ys:List Value} {rs rs':List Blk} (h1:Wx w1 bad xs rs) (hx:fH w1 xs ys) (h2:Qa w2 es2 ys rs') (hn:∀ b,bad' b→(bad b∧b < w1.heap.size)∨b∈bl es2):Wx w2 bad' ys rs':=by
 refine⟨h2.1,fun i hi=>?_⟩
 obtain⟨B,c,a1,a2,a3⟩:=h2.2 i hi
 refine⟨B,c,a1,a2,fun h0 p hp hb=>?_⟩
 rcases hn _ hb with ⟨hf1,hf2⟩ | hb
 · rcases hx _ (Fe a1)with hv | hv
   · obtain⟨j,hj⟩:=Dh hv
     obtain⟨B',c',b1,b2,b3⟩:=h1.2 j (by rw[← h1.1];exact lt_of_get hj)
     rw[hj]at b1
     simp only[Option.some.injEq,Value.slice.injEq]at b1
     exact b3 (by rw[← b1.2.1];exact h0) p (by rw[← b1.1];exact hp) hf1
   have:=hv p _ c (by rw[hp])
   omega
 exact a3 h0 p hp hb
structure Vm where
 m:Mw
 gx:Nat
 cs:List Value
variable {v:Vm}
@[reducible] def fK (v:Vm):List Value:=.pointer (some ⟨v.m.gv,0,none⟩)::v.cs
@[reducible] def Dc (v:Vm) (D:Dk) (W:Wl):List Ent:=Bf v.m D W++[(some v.gx,69,fK v)]
structure Ya (w:World) (v:Vm) (D:Dk) (W:Wl) (b:Bo) (bad:Nat→Prop):Prop where
 ok:Mc w v.m D W
 recs:Wx w bad v.m.xs W.recs
 bo:Qq w (fun x=>¬bad x) v.cs b
theorem Ya.keep (h:Ya w v D W b bad) (H:Hp w w' S es2) (hS:∀ x∈S,bad x) (hn:∀ x,bad' x→x < w.heap.size→bad x) (hw:∀ x∈bl (Bf v.m D W),bad' x):Ya w' v D W b bad':=by
 have hr:=h.recs.keep H hS hn
 exact⟨{ h.ok with lst:=hr.lsw hw },hr,h.bo.to H fun x hx hl=>⟨fun hs=>hx (hS x hs),fun hb=>hx (hn x hb hl)⟩⟩
def KE (w0 w':World) (v:Vm) (bad:Nat→Prop) (S:List Nat) (D:Dk) (W:Wl) (b:Bo):Prop:=
 ∃ v':Vm,v'.m.gd=v.m.gd∧v'.m.gk=v.m.gk∧v'.gx=v.gx∧Ya w' v' D W b (fun x=>(bad x∧x < w0.heap.size)∨x∈bl (Dc v' D W))∧Hp w0 w' S (Dc v' D W)
theorem Ya.log {D':Dk} {W':Wl} (h:Ya w v D W b bad) (hb:∀ x∈bl (Bf v.m D W),bad x) (hp:vV w w' (bl (Bf v.m D W)) v.m D' W'):
 ∃ m':Mw,m'.gd=v.m.gd∧m'.gk=v.m.gk∧m'.gv=v.m.gv∧Ya w' ⟨m',v.gx,v.cs⟩ D' W' b (fun x=>(bad x∧x < w.heap.size)∨x∈bl (Bf m' D' W'))∧Hp w w' (bl (Bf v.m D W)) (Bf m' D' W'):=by
 obtain⟨m',e1,e2,e3,hx,hok,H⟩:=hp
 refine⟨m',e1,e2,e3,⟨hok,h.recs.frame hx hok.lst fun _ h=>h,h.bo.to H fun x hx hl=>⟨fun hs=>hx (hb x hs),?_⟩⟩,H⟩
 rintro(⟨h1,_⟩ | h1)
 · exact hx h1
 rcases bl_place H x h1 with h2 | h2
 · exact hx (hb x h2)
 omega
def RB (s:Nat) (D:Dk) (W:Wl) (b:Bo) (l:List Nt) (x:Int) (D':Dk) (W':Wl) (b':Bo):Prop:=
 ((∃ n∈l,¬tO n)∧x=22∧D'=D∧W'=W∧b'=b)∨
 ((∀ n∈l,tO n)∧vE b l=none∧x=21∧D'=D∧W'=W∧b'=b)∨
 ((∀ n∈l,tO n)∧∃ bz,vE b l=some bz∧
  ((∃ (i:Nat) (n:Nt) (D1:Dk) (W1:Wl),l[i]? =some n∧kI s D W ((l.take i).map yV) D1 W1∧vE b (l.take i)=some b'∧
   ((x=3∧D.kept.length / 2 < used (W.recs++(l.take i).map yV)+wgt (yV n).length+16∧D'=D1∧W'=W1)∨
    (x=40∧0 < D.armed∧D'.down=true∧D'.kept=D.kept∧∃ xs,D'.wait=D.wait++xs∧xs.length≤2000000∧sQ D.kept.length s (nbs W.recs) xs)))∨
   (∃ D1 W1,kI s D W (l.map yV) D1 W1∧b'=bz∧BL D1 W1 0 x D' W')))
end
theorem Hp.swap {w0 w:World} {S:List Nat} {a b:List Ent} (H:Hp w0 w S (a++b)):Hp w0 w S (b++a):=by
 refine H.sub (fun i=>if i < b.length then a.length+i else i - b.length) (fun i e he=> .inl ?_) (fun i j hi hj h=>?_)
 · by_cases hb:i < b.length
   · rw[Di hb]at he
     simp only[if_pos hb]
     rw[Eb (by omega),Hr]
     exact he
   rw[Eb (by omega)]at he
   simp only[if_neg hb]
   rw[Di (lt_of_get he)]
   exact he
 rw[Ae]at hi hj
 split at h <;>split at h <;>omega
theorem Hp.mid {w0 w w':World} {S:List Nat} {a R:List Ent} {r r':Ent} (H:Hp w0 w S ((a++[r])++R)) (H':Hp w w' (bl [r]) [r']):Hp w0 w' S ((a++[r'])++R):=by
 rw[Bh]at H ⊢
 have h1:=H.swap
 rw[Bh]at h1
 have h2:=h1.front H'
 rw[← Bh]at h2
 exact h2.swap
def fG (w0:World) (bad:Nat→Prop) (es:List Ent) (x:Nat):Prop:=(bad x∧x < w0.heap.size)∨x∈bl es
structure Ro (w0 w:World) (S:List Nat) (bad:Nat→Prop) (v0 v:Vm) (D:Dk) (W:Wl) (b:Bo) (R:List Ent):Prop where
 gd:v.m.gd=v0.m.gd
 gk:v.m.gk=v0.m.gk
 gx:v.gx=v0.gx
 ok:Ya w v D W b (fG w0 bad (Dc v D W++R))
 H:Hp w0 w S (Dc v D W++R)
theorem oC {v:Vm} {D:Dk} {W:Wl} {R:List Ent} {x:Nat} (h:x∈bl (Bf v.m D W)):x∈bl (Dc v D W++R):=Ih (Ih h)
theorem Pq {a b:List Ent} {x:Nat} (h:x∈bl b):x∈bl (a++b):=by rw[vX];exact Qd _ h
theorem Ro.start {w0:World} {bad:Nat→Prop} {v:Vm} {D:Dk} {W:Wl} {b:Bo} (h:Ya w0 v D W b bad) (H:Hp w0 w0 (bl (Dc v D W)) (Dc v D W)) (hv:∀ x∈bl (Dc v D W),bad x):Ro w0 w0 (bl (Dc v D W)) bad v v D W b []:=by
 refine⟨Y,Y,Y,h.keep (Hp.refl w0) (fun x hx=>by cases hx) (fun x hx _=>?_) (fun x hx=> .inr (oC hx)),by rw[Dt];exact H⟩
 rcases hx with hx | hx
 · exact hx.1
 rw[Dt]at hx;exact hv x hx
section
variable {w0 w w':World} {S:List Nat} {bad:Nat→Prop} {v0 v:Vm} {D:Dk} {W:Wl} {b:Bo} {R R':List Ent}
theorem Ro.on (h:Ro w0 w S bad v0 v D W b R) (H:Hp w w' (bl (Dc v D W++R)) (Dc v D W++R')):Ro w0 w' S bad v0 v D W b R':=by
 refine⟨h.gd,h.gk,h.gx,h.ok.keep H (fun x hx=> .inr hx) (fun x hx hl=>?_) (fun x hx=> .inr (oC hx)),h.H.all H⟩
 rcases hx with hx | hx
 · exact .inl hx
 rcases bl_place H x hx with h2 | h2
 · exact .inr h2
 omega
theorem Ro.log {D':Dk} {W':Wl} (h:Ro w0 w S bad v0 v D W b R) (hp:vV w w' (bl (Bf v.m D W)) v.m D' W'):
 ∃ v':Vm,v'.cs=v.cs∧v'.gx=v.gx∧Ro w0 w' S bad v0 v' D' W' b R∧Hp w w' (bl (Dc v D W++R)) (Dc v' D' W'++R):=by
 obtain⟨m',e1,e2,e3,hok,H'⟩:=h.ok.log (fun x hx=> .inr (oC hx)) hp
 have hH:∀ {wz:World} {Sz:List Nat},Hp wz w Sz (Dc v D W++R)→Hp wz w' Sz (Dc ⟨m',v.gx,v.cs⟩ D' W'++R):=fun HZ=>by
  have h1:=HZ
  unfold Dc fK at h1 ⊢
  rw[Bh]at h1 ⊢
  rw[e3]
  exact h1.front H'
 refine⟨⟨m',v.gx,v.cs⟩,Y,Y,⟨e1.trans h.gd,e2.trans h.gk,h.gx,hok.keep (Hp.refl w') (fun x hx=>by cases hx) (fun x hx _=>?_) (fun x hx=> .inr (oC hx)),hH h.H⟩,hH h.H.here⟩
 have hsz:=h.H.size
 rcases hx with hx | hx
 · exact .inl ⟨.inl hx,by have:=hx.2;omega⟩
 rw[vX,vX]at hx
 rcases Bq.1 hx with hx | hx
 · rcases Bq.1 hx with hx | hx
   · exact .inr hx
   have h2:x∈bl (Dc v D W++R):=Ih (Pq hx)
   exact .inl ⟨.inr h2,oM h.H h2⟩
 have h2:x∈bl (Dc v D W++R):=Pq hx
 exact .inl ⟨.inr h2,oM h.H h2⟩
theorem Ro.book {b':Bo} {cs:List Value} (h:Ro w0 w S bad v0 v D W b R) (H:Hp w w' [v.gx] [(some v.gx,69,Ah v.m.gv::cs)]) (hb:Qq w' (up (fun x=>¬fG w0 bad (Dc v D W++R) x) w.heap.size) cs b'):
 Ro w0 w' S bad v0 ⟨v.m,v.gx,cs⟩ D W b' R∧Hp w w' (bl (Dc v D W++R)) (Dc ⟨v.m,v.gx,cs⟩ D W++R):=by
 have hS:∀ x∈[v.gx],x∈bl (Dc v D W++R):=fun x hx=>by
  rw[Az.1 hx]
  exact Ih (Pq (by simp[bl]))
 have hsz:=h.H.size
 have hr:Wx w' (fG w0 bad (Dc v D W++R)) v.m.xs W.recs:=h.ok.recs.keep H (fun x hx=> .inr (hS x hx)) fun x hx _=>hx
 refine⟨⟨h.gd,h.gk,h.gx,⟨{ h.ok.ok with lst:=hr.lsw fun x hx=> .inr (oC hx) },hr,hb.to (Hp.refl w') fun x hx _=>⟨by simp,?_⟩⟩,h.H.mid H⟩,h.H.here.mid H⟩
 rcases hx with hx | hx
 · exact hx
 rintro(h1 | h1)
 · have:=h1.2;omega
 have:=oM h.H h1;omega
theorem Ro.post (h:Ro w0 w S bad v0 v D W b R):KE w0 w v0 bad S D W b:=by
 refine⟨v,h.gd,h.gk,h.gx,h.ok.keep (Hp.refl w) (fun x hx=>by cases hx) (fun x hx _=>?_) (fun x hx=> .inr (Ih hx)),h.H.less⟩
 rcases hx with hx | hx
 · exact .inl hx
 exact .inr (Ih hx)
def Yb (n:Nat) (w:World) (es:List Ent) (xs:List Value) (bs:List Blk):Prop:=Wx w (fun x=>x < n∨x∈bl es) xs bs
theorem Yb.nil (n:Nat) (w:World) (es:List Ent):Yb n w es [] []:=⟨rfl,fun i hi=>absurd hi (by simp)⟩
theorem Yb.on {n:Nat} {es es':List Ent} {xs:List Value} {bs:List Blk} (h:Yb n w es xs bs) (H:Hp w w' (bl es) es'):Yb n w' es' xs bs:=by
 refine Wx.keep h H (fun x hx=> .inr hx) fun x hx hl=>?_
 rcases hx with hx | hx
 · exact .inl hx
 rcases bl_place H x hx with h2 | h2
 · exact .inr h2
 omega
theorem Yb.snoc {n:Nat} {es:List Ent} {xs:List Value} {bs:List Blk} {t:Blk} {B:Option Addr} {c:Nat} (h:Yb n w es xs bs) (hr:Rd w B t.length 1 (u8s t)) (ha:∀ p,B=some p→n≤p.block∧p.block∉bl es):Yb n w es (xs++[Ac B t.length c]) (bs++[t]):=by
 refine⟨by simp[h.1],fun i hi=>?_⟩
 by_cases hin:i < bs.length
 · rw[List.getElem_append_left hin]
   obtain⟨B',c',h1,h2,h3⟩:=h.2 i hin
   exact⟨B',c',by rw[Di (by rw[h.1];exact hin)];exact h1,h2,h3⟩
 have hi2:i=bs.length:=by simp at hi;omega
 subst hi2
 rw[List.getElem_append_right (Ak _)]
 simp only[Lh,List.getElem_cons_zero]
 refine⟨B,c,by rw[Eb (by rw[h.1];exact Ak _),h.1,Lh];rfl,hr,fun _ p hp hb=>?_⟩
 obtain⟨h1,h2⟩:=ha p hp
 rcases hb with hb | hb
 · omega
 exact h2 hb
theorem Yb.get {n i:Nat} {es:List Ent} {xs:List Value} {bs:List Blk} {t:Blk} (h:Yb n w es xs bs) (hi:bs[i]? =some t):∃ (B:Option Addr) (c:Nat),xs[i]? =some (Ac B t.length c)∧Rd w B t.length 1 (u8s t)∧(0 < t.length→∀ p,B=some p→n≤p.block∧p.block∉bl es):=by
 obtain⟨hl,rfl⟩:=Ec.1 hi
 obtain⟨B,c,h1,h2,h3⟩:=h.2 i hl
 exact⟨B,c,h1,h2,fun h0 p hp=>⟨by have:=h3 h0 p hp;omega,fun hb=>h3 h0 p hp (.inr hb)⟩⟩
end
section
variable {n:Nt} {b:Bo} {s:Sv}
theorem WE (h:NtB n):∀ f∈Px n,FOk f:=by
 intro f hf
 unfold Px at hf
 simp only[Cj,Jh,or_false]at hf
 rcases hf with rfl | rfl | rfl | rfl | rfl | rfl | rfl | rfl | rfl | rfl | rfl | rfl | rfl | rfl | rfl | rfl
 all_goals first | exact trivial | exact h.kind | exact h.group | exact h.br | exact h.bn | exact h.vs | exact h.vr | exact h.vn | exact h.es | exact h.rg | exact h.rl | exact h.rn | exact h.cl | exact h.sq
theorem S4 (hb:NtB n) (h0:Og n=0):Qu rS (yV n)=0∧PG rS (yV n)=Px n:=by
 have hl:(xX (Px n) W0).long=false:=by
  cases hl:(xX (Px n) W0).long with
  | false=>rfl
  | true=>unfold Og at h0;rw[(mU hl).2]at h0;cases h0
 have ho:yV n=(xX (Px n) W0).out:=(gY hl).1
 have hr:rS.rd (yV n) 0 0=(Px n,(yV n).length,0):=by
  have h1:=J9 (Px n) (WE hb) W0 (yV n) rfl hl (by rw[ho];exact List.prefix_refl _)
  rw[← ho]at h1
  exact h1
 have he:Qu rS (yV n)=0:=by rw[T4 (jE n) hr,if_neg (by omega)]
 exact⟨he,by rw[(JB he).1,hr]⟩
theorem II :∀ (fs:List Fv) (st:WS),st.long=false→(∀ f∈fs,wN f=false)→st.out.length+(fs.map fun f=>(rP f).length).sum≤65536→(xX fs st).long=false∧(xX fs st).out.length=st.out.length+(fs.map fun f=>(rP f).length).sum
 | [],st,h0,_,_=>⟨h0,by simp[xX]⟩
 | f::fs,st,h0,ht,hs=>by
  rw[Je,List.sum_cons]at hs ⊢
  have h1:qQ f st=⟨st.out++rP f,false⟩:=by
   rw[lD h0 (ht f Gm)]
   unfold iU
   rw[if_neg (by rw[h0];simp;omega),h0]
  have ih:=II fs (qQ f st) (by rw[h1]) (fun g hg=>ht g (Eu _ hg)) (by rw[h1];simp only[Ae];omega)
  refine⟨ih.1,ih.2.trans ?_⟩
  rw[h1]
  simp only[Ae]
  omega
theorem sT {n:Int} (h:i64 n):(rP (.int n)).length≤10:=by
 have:=uW (GA n h.1 h.2)
 show(uA n).length≤10
 rw[rN]
 exact this
theorem cJ {b:Blk} (h:b.length≤8192):(xY b).length≤8202∧(xY b).length≤10+b.length:=by
 have:=uW (v:=b.length) (by omega)
 unfold xY
 rw[Ae]
 omega
theorem pQ (h:NtB n) (hv:n.Eh.val.length≤2048) (he:n.entry.val.length≤8192) (hk:n.right.key.length≤16):tO n:=by
 have b1:(rP (.bytes n.Eh.val)).length≤2058:=by have:=(cJ (b:=n.Eh.val) (by omega)).2;show(xY _).length≤_;omega
 have b2:(rP (.bytes n.entry.val)).length≤8202:=(cJ (b:=n.entry.val) he).1
 have b3:(rP (.text n.right.key)).length≤26:=by have:=(cJ (b:=n.right.key) (by omega)).2;show(xY _).length≤_;omega
 have hs:((Px n).map fun f=>(rP f).length).sum≤11000:=Ce (Gl (sT h.kind) (Gl (sT h.group) (Gl (sT h.br) (Gl (sT h.bn) (Gl (sT h.vs) (Gl (sT h.vr) (Gl (sT h.vn) (Gl (b1) (Gl (sT h.es) (Gl (b2) (Gl (sT h.rg) (Gl (b3) (Gl (sT h.rl) (Gl (sT h.rn) (Gl (sT h.cl) (Gl (sT h.sq) (Ak 0))))))))))))))))) (by decide)
 have hw:=II (Px n) W0 rfl (fun f hf=>?_) (by show 0+_≤_;omega)
 · have ho:=gY hw.1
   refine⟨ho.2,?_⟩
   have h2:(yV n).length=0+((Px n).map fun f=>(rP f).length).sum:=by
    show(rH _).length=_
    rw[ho.1]
    exact hw.2
   omega
 · unfold Px at hf
   simp only[Cj,Jh,or_false]at hf
   rcases hf with rfl | rfl | rfl | rfl | rfl | rfl | rfl | rfl | rfl | rfl | rfl | rfl | rfl | rfl | rfl | rfl
   all_goals first | rfl | exact decide_eq_false (by omega)
structure SvB (s:Sv):Prop where
 pr:i64 s.p.r
 pn:i64 s.p.n
 ix:i64 s.index
 vt:∀ v∈s.Bc,i64 v.slot∧i64 v.b.r∧i64 v.b.n
 en:∀ e∈s.entries,i64 e.slot
structure BoB (b:Bo):Prop where
 gr:∀ s∈b.groups,SvB s
 rt:∀ r∈b.rights,i64 r.g∧i64 r.lease∧i64 r.net
theorem BoB.empty :BoB Bo.empty:=⟨fun s hs=>by
 rw[(List.mem_replicate.1 hs).2]
 exact⟨by decide,by decide,by decide,(fun v hv=>by cases hv),(fun e he=>by cases he)⟩,(fun r hr=>by cases hr)⟩
theorem SvB.raise {b:Bal} (h:SvB s) (h1:i64 b.r) (h2:i64 b.n):SvB (s.raise b):=by
 unfold Sv.raise
 split
 · exact { h with pr:=h1,pn:=h2 }
 exact h
theorem LN {l:List En} {n:Int} {e:En} (h:e∈rM l n):e∈l:=by
 unfold rM at h
 split at h
 · cases h
 rename_i x r hx
 split at h
 · rw[← hx]at h;exact(Dz.1 h).1
 cases h
theorem SvB.goes (h:SvB s) (hn:NtB n):SvB (s.goes n):=by
 unfold Sv.goes
 split
 · exact h.raise hn.br hn.bn
 split
 · split
   · exact h
   refine SvB.raise { h with vt:=fun v hv=>?_ } hn.vr hn.vn
   rcases Bq.1 hv with hv | hv
   · exact h.vt v (Dz.1 hv).1
   rcases Cj.1 hv with rfl | hv
   · exact⟨hn.vs,hn.vr,hn.vn⟩
   exact h.vt v (Dz.1 hv).1
 split
 · split
   · refine { h with vt:=fun v hv=>h.vt v (Dz.1 hv).1,en:=fun e he=>?_ }
     rcases Bq.1 he with he | he
     · exact h.en e he
     rw[Az.1 he];exact hn.es
   exact h
 split
 · exact h
 exact { h with ix:=hn.es,vt:=fun v hv=>h.vt v (Dz.1 hv).1,en:=fun e he=>h.en e (LN he) }
theorem BoB.into {b':Bo} (h:BoB b) (hn:NtB n) (hi:b.into n=some b'):BoB b':=by
 unfold Bo.into at hi
 split at hi
 · split at hi
   · simp only[Option.some.injEq]at hi
     subst hi
     refine⟨h.gr,fun r hr=>?_⟩
     rcases Bq.1 hr with hr | hr
     · exact h.rt r (Dz.1 hr).1
     rcases Cj.1 hr with rfl | hr
     · exact⟨hn.rg,hn.rl,hn.rn⟩
     exact h.rt r (Dz.1 hr).1
   cases hi
 split at hi
 · cases hi
 split at hi
 · rename_i s hs
   split at hi
   · simp only[Option.some.injEq]at hi
     subst hi
     refine⟨fun t ht=>?_,h.rt⟩
     rcases List.mem_or_eq_of_mem_set ht with ht | rfl
     · exact h.gr t ht
     exact(h.gr s (Fe hs)).goes hn
   cases hi
 cases hi
theorem BoB.YI :∀ {l:List Nt} {b b':Bo},BoB b→(∀ n∈l,NtB n)→vE b l=some b'→BoB b'
 | [],b,b',h,_,hr=>by
  simp only[Go.Proofs.YtjoeklkmnfaabaaGreat.vE,Option.some.injEq]at hr
  exact hr▸h
 | n::l,b,b',h,hl,hr=>by
  rw[Go.Proofs.YtjoeklkmnfaabaaGreat.vE]at hr
  split at hr
  · rename_i c hc
    exact BoB.YI (h.into (hl n Gm) hc) (fun x hx=>hl x (Eu _ hx)) hr
  cases hr
theorem IJ {p:Bal} {first:Int}:∀ {l:List Vt} {n:Int},uD p first n l=true→∀ v∈l,v.val.length≤2048
 | [],_,_,v,hv=>by cases hv
 | e::l,n,h,v,hv=>by
  simp only[uD,Ci,decide_eq_true_eq]at h
  rcases Cj.1 hv with rfl | hv
  · exact h.1.2.2.2.2.2
  exact IJ h.2 v hv
theorem z64 :i64 0:=by decide
theorem jA {N:Nat} (hg:rE b N) (hb:BoB b):∀ n∈b.notes,NtB n∧tO n:=by
 intro n hn
 unfold Bo.notes at hn
 rcases Bq.1 hn with hn | hn
 · obtain⟨g,s,hs,hm⟩:=OR hn
   have hc:=(tD s).1 (hg.chk s (mem_of hs))
   have h8:=hg.eight
   have hgl:=(Ec.1 hs).1
   have hsb:=hb.gr s (mem_of hs)
   have hg64:i64 (g:Int):=⟨by omega,by omega⟩
   unfold Vd tP sB at hm
   rcases Bq.1 hm with hm | hm
   · rcases Bq.1 hm with hm | hm
     · rcases Bq.1 hm with hm | hm
       · split at hm
         · rw[Az.1 hm]
           have h1:NtB (ntI g s):=⟨(by decide:i64 4),hg64,z64,z64,z64,z64,z64,hsb.ix,z64,z64,z64,z64,z64⟩
           exact⟨h1,pQ h1 (Am _) hc.i.2.2.2 (Am _)⟩
         cases hm
       obtain⟨e,he,rfl⟩:=Ik.1 hm
       obtain⟨i,hi⟩:=Dh he
       have hl:=(qL hc.e i e hi).2.2
       have h1:NtB (Um g e):=⟨(by decide:i64 3),hg64,z64,z64,z64,z64,z64,hsb.en e he,z64,z64,z64,z64,z64⟩
       exact⟨h1,pQ h1 (Am _) (by show e.val.length≤8192;omega) (Am _)⟩
     split at hm
     · rw[Az.1 hm]
       have h1:NtB (ntP g s.p):=⟨(by decide:i64 1),hg64,hsb.pr,hsb.pn,z64,z64,z64,z64,z64,z64,z64,z64,z64⟩
       exact⟨h1,pQ h1 (Am _) (Am _) (Am _)⟩
     cases hm
   obtain⟨v,hv,rfl⟩:=Ik.1 hm
   have hq:=hsb.vt v hv
   have h1:NtB (ntV g v):=⟨(by decide:i64 2),hg64,z64,z64,hq.1,hq.2.1,hq.2.2,z64,z64,z64,z64,z64,z64⟩
   exact⟨h1,pQ h1 (IJ hc.v v hv) (Am _) (Am _)⟩
 obtain⟨r,hr,rfl⟩:=Ik.1 hn
 obtain⟨i,hi⟩:=Dh hr
 have hrs:=(tZ hg.rts).1 r hr
 have hq:=hb.rt r hr
 have h1:NtB (ntF r):=⟨(by decide:i64 5),z64,z64,z64,z64,z64,z64,z64,hq.1,hq.2.1,hq.2.2,z64,z64⟩
 exact⟨h1,pQ h1 (Am _) (Am _) hrs.2.2.2.1⟩
end
theorem Rt.ext_iff' {a b:Rt}:a=b↔a.g=b.g∧a.key=b.key∧a.lease=b.lease∧a.net=b.net:=by
 cases a;cases b;simp
instance:DecidableEq Rt:=fun a b=>decidable_of_iff _ Rt.ext_iff'.symm
section
variable {l:List Value} {w:World} {ty t t':TypeId} {x y:Operand}
theorem QH (r q:Rt) (w:World) (n:Nat):(Op.equalIn (n+2) 35 (.agg (Jv r).toArray) (.agg (Jv q).toArray)).run Tryz.prog w=.ok (decide (r=q)) w:=by
 have u3:=Tryz.underlying3
 have a3:=Tryz.isAgg3
 have z3:=Tryz.sizeOf3
 have u9:=Tryz.underlying9
 have a9:=Tryz.isAgg9
 have z9:=Tryz.sizeOf9
 have hS:Tryz.prog.underlying 35=some (.struct (Tryz.prog.fieldsOf 35)):=by kernel_rfl
 have hp:Tryz.prog.stoodInHeld 35=false:=by kernel_rfl
 rw[show(n+2:Nat)=(n+1)+1 from rfl,run_equalIn_agg w (n+1) 35 _ _ hS hp]
 simp only[Program.fieldsOf,Tryz.underlying35,Jv,zT]
 rw[show decide (r=q)=decide (r.g=q.g∧r.key=q.key∧r.lease=q.lease∧r.net=q.net) from decide_eq_decide.2 Rt.ext_iff']
 go_simp
 by_cases h1:r.g=q.g <;>by_cases h2:r.key=q.key <;>by_cases h3:r.lease=q.lease <;>by_cases h4:r.net=q.net <;>simp[h1,h2,h3,h4]
theorem mS {r q:Rt} (hx:ev l x=some (.agg (Jv r).toArray)) (hy:ev l y=some (.agg (Jv q).toArray)):Ex Tryz.prog l (.binOp .eql 35 x y t') ty w (.value (.bool (decide (r=q)))) w:=by
 have h:=aE (ty:=ty) (t':=t') (w:=w) (op:=.eql) (P:=Tryz.prog) (t:=35) (by kernel_rfl) (fun w=>QH r q w 9998) hx hy (.inl rfl)
 simp only[if_true]at h
 exact h
end
theorem Sl.tail {X:Type} {R:List Value→X→Prop} {sz c:Nat} {w:World} {ok:Nat→Prop} {A:Option Addr} {x:X} {xs:List X} (h:Sl R sz w ok A (x::xs)) (hc:xs.length+1≤c):Sl R sz w (fun _=>True) (wH A 1 c sz) xs:=by
 obtain⟨ps,hp,hr,_,h2⟩:=h
 cases ps with
 | nil=>exact h2.elim
 | cons p ps=>
  have h3:=hr.cut 1 (xs.length+1) c (by omega) (Ak _) hc
  have hpl:p.length=sz:=hp p Gm
  have Gi:ps.flatten.length=xs.length*sz:=by
   have h4:=hr.len
   rw[Ij,Ae,hpl,Bj,Dv,Nat.one_mul]at h4
   omega
  refine⟨ps,fun y hy=>hp y (Eu _ hy),?_,fun _ _ _=>trivial,h2.2⟩
  have h4:((p::ps).flatten.drop (1*sz)).take ((xs.length+1 - 1)*sz)=ps.flatten:=by
   rw[Ij,Nat.one_mul,Gh hpl,Nat.add_sub_cancel,← Gi,Bz]
  rw[h4]at h3
  exact h3
def leftR :List Rt→List Rt→List Rt
 | [],k=>k
 | r::l,k=>leftR l (match k with | q::k'=>if q=r then k' else q::k' | []=>[])
theorem A7 :∀ l,leftR l []=[]
 | []=>rfl
 | _::l=>A7 l
theorem mJ :∀ (l:List Rt) (r:Rt) (k:List Rt),leftR (l++[r]) k=(match leftR l k with | q::k'=>if q=r then k' else q::k' | []=>[])
 | [],_,_=>rfl
 | _::l,r,k=>mJ l r _
theorem eG :∀ {l k:List Rt},k.Sublist l→l.Nodup→leftR l k=[]
 | [],k,h,_=>by rw[List.sublist_nil.1 h];rfl
 | r::l,[],_,_=>A7 _
 | r::l,q::k,h,hn=>by
  rcases List.sublist_cons_iff.1 h with h1 | ⟨_,h1,h2⟩
  · have hq:q∈l:=h1.subset Gm
    have:q≠r:=by rintro rfl;exact(List.nodup_cons.1 hn).1 hq
    show leftR l (if q=r then k else q::k)=[]
    rw[if_neg this]
    exact eG h1 (List.nodup_cons.1 hn).2
  show leftR l (if q=r then k else q::k)=[]
  simp only[List.cons.injEq]at h1
  rw[if_pos h1.1]
  rw[← h1.2]at h2
  exact eG h2 (List.nodup_cons.1 hn).2
theorem pT :∀ {l k:List Rt},leftR l k=[]→k.Sublist l
 | [],_,h=>by rw[leftR]at h;rw[h];exact List.Sublist.refl _
 | r::l,[],_=>List.nil_sublist _
 | r::l,p::k,h=>by
  change leftR l (if p=r then k else p::k)=[]at h
  split at h
  · rename_i e
    exact e▸(pT h).cons_cons r
  exact(pT h).cons r
section
variable {w0 w:World} {bad:Nat→Prop} {es:List Ent} {b:Bo} {q:List Rt}
theorem nT {w':World} {es':List Ent} (H:Hp w w' (bl es) es'):∀ x,¬fG w0 bad es x→x < w.heap.size→x∉bl es∧¬fG w0 bad es' x:=fun x hx hl=>⟨fun hb=>hx (.inr hb),fun h=>by
 rcases h with h | h
 · exact hx (.inl h)
 rcases bl_place H x h with h2 | h2
 · exact hx (.inr h2)
 omega⟩
theorem Q4 {w1:World} {S:List Nat} (H:Hp w0 w S es) (hs:w.heap.size≤w1.heap.size):∀ x,w1.heap.size≤x→¬fG w0 bad es x:=fun x hx h=>by
 have:=H.size
 rcases h with h | h
 · omega
 have:=oM H h;omega
theorem kI.few {s:Nat} {D D1:Dk} {W W1:Wl} {rs:List Blk} (h:kI s D W rs D1 W1) (hk:D.kept.length≤16384):rs.length≤4096∧D1.wait.length≤D.wait.length+1228800:=by
 have h1:=h.lg.room
 have h2:=BZ W1.recs
 rw[h.recs,Ae]at h2
 rw[h.recs]at h1
 obtain⟨xs,a1,a2,_⟩:=h.wait
 rw[a1,Ae]
 omega
@[reducible] def Bo.fold (b:Bo) (q:List Rt):Bo:=⟨b.groups,q,[]⟩
theorem K0 {l k:List Rt} (h:k.Sublist l) (hl:qV l):qV k:=by
 have h1:=cO hl
 exact cP (fun x hx=>(tZ hl).1 x (h.subset hx)) (h1.sublist h)
theorem rE.fold {N:Nat} (h:rE b N) (hq:q.Sublist b.rights):rE (b.fold q) N:=⟨h.eight,h.chk,K0 hq h.rts,trivial,Ce hq.length_le h.few⟩
theorem BoB.fold (h:BoB b) (hq:q.Sublist b.rights):BoB (b.fold q):=⟨h.gr,fun r hr=>h.rt r (hq.subset hr)⟩
theorem FH (hq:q.Sublist b.rights):(b.fold q).notes.length≤b.notes.length:=by
 have:=hq.length_le
 show(gN b.groups++q.map ntF).length≤(gN b.groups++b.rights.map ntF).length
 rw[Ae,Ae,Bg,Bg]
 omega
def RF (s:Nat) (D:Dk) (W:Wl) (b:Bo) (q:List Rt) (x:Int) (D':Dk) (W':Wl) (b':Bo):Prop:=
 (leftR b.rights q≠[]∧x=1∧D'=D∧W'=W∧b'=b)∨
 (leftR b.rights q=[]∧
  ((∃ (i:Nat) (n:Nt) (D1:Dk) (W1:Wl),(b.fold q).notes[i]? =some n∧kI s D W (((b.fold q).notes.take i).map yV) D1 W1∧b'=b∧
   ((x=3∧D.kept.length / 2 < used (W.recs++((b.fold q).notes.take i).map yV)+wgt (yV n).length+16∧D'=D1∧W'=W1)∨
    (x=40∧0 < D.armed∧D'.down=true∧D'.kept=D.kept∧∃ xs,D'.wait=D.wait++xs∧xs.length≤2000000∧sQ D.kept.length s (nbs W.recs) xs)))∨
   (∃ D1 W1,kI s D W ((b.fold q).notes.map yV) D1 W1∧BL D1 W1 W.recs.length x D' W'∧(x=0→b'=b.fold q)∧(x≠0→b'=b))))
end
def isC (w:World) (x:Nat):Prop:=∃ arr T z,w.heap[x]? =some (.cells arr T z)
theorem isC.to {w w':World} {S:List Nat} {es:List Ent} {x:Nat} (h:isC w x) (H:Hp w w' S es) (hx:x∉S):isC w' x:=by
 obtain⟨arr,T,z,h⟩:=h
 exact⟨arr,T,z,(H.frame x (Dw.1 h).1 hx).trans h⟩
theorem Rd.isc {w:World} {A:Option Addr} {n sz:Nat} {xs:List Value} (h:Rd w A n sz xs) (hn:0 < n) (hz:0 < sz):∀ p,A=some p→isC w p.block:=fun p hp=>by
 have hl:0 < xs.length:=by rw[h.len];exact Nat.mul_pos hn hz
 have h1:=h.cells p hp 0 _ (Cb hl)
 rw[Iw]at h1
 exact aH h1
section
variable {w:World} {ok:Nat→Prop} {A:Option Addr} {p:List Value}
theorem Bs.Vj {b:Blk} (h:Bs w ok A b):Bs w (fun x=>ok x∧isC w x) A b:=⟨h.1,fun h0 p hp=>⟨h.2.1 h0 p hp,h.1.isc h0 (by decide) p hp⟩,h.2.2⟩
theorem Sl.Vj {X:Type} {R R':List Value→X→Prop} {sz:Nat} {xs:List X} (h:Sl R sz w ok A xs) (hz:0 < sz) (hR:∀ p x,R p x→R' p x):Sl R' sz w (fun x=>ok x∧isC w x) A xs:=by
 obtain⟨ps,hp,hr,ha,h2⟩:=h
 exact⟨ps,hp,hr,fun h0 p hp=>⟨ha h0 p hp,hr.isc h0 hz p hp⟩,h2.imp hR⟩
theorem Oe.Vj {x:Vt} (h:Oe w ok p x):Oe w (fun x=>ok x∧isC w x) p x:=by
 obtain⟨A,k,rfl,h⟩:=h
 exact⟨A,k,Y,h.Vj⟩
theorem Qp.Vj {x:En} (h:Qp w ok p x):Qp w (fun x=>ok x∧isC w x) p x:=by
 obtain⟨A,k,rfl,h⟩:=h
 exact⟨A,k,Y,h.Vj⟩
theorem Qz.Vj {x:Sv} (h:Qz w ok p x):Qz w (fun x=>ok x∧isC w x) p x:=by
 obtain⟨A1,k1,A2,k2,A3,k3,rfl,h1,h2,h3⟩:=h
 exact⟨A1,k1,A2,k2,A3,k3,Y,h1.Vj (by decide) fun _ _ h=>h.Vj,h2.Vj,h3.Vj (by decide) fun _ _ h=>h.Vj⟩
theorem Qq.Vj {x:Bo} (h:Qq w ok p x):Qq w (fun x=>ok x∧isC w x) p x:=by
 obtain⟨A1,k1,A2,k2,A3,k3,rfl,h1,h2,h3⟩:=h
 exact⟨A1,k1,A2,k2,A3,k3,Y,h1.Vj (by decide) fun _ _ h=>h.Vj,h2.Vj (by decide) fun _ _ h=>h,h3.Vj (by decide) fun _ _ h=>h⟩
end
theorem Wx.loop {w w':World} {bad:Nat→Prop} {L:Nat} {xs:List Value} {bs:List Blk} (h:Wx w bad xs bs) (H:Hp w w' [L] []) (hL:∀ arr T z,w.heap[L]?≠some (.cells arr T z)):Wx w' bad xs bs:=by
 refine⟨h.1,fun i hi=>?_⟩
 obtain⟨B,c,h1,h2,h3⟩:=h.2 i hi
 by_cases h0:bs[i].length=0
 · exact⟨B,c,h1,h2.empty h0,fun h=>absurd h (by omega)⟩
 refine⟨B,c,h1,h2.to H (fun p hp hb=>?_),h3⟩
 obtain⟨arr,T,z,h7⟩:=h2.isc (by omega) (by decide) p hp
 rw[Az.1 hb]at h7
 exact hL _ _ _ h7
theorem keepD {w w':World} {S:List Nat} {es:List Ent} {D:Nat} {x:Option (List Deferred)} (hD:w.heap[D]? =some (.deferred x)) (H:Hp w w' S es) (hS:∀ b∈S,∃ arr T z,w.heap[b]? =some (.cells arr T z)):w'.heap[D]? =some (.deferred x):=by
 refine(H.frame D (Dw.1 hD).1 (fun hx=>?_)).trans hD
 obtain⟨arr,T,z,hh⟩:=hS D hx
 rw[hD]at hh;cases hh
theorem FW {g a v:Nat} {l:List Nat} (h1:g≠a) (h2:g≠v) (h3:g∉l):g∉a::v::l:=by
 intro h
 rcases Cj.1 h with h | h
 · exact h1 h
 rcases Cj.1 h with h | h
 · exact h2 h
 exact h3 h
theorem Mc.keep0 {w w':World} {m:Mw} {D:Dk} {W:Wl} {es:List Ent} (h:Mc w m D W) (H:Hp w w' [] es):Mc w' m D W:=
 { h with lst:=h.lst.keep H (fun _ hb=>by cases hb) (fun _ hb=> .inl hb) }
theorem LI {n:Nt} (h:Og n=0):n.Eh.val.length≤140737488351232∧n.entry.val.length≤140737488351232:=by
 have key:∀ (i:Nat) (b:Blk),(Px n)[i]? =some (.bytes b)→b.length≤65535:=fun i b hi=>by
  obtain⟨hl,he⟩:=Ec.1 hi
  rcases Jj 65535 b.length with h1 | h1
  · have h2:=DI hl (by rw[he];exact decide_eq_true h1) W0
    unfold Og at h
    rw[h2]at h
    cases h
  exact h1
 have h1:=key 7 _ rfl
 have h2:=key 9 _ rfl
 exact⟨by omega,by omega⟩
theorem GW (gd gk:Nat) (gw:Option Nat) (cw:Nat) (sp:List Value) (D:Dk) (w0:World) (H0:Hp w0 w0 (bl (xD gd gk gw cw sp D)) (xD gd gk gw cw sp D)) (hD:Ri D gw cw sp) (hd:D.down=false) (hwt:D.wait.length≤1000000000) (W:Wl) (s:Nat) (X0:Lg D.show D.kept.length W s) (ht:W.told=W.recs.length) (htu:W.turn≤2^50) (hfi:W.first≤2^50):
 Aj 28 #[Ah gd] w0 (fun r w'=>∃ (m:Mw) (W':Wl),r=.tuple #[Ah m.gv,Aa 0]∧m.gd=gd∧m.gk=gk∧fH w0 [] m.xs∧Mc w' m D W'∧Hp w0 w' (bl (xD gd gk gw cw sp D)) (Bf m D W')∧
  W'.recs=W.recs∧W'.first=W.first∧W'.turn=W.turn∧W'.told=W.recs.length∧W'.dead=false∧Lg D.show D.kept.length W' s):=by
 have hus:=bI W.recs
 have hrm:=X0.room
 have hsz:=X0.size
 have hmo:=hD.most
 obtain⟨a1,a2,a3,a4,a5,a6,a7,a8⟩:=N7 X0 ht
 refine((Rn.open_any gd gk gw cw sp D w0 H0 hD hd X0.size hwt W.turn W.first s W.recs ?_ (by omega) (by omega) X0.sl a2 (by omega) (by omega) X0.long (by omega)).d (fun _ _ h=>h)).mono ?_
 · rw[a1]
 rintro r w' ⟨m,hr,e1,e2,_,e4,hok,H⟩
 exact⟨m,_,hr,e1,e2,e4,hok,H,a4,a5,a6,a7,a8,a3⟩
theorem Wx.new {w0 w:World} {m:Mw} {D:Dk} {W:Wl} (hx:fH w0 [] m.xs) (h:Mc w m D W):Wx w (fun x=>x < w0.heap.size∨x∈bl (Bf m D W)∨w.heap.size≤x) m.xs W.recs:=by
 refine⟨h.lst.1,fun i hi=>?_⟩
 obtain⟨B,c,h1,h2,h3⟩:=h.lst.2 i hi
 refine⟨B,c,h1,h2,fun h0 p hp hb=>?_⟩
 rcases hb with hb | hb | hb
 · rcases hx _ (Fe h1)with hv | hv
   · cases hv
   have:=hv p _ c (by rw[hp])
   omega
 · exact h3 h0 p hp hb
 have:=NO h2 h0 hp;omega
theorem rE.YI :∀ {l:List Nt} {b c:Bo} {N:Nat},rE b N→Go.Proofs.YtjoeklkmnfaabaaGreat.vE b l=some c→rE c (N+l.length)
 | [],b,c,N,h,hr=>by
  simp only[Go.Proofs.YtjoeklkmnfaabaaGreat.vE,Option.some.injEq]at hr
  exact hr▸h
 | n::l,b,c,N,h,hr=>by
  rw[Go.Proofs.YtjoeklkmnfaabaaGreat.vE]at hr
  split at hr
  · rename_i d hd
    have h2:=rE.YI (h.into hd) hr
    rw[Bj,show N+(l.length+1)=N+1+l.length by omega]
    exact h2
  cases hr
section
def F8 (ns:List Nt):Prop:=(∀ n∈ns,tO n)∧used (ns.map yV)≤2032
instance (ns:List Nt):Decidable (F8 ns):=inferInstanceAs (Decidable (_∧_))
variable {ns:List Nt} {i:Nat} {n:Nt}
theorem kK (ns:List Nt) (i:Nat):used ((ns.take i).map yV)≤used (ns.map yV):=by
 rw[List.map_take]
 have:=pI (ns.map yV) i
 omega
theorem fN (h:ns[i]? =some n):used ((ns.take (i+1)).map yV)=used ((ns.take i).map yV)+wgt (yV n).length:=by
 rw[yM h,Dx,uI]
 exact congrArg _ (iY _)
theorem JP (h:n∈ns) (hn:¬tO n):decide (F8 ns)=false:=decide_eq_false fun hf=>hn (hf.1 n h)
theorem PZ (h:2032 < used ((ns.take i).map yV)):decide (F8 ns)=false:=decide_eq_false fun hf=>by
 have:=kK ns i
 have:=hf.2
 omega
theorem PY (h:∀ n∈ns.take ns.length,tO n) (h2:used ((ns.take ns.length).map yV)≤2032):decide (F8 ns)=true:=by
 rw[Bz]at h h2
 exact decide_eq_true ⟨h,h2⟩
theorem w63 (n:Nat) (h:n≤2^40):IntKind.i64.wrap (((n:Int)+63).tdiv 64)=(((n+63) / 64:Nat):Int):=by
 rw[show((n:Int)+63)=((n+63:Nat):Int) by omega,show(((n+63:Nat):Int)).tdiv 64=(((n+63) / 64:Nat):Int) from rfl]
 exact Ad _ (by omega)
end
theorem off {w w':World} {es es':List Ent} (H:Hp w w' (bl es) es'):∀ x,x∉bl es→x < w.heap.size→x∉bl es∧x∉bl es':=fun x hx hl=>⟨hx,fun h=>by
 rcases bl_place H x h with h2 | h2
 · exact hx h2
 omega⟩
theorem CH {w0 w w1:World} {S:List Nat} {es:List Ent} (H:Hp w0 w S es) (hs:w.heap.size≤w1.heap.size):∀ x,w1.heap.size≤x→x∉bl es:=fun x hx h=>by
 have:=oM H h;omega
theorem CG {w0 w:World} {es:List Ent} (H:Hp w0 w [] es):∀ x,x < w0.heap.size→x∉bl es:=fun x hx h=>by
 rcases bl_place H x h with h2 | h2
 · cases h2
 omega
@[reducible] def noB :Nat→Prop:=fun _=>False
theorem Ro.call {w0 w w':World} {S:List Nat} {bad:Nat→Prop} {v0 v:Vm} {D D':Dk} {W W':Wl} {b b':Bo} {R:List Ent} (h:Ro w0 w S bad v0 v D W b R) (hp:KE w w' v (fG w0 bad (Dc v D W++R)) (bl (Dc v D W)) D' W' b'):
 ∃ v':Vm,v'.m.gd=v.m.gd∧v'.m.gk=v.m.gk∧v'.gx=v.gx∧Ro w0 w' S bad v0 v' D' W' b' R∧Hp w w' (bl (Dc v D W)) (Dc v' D' W')∧Hp w w' (bl (Dc v D W++R)) (Dc v' D' W'++R):=by
 obtain⟨v',e1,e2,e3,hok,Hd⟩:=hp
 have hsz:=h.H.size
 refine⟨v',e1,e2,e3,⟨e1.trans h.gd,e2.trans h.gk,e3.trans h.gx,hok.keep (Hp.refl w') (fun x hx=>by cases hx) (fun x hx _=>?_) (fun x hx=> .inr (oC hx)),h.H.front Hd⟩,Hd,h.H.here.front Hd⟩
 rcases hx with hx | hx
 · exact .inl ⟨.inl hx,by have:=hx.2;omega⟩
 rw[vX]at hx
 rcases Bq.1 hx with hx | hx
 · exact .inr hx
 have h2:x∈bl (Dc v D W++R):=Pq hx
 exact .inl ⟨.inr h2,oM h.H h2⟩
theorem Ro.opened {w0 w w':World} {S:List Nat} {v:Vm} {D:Dk} {W:Wl} {b:Bo} {gd gk:Nat} {gw:Option Nat} {cw:Nat} {sp:List Value} {R:List Ent} (H:Hp w0 w S (xD gd gk gw cw sp D++R)) (hok:Ya w' v D W b (fun x=>x < w.heap.size∨x∈bl (Dc v D W))) (Hd:Hp w w' (bl (xD gd gk gw cw sp D)) (Dc v D W)):Ro w0 w' S noB v v D W b R:=by
 refine⟨Y,Y,Y,hok.keep (Hp.refl w') (fun x hx=>by cases hx) (fun x hx _=>?_) (fun x hx=> .inr (oC hx)),H.front Hd⟩
 rcases hx with hx | hx
 · exact hx.1.elim
 rw[vX]at hx
 rcases Bq.1 hx with hx | hx
 · exact .inr hx
 exact .inl (oM H (Pq hx))
@[reducible] def jZ :Dk:=⟨List.replicate 4096 tN,[],false,0,4096,[]⟩
theorem WK :Lg jZ.show jZ.kept.length (Wl.anew 0 0 0) 0:=by
 have h:∀ i,i < 4096→jZ.show i=tN:=fun i hi=>by
  show(List.replicate 4096 tN).getD i []=tN
  rw[Ea,List.getElem?_replicate,if_pos hi]
  rfl
 have hl:jZ.kept.length=4096:=List.length_replicate ..
 rw[hl]
 exact Lg.empty (by decide) (h 0 (by decide)) (h 1 (by decide))
structure Lov (D:Dk) (W:Wl) (b:Bo) (L:List Nt) (s c:Nat):Prop where
 lg:Lg D.show D.kept.length W s
 up:D.down=false
 dead:W.dead=false
 recs:W.recs=L.map yV
 nts:∀ n∈L,NtB n∧Og n=0
 rep:vE Bo.empty L=some b
 size:D.kept.length=4096
 wait:D.wait.length≤c
 first:W.first≤c
 turn:W.turn≤c
section
variable {D D':Dk} {W W':Wl} {b b':Bo} {L:List Nt} {s c:Nat}
theorem Lov.few (h:Lov D W b L s c):L.length≤1024:=by
 have h1:=h.lg.room
 have h2:=BZ W.recs
 rw[h.size]at h1
 rw[h.recs,Bg]at h2
 rw[h.recs]at h1
 omega
theorem Lov.good (h:Lov D W b L s c):rE b L.length:=by
 have:=rE.YI rE.empty h.rep
 rwa [Ba]at this
theorem Lov.bob (h:Lov D W b L s c):BoB b:=BoB.empty.YI (fun n hn=>(h.nts n hn).1) h.rep
theorem AJ {l:List Rt} (h:qV l):l.Nodup:=by
 refine(cO h).imp fun {a b} hab he=>?_
 subst he
 rw[Qv]at hab
 cases hab
end
theorem LP {E:Dk} (h:E.armed=0):E.hit.2=false:=(mL h).2
theorem Uj {D:Dk} (hd:D.down=false):(D.sync.2≠0∧0 < D.armed∧D.sync.1.kept=D.kept∧D.sync.1.wait=D.wait∧D.sync.1.down=true)∨(D.sync.2=0∧D.sync.1.kept=flush D.kept D.wait∧D.sync.1.wait=[]∧D.sync.1.down=false∧(D.armed=0→D.sync.1.armed=0)):=by
 unfold Dk.sync
 rw[if_neg (by rw[hd];exact Oh)]
 split
 · rename_i h
   refine .inl ⟨(show(40:Nat)≠0 by decide),?_,gO _,lW _,Y⟩
   rcases Ku D.armed with h0 | h0
   · rw[LP h0]at h;cases h
   exact h0
 refine .inr ⟨Y,by show flush D.hit.1.kept D.hit.1.wait=_;rw[gO,lW],Y,(E8 D).trans hd,fun h0=>(mL h0).1⟩
theorem mV (D:Dk) (keep:List Int):(D.crash keep).kept=tears D.kept D.wait keep D.wait.length:=rfl
def Yz (D:Dk) (P:Wl→Prop):Prop:=D.kept.length=4096∧D.wait.length≤1000000000∧∀ keep,∃ W s,Bse (vk (D.crash keep).kept) 4096 W s∧P W
section
variable {D D':Dk} {W W1 W':Wl} {s gone:Nat} {x:Int}
theorem ZE (h:Lg D.show 4096 W s) (hb:Bse (vk D.kept) 4096 W1 s) (hk:D.kept.length=4096) (hwl:D.wait.length≤1000000000) (hf:sQ 4096 s (nbs W1.recs) D.wait) (e1:W1.first=W.first) (e2:W1.turn=W.turn) (hd:D.down=false) (Nw:W.dead=false) (hg:gone≤W.recs.length) (ht:W.turn+1≤2^50) (hfi:W.first≤2^50) (hr:BL D W gone x D' W'):
 (x=0∧D'.down=false∧(D.armed=0→D'.armed=0)∧D'.wait=[]∧D'.kept.length=4096∧W'.dead=false∧W'.recs=W.recs.drop gone∧W'.first=W.first+gone∧W'.turn≤W.turn+1∧∃ s',Bse (vk D'.kept) 4096 W' s')∨
 (x=40∧0 < D.armed∧D'.down=true∧Yz D' fun V=>V=W1∨V=W.tell gone):=by
 have hdd:(W.dead || D.down)=false:=by rw[hd,Nw];rfl
 have hfl:=hb.flush hf
 have hlf:Lg (vk (flush D.kept D.wait)) 4096 W s:=h
 have hlen:(flush D.kept D.wait).length=4096:=by rw[Gj];exact hk
 have hsy:=Uj hd
 have hdl:(W.head gone).length=64:=jH _ _ _ _
 rcases hr with ⟨h1,_⟩ | ⟨_,hr⟩
 · rw[hdd]at h1;cases h1
 have bad:∀ E:Dk,E.kept=flush D.kept D.wait→E.wait=[((W.turn+1) % 2,W.head gone)]→Yz E fun V=>V=W1∨V=W.tell gone:=by
  intro E k1 k2
  refine⟨by rw[k1];exact hlen,by rw[k2];exact(by decide:1≤1000000000),fun keep=>?_⟩
  rw[mV,k1,k2]
  rcases hfl.tear hlf e2.symm hg hfi (by decide) hlen (by rw[e2];exact ht) keep with h3 | ⟨s3,h3⟩
  · exact⟨W1,s,h3,.inl Y⟩
  exact⟨_,s3,h3,.inr Y⟩
 have wr:D.sync.2=0→(tE D.sync.1 W gone).1.kept=flush D.kept D.wait∧(tE D.sync.1 W gone).1.wait=[((W.turn+1) % 2,W.head gone)]∧(((tE D.sync.1 W gone).2=0∧(tE D.sync.1 W gone).1.down=false∧(D.armed=0→(tE D.sync.1 W gone).1.armed=0))∨((tE D.sync.1 W gone).2=40∧0 < D.sync.1.armed∧(tE D.sync.1 W gone).1.down=true)):=by
  intro h0
  rcases hsy with ⟨a1,_⟩ | ⟨_,a2,a3,a4,a5⟩
  · exact absurd h0 a1
  have hw:=iA (D:=D.sync.1) (a:=(W.turn+1) % 2) (b:=W.head gone) a4 (by rw[a2,hlen];omega) hdl
  refine⟨hw.1.trans a2,hw.2.1.trans (by rw[a3];rfl),?_⟩
  rcases hw.2.2 with h2 | h2
  · exact .inl ⟨h2.1,h2.2.1,fun h0=>h2.2.2 (a5 h0)⟩
  exact .inr h2
 rcases hr with ⟨hx,hst,hr⟩ | ⟨hx,hr,_⟩
 · rcases hsy with ⟨a1,_⟩ | ⟨_,a2,a3,a4,a5⟩
   · exact absurd hst a1
   refine .inl ?_
   rcases hr with ⟨hte,rfl,rfl⟩ | ⟨hte,⟨t1,t2,t3⟩,rfl⟩
   · have hst2:¬(0 < gone∨W'.told < W'.recs.length):=of_decide_eq_false hte
     have htl:=h.told
     have hg0:gone=0:=by omega
     subst hg0
     exact⟨hx,a4,a5,a3,by rw[a2];exact hlen,Nw,Y,Y,by omega,s,by rw[a2];exact⟨hlf,by omega,e2▸hfl.slt,by omega⟩⟩
   obtain⟨b1,b2,b3⟩:=wr hst
   rcases b3 with ⟨_,b4,b5⟩ | ⟨b4,_⟩
   · rcases Uj b4 with ⟨c1,_⟩ | ⟨_,c2,c3,c4,c5⟩
     · exact absurd t2 c1
     rw[t3]
     rw[b1,b2]at c2
     have h5:=hfl.tell hlf e2.symm hg hfi (by decide) hlen (by rw[e2];exact ht)
     exact⟨hx,c4,fun h0=>c5 (b5 h0),c3,by rw[c2,Gj];exact hlen,Nw,Y,Y,Ak _,_,by rw[c2];exact h5⟩
   omega
 have harm:0 < D.armed:=by
  rcases Ku D.armed with h0 | h0
  · have h1:=V4 (s:=s) (D:=D) (W:=W) (gone:=gone) (x:=x) (D':=D') (W':=W') (by rw[hk];exact h) hd h0 Nw hg (by omega) hfi (by omega) (.inr ⟨hdd,.inr ⟨hx,hr,‹_›⟩⟩)
    have:=h1.1
    omega
  exact h0
 refine .inr ⟨hx,harm,?_⟩
 rcases hr with ⟨h1,rfl⟩ | ⟨h1,_,hr⟩
 · rcases hsy with ⟨_,_,a2,a3,a4⟩ | ⟨a1,_⟩
   · refine⟨a4,by rw[a2];exact hk,by rw[a3];exact hwl,fun keep=>⟨W1,s,?_,.inl Y⟩⟩
     rw[mV,a2,a3]
     exact hb.fall hf keep _
   exact absurd a1 h1
 obtain⟨b1,b2,b3⟩:=wr h1
 rcases hr with ⟨h2,rfl⟩ | ⟨h2,h3,rfl⟩
 · rcases b3 with ⟨b4,_⟩ | ⟨_,_,b4⟩
   · exact absurd b4 h2
   exact⟨b4,bad _ b1 b2⟩
 rcases b3 with ⟨_,b4,_⟩ | ⟨b4,_⟩
 · rcases Uj b4 with ⟨_,_,c2,c3,c4⟩ | ⟨c1,_⟩
   · exact⟨c4,bad _ (c2.trans b1) (c3.trans b2)⟩
   exact absurd c1 h3
 omega
end
structure Qm (D:Dk) (W:Wl) (b:Bo) (L:List Nt) (s c:Nat) (W1:Wl):Prop where
 Qo:Lov D W b L s c
 bse:Bse (vk D.kept) 4096 W1 s
 recs:W1.recs=(L.take W.told).map yV
 first:W1.first=W.first
 turn:W1.turn=W.turn
 fresh:sQ 4096 s (nbs W1.recs) D.wait
section
variable {D D':Dk} {W W1 W':Wl} {b b':Bo} {L:List Nt} {s c:Nat}
theorem Qm.lg (h:Qm D W b L s c W1):Lg D.show 4096 W s:=by have:=h.Qo.lg;rwa [h.Qo.size]at this
theorem Qm.less (h:Qm D W b L s c W1):nbs W1.recs≤nbs W.recs:=by
 rw[h.recs,h.Qo.recs,List.map_take]
 have:=jW (L.map yV) W.told
 omega
theorem Qm.whole (h:Lov D W b L s c) (hw:D.wait=[]) (hb:Bse (vk D.kept) 4096 W s):Qm D W b L s c W:=by
 refine⟨h,hb,?_,Y,Y,fun p hp=>by rw[hw]at hp;cases hp⟩
 have h1:=hb.told
 rw[h.recs,Bg]at h1
 rw[h.recs,Ej (by omega)]
theorem Qm.grown {l:List Nt} (h:Qm D W b L s c W1) (hg:kI s D W (l.map yV) D' W') (hnt:∀ n∈l,NtB n∧Og n=0) (hb:vE b l=some b'):Qm D' W' b' (L++l) s (c+1228800) W1:=by
 have hl:=h.Qo
 have hfew:=hg.few (by rw[hl.size];decide)
 have htl:=h.lg.told
 rw[hl.recs,Bg]at htl
 obtain⟨xs,w1,w2,w3⟩:=hg.wait
 refine⟨⟨by rw[hg.kept];exact hg.lg,hg.up,hg.dead,by rw[hg.recs,hl.recs,Dx],fun n hn=>?_,by rw[gC hl.rep];exact hb,by rw[hg.kept];exact hl.size,by have:=hl.wait;omega,by rw[hg.first];have:=hl.first;omega,by rw[hg.turn];have:=hl.turn;omega⟩,by rw[hg.kept];exact h.bse,?_,h.first.trans hg.first.symm,h.turn.trans hg.turn.symm,?_⟩
 · rcases Bq.1 hn with hn | hn
   · exact hl.nts n hn
   exact hnt n hn
 · rw[h.recs,hg.told,Qc htl]
 rw[w1]
 rw[hl.size]at w3
 exact h.fresh.app (w3.less h.less)
theorem Qm.cut (h:Qm D W b L s c W1) (hk:D'.kept=D.kept) {xs:List (Nat×Blk)} (hw:D'.wait=D.wait++xs) (hc:c≤100000000) (hx:xs.length≤2000000) (hf:sQ 4096 s (nbs W.recs) xs):Yz D' fun V=>V=W1:=by
 refine⟨by rw[hk];exact h.Qo.size,by rw[hw,Ae];have:=h.Qo.wait;omega,fun keep=>⟨W1,s,?_,Y⟩⟩
 rw[mV,hk,hw]
 exact h.bse.fall (h.fresh.app (hf.less h.less)) keep _
theorem Qm.fall (h:Qm D W b L s c W1) (hc:c≤100000000):Yz D fun V=>V=W1:=h.cut (xs:=[]) rfl (by simp) hc (Am _) fun p hp=>by cases hp
end
theorem Yz.mono {D:Dk} {P Q:Wl→Prop} (h:Yz D P) (hPQ:∀ V,P V→Q V):Yz D Q:=
 ⟨h.1,h.2.1,fun keep=>by obtain⟨W,s,h1,h2⟩:=h.2.2 keep;exact⟨W,s,h1,hPQ W h2⟩⟩
theorem PU {b:Bo} {q:List Rt} (hq:q.Sublist b.rights) {n:Nt} (h:n∈(b.fold q).notes):n∈b.notes:=by
 have h1:n∈gN b.groups++q.map ntF:=h
 show n∈gN b.groups++b.rights.map ntF
 rcases Bq.1 h1 with h1 | h1
 · exact Oj _ h1
 exact Qd _ ((hq.map ntF).subset h1)
section
variable {D D':Dk} {W W1 W':Wl} {b b':Bo} {L:List Nt} {s c:Nat} {x:Int}
theorem Qm.save {l:List Nt} (h:Qm D W b L s c W1) (hc:c≤98000000) (hr:RB s D W b l x D' W' b') (hnt:∀ n∈l,NtB n):
 (x=22∧(∃ n∈l,¬tO n)∧D'=D∧W'=W∧b'=b)∨
 (x=21∧(∀ n∈l,tO n)∧vE b l=none∧D'=D∧W'=W∧b'=b)∨
 ((∀ n∈l,tO n)∧∃ bz,vE b l=some bz∧
  ((x=3∧2032 < used (W.recs++l.map yV)∧∃ i,i < l.length∧vE b (l.take i)=some b'∧Qm D' W' b' (L++l.take i) s (c+1228800) W1)∨
   (x=0∧b'=bz∧(D.armed=0→D'.armed=0)∧D'.wait=[]∧W'.recs=(L++l).map yV∧∃ s',Qm D' W' bz (L++l) s' (c+1) W')∨
   (x=40∧0 < D.armed∧D'.down=true∧(∃ i,vE b (l.take i)=some b')∧Yz D' fun V=>V=W1∨(V.recs=(L++l).map yV∧V.first=W.first∧V.turn=W.turn+1)))):=by
 have hl:=h.Qo
 have hfi:=hl.first
 have htu:=hl.turn
 rcases hr with ⟨hns,rfl,rfl,rfl,rfl⟩ | ⟨hsh,hb0,rfl,rfl,rfl,rfl⟩ | ⟨hsh,bz,hb1,hr⟩
 · exact .inl ⟨Y,hns,Y,Y,Y⟩
 · exact .inr (.inl ⟨Y,hsh,hb0,Y,Y,Y⟩)
 refine .inr (.inr ⟨hsh,bz,hb1,?_⟩)
 rcases hr with ⟨i,n,D1,Wg,hi,hg,hbi,hr⟩ | ⟨D1,Wg,hg,rfl,hr⟩
 · have hil:=(Ec.1 hi).1
   rcases hr with ⟨rfl,hfull,rfl,rfl⟩ | ⟨rfl,harm,hdn,hkp,xs,hw,hxl,hf⟩
   · refine .inl ⟨Y,?_,i,hil,hbi,h.grown hg (fun n hn=>⟨hnt n (Gg hn),(hsh n (Gg hn)).1⟩) hbi⟩
     rw[hl.size]at hfull
     have h1:used (W.recs++(l.take i).map yV)+wgt (yV n).length≤used (W.recs++l.map yV):=by
      have h2:=kK l (i+1)
      rw[fN hi]at h2
      rw[uI,uI]
      omega
     omega
   rw[hl.size]at hf
   exact .inr (.inr ⟨Y,harm,hdn,⟨i,hbi⟩,(h.cut hkp hw (by omega) hxl hf).mono fun V hV=> .inl hV⟩)
 have hgr:=h.grown hg (fun n hn=>⟨hnt n hn,(hsh n hn).1⟩) hb1
 have hgl:=hgr.Qo
 have e1:=hg.first
 have e2:=hg.turn
 rcases ZE hgr.lg hgr.bse hgl.size (by have:=hgl.wait;omega) hgr.fresh hgr.first hgr.turn hgl.up hgl.dead (Am _) (by omega) (by omega) hr with ⟨a1,a2,a3,a4,a5,a6,a7,a8,a9,s',a10⟩ | ⟨a1,a2,a3,a4⟩
 · rw[Ep,hgl.recs]at a7
   have hk:Qm D' W' b' (L++l) s' (c+1) W':=Qm.whole ⟨by rw[dM a4,a5];exact a10.lg,a2,a6,a7,hgl.nts,hgl.rep,a5,by rw[a4];exact Am _,by omega,by omega⟩ a4 a10
   exact .inr (.inl ⟨a1,Y,fun h0=>a3 (hg.arm h0),a4,a7,s',hk⟩)
 have harm:0 < D.armed:=by
  rcases Ku D.armed with h0 | h0
  · have:=hg.arm h0;omega
  exact h0
 refine .inr (.inr ⟨a1,harm,a3,⟨l.length,by rw[Bz];exact hb1⟩,a4.mono fun V hV=>?_⟩)
 rcases hV with hV | rfl
 · exact .inl hV
 refine .inr ⟨?_,?_,?_⟩
 · show Wg.recs.drop 0=_
   rw[Ep,hgl.recs]
 · show Wg.first+0=_
   omega
 show Wg.turn+1=_
 omega
theorem Qm.fold {q:List Rt} (h:Qm D W b L s c W1) (hc:c≤98000000) (hr:RF s D W b q x D' W' b'):
 (x=1∧leftR b.rights q≠[]∧D'=D∧W'=W∧b'=b)∨
 (leftR b.rights q=[]∧
  ((x=3∧2032 < used (W.recs++(b.fold q).notes.map yV)∧b'=b∧∃ l,Qm D' W' b (L++l) s (c+1228800) W1)∨
   (x=0∧b'=b.fold q∧(D.armed=0→D'.armed=0)∧D'.wait=[]∧∃ s',Qm D' W' (b.fold q) (b.fold q).notes s' (c+2048) W')∨
   (x=40∧0 < D.armed∧D'.down=true∧b'=b∧Yz D' fun V=>V=W1∨(V.recs=(b.fold q).notes.map yV∧V.first=W.first+W.recs.length∧V.turn=W.turn+1)))):=by
 have hl:=h.Qo
 have hfi:=hl.first
 have htu:=hl.turn
 have hfew:=hl.few
 rcases hr with ⟨hq,rfl,rfl,rfl,rfl⟩ | ⟨hq,hr⟩
 · exact .inl ⟨Y,hq,Y,Y,Y⟩
 refine .inr ⟨hq,?_⟩
 have hsub:=pT hq
 have hgf:=hl.good.fold hsub
 have hown:=jA hgf (hl.bob.fold hsub)
 have hself:∀ m,(∀ n∈m,n∈(b.fold q).notes)→vE b m=some b:=fun m hm=>AL hl.good m fun n hn=>PU hsub (hm n hn)
 rcases hr with ⟨i,n,D1,Wg,hi,hg,rfl,hr⟩ | ⟨D1,Wg,hg,hr,hb0,hb1⟩
 · have hmem:∀ m∈((b'.fold q).notes.take i),m∈(b'.fold q).notes:=fun m hm=>Gg hm
   rcases hr with ⟨rfl,hfull,rfl,rfl⟩ | ⟨rfl,harm,hdn,hkp,xs,hw,hxl,hf⟩
   · refine .inl ⟨Y,?_,Y,_,h.grown hg (fun m hm=>⟨(hown m (hmem m hm)).1,(hown m (hmem m hm)).2.1⟩) (hself _ hmem)⟩
     rw[hl.size]at hfull
     have h1:used (W.recs++((b'.fold q).notes.take i).map yV)+wgt (yV n).length≤used (W.recs++(b'.fold q).notes.map yV):=by
      have h2:=kK (b'.fold q).notes (i+1)
      rw[fN hi]at h2
      rw[uI,uI]
      omega
     omega
   rw[hl.size]at hf
   exact .inr (.inr ⟨Y,harm,hdn,Y,(h.cut hkp hw (by omega) hxl hf).mono fun V hV=> .inl hV⟩)
 have hgr:=h.grown hg (fun m hm=>⟨(hown m hm).1,(hown m hm).2.1⟩) (hself _ fun m hm=>hm)
 have hgl:=hgr.Qo
 have e1:=hg.first
 have e2:=hg.turn
 have hrl:W.recs.length=L.length:=by rw[hl.recs,Bg]
 have hle:W.recs.length≤Wg.recs.length:=by rw[hg.recs,Ae];omega
 rcases ZE hgr.lg hgr.bse hgl.size (by have:=hgl.wait;omega) hgr.fresh hgr.first hgr.turn hgl.up hgl.dead hle (by omega) (by omega) hr with ⟨a1,a2,a3,a4,a5,a6,a7,a8,a9,s',a10⟩ | ⟨a1,a2,a3,a4⟩
 · rw[hg.recs,Gh rfl]at a7
   have hk:Qm D' W' (b.fold q) (b.fold q).notes s' (c+2048) W':=Qm.whole ⟨by rw[dM a4,a5];exact a10.lg,a2,a6,a7,fun n hn=>⟨(hown n hn).1,(hown n hn).2.1⟩,bH hgf,a5,by rw[a4];exact Am _,by omega,by omega⟩ a4 a10
   exact .inr (.inl ⟨a1,hb0 a1,fun h0=>a3 (hg.arm h0),a4,s',hk⟩)
 have harm:0 < D.armed:=by
  rcases Ku D.armed with h0 | h0
  · have:=hg.arm h0;omega
  exact h0
 refine .inr (.inr ⟨a1,harm,a3,hb1 (by omega),a4.mono fun V hV=>?_⟩)
 rcases hV with hV | rfl
 · exact .inl hV
 refine .inr ⟨?_,?_,?_⟩
 · show Wg.recs.drop W.recs.length=_
   rw[hg.recs,Gh rfl]
 · show Wg.first+W.recs.length=_
   omega
 show Wg.turn+1=_
 omega
end
theorem Qm.saved {D D':Dk} {W W1 W':Wl} {b b' bz:Bo} {L l:List Nt} {s c:Nat} {x:Int} (h:Qm D W b L s c W1) (hc:c≤98000000) (hr:RB s D W b l x D' W' b') (hnt:∀ n∈l,NtB n) (hsh:∀ n∈l,tO n) (hb:vE b l=some bz) (hu:used (W.recs++l.map yV)≤2032) (ha:D.armed=0):
 x=0∧b'=bz∧D'.armed=0∧D'.wait=[]∧W'.recs=(L++l).map yV∧∃ s',Qm D' W' bz (L++l) s' (c+1) W':=by
 rcases h.save hc hr hnt with ⟨_,⟨n,h1,h2⟩,_⟩ | ⟨_,_,h2,_⟩ | ⟨_,bz',hbz,h⟩
 · exact absurd (hsh n h1) h2
 · rw[hb]at h2;cases h2
 obtain rfl:bz=bz':=Option.some.inj (hb.symm.trans hbz)
 rcases h with ⟨_,h,_⟩ | ⟨h1,h2,h3,h4,h5,s',h6⟩ | ⟨_,h,_⟩
 · omega
 · exact⟨h1,h2,h3 ha,h4,h5,s',h6⟩
 omega
theorem Qm.trim {D D':Dk} {W W1 W':Wl} {b b':Bo} {L:List Nt} {q:List Rt} {s c:Nat} {x:Int} (h:Qm D W b L s c W1) (hc:c≤90000000) (hr:RF s D W b q x D' W' b') (hq:leftR b.rights q=[]) (hu:used (W.recs++(b.fold q).notes.map yV)≤2032):
 ((x=0∧b'=b.fold q)∨(x=40∧b'=b))∧Yz D' fun V=>V.first≤c+4096∧V.turn≤c+4096∧(V.recs=(b.fold q).notes.map yV∨(x=40∧V.recs=(L.take W.told).map yV)):=by
 have hl:=h.Qo
 have hfi:=hl.first
 have htu:=hl.turn
 have hfew:=hl.few
 have h1f:=h.first
 have h1t:=h.turn
 have hrl:W.recs.length=L.length:=by rw[hl.recs,Bg]
 rcases h.fold (by omega) hr with ⟨_,h1,_⟩ | ⟨_,h1⟩
 · exact absurd hq h1
 rcases h1 with ⟨_,h1,_⟩ | ⟨h1,h2,_,_,s',h3⟩ | ⟨h1,_,_,h2,h3⟩
 · omega
 · refine⟨.inl ⟨h1,h2⟩,(h3.fall (by omega)).mono fun V hV=>?_⟩
   subst hV
   have a1:=h3.Qo.first
   have a2:=h3.Qo.turn
   exact⟨by omega,by omega,.inl h3.Qo.recs⟩
 refine⟨.inr ⟨h1,h2⟩,h3.mono fun V hV=>?_⟩
 rcases hV with rfl | ⟨a1,a2,a3⟩
 · exact⟨by omega,by omega,.inr ⟨h1,h.recs⟩⟩
 exact⟨by omega,by omega,.inl a1⟩
theorem Bse.start {D:Dk} {keep:List Int} {W:Wl} {s:Nat} (h:Bse (vk (D.crash keep).kept) 4096 W s) (hk:D.kept.length=4096):
 Lg (D.crash keep).start.show (D.crash keep).start.kept.length W s∧(D.crash keep).start.down=false∧(D.crash keep).start.wait=[]∧(D.crash keep).start.armed=0∧(D.crash keep).start.kept.length=4096∧Bse (vk (D.crash keep).start.kept) 4096 W s:=by
 have hkk:(D.crash keep).start.kept=(D.crash keep).kept:=rfl
 have hl:(D.crash keep).start.kept.length=4096:=by rw[hkk,mV,qY];exact hk
 have hw:(D.crash keep).start.wait=[]:=rfl
 exact⟨by rw[dM hw,hl];exact h.lg,M9 _,hw,Y,hl,h⟩
theorem Qm.opened {D:Dk} {W W':Wl} {L:List Nt} {b:Bo} {s c:Nat} (h:Bse (vk D.kept) 4096 W s) (hup:D.down=false) (hw:D.wait=[]) (hk:D.kept.length=4096) (hr:W.recs=L.map yV) (hnt:∀ n∈L,NtB n∧Og n=0) (hb:vE Bo.empty L=some b) (hf:W.first≤c) (ht:W.turn≤c)
 (f1:W'.recs=W.recs) (f2:W'.first=W.first) (f3:W'.turn=W.turn) (f4:W'.told=W.recs.length) (f5:W'.dead=false) (X0:Lg D.show D.kept.length W' s):Qm D W' b L s c W':=by
 have hl:=h.low
 refine Qm.whole ⟨X0,hup,f5,f1.trans hr,hnt,hb,hk,by rw[hw];exact Am _,by omega,by omega⟩ hw ⟨?_,by rw[f4,f1],by rw[f3];exact h.slt,by omega⟩
 rw[dM hw,hk]at X0
 exact X0
theorem UJ :Bse (vk jZ.kept) 4096 (Wl.anew 0 0 0) 0:=by
 have h:∀ i,i < 4096→vk jZ.kept i=tN:=fun i hi=>by
  show(List.replicate 4096 tN).getD i []=tN
  rw[Ea,List.getElem?_replicate,if_pos hi]
  rfl
 have h0:=h 0 (by decide)
 have h1:=h 1 (by decide)
 exact⟨Lg.empty (by decide) h0 h1,Y,⟨by show Cur 0 (vk jZ.kept 0);rw[h0];exact Cur.zero,by show Oth 0 (vk jZ.kept 1);rw[h1];exact Oth.zero⟩,Am _⟩
section
variable {D D':Dk} {W:Wl} {b:Bo} {l:List Nt} {q:List Rt}
theorem Mc.disk {w0 w w':World} {S:List Nat} {m:Mw} (h:Mc w m D W) (H:Hp w0 w S (Bf m D W)) (hp:BO w w' (bl (xD m.gd m.gk m.gw m.cw m.sp D)) m.gd m.gk D') (hk:D'.kept.length=D.kept.length):vV w w' (bl (Bf m D W)) m D' W:=by
 obtain⟨gw,cw,sp,hd,Hd⟩:=hp
 have H':Hp w w' (bl (Bf m D W)) (Bf { m with gw:=gw,cw:=cw,sp:=sp } D' W):=H.here.front Hd
 refine⟨{ m with gw:=gw,cw:=cw,sp:=sp },rfl,rfl,rfl,fH.refl _ _,{ h with d:=hd,lst:=h.lst.keep Hd (fun b hb=>by rw[vX];exact Bq.2 (.inl hb)) (fun b hb=>?_),size:=by rw[hk];exact h.size,fin:=by rw[hk];exact h.fin },H'⟩
 rcases bl_place H' b hb with h2 | h2
 · exact .inl h2
 exact .inr h2
theorem Qm.arm {W1:Wl} {L:List Nt} {s c:Nat} (h:Qm D W b L s c W1) (hk:D'.kept=D.kept) (hw:D'.wait=D.wait) (hd:D'.down=false):Qm D' W b L s c W1:=by
 have hs:D'.show=D.show:=funext fun i=>by unfold Dk.show;rw[hk,hw]
 have hl:=h.Qo
 exact⟨{ hl with lg:=by rw[hs,hk];exact hl.lg,up:=hd,size:=by rw[hk];exact hl.size,wait:=by rw[hw];exact hl.wait },by rw[hk];exact h.bse,h.recs,h.first,h.turn,by rw[hw];exact h.fresh⟩
theorem M1 {a b:List Nt} (h:a.Sublist b):used (a.map yV)≤used (b.map yV):=by
 induction h with
 | slnil=>exact Ak _
 | cons x _ ih=>simp only[used,Je,List.sum_cons]at ih ⊢;omega
 | cons_cons x _ ih=>simp only[used,Je,List.sum_cons]at ih ⊢;omega
theorem KQ (hq:q.Sublist b.rights) (h:used ((l++b.notes).map yV)≤2032):used (([]++l).map yV++(b.fold q).notes.map yV)≤2032:=by
 have hs:(b.fold q).notes.Sublist b.notes:=(List.Sublist.refl _).append (hq.map ntF)
 refine Ce ?_ h
 rw[Gp,← Dx]
 exact M1 ((List.Sublist.refl _).append hs)
theorem GJ {x:Int} {V:Wl} (hb:vE Bo.empty l=some b) (hg:rE b l.length) (hbb:BoB b) (hnt:∀ n∈l,NtB n) (hsh:∀ n∈l,tO n) (hq:leftR b.rights q=[]) (h:V.recs=(b.fold q).notes.map yV∨(x=40∧V.recs=l.map yV)) (hl:l.length≤1024):
 ∃ L c,V.recs=L.map yV∧(∀ n∈L,NtB n∧Og n=0)∧vE Bo.empty L=some c∧rE c l.length∧(c=b.fold q∨(x=40∧c=b))∧L.length≤2048:=by
 have hsub:=pT hq
 have hgf:=hg.fold hsub
 have hown:=jA hgf (hbb.fold hsub)
 rcases h with h | ⟨hx,h⟩
 · refine⟨_,_,h,fun n hn=>⟨(hown n hn).1,(hown n hn).2.1⟩,bH hgf,hgf,.inl Y,?_⟩
   have h1:=FH hsub
   have h2:=A5 hg hb
   omega
 exact⟨l,b,h,fun n hn=>⟨hnt n hn,(hsh n hn).1⟩,hb,hg,.inr ⟨hx,Y⟩,by omega⟩
end
def MI (w:World) (n0:Nat) (gi g:Option Nat) (b:Blk):Prop:=b.length≤140737488351232∧(g=none→b=[])∧∀ k,g=some k→n0≤k∧gi≠some k∧∃ s,w.heap[k]? =some (.cells (u8s b++s).toArray 5 (0,0))
section
variable {w0 w w':World} {S:List Nat} {es:List Ent} {n0:Nat} {gi gi' g:Option Nat} {b:Blk}
theorem MI.row {i j:Nat} {s cs:List Value} {T:TypeId} (H:Hp w0 w S es) (he:es[i]? =some (g,5,u8s b++s)) (hj:es[j]? =some (gi,T,cs)) (hij:i≠j) (hS:∀ k∈S,n0≤k) (h0:n0≤w0.heap.size) (hb:b.length≤140737488351232):MI w n0 gi g b:=by
 refine⟨hb,fun e=>?_,fun k e=>?_⟩
 · subst e
   have:=H.none_ he
   have h2:(u8s b).length=0:=by rw[(List.append_eq_nil_iff.1 this).1];rfl
   rw[zZ]at h2
   exact Ee h2
 subst e
 refine⟨?_,fun e=>?_,s,H.at he⟩
 · rcases H.place he with h | h
   · exact hS k h
   omega
 subst e
 exact H.ne he hj hij Y
theorem MI.to (h:MI w n0 gi g b) (H:Hp w w' S es) (hk:∀ k,n0≤k→gi≠some k→k < w.heap.size→k∉S∧gi'≠some k):MI w' n0 gi' g b:=by
 refine⟨h.1,h.2.1,fun k e=>?_⟩
 obtain⟨h1,h2,s,h3⟩:=h.2.2 k e
 have hl:k < w.heap.size:=(Dw.1 h3).1
 obtain⟨h4,h5⟩:=hk k h1 h2 hl
 exact⟨h1,h5,s,by rw[H.frame k hl h4];exact h3⟩
theorem MI.bs (h:MI w n0 gi g b):Bs w (fun x=>n0≤x∧gi≠some x) (hd g) b:=by
 cases g with
 | none=>rw[h.2.1 rfl];exact Bs.none _ _
 | some k=>
  obtain⟨h1,h2,s,h3⟩:=h.2.2 k rfl
  refine⟨⟨yY b,fun a ha j u hu=>?_,fun e=>(by cases e)⟩,fun _ p hp=>?_,h.1⟩
  · cases ha
    have hj:=(Ec.1 hu).1
    show w.cell? ((⟨k,0,none⟩:Addr).add j)=some u
    rw[Ir,Ba]
    simp[World.cell?,h3,hu,Di hj]
  cases hp
  exact⟨h1,h2⟩
end
def NtW (w:World) (n0:Nat) (gi:Option Nat) (p:List Value) (n:Nt):Prop:=∃ g1 c1 g2 c2,p=[.int .i64 n.kind,.int .i64 n.group,.int .i64 n.b.r,.int .i64 n.b.n,.int .i64 n.Eh.slot,.int .i64 n.Eh.b.r,.int .i64 n.Eh.b.n,.slice (hd g1) n.Eh.val.length c1,.int .i64 n.entry.slot,.slice (hd g2) n.entry.val.length c2,.int .i64 n.right.g,zT n.right.key,.int .i64 n.right.lease,.int .i64 n.right.net,.int .i64 n.client,.int .i64 n.seq]∧MI w n0 gi g1 n.Eh.val∧MI w n0 gi g2 n.entry.val
section
variable {w0 w w':World} {S:List Nat} {es:List Ent} {n0:Nat} {gi gi' g:Option Nat} {p:List Value} {n:Nt}
theorem NtW.to (h:NtW w n0 gi p n) (H:Hp w w' S es) (hk:∀ k,n0≤k→gi≠some k→k < w.heap.size→k∉S∧gi'≠some k):NtW w' n0 gi' p n:=by
 obtain⟨g1,c1,g2,c2,h1,h2,h3⟩:=h
 exact⟨g1,c1,g2,c2,h1,h2.to H hk,h3.to H hk⟩
theorem NtW.nt (h:NtW w n0 gi p n):NtR w (fun x=>n0≤x∧gi≠some x) p n:=by
 obtain⟨g1,c1,g2,c2,h1,h2,h3⟩:=h
 exact⟨_,c1,_,c2,h1,h2.bs,h3.bs⟩
end
section
variable {w0 w w':World} {S S':List Nat} {es es':List Ent} {n0 n1 m:Nat} {gi g:Option Nat} {b:Blk} {p:List Value} {n:Nt}
theorem XR {T:TypeId} {cs:List Value} {k:Nat} (h:k∈bl [((g,T,cs):Ent)]):g=some k:=by
 obtain⟨e,he,hg⟩:=Ew.1 h
 rw[Az.1 he]at hg;exact hg
theorem XS (H:Hp w0 w [] es) {k:Nat} (h:k∈bl es):w0.heap.size≤k:=by
 obtain⟨⟨g,T,cs⟩,he,hg⟩:=Ew.1 h
 obtain⟨i,hi⟩:=Dh he
 simp only at hg
 subst hg
 rcases H.place hi with h | h
 · cases h
 exact h
section
variable {wI wB:World} {SS:List Nat} {R:List Ent} {u:Option Nat} {cs0 cs:List Value} {qs:List (List Value)} {l:List Nt}
end
end
theorem Rep.size {l:List Nt} {b:Bo} {e:Int} (h:Rep l b e) (hn:l.length≤840000000000):b.groups.length≤1000000000000000000∧b.rights.length≤1000000000000000000∧b.last.length≤1000000000000000000∧∀ x∈b.groups,x.Bc.length≤1000000000000000000∧x.entries.length≤1000000000000000000:=by
 rcases h with ⟨_,_,h⟩ | ⟨_,rfl,_⟩
 · have h1:=h.eight
   have h2:=h.few
   have h3:=mG h.Y4
   exact⟨by omega,by omega,by omega,h.fews⟩
 exact⟨by decide,by decide,by decide,fun x hx=>by cases hx⟩
section
variable {sz i k:Nat} {qs rest:List (List Value)} {p sp:List Value} {v:Value}
theorem rV (hq:Pl sz qs) (hl:qs.length=i) (hv:p[k]? =some v):((qs++p::rest).flatten++sp)[0+i*sz+k]? =some v:=by
 have h1:(qs.flatten).length=i*sz:=by rw[hq.len,hl]
 have h2:=(Ec.1 hv).1
 rw[Kr,Ij,Bh,Bh,Ba,Eb (by omega),h1,Hr,Di h2]
 exact hv
theorem R3 {a b c:List Value} {j k:Nat} (hj:a.length=j) (hk:k < b.length):(a++(b++c)).set (j+k) v=a++(b.set k v++c):=by
 rw[List.set_append_right _ _ (by omega),show j+k - a.length=k by omega,List.set_append_left _ _ hk]
theorem lZ (hq:Pl sz qs) (hl:qs.length=i) (hk:k < p.length):((qs++p::rest).flatten++sp).set (0+i*sz+k) v=(qs++p.set k v::rest).flatten++sp:=by
 have h1:(qs.flatten).length=i*sz:=by rw[hq.len,hl]
 rw[Kr,Ij,Bh,Bh,Ba,R3 h1 hk,Kr,Ij,Bh,Bh]
theorem mN (hq:Pl sz qs) (hl:qs.length=i) (hk:k < p.length):0+i*sz+k < ((qs++p::rest).flatten++sp).length:=by
 have h1:(qs.flatten).length=i*sz:=by rw[hq.len,hl]
 simp only[Kr,Ij,Ae]
 omega
end
section
variable {w0 w:World} {S:List Nat} {es:List Ent} {ok:Nat→Prop} {g:Option Nat} {b:Blk} {sp:List Value} {i:Nat}
theorem Hp.new {g:Nat} {T:TypeId} {cs:List Value} (H:Hp w0 w [] es) (he:es[i]? =some (some g,T,cs)):w0.heap.size≤g:=by
 rcases H.place he with h | h
 · cases h
 exact h
theorem eF {g:Nat} {T:TypeId} {cs:List Value} (h:es[i]? =some (some g,T,cs)):g∈bl es:=Ew.2 ⟨_,Fe h,rfl⟩
theorem not3 {x a b c:Nat} {T U V:TypeId} {ca cb cc:List Value} (h1:x≠a) (h2:x≠b) (h3:x≠c):x∉bl [((some a,T,ca):Ent),(some b,U,cb),(some c,V,cc)]:=fun h=>by
 have:x=a∨x=b∨x=c:=by simpa[bl]using h
 omega
end
end Go.Proofs.YtjoeklkmnfaabaaGreat
namespace Go.Proofs.YtjoeklkmnfaabaaGreat
open Go Go.RowKit
set_option linter.unusedVariables false
set_option linter.unusedSimpArgs false
attribute [local irreducible] yW Ops zP Cd
set_option maxRecDepth 100000
set_option maxHeartbeats 32000000
theorem FU (b:Bo) (A1:Option Addr) (k1:Nat) (A2:Option Addr) (k2:Nat) (A3:Option Addr) (k3:Nat) (N:Nat) (ok:Nat→Prop) (w0:World) (hb1:Sl (Qz w0 ok) 6 w0 ok A1 b.groups) (hb2:Sl Nu 4 w0 ok A2 b.rights) (hb3:Sl Pv 7 w0 ok A3 b.last) (hg:rE b N) (hN:N≤900000000000):Aj 46 #[.agg (Bd A1 b k1 A2 k2 A3 k3).toArray] w0 (fun r w'=>∃ cs,r=.agg cs.toArray∧Qq w' (fun x=>w0.heap.size≤x) cs b∧Hp w0 w' [] []):=by
 refine zG Tryz.func46 Tryz.ntmps46 Y<|cR Gs ?_
 have H:=Hp.refl w0
 obtain⟨ps,hp,hr,ha,h2⟩:=id hb1
 obtain⟨pr,hpr,hrr,har,h2r⟩:=id hb2
 obtain⟨pm,hpm,hrm,ham,h2m⟩:=id hb3
 have hl8:ps.length=8:=h2.len.trans hg.eight
 have h8:=hg.eight
 have hfr:=hg.few
 have hfm:=mG hg.Y4
 refine Rq<|yA Y Y H<|fun w1 gb H1 _=>OA xT H1<|fun w2 gr H2 _=>Xr Gs<|Rq<|Xf uO Y<|OV (EL oO Y (H2.cell (i:=0) Y Y))<|OQ (EC gf69 Y) (QS A1 b.groups.length k1 ps.flatten _ (hr.to0 H2) (xI (wC.ones (fun _ _ h=>Qz.ones h) h2)) (by omega)) ?_
 rintro _ w3 ⟨gs,cg,sg,rfl,hgn,hcz,hg0,Hc⟩
 have H3:=H2.call0 Hc
 obtain⟨gk,rfl⟩:=vK H3 (i:=2) rfl (by rw[Ae,hp.len];omega)
 refine Xf uO Y<|Ag Gs<|OW oO H3 0 Y Y Y Y (by first|exact NL Y|simp[zJ]) Y<|fun w4 H4=>Xr Gs<|J1<|Rq<|Xf uO Y<|OV (EL oO Y (H4.cell (i:=0) Y Y))<|OV (ES Ue Y)<|Xm Y<|Xr Gs<|J7<|zV (fun nQ lQ w=>∃ (i:Nat) (y:Int) (qs:List (List Value)),b.groups.length - i=nQ∧xM (Hy [(1,Ah gb),(2,Ah gr),(13,Aa (b.groups.length:Int)),(14,Aa y)] 0 105) lQ∧y=(i:Int)∧i≤b.groups.length∧Pl 6 qs∧wC (Qz w (fun x=>w0.heap.size≤x∧x≠gb∧x≠gr∧x≠gk)) qs (b.groups.take i)∧Hp w0 w [] [((some gb,41,Bd (hd (some gk)) b cg A2 k2 A3 k3):Ent),(some gr,41,[Dn,Dn,Dn]),(some gk,97,(qs++ps.drop i).flatten++sg)]) (b.groups.length) ?_ ?_
 exact⟨0,_,[],Y,(Jg Y Y Y Y Y),Y,Am _,Pl.nil _,trivial,H4⟩
 rintro nQ lQ w5 ⟨i,y,qs,rfl,hfit,rfl,hi,hq,hA,H5⟩
 obtain⟨j,rfl⟩:=hfit.open
 refine cR Gs ?_
 clear hfit
 have HB:=H5
 replace H5:=HB.here
 refine Rq<|OT (zQ Y Y) (fun Js=>?_) (fun Js=>?_)
 have hil:i < b.groups.length:=by omega
 obtain⟨s,hx⟩:=yL hil
 obtain⟨p1,hp1,hR⟩:=h2.get hx
 obtain⟨D1,e1,D2,e2,D3,e3,rfl,hv,hm,he⟩:=hR
 have Gi:qs.length=i:=by rw[hA.len,Aw];omega
 rw[uX hp1]at HB H5
 obtain⟨vs,hpv,Vh,hav,h2v⟩:=id hv
 obtain⟨en,hpe,hre,hae,h2e⟩:=id he
 have hck:=(tD s).1 (hg.chk s (mem_of hx))
 have hv16:=oB hck
 have he40:=pY hck
 refine Xr Gs<|J1<|J3 Y<|J6<|J1<|J7<|Rq<|Xm Y<|Xa Y<|Xr Gs<|Rq<|Xf uO Y<|OV (EL oO Y (H5.cell (i:=0) Y Y))<|Xm Y<|OV (uR Ue wD Y Y Y hil)<|Ag Gs<|Xa Y<|Xr Gs<|J1<|DV [20,23,26] [(6,[20]),(6,[23]),(6,[26]),(11,[20]),(11,[23]),(11,[26]),(16,[20]),(16,[23]),(16,[26])] (.b 0 (.b 1 (.b 2 (.b 3 (.b 4 (.b 5 (.a 6 (.b 8 (.b 9 (.b 10 (.a 11 (.b 13 (.b 14 (.b 15 (.a 16 (.o 7 (.o 12 (.o 17 (.b 18 (.b 19 (.z 20 (.b 21 (.b 22 (.z 23 (.b 24 (.b 25 (.z 26 .nil))))))))))))))))))))))))))) H5 [0,1,2] yE (by decide) (by kernel_rfl) ?_
 rintro w6 hw6
 have H6:=Hp.drew H5;rw[← hw6]at H6
 refine uE Y<|MV (fun wz hz=>zI Y)<|uE Y<|MV (fun wz hz=>zI Y)<|uE Y<|MV (fun wz hz=>zI Y)<|uE Y<|MV (fun wz hz=>zI Y)<|cL Gs<|uE Y<|MV (fun wz hz=>yJ Y)<|uE Y<|MV (fun wz hz=>EF uT Y)<|bN Y<|MV (fun wz hz=>EL xO Y (hz.cell (i:=2) Y (rV hq Gi Y)))<|uE Y<|MV (fun wz hz=>zI Y)<|cL Gs<|uE Y<|MV (fun wz hz=>yJ Y)<|uE Y<|MV (fun wz hz=>EF xW Y)<|bN Y<|MV (fun wz hz=>EL uP Y (hz.cell (i:=2) Y (rV hq Gi Y)))<|uE Y<|MV (fun wz hz=>zI Y)<|cL Gs<|uE Y<|MV (fun wz hz=>yJ Y)<|uE Y<|MV (fun wz hz=>EF xZ Y)<|bN Y<|MV (fun wz hz=>EL uY Y (hz.cell (i:=2) Y (rV hq Gi Y)))<|bM Y<|yZ (EC jR Y) (vO D2 s.image e2 _ (hm.1.to0 (HB.all H6)) (by have:=hm.2.2;omega))<|fun w7 gi ci si _ _ _ Hc=>have H7:=H6.call0 Hc;OE<|⟨H7.pick [0,1,2] (by decide),?_⟩
 refine cL Gs<|bM Y<|OQ (EC WW Y) (HU D1 s.Bc.length e1 vs.flatten _ (Vh.to0 (HB.all H7)) (xI (wC.ones (fun _ _ h=>Oe.ones h) h2v)) (by omega)) ?_
 rintro _ w8 ⟨gv,cv,sv,rfl,_,_,_,Hc⟩
 have H8:=H7.call0 Hc
 refine OE ?_
 refine⟨H8.pick [0,1,2] (by decide),?_⟩
 refine cL Gs<|bM Y<|OQ (EC TR Y) (C8 D3 s.entries.length e3 en.flatten _ (hre.to0 (HB.all H8)) (xI (wC.ones (fun _ _ h=>Qp.ones h) h2e)) (by omega)) ?_
 rintro _ w9 ⟨gn,cn,sn,rfl,_,_,_,Hc⟩
 have H9:=H8.call0 Hc
 refine OE ?_
 refine⟨H9.pick [0,1,2] (by decide),?_⟩
 refine cL Gs<|uE Y<|MV (fun wz hz=>yJ Y)<|uE Y<|MV (fun wz hz=>EF uT Y)<|bL Y<|OW xO H9 2 Y Y Y Y (mN hq Gi (show(4:Nat) < 6 by decide)) Y<|fun YX Ph=>?_
 rw[lZ (k:=4) (p:=Bv s D1 e1 D2 e2 D3 e3) hq Gi (show(4:Nat) < 6 by decide)]at Ph
 replace Ph:Hp _ _ _ [((some gb,41,Bd (hd (some gk)) b cg A2 k2 A3 k3):Ent),(some gr,41,[Dn,Dn,Dn]),(some gk,97,(qs++(Bv s D1 e1 (hd gi) ci D3 e3)::ps.drop (i+1)).flatten++sg),(gi,5,u8s s.image++si),(gv,77,vs.flatten++sv),(gn,79,en.flatten++sn)]:=Ph
 refine OE<|cL Gs<|uE Y<|MV (fun wz hz=>yJ Y)<|uE Y<|MV (fun wz hz=>EF xW Y)<|bL Y<|OW uP Ph 2 Y Y Y Y (mN hq Gi (show(2:Nat) < 6 by decide)) Y<|fun Vu Ny=>?_
 rw[lZ (k:=2) (p:=Bv s D1 e1 (hd gi) ci D3 e3) hq Gi (show(2:Nat) < 6 by decide)]at Ny
 replace Ny:Hp _ _ _ [((some gb,41,Bd (hd (some gk)) b cg A2 k2 A3 k3):Ent),(some gr,41,[Dn,Dn,Dn]),(some gk,97,(qs++(Bv s (hd gv) cv (hd gi) ci D3 e3)::ps.drop (i+1)).flatten++sg),(gi,5,u8s s.image++si),(gv,77,vs.flatten++sv),(gn,79,en.flatten++sn)]:=Ny
 refine OE<|cL Gs<|uE Y<|MV (fun wz hz=>yJ Y)<|uE Y<|MV (fun wz hz=>EF xZ Y)<|bL Y<|OW uY Ny 2 Y Y Y Y (mN hq Gi (show(5:Nat) < 6 by decide)) Y<|fun w17 XY=>?_
 rw[lZ (k:=5) (p:=Bv s (hd gv) cv (hd gi) ci D3 e3) hq Gi (show(5:Nat) < 6 by decide)]at XY
 replace XY:Hp _ _ _ [((some gb,41,Bd (hd (some gk)) b cg A2 k2 A3 k3):Ent),(some gr,41,[Dn,Dn,Dn]),(some gk,97,(qs++(Bv s (hd gv) cv (hd gi) ci (hd gn) cn)::ps.drop (i+1)).flatten++sg),(gi,5,u8s s.image++si),(gv,77,vs.flatten++sv),(gn,79,en.flatten++sn)]:=XY
 refine OE<|cL Gs<|E0<|cR Gs<|J1<|Rq<|Xm Y<|Xc Y<|Xf xW Y<|OV (EL uP Y (XY.cell (i:=2) Y (rV hq Gi Y)))<|Ag Gs<|OV (ES Jd Y)<|Xm Y<|Xr Gs<|J7<|zV (fun nQ lQ w=>∃ (q:Nat) (z:Int) (vq:List (List Value)),s.Bc.length - q=nQ∧xM (Hy [(1,Ah gb),(2,Ah gr),(4,.pointer (some ⟨gk,0+i*6,none⟩)),(13,Aa (b.groups.length:Int)),(14,Aa (i:Int)),(49,Aa (s.Bc.length:Int)),(50,Aa z)] 0 105) lQ∧z=(q:Int)∧q≤s.Bc.length∧Pl 4 vq∧wC (Oe w (fun x=>w0.heap.size≤x∧x∉bl [((some gb,0,[]):Ent),(some gr,0,[]),(some gk,0,[]),(gi,0,[]),(gv,0,[]),(gn,0,[])])) vq (s.Bc.take q)∧Hp w5 w (bl [((some gb,41,Bd (hd (some gk)) b cg A2 k2 A3 k3):Ent),(some gr,41,[Dn,Dn,Dn]),(some gk,97,(qs++(Bv s D1 e1 D2 e2 D3 e3)::ps.drop (i+1)).flatten++sg)]) [((some gb,41,Bd (hd (some gk)) b cg A2 k2 A3 k3):Ent),(some gr,41,[Dn,Dn,Dn]),(some gk,97,(qs++(Bv s (hd gv) cv (hd gi) ci (hd gn) cn)::ps.drop (i+1)).flatten++sg),(gi,5,u8s s.image++si),(gv,77,(vq++vs.drop q).flatten++sv),(gn,79,en.flatten++sn)]) (s.Bc.length) ?_ ?_
 exact⟨0,_,[],Y,(ft7 Y Y Y Y Y Y Y Y),Y,Am _,Pl.nil _,trivial,XY⟩
 rintro nQ lQ w12 ⟨q,z,vq,rfl,hfit,rfl,hqi,hvq,hAv,Fj⟩
 obtain⟨j,rfl⟩:=hfit.open
 refine cR Gs ?_
 clear hfit
 have HI:=Fj
 replace Fj:=HI.here
 refine Rq<|OT (zQ Y Y) (fun ZU=>?_) (fun ZU=>?_)
 have Py:q < s.Bc.length:=by omega
 obtain⟨v,hxv⟩:=yL Py
 obtain⟨pv,hpv1,hRv⟩:=h2v.get hxv
 obtain⟨G1,f1,rfl,hbv⟩:=hRv
 have hvl:vq.length=q:=by rw[hAv.len,Aw];omega
 rw[uX hpv1]at HI Fj
 obtain⟨gvw,rfl⟩:=vK Fj (i:=4) rfl (Nat.lt_of_le_of_lt (Am _) (mN (k:=0) hvq hvl (show(0:Nat) < 4 by decide)))
 refine Xr Gs<|J1<|J3 Y<|J6<|J1<|J7<|Rq<|Xm Y<|Xa Y<|Xr Gs<|zR 16 [(true,0),(true,1),(true,2),(true,3),(true,4),(true,5),(true,6),(true,7),(true,8),(true,9),(true,10),(true,11),(true,12),(false,13),(true,14),(true,15),(false,16)] Fj [0,1,2,3,4,5] yE (by decide) (by kernel_rfl) ?_
 rintro w10 Me
 have Df:=Hp.drew Fj;rw[← Me]at Df
 refine Zm Y Y<|Zc Y Y<|Zf Y xW Y<|MP Y<|MV (fun wz hz=>EL uP Y (hz.cell (i:=2) Y (rV hq Gi Y)))<|cZ Gs<|Zm Y Y<|Zm Y Y<|Zc Y Y<|Zf Y xW Y<|cZ Gs<|MP Y<|MV (fun wz hz=>EL uP Y (hz.cell (i:=2) Y (rV hq Gi Y)))<|Zm Y Y<|MP Y<|MV (fun wz hz=>uR Jd xE Y Y Y Py)<|Zf Y rC Y<|cZ Gs<|MP Y<|MV (fun wz hz=>EL xO Y (hz.cell (i:=4) Y (rV hvq hvl Y)))<|MO Y ?_
 have hnf:=Hp.fresh Df
 have hsz:=(HB.all (HI.all Df)).size
 obtain⟨wn,hwn⟩:∃ n,n=w10.heap.size:=⟨_,rfl⟩
 refine yZ (EC jR Y) (vO G1 v.val f1 _ (hbv.1.to0 (HB.all (HI.all Df))) (by have:=hbv.2.2;omega))<|fun Oa gc cc sc _ _ _ Hc=>?_
 have hnc:∀ k,gc=some k→wn≤k:=fun k hk=>by subst hk;have:=Hc.new (i:=0) rfl;omega
 have Ei:=Df.call0 Hc
 refine OE ?_
 refine⟨fun hne=>Ei.pick [0,1,2,3,4,5] (by decide),?_⟩
 refine cZ Gs<|MP Y<|MV (fun wz hz=>uR Jd xE Y Y Y Py)<|Zf Y rC Y<|MO Y<|OW xO Ei 4 Y Y Y Y (mN hvq hvl (show(3:Nat) < 4 by decide)) Y<|fun Uf Ip=>?_
 rw[lZ (k:=3) (p:=Dl v G1 f1) hvq hvl (show(3:Nat) < 4 by decide)]at Ip
 replace Ip:Hp _ _ _ [((some gb,41,Bd (hd (some gk)) b cg A2 k2 A3 k3):Ent),(some gr,41,[Dn,Dn,Dn]),(some gk,97,(qs++(Bv s (hd (some gvw)) cv (hd gi) ci (hd gn) cn)::ps.drop (i+1)).flatten++sg),(gi,5,u8s s.image++si),(some gvw,77,(vq++(Dl v (hd gc) cc)::vs.drop (q+1)).flatten++sv),(gn,79,en.flatten++sn),(gc,5,u8s v.val++sc)]:=Ip
 refine OE ?_
 refine⟨fun hne=>absurd Y hne,?_⟩
 refine cZ Gs<|ME<|cR Gs<|zA (zB ?_)
 refine J2<|OV (zL Y Y (Ad _ (by omega)))<|Xm Y<|Xr Gs<|zA (zH ?_)
 have HW:=HI.all Ip
 exact⟨s.Bc.length - (q+1),by omega,q+1,_,vq++[Dl v (hd gc) cc],Y,(ft7 Y Y Y Y Y Y Y Y),by omega,by omega,hvq.app (Pl.one Y),by
  rw[yM hxv]
  exact(hAv.imp fun p x h=>h.to Ip fun x hx _=>⟨hx.2,hx⟩).app (wC.one ⟨hd gc,cc,Y,Bs.row Ip (i:=6) Y hbv.2.2 fun k hk=>⟨by have:=hnc k hk;omega,fun hb=>hnf k (by have:=hnc k hk;omega) hb⟩⟩),by rw[Bh];exact HW.pick [0,1,2,3,4,5] (by decide)⟩
 obtain rfl:q=s.Bc.length:=by omega
 have hvd:vs.drop s.Bc.length=[]:=Gn (by rw[h2v.len];exact Ak _)
 replace Fj:=HI
 rw[hvd,Dt]at Fj
 rw[Bz]at hAv
 refine Xr Gs<|J1<|J4 Y<|J8<|zU<|zS<|Rq<|Xm Y<|Xc Y<|Xf xZ Y<|OV (EL uY Y (Fj.cell (i:=2) Y (rV hq Gi Y)))<|Ag Gs<|OV (ES Lr Y)<|Xm Y<|Xr Gs<|J7<|zV (fun nQ lQ w=>∃ (q:Nat) (z:Int) (eq:List (List Value)),s.entries.length - q=nQ∧xM (Hy [(1,Ah gb),(2,Ah gr),(4,.pointer (some ⟨gk,0+i*6,none⟩)),(13,Aa (b.groups.length:Int)),(14,Aa (i:Int)),(74,Aa (s.entries.length:Int)),(75,Aa z)] 0 105) lQ∧z=(q:Int)∧q≤s.entries.length∧Pl 2 eq∧wC (Qp w (fun x=>w0.heap.size≤x∧x∉bl [((some gb,0,[]):Ent),(some gr,0,[]),(some gk,0,[]),(gi,0,[]),(gv,0,[]),(gn,0,[])])) eq (s.entries.take q)∧wC (Oe w (fun x=>w0.heap.size≤x∧x∉bl [((some gb,0,[]):Ent),(some gr,0,[]),(some gk,0,[]),(gi,0,[]),(gv,0,[]),(gn,0,[])])) vq s.Bc∧Hp w5 w (bl [((some gb,41,Bd (hd (some gk)) b cg A2 k2 A3 k3):Ent),(some gr,41,[Dn,Dn,Dn]),(some gk,97,(qs++(Bv s D1 e1 D2 e2 D3 e3)::ps.drop (i+1)).flatten++sg)]) [((some gb,41,Bd (hd (some gk)) b cg A2 k2 A3 k3):Ent),(some gr,41,[Dn,Dn,Dn]),(some gk,97,(qs++(Bv s (hd gv) cv (hd gi) ci (hd gn) cn)::ps.drop (i+1)).flatten++sg),(gi,5,u8s s.image++si),(gv,77,vq.flatten++sv),(gn,79,(eq++en.drop q).flatten++sn)]) (s.entries.length) ?_ ?_
 exact⟨0,_,[],Y,(ft7 Y Y Y Y Y Y Y Y),Y,Am _,Pl.nil _,trivial,hAv,Fj⟩
 rintro nQ lQ w10 ⟨q,z,eq,rfl,hfit,rfl,hqi,heq,hAe,hAv,Df⟩
 obtain⟨j,rfl⟩:=hfit.open
 refine cR Gs ?_
 clear hfit
 have HI:=Df
 replace Df:=HI.here
 refine Rq<|OT (zQ Y Y) (fun hp76=>?_) (fun hp76=>?_)
 have Py:q < s.entries.length:=by omega
 obtain⟨v,hxv⟩:=yL Py
 obtain⟨pv,hpv1,hRv⟩:=h2e.get hxv
 obtain⟨G1,f1,rfl,hbv⟩:=hRv
 have hvl:eq.length=q:=by rw[hAe.len,Aw];omega
 rw[uX hpv1]at HI Df
 obtain⟨gnw,rfl⟩:=vK Df (i:=5) rfl (Nat.lt_of_le_of_lt (Am _) (mN (k:=0) heq hvl (show(0:Nat) < 2 by decide)))
 refine Xr Gs<|J1<|J3 Y<|J6<|J1<|J7<|Rq<|Xm Y<|Xa Y<|Xr Gs<|zR 16 [(true,0),(true,1),(true,2),(true,3),(true,4),(true,5),(true,6),(true,7),(true,8),(true,9),(true,10),(true,11),(true,12),(false,13),(true,14),(true,15),(false,16)] Df [0,1,2,3,4,5] yE (by decide) (by kernel_rfl) ?_
 rintro Oa Vz
 have Ei:=Hp.drew Df;rw[← Vz]at Ei
 refine Zm Y Y<|Zc Y Y<|Zf Y xZ Y<|MP Y<|MV (fun wz hz=>EL uY Y (hz.cell (i:=2) Y (rV hq Gi Y)))<|cZ Gs<|Zm Y Y<|Zm Y Y<|Zc Y Y<|Zf Y xZ Y<|cZ Gs<|MP Y<|MV (fun wz hz=>EL uY Y (hz.cell (i:=2) Y (rV hq Gi Y)))<|Zm Y Y<|MP Y<|MV (fun wz hz=>uR Lr wE Y Y Y Py)<|Zf Y uU Y<|cZ Gs<|MP Y<|MV (fun wz hz=>EL xO Y (hz.cell (i:=5) Y (rV heq hvl Y)))<|MO Y ?_
 have hnf:=Hp.fresh Ei
 have hsz:=(HB.all (HI.all Ei)).size
 obtain⟨wn,hwn⟩:∃ n,n=Oa.heap.size:=⟨_,rfl⟩
 refine yZ (EC jR Y) (vO G1 v.val f1 _ (hbv.1.to0 (HB.all (HI.all Ei))) (by have:=hbv.2.2;omega))<|fun Uf gc cc sc _ _ _ Hc=>?_
 have hnc:∀ k,gc=some k→wn≤k:=fun k hk=>by subst hk;have:=Hc.new (i:=0) rfl;omega
 have Ip:=Ei.call0 Hc
 refine OE ?_
 refine⟨fun hne=>Ip.pick [0,1,2,3,4,5] (by decide),?_⟩
 refine cZ Gs<|MP Y<|MV (fun wz hz=>uR Lr wE Y Y Y Py)<|Zf Y uU Y<|MO Y<|OW xO Ip 5 Y Y Y Y (mN heq hvl (show(1:Nat) < 2 by decide)) Y<|fun w16 Qx=>?_
 rw[lZ (k:=1) (p:=Ez v G1 f1) heq hvl (show(1:Nat) < 2 by decide)]at Qx
 replace Qx:Hp _ _ _ [((some gb,41,Bd (hd (some gk)) b cg A2 k2 A3 k3):Ent),(some gr,41,[Dn,Dn,Dn]),(some gk,97,(qs++(Bv s (hd gv) cv (hd gi) ci (hd (some gnw)) cn)::ps.drop (i+1)).flatten++sg),(gi,5,u8s s.image++si),(gv,77,vq.flatten++sv),(some gnw,79,(eq++(Ez v (hd gc) cc)::en.drop (q+1)).flatten++sn),(gc,5,u8s v.val++sc)]:=Qx
 refine OE ?_
 refine⟨fun hne=>absurd Y hne,?_⟩
 refine cZ Gs<|ME<|cR Gs<|zA (zB ?_)
 refine J2<|OV (zL Y Y (Ad _ (by omega)))<|Xm Y<|Xr Gs<|zA (zH ?_)
 have HW:=HI.all Qx
 exact⟨s.entries.length - (q+1),by omega,q+1,_,eq++[Ez v (hd gc) cc],Y,(ft7 Y Y Y Y Y Y Y Y),by omega,by omega,heq.app (Pl.one Y),by
  rw[yM hxv]
  exact(hAe.imp fun p x h=>h.to Qx fun x hx _=>⟨hx.2,hx⟩).app (wC.one ⟨hd gc,cc,Y,Bs.row Qx (i:=6) Y hbv.2.2 fun k hk=>⟨by have:=hnc k hk;omega,fun hb=>hnf k (by have:=hnc k hk;omega) hb⟩⟩),hAv.imp fun p x h=>h.to Qx fun x hx _=>⟨hx.2,hx⟩,by rw[Bh];exact HW.pick [0,1,2,3,4,5] (by decide)⟩
 obtain rfl:q=s.entries.length:=by omega
 have hvd:en.drop s.entries.length=[]:=Gn (by rw[h2e.len];exact Ak _)
 replace Df:=HI
 rw[hvd,Dt]at Df
 rw[Bz]at hAe
 refine Xr Gs<|J1<|J4 Y<|J8<|zU<|zS<|zA (zB ?_)
 refine J2<|OV (zL Y Y (Ad _ (by omega)))<|Xm Y<|Xr Gs<|zA (zH ?_)
 have HW:=HB.all Df
 exact⟨b.groups.length - (i+1),by omega,i+1,_,qs++[Bv s (hd gv) cv (hd gi) ci (hd gn) cn],Y,(Jg Y Y Y Y Y),by omega,by omega,hq.app (Pl.one Y),by
  rw[yM hx]
  exact(hA.imp fun p x h=>h.to Df fun x hx _=>⟨not3 hx.2.1 hx.2.2.1 hx.2.2.2,hx⟩).app (wC.one ⟨hd gv,cv,hd gi,ci,hd gn,cn,rfl,Sl.row HW (i:=4) rfl hvq (by decide) (hAv.imp fun p x h=>h.to (Hp.refl _) fun x hx _=>⟨by simp,hx.1,fun e=>hx.2 (by rw[e];exact eF (i:=0) rfl),fun e=>hx.2 (by rw[e];exact eF (i:=1) rfl),fun e=>hx.2 (by rw[e];exact eF (i:=2) rfl)⟩) (fun k hk=>by subst hk;exact⟨HW.new (i:=4) rfl,HW.ne (i:=4) (j:=0) rfl rfl (by decide),HW.ne (i:=4) (j:=1) rfl rfl (by decide),HW.ne (i:=4) (j:=2) rfl rfl (by decide)⟩),Bs.row HW (i:=3) rfl hm.2.2 (fun k hk=>by subst hk;exact⟨HW.new (i:=3) rfl,HW.ne (i:=3) (j:=0) rfl rfl (by decide),HW.ne (i:=3) (j:=1) rfl rfl (by decide),HW.ne (i:=3) (j:=2) rfl rfl (by decide)⟩),Sl.row HW (i:=5) rfl heq (by decide) (hAe.imp fun p x h=>h.to (Hp.refl _) fun x hx _=>⟨by simp,hx.1,fun e=>hx.2 (by rw[e];exact eF (i:=0) rfl),fun e=>hx.2 (by rw[e];exact eF (i:=1) rfl),fun e=>hx.2 (by rw[e];exact eF (i:=2) rfl)⟩) (fun k hk=>by subst hk;exact⟨HW.new (i:=5) rfl,HW.ne (i:=5) (j:=0) rfl rfl (by decide),HW.ne (i:=5) (j:=1) rfl rfl (by decide),HW.ne (i:=5) (j:=2) rfl rfl (by decide)⟩)⟩),by rw[Bh];exact HW.pick [0,1,2] (by decide)⟩
 obtain rfl:i=b.groups.length:=by omega
 refine Xr Gs<|J1<|J4 Y<|J8<|zU<|zS<|J1<|DV [7,9] [(1,[7]),(1,[9]),(4,[7]),(4,[9])] (.b 0 (.a 1 (.b 3 (.a 4 (.o 2 (.b 6 (.o 5 (.z 7 (.b 8 (.z 9 .nil)))))))))) H5 [0,1,2] yE (by decide) (by kernel_rfl) ?_
 rintro w6 hw6
 have H6:=Hp.drew H5;rw[← hw6]at H6
 refine uE Y<|MV (fun wz hz=>EF sI Y)<|bN Y<|MV (fun wz hz=>EL lF Y (hz.cell (i:=0) Y Y))<|uE Y<|MV (fun wz hz=>EF tQ Y)<|bN Y<|MV (fun wz hz=>EL mY Y (hz.cell (i:=0) Y Y))<|cL Gs<|bM Y<|OQ (EC XB Y) (HV A2 b.rights.length k2 pr.flatten _ (hrr.to0 (HB.all H6)) (xI (wC.ones (fun _ _ h=>Nu.ones h) h2r)) (by omega)) ?_
 rintro _ w7 ⟨gR,kR,sR,rfl,_,_,_,Hc⟩
 have H7:=H6.call0 Hc
 refine OE ?_
 refine⟨H7.pick [0,1,2] (by decide),?_⟩
 refine cL Gs<|uE Y<|MV (fun wz hz=>EF sI Y)<|bM Y<|OQ (EC WV Y) (HY A3 b.last.length k3 pm.flatten _ (hrm.to0 (HB.all H7)) (xI (wC.ones (fun _ _ h=>Pv.ones h) h2m)) (by omega)) ?_
 rintro _ w8 ⟨gM,kM,sM,rfl,_,_,_,Hc⟩
 have H8:=H7.call0 Hc
 refine OE ?_
 refine⟨H8.pick [0,1,2] (by decide),?_⟩
 refine cL Gs<|bL Y<|OW lF H8 0 Y Y Y Y (by first|exact NL Y|simp[zJ]) Y<|fun w9 H9=>OE<|cL Gs<|uE Y<|MV (fun wz hz=>EF tQ Y)<|bL Y<|OW mY H9 0 Y Y Y Y (by first|exact NL Y|simp[zJ]) Y<|fun YX Ph=>OE<|cL Gs<|E0<|cR Gs<|Rq<|OV (EN xT Y (vs:=Bd (hd (some gk)) b cg (hd gR) kR (hd gM) kM) Y (Ph.Ap (i:=0) Y Y))<|OS xT Ph 1 Y Y Y Y Y (by first|exact NL Y|simp[zJ]) Y<|fun Vu Ny=>Xr Gs<|J5<|uL Y xT (cs:=Bd (hd (some gk)) b cg (hd gR) kR (hd gM) kM) Y Y (Ny.Ap (i:=1) Y Y) ?_
 have HW:=HB.all Ny
 have hpd:ps.drop b.groups.length=[]:=Gn (by rw[h2.len];exact Ak _)
 rw[hpd,Dt]at HW
 rw[Bz]at hA
 exact⟨_,rfl,⟨hd (some gk),cg,hd gR,kR,hd gM,kM,rfl,Sl.row HW (i:=2) rfl hq (by decide) (hA.imp fun p x h=>h.to Ny fun x hx _=>⟨not3 hx.2.1 hx.2.2.1 hx.2.2.2,hx.1⟩) (fun k hk=>by cases hk;exact HW.new (i:=2) rfl),Sl.row HW (i:=3) rfl hpr (by decide) h2r (fun k hk=>by subst hk;exact HW.new (i:=3) rfl),Sl.row HW (i:=4) rfl hpm (by decide) h2m (fun k hk=>by subst hk;exact HW.new (i:=4) rfl)⟩,HW.Af⟩
set_option maxHeartbeats 4000000
theorem dK (v:Vm) (D:Dk) (W:Wl) (b:Bo) (bad:Nat→Prop) (w0:World) (H0:Hp w0 w0 (bl (Dc v D W)) (Dc v D W)) (h:Ya w0 v D W b bad) (NB:Nat) (hg:rE b NB) (hN:NB≤900000000000) (hv:∀ x∈bl (Dc v D W),bad x):Aj 14 #[Ah v.gx] w0 (fun r w'=>∃ cs,r=.agg cs.toArray∧Qq w' (fun x=>w0.heap.size≤x∧x∉bl (Dc v D W)) cs b∧Hp w0 w' (bl (Dc v D W)) (Dc v D W)):=by
 refine zG Tryz.func14 Tryz.ntmps14 Y<|cR e11 ?_
 have H:=H0
 obtain⟨A1,k1,A2,k2,A3,k3,hcs,hb1,hb2,hb3⟩:=id h.bo
 refine Rq<|OA xT H<|fun w1 g2 H1 hg2=>Xr e11<|J1<|Rq<|Xm Y<|Jw (yF U23 Y) (by simp)<|Xr e11<|J4 Y<|J6<|Rq<|Xm Y<|Xc Y<|Xf iS Y<|OV (EN xT Y (vs:=Bd A1 b k1 A2 k2 A3 k3) Y (H1.Ap (i:=6) Y (by rw[fK,hcs];rfl)))<|Ag e11 ?_
 have hk:∀ x,¬bad x→x < w0.heap.size→x∉bl (Dc v D W)∧(¬bad x∧x < w0.heap.size):=fun x hx hl=>⟨fun hb=>hx (hv x hb),hx,hl⟩
 have hnb:=Hp.fresh H1
 have hszj:=H1.size
 refine OQ (EC gf46 Y) (FU b A1 k1 A2 k2 A3 k3 NB _ _ (hb1.toS H1 hk) (hb2.toR H1 hk) (hb3.toM H1 hk) hg hN) ?_
 rintro _ w2 ⟨_,rfl,⟨E1,e1,E2,e2,E3,e3,rfl,hE1,hE2,hE3⟩,Hd⟩
 have HC:=H1.Au Hd
 have H2:=HC.here
 have kk:∀ x,w1.heap.size≤x→x < w2.heap.size→x∉bl _∧(w0.heap.size≤x∧x∉bl (Dc v D W)):=fun x hx _=>⟨hnb x hx,Ce hszj hx,fun hb=>hnb x hx (by rw[vX];exact Bq.2 (.inl hb))⟩
 refine OS xT H2 7 Y Y Y Y Y (by first|exact NL Y|simp[zJ]) Y<|fun w3 H3=>Xr e11<|J5<|uL Y xT (cs:=Bd E1 b e1 E2 e2 E3 e3) Y Y (H3.Ap (i:=7) Y Y)<|⟨_,Y,⟨E1,e1,E2,e2,E3,e3,Y,hE1.toS H3 kk,hE2.toR H3 kk,hE3.toM H3 kk⟩,(HC.all H3).pick [0,1,2,3,4,5,6] (by decide)⟩
theorem RT (v:Vm) (D:Dk) (W:Wl) (b:Bo) (bad:Nat→Prop) (w0:World) (H0:Hp w0 w0 (bl (Dc v D W)) (Dc v D W)) (h:Ya w0 v D W b bad) (A:Option Addr) (l:List Nt) (k:Nat) (Ob:Nat→Prop) (hl:Sl (NtR w0 Ob) 16 w0 Ob A l) (Yi:∀ x,Ob x→¬bad x) (hnt:∀ n∈l,NtB n) (hv:∀ x∈bl (Dc v D W),bad x) (hn:l.length≤1000) (NB:Nat) (hg:rE b NB) (hN:NB≤800000000000) (s:Nat) (X0:Lg D.show D.kept.length W s) (hup:D.down=false) (Nw:W.dead=false) (hwt:D.wait.length≤100000000) (hfl:W.first≤2^50) (htl:W.turn≤2^50):Aj 11 #[Ah v.gx,Ac A l.length k] w0 (fun r w'=>∃ x D' W' b',r=Aa x∧RB s D W b l x D' W' b'∧KE w0 w' v bad (bl (Dc v D W)) D' W' b'):=by
 refine zG Tryz.func11 Tryz.ntmps11 Y<|cR Na ?_
 have H:=H0
 have hv0:=Ro.start h H0 hv
 obtain⟨A1,k1,A2,k2,A3,k3,hcs,hb1,hb2,hb3⟩:=id h.bo
 obtain⟨ps,hp,hr,ha,h2⟩:=id hl
 have hlen:=h2.len
 have hkl:∀ x,Ob x→x < w0.heap.size→x∉bl (Dc v D W)∧(Ob x∧x < w0.heap.size):=fun x hx hl=>⟨fun hb=>Yi x hx (hv x hb),hx,hl⟩
 refine Rq<|Xa Y<|Xr Na<|J1<|Rq<|Xm Y<|Jw (yF U23 Y) (by simp)<|Xr Na<|J4 Y<|J6<|Rq ?_
 replace H:=H.nil 73
 refine Xa Y<|Xr Na<|J1<|Rq<|Xm Y<|OV (ES Lc Y)<|Xm Y<|Xr Na<|J7<|zV (fun nQ lQ w=>∃ (i:Nat) (y:Int) (gt:Option Nat) (ct:Nat) (xs sp:List Value),l.length - i=nQ∧xM (Hy [(0,Ah v.gx),(1,Ac A l.length k),(5,Ac (hd gt) i ct),(18,Ac A l.length k),(19,Aa (l.length:Int)),(20,Aa y)] 0 85) lQ∧y=(i:Int)∧i≤l.length∧xs.length=i∧i≤ct∧ct≤(xs++sp).length∧(gt=none→ct=0)∧(∀ n∈l.take i,tO n)∧Yb w0.heap.size w (Dc v D W++[((gt,73,xs++sp):Ent)]) xs ((l.take i).map yV)∧Ro w0 w (bl (Dc v D W)) bad v v D W b [((gt,73,xs++sp):Ent)]) (l.length) ?_ ?_
 exact⟨0,_,none,0,[],[],Y,(YU Y Y Y Y Y Y Y),Y,Am _,Y,Ak _,Am _,fun _=>Y,(fun n hn=>by simp at hn),Yb.nil _ _ _,hv0.on H⟩
 rintro nQ lQ w1 ⟨i,y,gt,ct,xs,sp,rfl,hfit,rfl,hi,hxl,hct,hcs1,hcn,hsh,htx1,hv1⟩
 obtain⟨j,rfl⟩:=hfit.open
 refine cR Na ?_
 clear hfit
 have H1:=hv1.H.here
 refine Rq<|OT (zQ Y Y) (fun hp21=>?_) (fun hp21=>?_)
 have hil:i < l.length:=by omega
 obtain⟨nt,hx⟩:=yL hil
 obtain⟨p1,hp1,hR⟩:=h2.get hx
 obtain⟨B1,j1,B2,j2,rfl,hbv,Sm⟩:=hR
 obtain⟨a1,ha1⟩:=hr.some_ (by omega)
 subst ha1
 refine Xr Na<|J1<|J3 Y<|J6<|J1<|J7<|Rq<|OV (EI Lc xH Y Y Y hil Y)<|OV (EN xH Y (vs:=Ed nt B1 j1 B2 j2) Y ((hr.to (hv1.H.all H1) (fun p e hb=>Yi _ (ha (by omega) p e) (hv _ hb))).elem hp hp1))<|OA xH H1<|fun w2 g2 H2 hg2=>OS xH H2 8 Y Y Y Y Y (by first|exact NL Y|simp[zJ]) Y<|fun w3 H3=>Xr Na<|Rq<|OV (EN xH Y (vs:=Ed nt B1 j1 B2 j2) Y (H3.Ap (i:=8) Y Y)) ?_
 have hszn:=(hv1.H.all H3).size
 have hkw:∀ x,Ob x→x < w0.heap.size→x∉bl (Dc v D W)∧True:=fun x hx hl=>⟨(hkl x hx hl).1,trivial⟩
 refine OQ (EC gf34 Y) (I0 (Px nt) _ _ (WF (ok:=fun _=>True) ⟨B1,j1,B2,j2,Y,hbv.to (hv1.H.all H3) hkw,Sm.to (hv1.H.all H3) hkw⟩ (hnt nt (mem_of hx)))) ?_
 rintro _ w4 ⟨gn,cn,sn,rfl,hn1,hn2,hn3,hn4,HdN⟩
 have H4:=H3.call0 HdN
 change Hp _ _ _ (_++[(gn,5,u8s (yV nt)++sn)])at H4
 refine Xm Y<|Xe Y Y<|Ag Na<|Xe Y Y<|Xa Y<|Xa Y<|Xr Na<|J1<|Rq<|Xm Y<|OT (yR Y Y) (fun hp30=>?_) (fun hp30=>?_)
 refine Xm Y<|Ag Na<|Oz 3 Y<|Ag Na<|Xt Y Y<|Xr Na<|J3 Y<|Rq<|Xa Y<|Xr Na<|J5<|BR<|yN<|BR<|Cm Y Y<|⟨22,D,W,b,Y,.inl ⟨⟨nt,mem_of hx,fun hs=>hp30 (by show((Og nt:Nat):Int)=0;rw[hs.1];rfl)⟩,Y,Y,Y,Y⟩,(hv1.on (H4.pick [0,1,2,3,4,5,6] (by decide))).post⟩
 refine Xm Y<|Ag Na<|OY Y<|Xm Y<|OY Y<|OV (ES Gz Y)<|Ag Na<|OY Y<|OT (yS Y Y) (fun Wn=>?_) (fun Wn=>?_)
 refine Xu Y Y<|Xr Na<|J3 Y<|Rq<|Xa Y<|Xr Na<|J5<|BR<|yN<|BR<|Cm Y Y ?_
 exact⟨22,D,W,b,Y,.inl ⟨⟨nt,mem_of hx,fun hs=>by
  have h8:=hs.2
  have h9:16384 < ((yV nt).length:Int):=Wn
  omega⟩,rfl,rfl,rfl,rfl⟩,(hv1.on (H4.pick [0,1,2,3,4,5,6] (by decide))).post⟩
 refine Xu Y Y<|Xr Na<|J4 Y<|J6<|J2<|Xm Y<|Xm Y<|zE Ve xO H4 Y (by decide) Y<|fun w5 g5 H5 hg5=>xC Ve xO (by decide) H5 7 (g:=gt) (n:=i) (cap:=ct) (xs:=xs) (sp:=sp) Y Y (by rw[hxl,Cc]) (by rw[Cc];exact hcs1) hct hcn Y (H5.rd (i:=10) (o:=some _) (xs:=[Ac (hd gn) (yV nt).length cn]) (sp:=[]) Y Y (by decide)) Y (by omega) (by omega) (by decide)<|fun w6 gt2 ct2 sp2 H6 hcs2 hct2 hcn2=>?_
 rw[Cc]at hcs2
 refine Ag Na ?_
 replace H6:=H6.nil 73
 refine Xa Y<|Xr Na<|zA (zB ?_)
 refine J2<|OV (zL Y Y (Ad _ (by omega)))<|Xm Y<|Xr Na<|zA (zH ?_)
 have htk:=yM hx
 have hfr:=lY HdN 0 rfl (by simp)
 have hHx:Hp _ _ _ (Dc v D W++[((gt2,73,(xs++[Ac (hd gn) (yV nt).length cn])++sp2):Ent)]):=H6.pick [0,1,2,3,4,5,6,7] (by decide)
 refine⟨l.length - (i+1),by omega,i+1,_,gt2,ct2,xs++[Ac (hd gn) (yV nt).length cn],sp2,Y,(YU Y Y Y Y Y Y Y),by omega,by omega,by rw[Ae,hxl];rfl,hct2,hcs2,hcn2,fun n hn=>?_,?_,hv1.on hHx⟩
 rw[htk]at hn
 rcases Bq.1 hn with h1 | h1
 exact hsh n h1
 rw[Az.1 h1]
 have h8:¬(((Og nt:Nat):Int)≠0):=hp30
 have h9:¬(16384 < ((yV nt).length:Int)):=Wn
 exact⟨by omega,by omega⟩
 rw[htk,Dx]
 exact(htx1.on hHx).snoc (H6.rd (i:=9) (o:=gn) (xs:=u8s (yV nt)) (sp:=sn) Y (yY _) (by decide)) (fun p hp=>⟨by have:=hfr p hp;omega,GO H6 9 [0,1,2,3,4,5,6,7] Y Y (by decide) p hp⟩)
 obtain rfl:i=l.length:=by omega
 rw[Bz]at hsh htx1
 refine Xr Na<|J1<|J4 Y<|J8<|zU<|zS<|Rq<|Xm Y<|Xc Y<|Xf iS Y<|OV (EN xT Y (vs:=Bd A1 b k1 A2 k2 A3 k3) Y (H1.Ap (i:=6) Y (by rw[fK,hcs];rfl)))<|Ag Na<|OA xT H1<|fun w2 gb H2 hgb=>OS xT H2 8 Y Y Y Y Y (by first|exact NL Y|simp[zJ]) Y<|fun w3 H3=>Xr Na<|J1<|Rq<|Xm Y<|OV (ES Lc Y)<|Xm Y<|Xr Na<|J7<|zV (fun nQ lQ w=>∃ (i:Nat) (y:Int) (b2:Bo) (cs:List Value),l.length - i=nQ∧xM (Hy [(0,Ah v.gx),(1,Ac A l.length k),(5,Ac (hd gt) l.length ct),(10,Ah gb),(45,Ac A l.length k),(46,Aa (l.length:Int)),(47,Aa y)] 0 85) lQ∧y=(i:Int)∧i≤l.length∧vE b (l.take i)=some b2∧rE b2 (NB+i)∧Qq w (fun x=>x∉bl (Dc v D W++[((gt,73,xs++sp):Ent),((some gb,41,cs):Ent)])) cs b2∧Yb w0.heap.size w (Dc v D W++[((gt,73,xs++sp):Ent),((some gb,41,cs):Ent)]) xs (l.map yV)∧Ro w0 w (bl (Dc v D W)) bad v v D W b [((gt,73,xs++sp):Ent),((some gb,41,cs):Ent)]) (l.length) ?_ ?_
 have HA:=hv1.H.all H3
 have hkb:∀ x,¬bad x→x < w0.heap.size→x∉bl (Dc v D W)∧x∉bl (Dc v D W++[((gt,73,xs++sp):Ent),((some gb,41,[]):Ent)]):=fun x hx hl=>⟨fun hb=>hx (hv x hb),fun hb=>by
 rcases bl_place HA x hb with h1 | h1
 exact hx (hv x h1)
 omega⟩
 exact⟨0,_,b,_,Y,(ft7 Y Y Y Y Y Y Y Y),Y,Am _,Y,hg,⟨A1,k1,A2,k2,A3,k3,Y,hb1.toS HA hkb,hb2.toR HA hkb,hb3.toM HA hkb⟩,htx1.on H3,hv1.on H3⟩
 rintro nQ lQ w4 ⟨i,y,b2,cs,rfl,hfit,rfl,hi,Ur,Za,Zi,htx2,hv2⟩
 obtain⟨j,rfl⟩:=hfit.open
 refine cR Na ?_
 clear hfit
 have H4:=hv2.H.here
 obtain⟨X1,x1,X2,x2,X3,x3,rfl,hx1,hx2,hx3⟩:=Zi
 refine Rq<|OT (zQ Y Y) (fun hp48=>?_) (fun hp48=>?_)
 have hil:i < l.length:=by omega
 obtain⟨nt,hx⟩:=yL hil
 obtain⟨p1,hp1,hR⟩:=h2.get hx
 obtain⟨B1,j1,B2,j2,rfl,hbv,Sm⟩:=hR
 obtain⟨a1,ha1⟩:=hr.some_ (by omega)
 subst ha1
 refine Xr Na<|J1<|J3 Y<|J6<|J1<|J7<|Rq<|OV (EI Lc xH Y Y Y hil Y)<|OV (EN xH Y (vs:=Ed nt B1 j1 B2 j2) Y ((hr.to (hv2.H.all H4) (fun p e hb=>Yi _ (ha (by omega) p e) (hv _ hb))).elem hp hp1))<|OA xH H4<|fun w5 g5 H5 hg5=>OS xH H5 9 Y Y Y Y Y (by first|exact NL Y|simp[zJ]) Y<|fun w6 H6=>Xr Na<|Rq<|OV (EN xH Y (vs:=Ed nt B1 j1 B2 j2) Y (H6.Ap (i:=9) Y Y)) ?_
 have hHg:=H6
 have Rl:=hv2.H.place (i:=8) rfl
 have hszg:=H6.size
 refine OQ (EC TU Y) (CR none gb b2 X1 x1 X2 x2 X3 x3 nt B1 j1 B2 j2 (fun x=>Ob x∧x < w0.heap.size) _ _ (H6.at (i:=8) Y) (fun x=>x∉bl (Dc v D W++[((gt,73,xs++sp):Ent),((some gb,41,[]):Ent)])) (fun hh=>hh (Pq (Ew.2 ⟨_,Eu _ Gm,Y⟩))) (hx1.toS H6 fun x hx _=>⟨hx,hx⟩) (hx2.toR H6 fun x hx _=>⟨hx,hx⟩) (hx3.toM H6 fun x hx _=>⟨hx,hx⟩) (fun hh=>Rl.elim (fun h=>Yi _ hh.1 (hv _ h)) (fun h=>by have:=hh.2;omega)) (hbv.to (hv2.H.all H6) hkl) (Sm.to (hv2.H.all H6) hkl) Za (by omega)) ?_
 rintro r w7 ⟨hyes,hno⟩
 have htk:=qF Ur hx
 cases hin:b2.into nt
 obtain⟨rfl,Hd⟩:=hno hin
 have Yx:=(hHg.Du [8] rfl Hd).pick [0,1,2,3,4,5,6] (by decide)
 refine Xn Y<|Xr Na<|J3 Y<|Rq<|Xa Y<|Xr Na<|J5<|BR<|yN<|BR<|Cm Y Y<|⟨21,D,W,b,Y,.inr (.inl ⟨hsh,kV (htk.trans hin),Y,Y,Y,Y⟩),(hv2.on Yx).post⟩
 obtain⟨rfl,cs',Hd,hB'⟩:=hyes _ hin
 have Yx:=(hHg.Du [8] rfl Hd).pick [0,1,2,3,4,5,6,7,10] (by decide)
 refine Xn Y<|Xr Na<|J4 Y<|J6<|zA (zB ?_)
 refine J2<|OV (zL Y Y (Ad _ (by omega)))<|Xm Y<|Xr Na<|zA (zH ?_)
 exact⟨l.length - (i+1),by omega,i+1,_,_,cs',Y,(ft7 Y Y Y Y Y Y Y Y),by omega,by omega,htk.trans hin,Za.into hin,hB'.to (Hp.refl _) (fun x hx _=>⟨by simp,hx.elim id fun h1 hb=>by have:=oM hv2.H hb;omega⟩),htx2.on Yx,hv2.on Yx⟩
 obtain rfl:i=l.length:=by omega
 rw[Bz]at Ur
 refine Xr Na<|J1<|J4 Y<|J8<|zU<|zS<|J1<|Rq<|Xm Y<|OV (ES Ve Y)<|Xm Y<|Xr Na<|J7<|zV (fun nQ lQ w=>∃ (i:Nat) (y:Int) (v1:Vm) (D1:Dk) (W1:Wl) (b1:Bo),l.length - i=nQ∧xM (Hy [(0,Ah v.gx),(1,Ac A l.length k),(55,Ac (hd gt) l.length ct),(56,Aa (l.length:Int)),(57,Aa y)] 0 85) lQ∧y=(i:Int)∧i≤l.length∧vE b (l.take i)=some b1∧rE b1 (NB+i)∧kI s D W ((l.take i).map yV) D1 W1∧Yb w0.heap.size w (Dc v1 D1 W1++[((gt,73,xs++sp):Ent)]) xs (l.map yV)∧Ro w0 w (bl (Dc v D W)) bad v v1 D1 W1 b1 [((gt,73,xs++sp):Ent)]) (l.length) ?_ ?_
 have HP3:=H4.pick [0,1,2,3,4,5,6,7] (by decide)
 exact⟨0,_,v,D,W,b,Y,(Oc Y Y Y Y Y Y),Y,Am _,Y,hg,kI.none X0 hup Nw,htx2.on HP3,hv2.on HP3⟩
 rintro nQ lQ w5 ⟨i,y,v1,D1,W1,b1,rfl,hfit,rfl,hi,Vq,Z9,hgr,htx3,hv3⟩
 obtain⟨j,rfl⟩:=hfit.open
 refine cR Na ?_
 clear hfit
 obtain⟨m1,gx1,cs1⟩:=v1
 obtain rfl:gx1=v.gx:=hv3.gx
 have H5:=hv3.H.here
 obtain⟨ws,hw1,hw2,_⟩:=id hgr.wait
 have ZH:D1.wait.length≤1000000000:=by
  rw[Bg,Aw]at hw2
  rw[hw1,Ae];omega
 refine Rq<|OT (zQ Y Y) (fun hp58=>?_) (fun hp58=>?_)
 have hil:i < l.length:=by omega
 obtain⟨nt,hx⟩:=yL hil
 obtain⟨p1,hp1,hR⟩:=h2.get hx
 obtain⟨B1,j1,B2,j2,rfl,hbv,Sm⟩:=hR
 obtain⟨a1,ha1⟩:=hr.some_ (by omega)
 subst ha1
 obtain⟨B,c,hxi,hrd,hap⟩:=htx3.get (i:=i) (t:=yV nt) (by rw[Nb,hx];rfl)
 obtain⟨gt1,hgt1⟩:=vK H5 (i:=7) rfl (by rw[Ae];omega)
 subst hgt1
 refine Xr Na<|J1<|J3 Y<|J6<|J1<|J7<|Rq<|Xm Y<|OV (EI Ve xO Y Y Y hil (Cc _)) ?_
 rw[eR]
 refine OV (EL xO Y (H5.cell (i:=7) (o:=i) Y (by rw[Di (lt_of_get hxi)];exact hxi))) ?_
 refine Xa Y<|Ag Na<|Xa Y<|Xr Na<|J1<|Rq<|Xm Y<|Xc Y<|Xf bW Y<|OV (EL uN Y (H5.cell (i:=6) Y Y))<|Ag Na<|Xm Y<|OQ (EC gf35 Y) (aK m1 D1 W1 _ hv3.H.less.less.here hv3.ok.ok B (yV nt) c hrd (fun h0 p hp hb=>(hap h0 p hp).2 (oC hb)) (by have:=jE nt;omega) ZH) ?_
 rintro _ w6 ⟨x,D2,W2,rfl,hres,hwp⟩
 obtain⟨v2,hcs2,hgx2,hv5,HX5⟩:=hv3.log hwp
 obtain⟨m2,gx2,cs2⟩:=v2
 obtain rfl:gx2=v.gx:=hgx2
 have htx5:=htx3.on HX5
 have H6:=hv5.H.here
 rcases hgr.app hres (hsh nt (mem_of hx)).2 with ⟨hx0,hfit,hgr2⟩ | ⟨hx0,hfull,hD2,hW2⟩ | ⟨hx0,harm,hdn,hkp,_,ws2,hws,hwl,hfrs⟩
 refine Xa Y<|Xr Na<|Rq<|Xm Y<|Jw (yR Y Y) (by omega)<|Xr Na<|J4 Y<|J6<|zR 7 [(true,0),(true,1),(true,2),(true,3),(true,4),(true,5),(true,6),(false,7)] H6 [0,1,2,3,4,5,6,7] yE (by decide) (by kernel_rfl) ?_
 rintro w7 hw7
 have H7:=Hp.drew H6;rw[← hw7]at H7
 refine Zm Y Y<|Zc Y Y<|Zf Y iS Y<|Zm Y Y<|cZ Na<|Zm Y Y<|MP Y<|MV (fun wz hz=>EI Lc xH Y Y Y hil Y)<|MP Y<|MV (fun wz hz=>EN xH Y (vs:=Ed nt B1 j1 B2 j2) Y ((hr.to (hv5.H.all hz) (fun p e hb=>Yi _ (ha (by omega) p e) (hv _ hb))).elem hp hp1))<|MO Y ?_
 obtain⟨b3,hin⟩:∃ b3,b1.into nt=some b3:=by
  obtain⟨c,hc⟩:=eV (i+1) Ur
  exact⟨c,(qF Vq hx).symm.trans hc⟩
 obtain⟨X1,x1,X2,x2,X3,x3,hcs3,hx1,hx2,hx3⟩:=hv5.ok.bo
 obtain rfl:cs2=(Bd X1 b1 x1 X2 x2 X3 x3):=hcs3
 have hv6:=hv5.on H7
 have htx6:=htx5.on H7
 have hgx6:v.gx∈bl (Dc v D W)∨w0.heap.size≤v.gx:=hv5.H.place (i:=6) rfl
 have hin6:v.gx∈bl (Dc (⟨m2,v.gx,Bd X1 b1 x1 X2 x2 X3 x3⟩:Vm) D2 W2++[((some gt1,73,xs++sp):Ent)]):=Ih (Pq (Ew.2 ⟨_,Gm,rfl⟩))
 refine OQ (EC TU Y) (CR (some (Ah m2.gv)) v.gx b1 X1 x1 X2 x2 X3 x3 nt B1 j1 B2 j2 (fun x=>Ob x∧x < w0.heap.size) _ _ (H7.at (i:=6) Y) _ (fun hh=>hh (.inr hin6)) (hx1.toS H7 fun x hx _=>⟨fun hb=>hx (.inr hb),hx⟩) (hx2.toR H7 fun x hx _=>⟨fun hb=>hx (.inr hb),hx⟩) (hx3.toM H7 fun x hx _=>⟨fun hb=>hx (.inr hb),hx⟩) (fun hh=>hgx6.elim (fun h=>Yi _ hh.1 (hv _ h)) (fun h=>by have:=hh.2;omega)) (hbv.to (hv5.H.all H7) hkl) (Sm.to (hv5.H.all H7) hkl) Z9 (by omega)) ?_
 rintro r w8 ⟨hyes,_⟩
 obtain⟨rfl,cs',Hd,hB'⟩:=hyes _ hin
 obtain⟨hv7,HX7⟩:=hv6.book Hd hB'
 have htx7:=htx6.on HX7
 have H8:=hv7.H.here
 refine OE ?_
 refine⟨fun hne=>absurd Y hne,?_⟩
 refine cZ Na<|ME<|cR Na<|zA (zB ?_)
 refine J2<|OV (zL Y Y (Ad _ (by omega)))<|Xm Y<|Xr Na<|zA (zH ?_)
 exact⟨l.length - (i+1),by omega,i+1,_,_,D2,W2,b3,Y,(Oc Y Y Y Y Y Y),by omega,by omega,(qF Vq hx).trans hin,Z9.into hin,by rw[yM hx,Dx];exact hgr2,htx7.on H8,hv7.on H8⟩
 refine Xa Y<|Xr Na<|Rq<|Xm Y<|Ui (yR Y Y) (by omega)<|Xr Na<|J3 Y<|Rq<|Xm Y<|Xa Y<|Xr Na<|J5<|BR<|yN<|BR<|Cm Y Y<|⟨x,D2,W2,b1,Y,.inr (.inr ⟨hsh,_,Ur,.inl ⟨i,nt,D1,W1,hx,hgr,Vq,.inl ⟨hx0,hfull,hD2,hW2⟩⟩⟩),(hv5.on H6).post⟩
 refine Xa Y<|Xr Na<|Rq<|Xm Y<|Ui (yR Y Y) (by omega)<|Xr Na<|J3 Y<|Rq<|Xm Y<|Xa Y<|Xr Na<|J5<|BR<|yN<|BR<|Cm Y Y<|⟨x,D2,W2,b1,Y,.inr (.inr ⟨hsh,_,Ur,.inl ⟨i,nt,D1,W1,hx,hgr,Vq,.inr ⟨hx0,harm,hdn,hkp,ws2,hws,by rw[Bg]at hwl;have h9:=List.length_take_le i l;omega,hfrs⟩⟩⟩),(hv5.on H6).post⟩
 obtain rfl:i=l.length:=by omega
 rw[Bz]at hgr Vq
 refine Xr Na<|J1<|J4 Y<|J8<|zU<|zS<|Rq<|Xm Y<|Xc Y<|Xf bW Y<|OV (EL uN Y (H5.cell (i:=6) Y Y))<|Ag Na<|OQ (EC gf36 Y) (M7 m1 D1 W1 _ hv3.H.less.less.here hv3.ok.ok ZH (by rw[hgr.first];exact hfl) (by rw[hgr.turn];exact htl)) ?_
 rintro _ w6 ⟨x,D2,W2,rfl,hres,hwp⟩
 obtain⟨v2,_,_,hv5,_⟩:=hv3.log hwp
 have H6:=hv5.H.here
 refine Xa Y<|Xr Na<|J5<|Cm Y Y<|⟨x,D2,W2,b1,Y,.inr (.inr ⟨hsh,_,Ur,.inr ⟨D1,W1,hgr,Option.some.inj (Vq.symm.trans Ur),hres⟩⟩),(hv5.on H6).post⟩
theorem V3 (A:Option Addr) (l:List Rt) (k:Nat) (Ob:Nat→Prop) (B:Option Addr) (q:List Rt) (c:Nat) (okq:Nat→Prop) (w0:World) (hl:Sl Nu 4 w0 Ob A l) (hq:Sl Nu 4 w0 okq B q) (hc:q.length≤c) (hn:l.length≤1000000000000):Aj 37 #[Ac A l.length k,Ac B q.length c] w0 (fun r w'=>r=.bool (decide (leftR l q=[]))∧Hp w0 w' [] []):=by
 refine zG Tryz.func37 Tryz.ntmps37 Y<|cR e29 ?_
 have H:=Hp.refl w0
 obtain⟨ps,hp,hr,ha,h2⟩:=id hl
 have hlen:=h2.len
 refine Rq<|Xa Y<|Xr e29<|J1<|Rq<|Xm Y<|OV (ES Ht Y)<|Xm Y<|Xr e29<|J7<|zV (fun nQ lQ w=>∃ (i:Nat) (y:Int) (B1:Option Addr) (rs:List Rt) (c1:Nat),l.length - i=nQ∧xM (Hy [(1,Ac B1 rs.length c1),(7,Ac A l.length k),(8,Aa (l.length:Int)),(9,Aa y)] 0 29) lQ∧y=(i:Int)∧i≤l.length∧rs=leftR (l.take i) q∧rs.length≤c1∧Sl Nu 4 w0 (fun _=>True) B1 rs∧Hp w0 w [] []) (l.length) ?_ ?_
 exact⟨0,_,B,q,c,Y,(Jg Y Y Y Y Y),Y,Am _,Y,hc,hq.to (by decide) (Hp.refl _) kT (fun _ _ h=>h),Hp.refl _⟩
 rintro nQ lQ w1 ⟨i,y,B1,rs,c1,rfl,hfit,rfl,hi,hrs,hc1,hq1,H1⟩
 obtain⟨j,rfl⟩:=hfit.open
 refine cR e29 ?_
 clear hfit
 refine Rq<|OT (zQ Y Y) (fun hp10=>?_) (fun hp10=>?_)
 have hil:i < l.length:=by omega
 obtain⟨r,hx⟩:=yL hil
 obtain⟨p1,hp1,hR⟩:=h2.get hx
 unfold Nu at hR
 subst hR
 obtain⟨a1,ha1⟩:=hr.some_ (by omega)
 subst ha1
 refine Xr e29<|J1<|J3 Y<|J6<|J1<|J7<|Rq<|OV (EI Ht xA Y Y Y hil Y)<|OV (EN xA Y (vs:=Ar r) Y ((hr.to0 H1).elem hp hp1))<|OA xA H1<|fun w2 g2 H2 hg2=>OS xA H2 0 Y Y Y Y Y (by first|exact NL Y|simp[zJ]) Y<|fun w3 H3=>Xr e29<|J1<|vW yE (by kernel_rfl) ?_
 rintro w4 hw4
 have H4:=Hp.drew H3;rw[← hw4]at H4
 refine SV (zI Y)<|SV (ES Ht Y)<|vB (yS Y Y) (fun Js=>?_) (fun Js=>?_)
 obtain⟨z,rs,rfl⟩:∃ z rs2,rs=z::rs2:=by
  cases rs with
  | nil=>exact absurd Js (by simp)
  | cons z r2=>exact⟨z,r2,rfl⟩
 obtain⟨qs,hqp,hqr,hqa,hq2⟩:=id hq1
 obtain⟨p2,hp2,hR2⟩:=hq2.get (i:=0) (b:=z) rfl
 unfold Nu at hR2
 subst hR2
 obtain⟨a2,ha2⟩:=hqr.some_ (by simp)
 subst ha2
 refine SV (zI Y)<|wX e29<|yI Y<|SV (zI Y)<|yI Y<|SV (EI Ht xA Y Y (len:=(z::rs).length) (i:=0) Y (by simp) Y)<|wX e29<|yI Y<|SV (EN xA Y (vs:=Ar z) Y ((hqr.to0 H4).elem hqp hp2))<|yI Y<|SV (EN xA Y (vs:=Ar r) Y (H4.Ap (i:=0) Y Y))<|wX e29<|yI Y<|SV (mS (r:=z) (q:=r) Y Y)<|SV (xG Y Y)<|xJ<|cR e29<|wU Y (fun hb22=>?_) (fun hb22=>?_)
 have hzr:z=r:=by simpa using hb22
 refine J2<|Xm Y<|OV (vD Ht xA Y Y ⟨by decide,by omega⟩)<|Xa Y<|Xr e29<|zA (zB ?_)
 refine J2<|OV (zL Y Y (Ad _ (by omega)))<|Xm Y<|Xr e29<|zA (zH ?_)
 have htk:=yM hx
 have hls:=mJ (l.take i) r q
 rw[← htk,← hrs]at hls
 exact⟨l.length - (i+1),by omega,i+1,_,_,rs,_,Y,(Jg Y Y Y Y Y),by omega,by omega,by rw[hls];exact(if_pos hzr).symm,by have:=hc1;simp only[Bj]at this;show _≤c1 - 1;omega,hq1.tail hc1,H4.Af⟩
 have hzr:¬z=r:=by simpa using hb22
 refine J6<|zA (zB ?_)
 refine J2<|OV (zL Y Y (Ad _ (by omega)))<|Xm Y<|Xr e29<|zA (zH ?_)
 have htk:=yM hx
 have hls:=mJ (l.take i) r q
 rw[← htk,← hrs]at hls
 exact⟨l.length - (i+1),by omega,i+1,_,_,z::rs,_,Y,(Jg Y Y Y Y Y),by omega,by omega,by rw[hls];exact(if_neg hzr).symm,hc1,hq1,H4.Af⟩
 refine SV (zI Y)<|wX e29<|yU Y<|yU Y<|wX e29<|yU Y<|yU Y<|wX e29<|yU Y<|SV (xV Y Y)<|xJ<|cR e29<|J4 Y<|J6<|zA (zB ?_)
 refine J2<|OV (zL Y Y (Ad _ (by omega)))<|Xm Y<|Xr e29<|zA (zH ?_)
 have htk:=yM hx
 have hls:=mJ (l.take i) r q
 rw[← htk,← hrs]at hls
 exact⟨l.length - (i+1),by omega,i+1,_,_,rs,_,Y,(Jg Y Y Y Y Y),by omega,by omega,by rw[hls,Ee (show rs.length=0 by omega)],hc1,hq1,H4.Af⟩
 obtain rfl:i=l.length:=by omega
 refine Xr e29<|J1<|J4 Y<|J8<|zU<|zS<|Rq<|Xm Y<|OV (ES Ht Y)<|OT (xR Y Y) (fun Rk=>?_) (fun Rk=>?_)
 refine Xa Y<|Xr e29<|J5<|Cm Y Y ?_
 rw[Bz]at hrs
 subst hrs
 exact⟨by rw[decide_eq_true (Ee (by omega))],H1.Af⟩
 refine Xa Y<|Xr e29<|J5<|Cm Y Y ?_
 rw[Bz]at hrs
 subst hrs
 exact⟨by rw[decide_eq_false (fun e=>by rw[e]at Rk;exact Rk Y)],H1.Af⟩
set_option maxHeartbeats 32000000
theorem S1 (b:Bo) (A1:Option Addr) (k1:Nat) (A2:Option Addr) (k2:Nat) (A3:Option Addr) (k3:Nat) (N:Nat) (ok:Nat→Prop) (w0:World) (hb1:Sl (Qz w0 ok) 6 w0 ok A1 b.groups) (hb2:Sl Nu 4 w0 ok A2 b.rights) (hb3:Sl Pv 7 w0 ok A3 b.last) (hg:rE b N) (hN:N≤900000000000) (hnn:b.notes.length≤1200000000000):Aj 40 #[.agg (Bd A1 b k1 A2 k2 A3 k3).toArray] w0 (fun r w'=>∃ A k,r=Ac A b.notes.length k∧Sl (NtR w' (fun x=>w0.heap.size≤x)) 16 w' (fun x=>w0.heap.size≤x) A b.notes∧Hp w0 w' [] []):=by
 refine zG Tryz.func40 Tryz.ntmps40 Y<|cR Ji ?_
 have H:=Hp.refl w0
 refine Rq<|yA Y Y H<|fun w1 gb H1 _=>Xa Y<|Xr Ji<|Rq<|Xa Y<|Xr Ji<|Rq<|OV (EN xT Y (vs:=Bd A1 b k1 A2 k2 A3 k3) Y (H1.Ap (i:=0) Y Y)) ?_
 obtain⟨n1,hn1⟩:∃ n,n=w1.heap.size:=⟨_,rfl⟩
 have hgb:=H1.lt (i:=0) rfl
 have hgb0:=H1.new (i:=0) rfl
 have hsz0:=H1.size
 refine OQ (EC gf46 Y) (FU b A1 k1 A2 k2 A3 k3 N ok _ (hb1.toS H1 k0) (hb2.toR H1 k0) (hb3.toM H1 k0) hg hN) ?_
 rintro _ w2 ⟨_,rfl,⟨B1,j1,B2,j2,B3,j3,rfl,hc1,hc2,hc3⟩,Hd⟩
 have HC:=H1.Au Hd
 obtain⟨n2,hn2⟩:∃ n,n=w2.heap.size:=⟨_,rfl⟩
 have H2:=HC.here
 refine OS xT H2 0 (vs:=Bd B1 b j1 B2 j2 B3 j3) Y Y Y Y Y (Ak 3) Y<|fun w3 H3=>Xr Ji<|J1<|Rq ?_
 have hz8:=hg.eight
 have HSz:=H3.size
 have HS:=HC.all H3
 have hk9:∀ (T:TypeId) (cs:List Value) (x:Nat),n1≤x→x∉bl [((some gb,T,cs):Ent)]:=fun T cs x hx hb=>by
  have:gb=x:=by simpa using XR hb
  omega
 have hd1:=hc1.toS (ok':=(fun x=>n1≤x∧x < n2)) H3 fun x hx hl=>⟨hk9 _ _ x (by omega),by omega,by omega⟩
 have hd2:=hc2.toR (ok':=(fun x=>n1≤x∧x < n2)) H3 fun x hx hl=>⟨hk9 _ _ x (by omega),by omega,by omega⟩
 obtain⟨ps,hp,hr,ha,h2⟩:=id hd1
 obtain⟨pr,hpr,hrr,har,h2r⟩:=id hd2
 obtain⟨a1,rfl⟩:=hr.some_ (by omega)
 replace H3:=HS.here
 have hsS:=HS.size
 have hsS2:n2≤w3.heap.size:=by rw[hn2];exact HSz
 have Ug:∀ x,(fun x=>n1≤x∧x < n2) x→x < w3.heap.size→x∉bl [((some gb,41,Bd (some a1) b j1 B2 j2 B3 j3):Ent)]∧(fun x=>n1≤x∧x < n2) x:=fun x hx _=>⟨hk9 _ _ x hx.1,hx⟩
 refine Xf uO Y<|OV (EL oO Y (H3.cell (i:=0) Y Y))<|OV (ES Ue Y)<|Xm Y<|Xr Ji<|J7<|zV (fun nQ lQ w=>∃ (i:Nat) (y:Int) (g:Option Nat) (cap:Nat) (qs:List (List Value)) (sp:List Value),b.groups.length - i=nQ∧xM (Hy [(1,Ah gb),(3,Ac (hd g) qs.length cap),(15,Ac (some a1) b.groups.length j1),(16,Aa (b.groups.length:Int)),(17,Aa y)] 0 89) lQ∧y=(i:Int)∧i≤b.groups.length∧Gw 16 g cap qs sp∧wC (NtR w3 (fun x=>n1≤x∧x < n2)) qs (gN (b.groups.take i))∧Hp w3 w (bl [((some gb,41,Bd (some a1) b j1 B2 j2 B3 j3):Ent)]) [((some gb,41,Bd (some a1) b j1 B2 j2 B3 j3):Ent),(g,81,qs.flatten++sp)]) (b.groups.length) ?_ ?_
 exact⟨0,_,none,0,[],[],Y,(Oc Y Y Y Y Y Y),Y,Am _,Gw.nil 16,trivial,H3.nil 81⟩
 rintro nQ lQ w4 ⟨i,y,g,cap,qs,sp,rfl,hfit,rfl,hi,hG,hA,H4⟩
 obtain⟨j,rfl⟩:=hfit.open
 refine cR Ji ?_
 clear hfit
 refine Rq<|OT (zQ Y Y) (fun hp18=>?_) (fun hp18=>?_)
 have hil:i < b.groups.length:=by omega
 obtain⟨s,hx⟩:=yL hil
 obtain⟨p1,hp1,hR⟩:=h2.get hx
 obtain⟨D1,e1,D2,e2,D3,e3,rfl,hv,hm,he⟩:=hR
 obtain⟨R,hRr⟩:=VQ hx
 have hnl:b.notes.length=(gN (b.groups.take i)).length+(tP i s).length+s.entries.length+(sB i s).length+s.Bc.length+R.length+b.rights.length:=by
  unfold Bo.notes
  rw[hRr]
  unfold Vd
  simp only[Ae,Bg]
  omega
 obtain⟨vs,hpv,Vh,hav,h2v⟩:=id hv
 obtain⟨en,hpe,hre,hae,h2e⟩:=id he
 have Gi:=hA.len
 try simp only[Ae,Bg,Aw]at Gi
 refine Xr Ji<|J1<|J3 Y<|J6<|J1<|J7<|Rq<|Xm Y<|OV (EI Ue wD Y Y Y hil Y)<|OV (EN wD Y (vs:=Bv s D1 e1 D2 e2 D3 e3) Y (((hr.move (by decide) ha H4 Ug).1).elem hp hp1))<|OA wD H4<|fun w5 g5 H5 _=>Ag Ji<|Xa Y<|OS wD H5 2 (vs:=Bv s D1 e1 D2 e2 D3 e3) Y Y Y Y Y (Ak 6) Y<|fun w6 H6=>Xr Ji<|J1<|Rq<|Xf wT Y<|OV (EL ty3 Y (H6.cell (i:=2) Y Y))<|OT (yR Y Y) (fun hp24=>?_) (fun hp24=>?_)
 have him:tP i s=[ntI i s]:=if_pos hp24
 have hil1:(tP i s).length=1:=by rw[him];rfl
 refine Xr Ji<|J3 Y<|J2<|Xm Y<|Xm Y<|Xf wT Y<|OV (EL ty3 Y (H6.cell (i:=2) Y Y))<|Ag Ji<|Xf uT Y<|OV (EL xO Y (H6.cell (i:=2) Y Y))<|OV (EB wE SR Y Y)<|OV (EB xH oA Y (cs:=Nh i s D2 e2) (by kernel_rfl))<|Ag Ji<|zE Lc xH H6 (cs:=Nh i s D2 e2) Y (by decide) (by kernel_rfl)<|fun w7 gk H7 _=>xB Lc xH (by decide) H7 1 hG Y Y (rs:=[Nh i s D2 e2]) (m:=1) Y Y (H7.rd (i:=3) (o:=some _) (xs:=Nh i s D2 e2) (sp:=[]) Y Y (by decide)) (Pl.one Y) (fun p hp=>by rw[Az.1 hp];rfl) (by omega) (by omega) (by decide)<|fun w8 g cap sp H8 hG=>?_
 obtain⟨qs,Rh⟩:∃ q,q=qs++[Nh i s D2 e2]:=⟨_,rfl⟩
 rw[← Rh]at hG H8 ⊢
 replace hA:wC (NtR w3 (fun x=>n1≤x∧x < n2)) qs (gN (b.groups.take i)++tP i s):=by
  rw[Rh,him]
  exact hA.app (wC.one ⟨none,0,D2,e2,Y,Bs.none _ _,hm⟩)
 clear Rh
 refine Xa Y<|Xr Ji<|J1<|Rq<|Xf xZ Y<|OV (EL uY Y (H8.cell (i:=2) Y Y))<|OV (ES Lr Y)<|Xm Y<|Xr Ji<|J7<|zV (fun nQ lQ w=>∃ (q:Nat) (z:Int) (g:Option Nat) (cap:Nat) (qs:List (List Value)) (sp:List Value),s.entries.length - q=nQ∧xM (Hy [(1,Ah gb),(3,Ac (hd g) qs.length cap),(4,Aa (i:Int)),(5,Ah g5),(15,Ac (some a1) b.groups.length j1),(16,Aa (b.groups.length:Int)),(17,Aa (i:Int)),(36,Ac D3 s.entries.length e3),(37,Aa (s.entries.length:Int)),(38,Aa z)] 0 89) lQ∧z=(q:Int)∧q≤s.entries.length∧Gw 16 g cap qs sp∧wC (NtR w3 (fun x=>n1≤x∧x < n2)) qs (gN (b.groups.take i)++tP i s++(s.entries.take q).map (Um i))∧Hp w3 w (bl [((some gb,41,Bd (some a1) b j1 B2 j2 B3 j3):Ent)]) [((some gb,41,Bd (some a1) b j1 B2 j2 B3 j3):Ent),(g,81,qs.flatten++sp),(some g5,97,Bv s D1 e1 D2 e2 D3 e3)]) (s.entries.length) ?_ ?_
 exact⟨0,_,g,cap,qs,sp,Y,(aT Y Y Y Y Y Y Y Y Y Y Y),Y,Am _,hG,by simpa using hA,H8.pick [0,1,2] (by decide)⟩
 rintro nQ lQ w9 ⟨q,z,g,cap,qs,sp,rfl,hfit,rfl,hqi,hG,hA,H9⟩
 obtain⟨j,rfl⟩:=hfit.open
 refine cR Ji ?_
 clear hfit
 refine Rq<|OT (zQ Y Y) (fun Rj=>?_) (fun Rj=>?_)
 have Py:q < s.entries.length:=by omega
 obtain⟨v,hxv⟩:=yL Py
 obtain⟨pv,hpv1,hRv⟩:=h2e.get hxv
 obtain⟨G1,f1,rfl,hbv⟩:=hRv
 obtain⟨a3,Uy⟩:=hre.some_ (by omega)
 subst Uy
 have Gi:=hA.len
 try simp only[Ae,Bg,Aw]at Gi
 refine Xr Ji<|J1<|J3 Y<|J6<|J1<|J7<|Rq<|OV (EI Lr wE Y Y Y Py Y)<|OV (EN wE Y (vs:=Ez v G1 f1) Y (((hre.move (by decide) hae H9 Ug).1).elem hpe hpv1))<|OA wE H9<|fun w10 g7 Df _=>OS wE Df 3 (vs:=Ez v G1 f1) Y Y Y Y Y (Ak 2) Y<|fun Oa Ei=>Xr Ji<|J2<|Xm Y<|Xm Y<|OV (EN wE Y (vs:=Ez v G1 f1) Y (Ei.Ap (i:=3) Y Y))<|OV (EB xH oA Y (cs:=Iu i v G1 f1) (by kernel_rfl))<|Ag Ji<|zE Lc xH Ei (cs:=Iu i v G1 f1) Y (by decide) (by kernel_rfl)<|fun w12 gk Fj _=>xB Lc xH (by decide) Fj 1 hG Y Y (rs:=[Iu i v G1 f1]) (m:=1) Y Y (Fj.rd (i:=4) (o:=some _) (xs:=Iu i v G1 f1) (sp:=[]) Y Y (by decide)) (Pl.one Y) (fun p hp=>by rw[Az.1 hp];rfl) (by omega) (by omega) (by decide)<|fun Uf g cap sp Ip hG=>Xa Y<|Xr Ji<|zA (zB ?_)
 refine J2<|OV (zL Y Y (Ad _ (by omega)))<|Xm Y<|Xr Ji<|zA (zH ?_)
 exact⟨s.entries.length - (q+1),by omega,q+1,_,g,cap,_,sp,Y,(aT Y Y Y Y Y Y Y Y Y Y Y),by omega,by omega,hG,by rw[yM hxv,Dx,← Bh];exact hA.app (wC.one ⟨none,0,_,_,Y,Bs.none _ _,hbv⟩),Ip.pick [0,1,2] (by decide)⟩
 obtain rfl:q=s.entries.length:=by omega
 rw[Bz]at hA
 refine Xr Ji<|J1<|J4 Y<|J8<|zU<|zS<|J1<|Rq<|Xf vZ Y<|OV (EN vA Y (vs:=Gq s) Y (H9.Ap (i:=2) Y Y))<|OV (EB vA CD Y Y)<|OT (sL Y Y) (fun Ox=>?_) (fun Ox=>?_)
 have hpm:sB i s=[ntP i s.p]:=if_pos Ox
 have hil2:(sB i s).length=1:=by rw[hpm];rfl
 have Gi:=hA.len
 try simp only[Ae,Bg,Aw]at Gi
 refine Xr Ji<|J3 Y<|J2<|Xm Y<|Xm Y<|Xf vZ Y<|OV (EN vA Y (vs:=Gq s) Y (H9.Ap (i:=2) Y Y))<|Ag Ji<|OV (EB xH oA Y (cs:=Hl i s) (by kernel_rfl))<|zE Lc xH H9 (cs:=Hl i s) Y (by decide) (by kernel_rfl)<|fun w10 gk Df _=>xB Lc xH (by decide) Df 1 hG Y Y (rs:=[Hl i s]) (m:=1) Y Y (Df.rd (i:=3) (o:=some _) (xs:=Hl i s) (sp:=[]) Y Y (by decide)) (Pl.one Y) (fun p hp=>by rw[Az.1 hp];rfl) (by omega) (by omega) (by decide)<|fun Oa g cap sp Ei hG=>?_
 obtain⟨qs,Rh⟩:∃ q,q=qs++[Hl i s]:=⟨_,rfl⟩
 rw[← Rh]at hG Ei ⊢
 replace hA:wC (NtR w3 (fun x=>n1≤x∧x < n2)) qs (gN (b.groups.take i)++tP i s++s.entries.map (Um i)++sB i s):=by
  rw[Rh,hpm]
  exact hA.app (wC.one ⟨none,0,none,0,Y,Bs.none _ _,Bs.none _ _⟩)
 clear Rh
 refine Xa Y<|Xr Ji<|Rq<|Xf xW Y<|OV (EL uP Y (Ei.cell (i:=2) Y Y))<|OV (ES Jd Y)<|Xm Y<|Xr Ji<|J7<|zV (fun nQ lQ w=>∃ (q:Nat) (z:Int) (g:Option Nat) (cap:Nat) (qs:List (List Value)) (sp:List Value),s.Bc.length - q=nQ∧xM (Hy [(1,Ah gb),(3,Ac (hd g) qs.length cap),(4,Aa (i:Int)),(5,Ah g5),(15,Ac (some a1) b.groups.length j1),(16,Aa (b.groups.length:Int)),(17,Aa (i:Int)),(61,Ac D1 s.Bc.length e1),(62,Aa (s.Bc.length:Int)),(63,Aa z)] 0 89) lQ∧z=(q:Int)∧q≤s.Bc.length∧Gw 16 g cap qs sp∧wC (NtR w3 (fun x=>n1≤x∧x < n2)) qs (gN (b.groups.take i)++tP i s++s.entries.map (Um i)++sB i s++(s.Bc.take q).map (ntV i))∧Hp w3 w (bl [((some gb,41,Bd (some a1) b j1 B2 j2 B3 j3):Ent)]) [((some gb,41,Bd (some a1) b j1 B2 j2 B3 j3):Ent),(g,81,qs.flatten++sp),(some g5,97,Bv s D1 e1 D2 e2 D3 e3)]) (s.Bc.length) ?_ ?_
 exact⟨0,_,g,cap,qs,sp,Y,(aT Y Y Y Y Y Y Y Y Y Y Y),Y,Am _,hG,by simpa using hA,Ei.pick [0,1,2] (by decide)⟩
 rintro nQ lQ w12 ⟨q,z,g,cap,qs,sp,rfl,hfit,rfl,hqi,hG,hA,Fj⟩
 obtain⟨j,rfl⟩:=hfit.open
 refine cR Ji ?_
 clear hfit
 refine Rq<|OT (zQ Y Y) (fun Wi=>?_) (fun Wi=>?_)
 have Py:q < s.Bc.length:=by omega
 obtain⟨v,hxv⟩:=yL Py
 obtain⟨pv,hpv1,hRv⟩:=h2v.get hxv
 obtain⟨G1,f1,rfl,hbv⟩:=hRv
 obtain⟨a3,Uy⟩:=Vh.some_ (by omega)
 subst Uy
 have Gi:=hA.len
 try simp only[Ae,Bg,Aw]at Gi
 refine Xr Ji<|J1<|J3 Y<|J6<|J1<|J7<|Rq<|OV (EI Jd xE Y Y Y Py Y)<|OV (EN xE Y (vs:=Dl v G1 f1) Y (((Vh.move (by decide) hav Fj Ug).1).elem hpv hpv1))<|OA xE Fj<|fun Uf g7 Ip _=>OS xE Ip 3 (vs:=Dl v G1 f1) Y Y Y Y Y (Ak 4) Y<|fun Vu Ny=>Xr Ji<|J2<|Xm Y<|Xm Y<|OV (EN xE Y (vs:=Dl v G1 f1) Y (Ny.Ap (i:=3) Y Y))<|OV (EB xH oA Y (cs:=Gf i v G1 f1) (by kernel_rfl))<|Ag Ji<|zE Lc xH Ny (cs:=Gf i v G1 f1) Y (by decide) (by kernel_rfl)<|fun YX gk Ph _=>xB Lc xH (by decide) Ph 1 hG Y Y (rs:=[Gf i v G1 f1]) (m:=1) Y Y (Ph.rd (i:=4) (o:=some _) (xs:=Gf i v G1 f1) (sp:=[]) Y Y (by decide)) (Pl.one Y) (fun p hp=>by rw[Az.1 hp];rfl) (by omega) (by omega) (by decide)<|fun w16 g cap sp Qx hG=>Xa Y<|Xr Ji<|zA (zB ?_)
 refine J2<|OV (zL Y Y (Ad _ (by omega)))<|Xm Y<|Xr Ji<|zA (zH ?_)
 exact⟨s.Bc.length - (q+1),by omega,q+1,_,g,cap,_,sp,Y,(aT Y Y Y Y Y Y Y Y Y Y Y),by omega,by omega,hG,by rw[yM hxv,Dx,← Bh];exact hA.app (wC.one ⟨_,_,none,0,Y,hbv,Bs.none _ _⟩),Qx.pick [0,1,2] (by decide)⟩
 obtain rfl:q=s.Bc.length:=by omega
 rw[Bz]at hA
 refine Xr Ji<|J1<|J4 Y<|J8<|zU<|zS<|zA (zB ?_)
 refine J2<|OV (zL Y Y (Ad _ (by omega)))<|Xm Y<|Xr Ji<|zA (zH ?_)
 have hti:(b.groups.take i).length=i:=by rw[Aw];omega
 exact⟨b.groups.length - (i+1),by omega,i+1,_,g,cap,qs,sp,Y,(Oc Y Y Y Y Y Y),by omega,by omega,hG,by rw[yM hx,oG,hti];unfold Vd;simpa only[Bh]using hA,Fj.pick [0,1] (by decide)⟩
 have hpm:sB i s=[]:=if_neg Ox
 replace hA:wC (NtR w3 (fun x=>n1≤x∧x < n2)) qs (gN (b.groups.take i)++tP i s++s.entries.map (Um i)++sB i s):=by rw[hpm,Dt];exact hA
 refine Xr Ji<|J4 Y<|J6 ?_
 have m1:=()
 rotate_left 1
 have him:tP i s=[]:=if_neg hp24
 replace hA:wC (NtR w3 (fun x=>n1≤x∧x < n2)) qs (gN (b.groups.take i)++tP i s):=by rw[him,Dt];exact hA
 refine Xr Ji<|J4 Y<|J6<|J1<|Rq<|Xf xZ Y<|OV (EL uY Y (H6.cell (i:=2) Y Y))<|OV (ES Lr Y)<|Xm Y<|Xr Ji<|J7<|zV (fun nQ lQ w=>∃ (q:Nat) (z:Int) (g:Option Nat) (cap:Nat) (qs:List (List Value)) (sp:List Value),s.entries.length - q=nQ∧xM (Hy [(1,Ah gb),(3,Ac (hd g) qs.length cap),(4,Aa (i:Int)),(5,Ah g5),(15,Ac (some a1) b.groups.length j1),(16,Aa (b.groups.length:Int)),(17,Aa (i:Int)),(36,Ac D3 s.entries.length e3),(37,Aa (s.entries.length:Int)),(38,Aa z)] 0 89) lQ∧z=(q:Int)∧q≤s.entries.length∧Gw 16 g cap qs sp∧wC (NtR w3 (fun x=>n1≤x∧x < n2)) qs (gN (b.groups.take i)++tP i s++(s.entries.take q).map (Um i))∧Hp w3 w (bl [((some gb,41,Bd (some a1) b j1 B2 j2 B3 j3):Ent)]) [((some gb,41,Bd (some a1) b j1 B2 j2 B3 j3):Ent),(g,81,qs.flatten++sp),(some g5,97,Bv s D1 e1 D2 e2 D3 e3)]) (s.entries.length) ?_ ?_
 exact⟨0,_,g,cap,qs,sp,Y,(aT Y Y Y Y Y Y Y Y Y Y Y),Y,Am _,hG,by simpa using hA,H6.pick [0,1,2] (by decide)⟩
 rintro nQ lQ w7 ⟨q,z,g,cap,qs,sp,rfl,hfit,rfl,hqi,hG,hA,H7⟩
 obtain⟨j,rfl⟩:=hfit.open
 refine cR Ji ?_
 clear hfit
 refine Rq<|OT (zQ Y Y) (fun Rj=>?_) (fun Rj=>?_)
 have Py:q < s.entries.length:=by omega
 obtain⟨v,hxv⟩:=yL Py
 obtain⟨pv,hpv1,hRv⟩:=h2e.get hxv
 obtain⟨G1,f1,rfl,hbv⟩:=hRv
 obtain⟨a3,Uy⟩:=hre.some_ (by omega)
 subst Uy
 have Gi:=hA.len
 try simp only[Ae,Bg,Aw]at Gi
 refine Xr Ji<|J1<|J3 Y<|J6<|J1<|J7<|Rq<|OV (EI Lr wE Y Y Y Py Y)<|OV (EN wE Y (vs:=Ez v G1 f1) Y (((hre.move (by decide) hae H7 Ug).1).elem hpe hpv1))<|OA wE H7<|fun w8 g7 H8 _=>OS wE H8 3 (vs:=Ez v G1 f1) Y Y Y Y Y (Ak 2) Y<|fun w9 H9=>Xr Ji<|J2<|Xm Y<|Xm Y<|OV (EN wE Y (vs:=Ez v G1 f1) Y (H9.Ap (i:=3) Y Y))<|OV (EB xH oA Y (cs:=Iu i v G1 f1) (by kernel_rfl))<|Ag Ji<|zE Lc xH H9 (cs:=Iu i v G1 f1) Y (by decide) (by kernel_rfl)<|fun w10 gk Df _=>xB Lc xH (by decide) Df 1 hG Y Y (rs:=[Iu i v G1 f1]) (m:=1) Y Y (Df.rd (i:=4) (o:=some _) (xs:=Iu i v G1 f1) (sp:=[]) Y Y (by decide)) (Pl.one Y) (fun p hp=>by rw[Az.1 hp];rfl) (by omega) (by omega) (by decide)<|fun Oa g cap sp Ei hG=>Xa Y<|Xr Ji<|zA (zB ?_)
 refine J2<|OV (zL Y Y (Ad _ (by omega)))<|Xm Y<|Xr Ji<|zA (zH ?_)
 exact⟨s.entries.length - (q+1),by omega,q+1,_,g,cap,_,sp,Y,(aT Y Y Y Y Y Y Y Y Y Y Y),by omega,by omega,hG,by rw[yM hxv,Dx,← Bh];exact hA.app (wC.one ⟨none,0,_,_,Y,Bs.none _ _,hbv⟩),Ei.pick [0,1,2] (by decide)⟩
 obtain rfl:q=s.entries.length:=by omega
 rw[Bz]at hA
 refine Xr Ji<|J1<|J4 Y<|J8<|zU<|zS<|J1<|Rq<|Xf vZ Y<|OV (EN vA Y (vs:=Gq s) Y (H7.Ap (i:=2) Y Y))<|OV (EB vA CD Y Y)<|OT (sL Y Y) (fun Ox=>?_) (fun Ox=>?_)
 have hpm:sB i s=[ntP i s.p]:=if_pos Ox
 have hil2:(sB i s).length=1:=by rw[hpm];rfl
 have Gi:=hA.len
 try simp only[Ae,Bg,Aw]at Gi
 refine Xr Ji<|J3 Y<|J2<|Xm Y<|Xm Y<|Xf vZ Y<|OV (EN vA Y (vs:=Gq s) Y (H7.Ap (i:=2) Y Y))<|Ag Ji<|OV (EB xH oA Y (cs:=Hl i s) (by kernel_rfl))<|zE Lc xH H7 (cs:=Hl i s) Y (by decide) (by kernel_rfl)<|fun w8 gk H8 _=>xB Lc xH (by decide) H8 1 hG Y Y (rs:=[Hl i s]) (m:=1) Y Y (H8.rd (i:=3) (o:=some _) (xs:=Hl i s) (sp:=[]) Y Y (by decide)) (Pl.one Y) (fun p hp=>by rw[Az.1 hp];rfl) (by omega) (by omega) (by decide)<|fun w9 g cap sp H9 hG=>?_
 obtain⟨qs,Rh⟩:∃ q,q=qs++[Hl i s]:=⟨_,rfl⟩
 rw[← Rh]at hG H9 ⊢
 replace hA:wC (NtR w3 (fun x=>n1≤x∧x < n2)) qs (gN (b.groups.take i)++tP i s++s.entries.map (Um i)++sB i s):=by
  rw[Rh,hpm]
  exact hA.app (wC.one ⟨none,0,none,0,Y,Bs.none _ _,Bs.none _ _⟩)
 clear Rh
 refine Xa Y<|Xr Ji ?_
 have m1:=()
 rotate_left 1
 have hpm:sB i s=[]:=if_neg Ox
 replace hA:wC (NtR w3 (fun x=>n1≤x∧x < n2)) qs (gN (b.groups.take i)++tP i s++s.entries.map (Um i)++sB i s):=by rw[hpm,Dt];exact hA
 refine Xr Ji<|J4 Y<|J6<|Rq<|Xf xW Y<|OV (EL uP Y (H7.cell (i:=2) Y Y))<|OV (ES Jd Y)<|Xm Y<|Xr Ji<|J7<|zV (fun nQ lQ w=>∃ (q:Nat) (z:Int) (g:Option Nat) (cap:Nat) (qs:List (List Value)) (sp:List Value),s.Bc.length - q=nQ∧xM (Hy [(1,Ah gb),(3,Ac (hd g) qs.length cap),(4,Aa (i:Int)),(5,Ah g5),(15,Ac (some a1) b.groups.length j1),(16,Aa (b.groups.length:Int)),(17,Aa (i:Int)),(61,Ac D1 s.Bc.length e1),(62,Aa (s.Bc.length:Int)),(63,Aa z)] 0 89) lQ∧z=(q:Int)∧q≤s.Bc.length∧Gw 16 g cap qs sp∧wC (NtR w3 (fun x=>n1≤x∧x < n2)) qs (gN (b.groups.take i)++tP i s++s.entries.map (Um i)++sB i s++(s.Bc.take q).map (ntV i))∧Hp w3 w (bl [((some gb,41,Bd (some a1) b j1 B2 j2 B3 j3):Ent)]) [((some gb,41,Bd (some a1) b j1 B2 j2 B3 j3):Ent),(g,81,qs.flatten++sp),(some g5,97,Bv s D1 e1 D2 e2 D3 e3)]) (s.Bc.length) ?_ ?_
 exact⟨0,_,g,cap,qs,sp,Y,(aT Y Y Y Y Y Y Y Y Y Y Y),Y,Am _,hG,by simpa using hA,H7.pick [0,1,2] (by decide)⟩
 rintro nQ lQ w8 ⟨q,z,g,cap,qs,sp,rfl,hfit,rfl,hqi,hG,hA,H8⟩
 obtain⟨j,rfl⟩:=hfit.open
 refine cR Ji ?_
 clear hfit
 refine Rq<|OT (zQ Y Y) (fun Wi=>?_) (fun Wi=>?_)
 have Py:q < s.Bc.length:=by omega
 obtain⟨v,hxv⟩:=yL Py
 obtain⟨pv,hpv1,hRv⟩:=h2v.get hxv
 obtain⟨G1,f1,rfl,hbv⟩:=hRv
 obtain⟨a3,Uy⟩:=Vh.some_ (by omega)
 subst Uy
 have Gi:=hA.len
 try simp only[Ae,Bg,Aw]at Gi
 refine Xr Ji<|J1<|J3 Y<|J6<|J1<|J7<|Rq<|OV (EI Jd xE Y Y Y Py Y)<|OV (EN xE Y (vs:=Dl v G1 f1) Y (((Vh.move (by decide) hav H8 Ug).1).elem hpv hpv1))<|OA xE H8<|fun w9 g7 H9 _=>OS xE H9 3 (vs:=Dl v G1 f1) Y Y Y Y Y (Ak 4) Y<|fun w10 Df=>Xr Ji<|J2<|Xm Y<|Xm Y<|OV (EN xE Y (vs:=Dl v G1 f1) Y (Df.Ap (i:=3) Y Y))<|OV (EB xH oA Y (cs:=Gf i v G1 f1) (by kernel_rfl))<|Ag Ji<|zE Lc xH Df (cs:=Gf i v G1 f1) Y (by decide) (by kernel_rfl)<|fun Oa gk Ei _=>xB Lc xH (by decide) Ei 1 hG Y Y (rs:=[Gf i v G1 f1]) (m:=1) Y Y (Ei.rd (i:=4) (o:=some _) (xs:=Gf i v G1 f1) (sp:=[]) Y Y (by decide)) (Pl.one Y) (fun p hp=>by rw[Az.1 hp];rfl) (by omega) (by omega) (by decide)<|fun w12 g cap sp Fj hG=>Xa Y<|Xr Ji<|zA (zB ?_)
 refine J2<|OV (zL Y Y (Ad _ (by omega)))<|Xm Y<|Xr Ji<|zA (zH ?_)
 exact⟨s.Bc.length - (q+1),by omega,q+1,_,g,cap,_,sp,Y,(aT Y Y Y Y Y Y Y Y Y Y Y),by omega,by omega,hG,by rw[yM hxv,Dx,← Bh];exact hA.app (wC.one ⟨_,_,none,0,Y,hbv,Bs.none _ _⟩),Fj.pick [0,1,2] (by decide)⟩
 obtain rfl:q=s.Bc.length:=by omega
 rw[Bz]at hA
 refine Xr Ji<|J1<|J4 Y<|J8<|zU<|zS<|zA (zB ?_)
 refine J2<|OV (zL Y Y (Ad _ (by omega)))<|Xm Y<|Xr Ji<|zA (zH ?_)
 have hti:(b.groups.take i).length=i:=by rw[Aw];omega
 exact⟨b.groups.length - (i+1),by omega,i+1,_,g,cap,qs,sp,Y,(Oc Y Y Y Y Y Y),by omega,by omega,hG,by rw[yM hx,oG,hti];unfold Vd;simpa only[Bh]using hA,H8.pick [0,1] (by decide)⟩
 obtain rfl:i=b.groups.length:=by omega
 rw[Bz]at hA
 refine Xr Ji<|J1<|J4 Y<|J8<|zU<|zS<|J1<|Rq<|Xf sI Y<|OV (EL lF Y (H4.cell (i:=0) Y Y))<|OV (ES Ht Y)<|Xm Y<|Xr Ji<|J7<|zV (fun nQ lQ w=>∃ (q:Nat) (z:Int) (g:Option Nat) (cap:Nat) (qs:List (List Value)) (sp:List Value),b.rights.length - q=nQ∧xM (Hy [(1,Ah gb),(3,Ac (hd g) qs.length cap),(76,Ac B2 b.rights.length j2),(77,Aa (b.rights.length:Int)),(78,Aa z)] 0 89) lQ∧z=(q:Int)∧q≤b.rights.length∧Gw 16 g cap qs sp∧wC (NtR w3 (fun x=>n1≤x∧x < n2)) qs (gN b.groups++(b.rights.take q).map ntF)∧Hp w3 w (bl [((some gb,41,Bd (some a1) b j1 B2 j2 B3 j3):Ent)]) [((some gb,41,Bd (some a1) b j1 B2 j2 B3 j3):Ent),(g,81,qs.flatten++sp)]) (b.rights.length) ?_ ?_
 exact⟨0,_,g,cap,qs,sp,Y,(Oc Y Y Y Y Y Y),Y,Am _,hG,by simpa using hA,H4⟩
 rintro nQ lQ w5 ⟨q,z,g,cap,qs,sp,rfl,hfit,rfl,hqi,hG,hA,H5⟩
 obtain⟨j,rfl⟩:=hfit.open
 refine cR Ji ?_
 clear hfit
 refine Rq<|OT (zQ Y Y) (fun hp79=>?_) (fun hp79=>?_)
 have Py:q < b.rights.length:=by omega
 obtain⟨v,hxv⟩:=yL Py
 obtain⟨pv,hpv1,hRv⟩:=h2r.get hxv
 unfold Nu at hRv
 subst hRv
 obtain⟨a3,Uy⟩:=hrr.some_ (by omega)
 subst Uy
 have hnl:b.notes.length=(gN b.groups).length+b.rights.length:=by unfold Bo.notes;simp only[Ae,Bg]
 have Gi:=hA.len
 try simp only[Ae,Bg,Aw]at Gi
 refine Xr Ji<|J1<|J3 Y<|J6<|J1<|J7<|Rq<|OV (EI Ht xA Y Y Y Py Y)<|OV (EN xA Y (vs:=Ar v) Y (((hrr.move (by decide) har H5 Ug).1).elem hpr hpv1))<|OA xA H5<|fun w6 g7 H6 _=>OS xA H6 2 (vs:=Ar v) Y Y Y Y Y (Ak 4) Y<|fun w7 H7=>Xr Ji<|J2<|Xm Y<|OV (EN xA Y (vs:=Ar v) Y (H7.Ap (i:=2) Y Y))<|OV (EB xH oA Y (cs:=Ns v) (by kernel_rfl))<|zE Lc xH H7 (cs:=Ns v) Y (by decide) (by kernel_rfl)<|fun w8 gk H8 _=>Ag Ji<|xB Lc xH (by decide) H8 1 hG Y Y (rs:=[Ns v]) (m:=1) Y Y (H8.rd (i:=3) (o:=some _) (xs:=Ns v) (sp:=[]) Y Y (by decide)) (Pl.one Y) (fun p hp=>by rw[Az.1 hp];rfl) (by omega) (by omega) (by decide)<|fun w9 g cap sp H9 hG=>Xa Y<|Xr Ji<|zA (zB ?_)
 refine J2<|OV (zL Y Y (Ad _ (by omega)))<|Xm Y<|Xr Ji<|zA (zH ?_)
 exact⟨b.rights.length - (q+1),by omega,q+1,_,g,cap,_,sp,Y,(Oc Y Y Y Y Y Y),by omega,by omega,hG,by rw[yM hxv,Dx,← Bh];exact hA.app (wC.one ⟨none,0,none,0,Y,Bs.none _ _,Bs.none _ _⟩),H9.pick [0,1] (by decide)⟩
 obtain rfl:q=b.rights.length:=by omega
 rw[Bz]at hA
 refine Xr Ji<|J1<|J4 Y<|J8<|zU<|zS<|Rq<|Xm Y<|Xa Y<|Xr Ji<|J5<|Cm Y Y ?_
 have hlq:qs.length=b.notes.length:=hA.len
 have HW:=HS.all H5
 rw[hlq]
 exact⟨hd g,cap,rfl,Sl.row HW (i:=1) rfl hG.2.2.2 (by decide) (hA.imp fun p x h=>NtR.to h H5 fun x hx _=>⟨(Ug x hx (by omega)).1,by omega⟩) (fun k hk=>by subst hk;exact HW.new (i:=1) rfl),HW.Af⟩
 any_goals
  clear m1
  refine Rq<|Xf xW Y<|OV (EL uP Y (H9.cell (i:=2) Y Y))<|OV (ES Jd Y)<|Xm Y<|Xr Ji<|J7<|zV (fun nQ lQ w=>∃ (q:Nat) (z:Int) (g:Option Nat) (cap:Nat) (qs:List (List Value)) (sp:List Value),s.Bc.length - q=nQ∧xM (Hy [(1,Ah gb),(3,Ac (hd g) qs.length cap),(4,Aa (i:Int)),(5,Ah g5),(15,Ac (some a1) b.groups.length j1),(16,Aa (b.groups.length:Int)),(17,Aa (i:Int)),(61,Ac D1 s.Bc.length e1),(62,Aa (s.Bc.length:Int)),(63,Aa z)] 0 89) lQ∧z=(q:Int)∧q≤s.Bc.length∧Gw 16 g cap qs sp∧wC (NtR w3 (fun x=>n1≤x∧x < n2)) qs (gN (b.groups.take i)++tP i s++s.entries.map (Um i)++sB i s++(s.Bc.take q).map (ntV i))∧Hp w3 w (bl [((some gb,41,Bd (some a1) b j1 B2 j2 B3 j3):Ent)]) [((some gb,41,Bd (some a1) b j1 B2 j2 B3 j3):Ent),(g,81,qs.flatten++sp),(some g5,97,Bv s D1 e1 D2 e2 D3 e3)]) (s.Bc.length) ?_ ?_
  exact⟨0,_,g,cap,qs,sp,Y,(aT Y Y Y Y Y Y Y Y Y Y Y),Y,Am _,hG,by simpa using hA,H9.pick [0,1,2] (by decide)⟩
  rintro nQ lQ w10 ⟨q,z,g,cap,qs,sp,rfl,hfit,rfl,hqi,hG,hA,Df⟩
  obtain⟨j,rfl⟩:=hfit.open
  refine cR Ji ?_
  clear hfit
  refine Rq<|OT (zQ Y Y) (fun Wi=>?_) (fun Wi=>?_)
  have Py:q < s.Bc.length:=by omega
  obtain⟨v,hxv⟩:=yL Py
  obtain⟨pv,hpv1,hRv⟩:=h2v.get hxv
  obtain⟨G1,f1,rfl,hbv⟩:=hRv
  obtain⟨a3,Uy⟩:=Vh.some_ (by omega)
  subst Uy
  have Gi:=hA.len
  try simp only[Ae,Bg,Aw]at Gi
  refine Xr Ji<|J1<|J3 Y<|J6<|J1<|J7<|Rq<|OV (EI Jd xE Y Y Y Py Y)<|OV (EN xE Y (vs:=Dl v G1 f1) Y (((Vh.move (by decide) hav Df Ug).1).elem hpv hpv1))<|OA xE Df<|fun Oa g7 Ei _=>OS xE Ei 3 (vs:=Dl v G1 f1) Y Y Y Y Y (Ak 4) Y<|fun w12 Fj=>Xr Ji<|J2<|Xm Y<|Xm Y<|OV (EN xE Y (vs:=Dl v G1 f1) Y (Fj.Ap (i:=3) Y Y))<|OV (EB xH oA Y (cs:=Gf i v G1 f1) (by kernel_rfl))<|Ag Ji<|zE Lc xH Fj (cs:=Gf i v G1 f1) Y (by decide) (by kernel_rfl)<|fun Uf gk Ip _=>xB Lc xH (by decide) Ip 1 hG Y Y (rs:=[Gf i v G1 f1]) (m:=1) Y Y (Ip.rd (i:=4) (o:=some _) (xs:=Gf i v G1 f1) (sp:=[]) Y Y (by decide)) (Pl.one Y) (fun p hp=>by rw[Az.1 hp];rfl) (by omega) (by omega) (by decide)<|fun Vu g cap sp Ny hG=>Xa Y<|Xr Ji<|zA (zB ?_)
  refine J2<|OV (zL Y Y (Ad _ (by omega)))<|Xm Y<|Xr Ji<|zA (zH ?_)
  exact⟨s.Bc.length - (q+1),by omega,q+1,_,g,cap,_,sp,Y,(aT Y Y Y Y Y Y Y Y Y Y Y),by omega,by omega,hG,by rw[yM hxv,Dx,← Bh];exact hA.app (wC.one ⟨_,_,none,0,Y,hbv,Bs.none _ _⟩),Ny.pick [0,1,2] (by decide)⟩
  obtain rfl:q=s.Bc.length:=by omega
  rw[Bz]at hA
  refine Xr Ji<|J1<|J4 Y<|J8<|zU<|zS<|zA (zB ?_)
  refine J2<|OV (zL Y Y (Ad _ (by omega)))<|Xm Y<|Xr Ji<|zA (zH ?_)
  have hti:(b.groups.take i).length=i:=by rw[Aw];omega
  exact⟨b.groups.length - (i+1),by omega,i+1,_,g,cap,qs,sp,Y,(Oc Y Y Y Y Y Y),by omega,by omega,hG,by rw[yM hx,oG,hti];unfold Vd;simpa only[Bh]using hA,Df.pick [0,1] (by decide)⟩
end Go.Proofs.YtjoeklkmnfaabaaGreat
