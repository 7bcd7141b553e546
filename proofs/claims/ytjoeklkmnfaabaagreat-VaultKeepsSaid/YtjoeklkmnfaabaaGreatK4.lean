/-
  Parts of the walk, one behind the other.
-/
import Derived.Test.YtjoeklkmnfaabaaGreatK3
namespace Go.Proofs.YtjoeklkmnfaabaaGreat
open Go Go.RowKit
set_option linter.unusedVariables false
set_option linter.unusedSimpArgs false
attribute [local irreducible] yT Ops zO Cd
set_option maxRecDepth 100000
set_option maxHeartbeats 16000000
theorem T7 (g:Option Nat) (cap i gv n:Nat) (ps:List (List Value)) (hn:ps.length=n) (vs sp:List Value) (w0:World) (H0:Hp w0 w0 (bl [((g,77,ps.flatten++sp):Ent)]) [((g,77,ps.flatten++sp):Ent)]) (hp:Pl 4 ps) (ho:∀ p∈ps,p.all (·.oneCell')=true) (hl:ps.length≤cap) (hcz:cap*4≤(ps.flatten++sp).length) (hg0:g=none→cap=0) (hi:i≤ps.length) (hv:w0.heap[gv]? =some (.cells vs.toArray 77 (0,0))) (hvl:vs.length=4) (Z9:vs.all (·.oneCell')=true) (hgv:gv∉bl [((g,77,ps.flatten++sp):Ent)]) (hb:(ps.length+1)*48≤211106232532992):Aj 166 #[Ac (hd g) n cap,Aa (i:Int),Ac (some ⟨gv,0,none⟩) 1 1] w0 (fun r w'=>∃ g' cap' sp',r=Ac (hd g') (ps.length+1) cap'∧ps.length+1≤cap'∧cap'*4≤((ps.take i++vs::ps.drop i).flatten++sp').length∧(g'=none→cap'=0)∧Hp w0 w' (bl [((g,77,ps.flatten++sp):Ent)]) [((g',77,(ps.take i++vs::ps.drop i).flatten++sp'):Ent)]):=by
 refine zE Tryz.func166 Tryz.ntmps166 Y<|cR Hr ?_
 subst hn
 have H:=H0
 have hrd:=H.rd (i:=0) rfl hp.len (by decide)
 have Pg:=xF ho
 refine Rq<|Xa Y<|Xr Hr<|Rq<|Xm Y<|Xm Y<|OV (vB Jj xC Y Y ⟨by omega,by omega⟩)<|Xr Hr<|Rq<|Xm Y<|OV (ES Jj Y)<|Xa Y<|Xr Hr<|J1<|Rq<|Xm Y<|Jt (yU Y Y) (by decide)<|Xr Hr<|J4 Y<|J6<|Rq<|Xm Y<|OV (ES Jj Y)<|Xa Y<|Xr Hr<|J1<|Rq<|Xm Y<|Xm Y ?_
 refine OT (yU Y Y) (fun Ou=>?_) (fun Ou=>?_)
 obtain rfl:i=ps.length:=by omega
 refine Xr Hr<|J3 Y<|Rq<|Xm Y<|Xm Y ?_
 have Uu:=(⟨by rw[hvl],fun a ha jx u hu=>by cases ha;rw[Ip,Au];exact(by simp[World.cell?,H.keep hv hgv,hu]),fun h=>by cases h⟩:Rd w0 (some ⟨gv,0,none⟩) 1 4 vs)
 refine yX Jj xC (by decide) H 0 (g:=g) (xs:=ps.flatten) (sp:=sp) Y Y hp.len hcz hl hg0 Y Uu Z9 (by omega) (by omega) (by decide)<|fun w1 g2 cap2 sp2 H1 hcz2 hl2 hg2=>Xa Y<|Xr Hr<|J5<|Cj Y Y ?_
 have e1:(ps.take ps.length++vs::ps.drop ps.length).flatten=ps.flatten++vs:=by rw[Cc,List.drop_length];simp
 refine⟨g2,cap2,sp2,Y,hl2,by rw[e1];exact hcz2,hg2,?_⟩
 rw[e1]
 exact H1
 have hil:i < ps.length:=by omega
 obtain⟨gx,rfl⟩:=vO H (i:=0) rfl (by rw[Af,hp.len];have:0 < ps.length*4:=Nat.mul_pos (by omega) (by decide);omega)
 refine Xr Hr<|J4 Y<|J6<|J1<|Rq<|Xm Y<|Xm Y<|OV (zL Y Y (Ad _ (by omega)))<|Xm Y<|Ae Hr<|OV (mR Jj Y)<|OT (yP Y Y) (fun Nv=>?_) (fun Nv=>?_)
 refine Xr Hr<|J3 Y<|Rq<|Xm Y<|Xm Y<|OV (fA Jj xC Y Y Y (by omega))<|Xm Y<|Ae Hr<|Xm Y<|OV (zL Y Y (Ad _ (by omega)))<|Xm Y<|OV (uI Y Y ((Ad _ (by omega)).trans (show((ps.length:Int)+1 - (i:Int))=((ps.length+1 - i:Nat):Int) by omega)))<|Ae Hr<|lO Jj Tryz.underlying3 xC (by decide) H Y (hrd.Zv (by omega) (fun h=>by cases h)) Y (by omega) (by omega) (by omega) (by omega) (by decide)<|fun w1 g2 cap2 sp2 H1 hcz2 hl2=>Xa Y<|Xr Hr<|Rq<|Xm Y<|Xm Y ?_
 have hie:i+(ps.length+1 - i)=ps.length+1:=by omega
 have hrow2:(ps.flatten.take (i*4)++initL [Aa 0,Aa 0,Aa 0,Dj] (ps.length+1 - i)).length=(ps.length+1)*4:=by
  rw[Af,Aw,hp.len,wR,Ii (Dp _ (by omega))]
  show i*4+(ps.length+1 - i)*4=_
  rw[← Du,hie]
 have hlv:(i+1)*4≤(ps.length+1)*4:=Dp _ (by omega)
 have Uu:=(⟨by rw[hvl],fun a ha jx u hu=>by cases ha;rw[Ip,Au];exact(by simp[World.cell?,H1.keep hv hgv,hu]),fun h=>by cases h⟩:Rd w1 (some ⟨gv,0,none⟩) 1 4 vs)
 refine OV (tU Jj xC Y Y Y (by omega) (by omega))<|Xm Y<|Ae Hr<|uK Jj xC H1 1 (o:=0+i*4) (vs:=vs) (by first | rfl | (rw[← Ip];rfl)) Y Y (by rw[hvl];show 4=Nat.min 1 (i+(ps.length+1 - i) - i)*4;rw[gK];omega) (fun jx u hu=>Uu.cells _ Y jx u hu) (by rw[Af,hrow2,hvl];omega) Z9<|fun w2 H2=>Xr Hr<|J1<|zQ 8 [(true,0),(true,1),(true,2),(true,3),(true,4),(true,5),(true,6),(true,7),(false,8)] H2 [0,1] yF (by decide) (by kernel_rfl) ?_
 rintro w3 hw3
 have H3:=Hp.drew H2;rw[← hw3]at H3
 refine Zm Y Y<|Zm Y Y<|Zm Y Y<|MP Y<|MV (fun wz hz=>zL Y Y (Ad _ (by omega)))<|cZ Hr<|MP Y<|MV (fun wz hz=>tU Jj xC Y Y (i:=i+1) (by omega) (by omega) (by omega))<|Zm Y Y<|Zm Y Y<|MP Y<|MV (fun wz hz=>tU Jj xC Y Y Y (by omega) (by omega))<|cZ Hr<|MO Y ?_
 have hdl:(ps.flatten.drop (i*4)).length=(ps.length - i)*4:=by rw[Bh,hp.len,← Lj]
 refine uK Jj xC H3 1 (o:=0+(i+1)*4) (vs:=ps.flatten.drop (i*4)) (by first | rfl | (rw[← Ip];rfl)) Y Y (by rw[hdl];show _=Nat.min (ps.length - i) (i+(ps.length+1 - i) - (i+1))*4;rw[gK];omega) (fun jx u hu=>by
  rw[tV,Ip,Au]
  exact H3.cell (i:=0) Y (by rw[Di (by have:=lt_of_get hu;rw[Bh]at this;omega)];rwa [Em]at hu)) (by rw[vK (by rw[Af,hrow2,hvl];omega),Af,hrow2,hdl,Au,← Du,show i+1+(ps.length - i)=ps.length+1 by omega];omega) (by rw[Ew]at Pg ⊢;exact fun x hx=>Pg x (Ep hx)) ?_
 intro w4 H4
 refine OE ?_
 refine⟨fun hne=>absurd Y hne,?_⟩
 refine cZ Hr<|ME<|cR Hr<|Rq<|Xm Y<|Xa Y<|Xr Hr<|J5<|Cj Y Y ?_
 have HZ:=H4.pick [1] (by decide)
 change Hp _ _ _ [((some g2,77,zG (zG _ (0+i*4) _) (0+(i+1)*4) _):Ent)]at HZ
 rw[Au,Au,CP (sp:=sp2) hp rfl (by omega) hvl (by rw[wR];rfl) rfl]at HZ
 refine⟨some g2,cap2,sp2,by rw[hie],by omega,?_,(fun h=>by cases h),HZ⟩
 rw[Af]at hcz2 ⊢
 rw[hrow2]at hcz2
 have hp2:Pl 4 (ps.take i++vs::ps.drop i):=(hp.sub fun x hx=>Fa hx).app fun x hx=>by
  rcases Cm.1 hx with rfl | hx
  · exact hvl
  exact hp x (Ep hx)
 rw[hp2.len]
 have:(ps.take i++vs::ps.drop i).length=ps.length+1:=by rw[Af,Bg,Aw,Bh];omega
 rw[this];exact hcz2
 refine Xr Hr<|J4 Y<|J6<|Rq<|Xm Y<|Xm Y<|Xm Y<|OV (zL Y Y (Ad _ (by omega)))<|Ae Hr ?_
 have Zd:4≤sp.length:=by
  rw[Af,hp.len]at hcz
  have:(ps.length+1)*4≤cap*4:=Dp _ (by omega)
  omega
 refine OV (fA Jj xC Y Y (i:=ps.length+1) (by omega) (by omega))<|Xa Y<|Xr Hr<|J1<|Rq<|Xm Y<|Xm Y<|Xm Y<|Xm Y<|Ae Hr<|OV (zL Y Y (Ad _ (by omega)))<|OV (tU Jj xC Y Y (i:=i+1) (by omega) (by omega) (by omega)) ?_
 have Vj:=H.keep hv hgv
 have Zq:=H.at (i:=0) rfl
 have hne:gv≠gx:=fun h=>hgv (by rw[h];simp[bl])
 refine mC (fn:=(Tryz.prog.funcs[192]?).get!) (e:=Extern.SlicesOverlaps.overlaps #[94,94] #[4]) (v:=.bool false) (by kernel_rfl) (by kernel_rfl) (by kernel_rfl) (by kernel_rfl) (by kernel_rfl) Y (Lib.run_overlaps_apart w0 94 4 77 Jj 4 (fun w=>vH xC) ⟨gv,0,none⟩ _ 1 1 _ _ (by rw[Ip];exact hne) 77 77 4 _ (by simp[World.shape?,Vj];exact hvl) (by rw[Ip];simp only[World.shape?,Zq];rfl) (by simp only[Hu,Af];omega) (by simp[World.frozen?,Vj]) (by simp[World.frozen?,Vj]))<|Xn Y<|Xr Hr<|J3 Y<|J1<|zQ 8 [(true,0),(true,1),(true,2),(true,3),(true,4),(true,5),(true,6),(true,7),(false,8)] H [0] yF (by decide) (by kernel_rfl) ?_
 rintro w1 hw1
 have H1:=Hp.drew H;rw[← hw1]at H1
 refine Zm Y Y<|Zm Y Y<|Zm Y Y<|MP Y<|MV (fun wz hz=>zL Y Y (Ad _ (by omega)))<|cZ Hr<|MP Y<|MV (fun wz hz=>tU Jj xC Y Y (i:=i+1) (by omega) (by omega) (by omega))<|Zm Y Y<|Zm Y Y<|MP Y<|MV (fun wz hz=>tU Jj xC Y Y Y (by omega) (by omega))<|cZ Hr<|MO Y ?_
 have hdl:(ps.flatten.drop (i*4)).length=(ps.length - i)*4:=by rw[Bh,hp.len,← Lj]
 have hlv:(i+1)*4+(ps.length - i)*4=(ps.length+1)*4:=by rw[← Du,show i+1+(ps.length - i)=ps.length+1 by omega]
 have hlw:(ps.length+1)*4=ps.length*4+4:=by omega
 refine uK Jj xC H1 0 (o:=0+(i+1)*4) (vs:=ps.flatten.drop (i*4)) (by first | rfl | (rw[← Ip];rfl)) Y Y (by rw[hdl];show _=Nat.min (ps.length+1 - i) (ps.length+1 - (i+1))*4;rw[show Nat.min (ps.length+1 - i) (ps.length+1 - (i+1))=ps.length - i from(by show min _ _=_;omega)]) (fun jx u hu=>by
  rw[tV,Ip,Au]
  exact H1.cell (i:=0) Y (by rw[Di (by have:=lt_of_get hu;rw[Bh]at this;omega)];rwa [Em]at hu)) (by rw[Af,hp.len,hdl];omega) (by rw[Ew]at Pg ⊢;exact fun x hx=>Pg x (Ep hx)) ?_
 intro w2 H2
 refine OE ?_
 refine⟨fun hne=>absurd Y hne,?_⟩
 refine cZ Hr<|ME<|cR Hr<|Rq<|Xm Y<|Xm Y<|OV (tU Jj xC Y Y Y (by omega) (by omega))<|Xm Y<|Ae Hr ?_
 have Uu:=(⟨by rw[hvl],fun a ha jx u hu=>by cases ha;rw[Ip,Au];exact(by simp[World.cell?,H2.keep hv hgv,hu]),fun h=>by cases h⟩:Rd w2 (some ⟨gv,0,none⟩) 1 4 vs)
 refine uK Jj xC H2 0 (o:=0+i*4) (vs:=vs) (by first | rfl | (rw[← Ip];rfl)) Y Y (by rw[hvl];show 4=Nat.min 1 (ps.length+1 - i)*4;rw[gK];omega) (fun jx u hu=>Uu.cells _ Y jx u hu) (by rw[vK (by rw[Af,hp.len,hdl];omega),Af,hp.len,hvl];have:i*4≤ps.length*4:=Dp _ (by omega);omega) Z9<|fun w3 H3=>Xr Hr<|Rq<|Xm Y<|Xa Y<|Xr Hr<|J5<|Cj Y Y ?_
 have HZ:=H3
 change Hp _ _ _ [((some gx,77,zG (zG _ (0+(i+1)*4) _) (0+i*4) _):Ent)]at HZ
 rw[Au,Au,G2 hp rfl (by omega) hvl Zd]at HZ
 have hp2:Pl 4 (ps.take i++vs::ps.drop i):=(hp.sub fun x hx=>Fa hx).app fun x hx=>by
  rcases Cm.1 hx with rfl | hx
  · exact hvl
  exact hp x (Ep hx)
 have hl3:(ps.take i++vs::ps.drop i).length=ps.length+1:=by rw[Af,Bg,Aw,Bh];omega
 refine⟨some gx,cap,sp.drop 4,Y,by omega,?_,(fun h=>by cases h),HZ⟩
 rw[Af,hp.len]at hcz
 rw[Af,hp2.len,hl3,Bh]
 omega
theorem T8 (g:Option Nat) (cap i gv n:Nat) (ps:List (List Value)) (hn:ps.length=n) (vs sp:List Value) (w0:World) (H0:Hp w0 w0 (bl [((g,35,ps.flatten++sp):Ent)]) [((g,35,ps.flatten++sp):Ent)]) (hp:Pl 4 ps) (ho:∀ p∈ps,p.all (·.oneCell')=true) (hl:ps.length≤cap) (hcz:cap*4≤(ps.flatten++sp).length) (hg0:g=none→cap=0) (hi:i≤ps.length) (hv:w0.heap[gv]? =some (.cells vs.toArray 35 (0,0))) (hvl:vs.length=4) (Z9:vs.all (·.oneCell')=true) (hgv:gv∉bl [((g,35,ps.flatten++sp):Ent)]) (hb:(ps.length+1)*40≤211106232532992):Aj 156 #[Ac (hd g) n cap,Aa (i:Int),Ac (some ⟨gv,0,none⟩) 1 1] w0 (fun r w'=>∃ g' cap' sp',r=Ac (hd g') (ps.length+1) cap'∧ps.length+1≤cap'∧cap'*4≤((ps.take i++vs::ps.drop i).flatten++sp').length∧(g'=none→cap'=0)∧Hp w0 w' (bl [((g,35,ps.flatten++sp):Ent)]) [((g',35,(ps.take i++vs::ps.drop i).flatten++sp'):Ent)]):=by
 refine zE Tryz.func156 Tryz.ntmps156 Y<|cR Hr ?_
 subst hn
 have H:=H0
 have hrd:=H.rd (i:=0) rfl hp.len (by decide)
 have Pg:=xF ho
 refine Rq<|Xa Y<|Xr Hr<|Rq<|Xm Y<|Xm Y<|OV (vB Kv xR Y Y ⟨by omega,by omega⟩)<|Xr Hr<|Rq<|Xm Y<|OV (ES Kv Y)<|Xa Y<|Xr Hr<|J1<|Rq<|Xm Y<|Jt (yU Y Y) (by decide)<|Xr Hr<|J4 Y<|J6<|Rq<|Xm Y<|OV (ES Kv Y)<|Xa Y<|Xr Hr<|J1<|Rq<|Xm Y<|Xm Y ?_
 refine OT (yU Y Y) (fun Ou=>?_) (fun Ou=>?_)
 obtain rfl:i=ps.length:=by omega
 refine Xr Hr<|J3 Y<|Rq<|Xm Y<|Xm Y ?_
 have Uu:=(⟨by rw[hvl],fun a ha jx u hu=>by cases ha;rw[Ip,Au];exact(by simp[World.cell?,H.keep hv hgv,hu]),fun h=>by cases h⟩:Rd w0 (some ⟨gv,0,none⟩) 1 4 vs)
 refine yX Kv xR (by decide) H 0 (g:=g) (xs:=ps.flatten) (sp:=sp) Y Y hp.len hcz hl hg0 Y Uu Z9 (by omega) (by omega) (by decide)<|fun w1 g2 cap2 sp2 H1 hcz2 hl2 hg2=>Xa Y<|Xr Hr<|J5<|Cj Y Y ?_
 have e1:(ps.take ps.length++vs::ps.drop ps.length).flatten=ps.flatten++vs:=by rw[Cc,List.drop_length];simp
 refine⟨g2,cap2,sp2,Y,hl2,by rw[e1];exact hcz2,hg2,?_⟩
 rw[e1]
 exact H1
 have hil:i < ps.length:=by omega
 obtain⟨gx,rfl⟩:=vO H (i:=0) rfl (by rw[Af,hp.len];have:0 < ps.length*4:=Nat.mul_pos (by omega) (by decide);omega)
 refine Xr Hr<|J4 Y<|J6<|J1<|Rq<|Xm Y<|Xm Y<|OV (zL Y Y (Ad _ (by omega)))<|Xm Y<|Ae Hr<|OV (mR Kv Y)<|OT (yP Y Y) (fun Nv=>?_) (fun Nv=>?_)
 refine Xr Hr<|J3 Y<|Rq<|Xm Y<|Xm Y<|OV (fA Kv xR Y Y Y (by omega))<|Xm Y<|Ae Hr<|Xm Y<|OV (zL Y Y (Ad _ (by omega)))<|Xm Y<|OV (uI Y Y ((Ad _ (by omega)).trans (show((ps.length:Int)+1 - (i:Int))=((ps.length+1 - i:Nat):Int) by omega)))<|Ae Hr<|lO Kv Tryz.underlying3 xR (by decide) H Y (hrd.Zv (by omega) (fun h=>by cases h)) Y (by omega) (by omega) (by omega) (by omega) (by decide)<|fun w1 g2 cap2 sp2 H1 hcz2 hl2=>Xa Y<|Xr Hr<|Rq<|Xm Y<|Xm Y ?_
 have hie:i+(ps.length+1 - i)=ps.length+1:=by omega
 have hrow2:(ps.flatten.take (i*4)++initL [Aa 0,.string .empty,Aa 0,Aa 0] (ps.length+1 - i)).length=(ps.length+1)*4:=by
  rw[Af,Aw,hp.len,wR,Ii (Dp _ (by omega))]
  show i*4+(ps.length+1 - i)*4=_
  rw[← Du,hie]
 have hlv:(i+1)*4≤(ps.length+1)*4:=Dp _ (by omega)
 have Uu:=(⟨by rw[hvl],fun a ha jx u hu=>by cases ha;rw[Ip,Au];exact(by simp[World.cell?,H1.keep hv hgv,hu]),fun h=>by cases h⟩:Rd w1 (some ⟨gv,0,none⟩) 1 4 vs)
 refine OV (tU Kv xR Y Y Y (by omega) (by omega))<|Xm Y<|Ae Hr<|uK Kv xR H1 1 (o:=0+i*4) (vs:=vs) (by first | rfl | (rw[← Ip];rfl)) Y Y (by rw[hvl];show 4=Nat.min 1 (i+(ps.length+1 - i) - i)*4;rw[gK];omega) (fun jx u hu=>Uu.cells _ Y jx u hu) (by rw[Af,hrow2,hvl];omega) Z9<|fun w2 H2=>Xr Hr<|J1<|zQ 8 [(true,0),(true,1),(true,2),(true,3),(true,4),(true,5),(true,6),(true,7),(false,8)] H2 [0,1] yF (by decide) (by kernel_rfl) ?_
 rintro w3 hw3
 have H3:=Hp.drew H2;rw[← hw3]at H3
 refine Zm Y Y<|Zm Y Y<|Zm Y Y<|MP Y<|MV (fun wz hz=>zL Y Y (Ad _ (by omega)))<|cZ Hr<|MP Y<|MV (fun wz hz=>tU Kv xR Y Y (i:=i+1) (by omega) (by omega) (by omega))<|Zm Y Y<|Zm Y Y<|MP Y<|MV (fun wz hz=>tU Kv xR Y Y Y (by omega) (by omega))<|cZ Hr<|MO Y ?_
 have hdl:(ps.flatten.drop (i*4)).length=(ps.length - i)*4:=by rw[Bh,hp.len,← Lj]
 refine uK Kv xR H3 1 (o:=0+(i+1)*4) (vs:=ps.flatten.drop (i*4)) (by first | rfl | (rw[← Ip];rfl)) Y Y (by rw[hdl];show _=Nat.min (ps.length - i) (i+(ps.length+1 - i) - (i+1))*4;rw[gK];omega) (fun jx u hu=>by
  rw[tV,Ip,Au]
  exact H3.cell (i:=0) Y (by rw[Di (by have:=lt_of_get hu;rw[Bh]at this;omega)];rwa [Em]at hu)) (by rw[vK (by rw[Af,hrow2,hvl];omega),Af,hrow2,hdl,Au,← Du,show i+1+(ps.length - i)=ps.length+1 by omega];omega) (by rw[Ew]at Pg ⊢;exact fun x hx=>Pg x (Ep hx)) ?_
 intro w4 H4
 refine OE ?_
 refine⟨fun hne=>absurd Y hne,?_⟩
 refine cZ Hr<|ME<|cR Hr<|Rq<|Xm Y<|Xa Y<|Xr Hr<|J5<|Cj Y Y ?_
 have HZ:=H4.pick [1] (by decide)
 change Hp _ _ _ [((some g2,35,zG (zG _ (0+i*4) _) (0+(i+1)*4) _):Ent)]at HZ
 rw[Au,Au,CP (sp:=sp2) hp rfl (by omega) hvl (by rw[wR];rfl) rfl]at HZ
 refine⟨some g2,cap2,sp2,by rw[hie],by omega,?_,(fun h=>by cases h),HZ⟩
 rw[Af]at hcz2 ⊢
 rw[hrow2]at hcz2
 have hp2:Pl 4 (ps.take i++vs::ps.drop i):=(hp.sub fun x hx=>Fa hx).app fun x hx=>by
  rcases Cm.1 hx with rfl | hx
  · exact hvl
  exact hp x (Ep hx)
 rw[hp2.len]
 have:(ps.take i++vs::ps.drop i).length=ps.length+1:=by rw[Af,Bg,Aw,Bh];omega
 rw[this];exact hcz2
 refine Xr Hr<|J4 Y<|J6<|Rq<|Xm Y<|Xm Y<|Xm Y<|OV (zL Y Y (Ad _ (by omega)))<|Ae Hr ?_
 have Zd:4≤sp.length:=by
  rw[Af,hp.len]at hcz
  have:(ps.length+1)*4≤cap*4:=Dp _ (by omega)
  omega
 refine OV (fA Kv xR Y Y (i:=ps.length+1) (by omega) (by omega))<|Xa Y<|Xr Hr<|J1<|Rq<|Xm Y<|Xm Y<|Xm Y<|Xm Y<|Ae Hr<|OV (zL Y Y (Ad _ (by omega)))<|OV (tU Kv xR Y Y (i:=i+1) (by omega) (by omega) (by omega)) ?_
 have Vj:=H.keep hv hgv
 have Zq:=H.at (i:=0) rfl
 have hne:gv≠gx:=fun h=>hgv (by rw[h];simp[bl])
 refine mC (fn:=(Tryz.prog.funcs[187]?).get!) (e:=Extern.SlicesOverlaps.overlaps #[38,38] #[4]) (v:=.bool false) (by kernel_rfl) (by kernel_rfl) (by kernel_rfl) (by kernel_rfl) (by kernel_rfl) Y (Lib.run_overlaps_apart w0 38 4 35 Kv 4 (fun w=>vH xR) ⟨gv,0,none⟩ _ 1 1 _ _ (by rw[Ip];exact hne) 35 35 4 _ (by simp[World.shape?,Vj];exact hvl) (by rw[Ip];simp only[World.shape?,Zq];rfl) (by simp only[Hu,Af];omega) (by simp[World.frozen?,Vj]) (by simp[World.frozen?,Vj]))<|Xn Y<|Xr Hr<|J3 Y<|J1<|zQ 8 [(true,0),(true,1),(true,2),(true,3),(true,4),(true,5),(true,6),(true,7),(false,8)] H [0] yF (by decide) (by kernel_rfl) ?_
 rintro w1 hw1
 have H1:=Hp.drew H;rw[← hw1]at H1
 refine Zm Y Y<|Zm Y Y<|Zm Y Y<|MP Y<|MV (fun wz hz=>zL Y Y (Ad _ (by omega)))<|cZ Hr<|MP Y<|MV (fun wz hz=>tU Kv xR Y Y (i:=i+1) (by omega) (by omega) (by omega))<|Zm Y Y<|Zm Y Y<|MP Y<|MV (fun wz hz=>tU Kv xR Y Y Y (by omega) (by omega))<|cZ Hr<|MO Y ?_
 have hdl:(ps.flatten.drop (i*4)).length=(ps.length - i)*4:=by rw[Bh,hp.len,← Lj]
 have hlv:(i+1)*4+(ps.length - i)*4=(ps.length+1)*4:=by rw[← Du,show i+1+(ps.length - i)=ps.length+1 by omega]
 have hlw:(ps.length+1)*4=ps.length*4+4:=by omega
 refine uK Kv xR H1 0 (o:=0+(i+1)*4) (vs:=ps.flatten.drop (i*4)) (by first | rfl | (rw[← Ip];rfl)) Y Y (by rw[hdl];show _=Nat.min (ps.length+1 - i) (ps.length+1 - (i+1))*4;rw[show Nat.min (ps.length+1 - i) (ps.length+1 - (i+1))=ps.length - i from(by show min _ _=_;omega)]) (fun jx u hu=>by
  rw[tV,Ip,Au]
  exact H1.cell (i:=0) Y (by rw[Di (by have:=lt_of_get hu;rw[Bh]at this;omega)];rwa [Em]at hu)) (by rw[Af,hp.len,hdl];omega) (by rw[Ew]at Pg ⊢;exact fun x hx=>Pg x (Ep hx)) ?_
 intro w2 H2
 refine OE ?_
 refine⟨fun hne=>absurd Y hne,?_⟩
 refine cZ Hr<|ME<|cR Hr<|Rq<|Xm Y<|Xm Y<|OV (tU Kv xR Y Y Y (by omega) (by omega))<|Xm Y<|Ae Hr ?_
 have Uu:=(⟨by rw[hvl],fun a ha jx u hu=>by cases ha;rw[Ip,Au];exact(by simp[World.cell?,H2.keep hv hgv,hu]),fun h=>by cases h⟩:Rd w2 (some ⟨gv,0,none⟩) 1 4 vs)
 refine uK Kv xR H2 0 (o:=0+i*4) (vs:=vs) (by first | rfl | (rw[← Ip];rfl)) Y Y (by rw[hvl];show 4=Nat.min 1 (ps.length+1 - i)*4;rw[gK];omega) (fun jx u hu=>Uu.cells _ Y jx u hu) (by rw[vK (by rw[Af,hp.len,hdl];omega),Af,hp.len,hvl];have:i*4≤ps.length*4:=Dp _ (by omega);omega) Z9<|fun w3 H3=>Xr Hr<|Rq<|Xm Y<|Xa Y<|Xr Hr<|J5<|Cj Y Y ?_
 have HZ:=H3
 change Hp _ _ _ [((some gx,35,zG (zG _ (0+(i+1)*4) _) (0+i*4) _):Ent)]at HZ
 rw[Au,Au,G2 hp rfl (by omega) hvl Zd]at HZ
 have hp2:Pl 4 (ps.take i++vs::ps.drop i):=(hp.sub fun x hx=>Fa hx).app fun x hx=>by
  rcases Cm.1 hx with rfl | hx
  · exact hvl
  exact hp x (Ep hx)
 have hl3:(ps.take i++vs::ps.drop i).length=ps.length+1:=by rw[Af,Bg,Aw,Bh];omega
 refine⟨some gx,cap,sp.drop 4,Y,by omega,?_,(fun h=>by cases h),HZ⟩
 rw[Af,hp.len]at hcz
 rw[Af,hp2.len,hl3,Bh]
 omega
theorem dV (g:Option Nat) (cap i gv n:Nat) (ps:List (List Value)) (hn:ps.length=n) (vs sp:List Value) (w0:World) (H0:Hp w0 w0 (bl [((g,110,ps.flatten++sp):Ent)]) [((g,110,ps.flatten++sp):Ent)]) (hp:Pl 7 ps) (ho:∀ p∈ps,p.all (·.oneCell')=true) (hl:ps.length≤cap) (hcz:cap*7≤(ps.flatten++sp).length) (hg0:g=none→cap=0) (hi:i≤ps.length) (hv:w0.heap[gv]? =some (.cells vs.toArray 110 (0,0))) (hvl:vs.length=7) (Z9:vs.all (·.oneCell')=true) (hgv:gv∉bl [((g,110,ps.flatten++sp):Ent)]) (hb:(ps.length+1)*56≤211106232532992):Aj 115 #[Ac (hd g) n cap,Aa (i:Int),Ac (some ⟨gv,0,none⟩) 1 1] w0 (fun r w'=>∃ g' cap' sp',r=Ac (hd g') (ps.length+1) cap'∧ps.length+1≤cap'∧cap'*7≤((ps.take i++vs::ps.drop i).flatten++sp').length∧(g'=none→cap'=0)∧Hp w0 w' (bl [((g,110,ps.flatten++sp):Ent)]) [((g',110,(ps.take i++vs::ps.drop i).flatten++sp'):Ent)]):=by
 refine zE Tryz.func115 Tryz.ntmps115 Y<|cR Hr ?_
 subst hn
 have H:=H0
 have hrd:=H.rd (i:=0) rfl hp.len (by decide)
 have Pg:=xF ho
 refine Rq<|Xa Y<|Xr Hr<|Rq<|Xm Y<|Xm Y<|OV (vB La yQ Y Y ⟨by omega,by omega⟩)<|Xr Hr<|Rq<|Xm Y<|OV (ES La Y)<|Xa Y<|Xr Hr<|J1<|Rq<|Xm Y<|Jt (yU Y Y) (by decide)<|Xr Hr<|J4 Y<|J6<|Rq<|Xm Y<|OV (ES La Y)<|Xa Y<|Xr Hr<|J1<|Rq<|Xm Y<|Xm Y ?_
 refine OT (yU Y Y) (fun Ou=>?_) (fun Ou=>?_)
 obtain rfl:i=ps.length:=by omega
 refine Xr Hr<|J3 Y<|Rq<|Xm Y<|Xm Y ?_
 have Uu:=(⟨by rw[hvl],fun a ha jx u hu=>by cases ha;rw[Ip,Au];exact(by simp[World.cell?,H.keep hv hgv,hu]),fun h=>by cases h⟩:Rd w0 (some ⟨gv,0,none⟩) 1 7 vs)
 refine yX La yQ (by decide) H 0 (g:=g) (xs:=ps.flatten) (sp:=sp) Y Y hp.len hcz hl hg0 Y Uu Z9 (by omega) (by omega) (by decide)<|fun w1 g2 cap2 sp2 H1 hcz2 hl2 hg2=>Xa Y<|Xr Hr<|J5<|Cj Y Y ?_
 have e1:(ps.take ps.length++vs::ps.drop ps.length).flatten=ps.flatten++vs:=by rw[Cc,List.drop_length];simp
 refine⟨g2,cap2,sp2,Y,hl2,by rw[e1];exact hcz2,hg2,?_⟩
 rw[e1]
 exact H1
 have hil:i < ps.length:=by omega
 obtain⟨gx,rfl⟩:=vO H (i:=0) rfl (by rw[Af,hp.len];have:0 < ps.length*7:=Nat.mul_pos (by omega) (by decide);omega)
 refine Xr Hr<|J4 Y<|J6<|J1<|Rq<|Xm Y<|Xm Y<|OV (zL Y Y (Ad _ (by omega)))<|Xm Y<|Ae Hr<|OV (mR La Y)<|OT (yP Y Y) (fun Nv=>?_) (fun Nv=>?_)
 refine Xr Hr<|J3 Y<|Rq<|Xm Y<|Xm Y<|OV (fA La yQ Y Y Y (by omega))<|Xm Y<|Ae Hr<|Xm Y<|OV (zL Y Y (Ad _ (by omega)))<|Xm Y<|OV (uI Y Y ((Ad _ (by omega)).trans (show((ps.length:Int)+1 - (i:Int))=((ps.length+1 - i:Nat):Int) by omega)))<|Ae Hr<|lO La Tryz.underlying3 yQ (by decide) H Y (hrd.Zv (by omega) (fun h=>by cases h)) Y (by omega) (by omega) (by omega) (by omega) (by decide)<|fun w1 g2 cap2 sp2 H1 hcz2 hl2=>Xa Y<|Xr Hr<|Rq<|Xm Y<|Xm Y ?_
 have hie:i+(ps.length+1 - i)=ps.length+1:=by omega
 have hrow2:(ps.flatten.take (i*7)++initL Tv (ps.length+1 - i)).length=(ps.length+1)*7:=by
  rw[Af,Aw,hp.len,wR,Ii (Dp _ (by omega))]
  show i*7+(ps.length+1 - i)*7=_
  rw[← Du,hie]
 have hlv:(i+1)*7≤(ps.length+1)*7:=Dp _ (by omega)
 have Uu:=(⟨by rw[hvl],fun a ha jx u hu=>by cases ha;rw[Ip,Au];exact(by simp[World.cell?,H1.keep hv hgv,hu]),fun h=>by cases h⟩:Rd w1 (some ⟨gv,0,none⟩) 1 7 vs)
 refine OV (tU La yQ Y Y Y (by omega) (by omega))<|Xm Y<|Ae Hr<|uK La yQ H1 1 (o:=0+i*7) (vs:=vs) (by first | rfl | (rw[← Ip];rfl)) Y Y (by rw[hvl];show 7=Nat.min 1 (i+(ps.length+1 - i) - i)*7;rw[gK];omega) (fun jx u hu=>Uu.cells _ Y jx u hu) (by rw[Af,hrow2,hvl];omega) Z9<|fun w2 H2=>Xr Hr<|J1<|zQ 8 [(true,0),(true,1),(true,2),(true,3),(true,4),(true,5),(true,6),(true,7),(false,8)] H2 [0,1] yF (by decide) (by kernel_rfl) ?_
 rintro w3 hw3
 have H3:=Hp.drew H2;rw[← hw3]at H3
 refine Zm Y Y<|Zm Y Y<|Zm Y Y<|MP Y<|MV (fun wz hz=>zL Y Y (Ad _ (by omega)))<|cZ Hr<|MP Y<|MV (fun wz hz=>tU La yQ Y Y (i:=i+1) (by omega) (by omega) (by omega))<|Zm Y Y<|Zm Y Y<|MP Y<|MV (fun wz hz=>tU La yQ Y Y Y (by omega) (by omega))<|cZ Hr<|MO Y ?_
 have hdl:(ps.flatten.drop (i*7)).length=(ps.length - i)*7:=by rw[Bh,hp.len,← Lj]
 refine uK La yQ H3 1 (o:=0+(i+1)*7) (vs:=ps.flatten.drop (i*7)) (by first | rfl | (rw[← Ip];rfl)) Y Y (by rw[hdl];show _=Nat.min (ps.length - i) (i+(ps.length+1 - i) - (i+1))*7;rw[gK];omega) (fun jx u hu=>by
  rw[tV,Ip,Au]
  exact H3.cell (i:=0) Y (by rw[Di (by have:=lt_of_get hu;rw[Bh]at this;omega)];rwa [Em]at hu)) (by rw[vK (by rw[Af,hrow2,hvl];omega),Af,hrow2,hdl,Au,← Du,show i+1+(ps.length - i)=ps.length+1 by omega];omega) (by rw[Ew]at Pg ⊢;exact fun x hx=>Pg x (Ep hx)) ?_
 intro w4 H4
 refine OE ?_
 refine⟨fun hne=>absurd Y hne,?_⟩
 refine cZ Hr<|ME<|cR Hr<|Rq<|Xm Y<|Xa Y<|Xr Hr<|J5<|Cj Y Y ?_
 have HZ:=H4.pick [1] (by decide)
 change Hp _ _ _ [((some g2,110,zG (zG _ (0+i*7) _) (0+(i+1)*7) _):Ent)]at HZ
 rw[Au,Au,CP (sp:=sp2) hp rfl (by omega) hvl (by rw[wR];rfl) rfl]at HZ
 refine⟨some g2,cap2,sp2,by rw[hie],by omega,?_,(fun h=>by cases h),HZ⟩
 rw[Af]at hcz2 ⊢
 rw[hrow2]at hcz2
 have hp2:Pl 7 (ps.take i++vs::ps.drop i):=(hp.sub fun x hx=>Fa hx).app fun x hx=>by
  rcases Cm.1 hx with rfl | hx
  · exact hvl
  exact hp x (Ep hx)
 rw[hp2.len]
 have:(ps.take i++vs::ps.drop i).length=ps.length+1:=by rw[Af,Bg,Aw,Bh];omega
 rw[this];exact hcz2
 refine Xr Hr<|J4 Y<|J6<|Rq<|Xm Y<|Xm Y<|Xm Y<|OV (zL Y Y (Ad _ (by omega)))<|Ae Hr ?_
 have Zd:7≤sp.length:=by
  rw[Af,hp.len]at hcz
  have:(ps.length+1)*7≤cap*7:=Dp _ (by omega)
  omega
 refine OV (fA La yQ Y Y (i:=ps.length+1) (by omega) (by omega))<|Xa Y<|Xr Hr<|J1<|Rq<|Xm Y<|Xm Y<|Xm Y<|Xm Y<|Ae Hr<|OV (zL Y Y (Ad _ (by omega)))<|OV (tU La yQ Y Y (i:=i+1) (by omega) (by omega) (by omega)) ?_
 have Vj:=H.keep hv hgv
 have Zq:=H.at (i:=0) rfl
 have hne:gv≠gx:=fun h=>hgv (by rw[h];simp[bl])
 refine mC (fn:=(Tryz.prog.funcs[160]?).get!) (e:=Extern.SlicesOverlaps.overlaps #[39,39] #[4]) (v:=.bool false) (by kernel_rfl) (by kernel_rfl) (by kernel_rfl) (by kernel_rfl) (by kernel_rfl) Y (Lib.run_overlaps_apart w0 39 4 110 La 7 (fun w=>vH yQ) ⟨gv,0,none⟩ _ 1 1 _ _ (by rw[Ip];exact hne) 110 110 7 _ (by simp[World.shape?,Vj];exact hvl) (by rw[Ip];simp only[World.shape?,Zq];rfl) (by simp only[Hu,Af];omega) (by simp[World.frozen?,Vj]) (by simp[World.frozen?,Vj]))<|Xn Y<|Xr Hr<|J3 Y<|J1<|zQ 8 [(true,0),(true,1),(true,2),(true,3),(true,4),(true,5),(true,6),(true,7),(false,8)] H [0] yF (by decide) (by kernel_rfl) ?_
 rintro w1 hw1
 have H1:=Hp.drew H;rw[← hw1]at H1
 refine Zm Y Y<|Zm Y Y<|Zm Y Y<|MP Y<|MV (fun wz hz=>zL Y Y (Ad _ (by omega)))<|cZ Hr<|MP Y<|MV (fun wz hz=>tU La yQ Y Y (i:=i+1) (by omega) (by omega) (by omega))<|Zm Y Y<|Zm Y Y<|MP Y<|MV (fun wz hz=>tU La yQ Y Y Y (by omega) (by omega))<|cZ Hr<|MO Y ?_
 have hdl:(ps.flatten.drop (i*7)).length=(ps.length - i)*7:=by rw[Bh,hp.len,← Lj]
 have hlv:(i+1)*7+(ps.length - i)*7=(ps.length+1)*7:=by rw[← Du,show i+1+(ps.length - i)=ps.length+1 by omega]
 have hlw:(ps.length+1)*7=ps.length*7+7:=by omega
 refine uK La yQ H1 0 (o:=0+(i+1)*7) (vs:=ps.flatten.drop (i*7)) (by first | rfl | (rw[← Ip];rfl)) Y Y (by rw[hdl];show _=Nat.min (ps.length+1 - i) (ps.length+1 - (i+1))*7;rw[show Nat.min (ps.length+1 - i) (ps.length+1 - (i+1))=ps.length - i from(by show min _ _=_;omega)]) (fun jx u hu=>by
  rw[tV,Ip,Au]
  exact H1.cell (i:=0) Y (by rw[Di (by have:=lt_of_get hu;rw[Bh]at this;omega)];rwa [Em]at hu)) (by rw[Af,hp.len,hdl];omega) (by rw[Ew]at Pg ⊢;exact fun x hx=>Pg x (Ep hx)) ?_
 intro w2 H2
 refine OE ?_
 refine⟨fun hne=>absurd Y hne,?_⟩
 refine cZ Hr<|ME<|cR Hr<|Rq<|Xm Y<|Xm Y<|OV (tU La yQ Y Y Y (by omega) (by omega))<|Xm Y<|Ae Hr ?_
 have Uu:=(⟨by rw[hvl],fun a ha jx u hu=>by cases ha;rw[Ip,Au];exact(by simp[World.cell?,H2.keep hv hgv,hu]),fun h=>by cases h⟩:Rd w2 (some ⟨gv,0,none⟩) 1 7 vs)
 refine uK La yQ H2 0 (o:=0+i*7) (vs:=vs) (by first | rfl | (rw[← Ip];rfl)) Y Y (by rw[hvl];show 7=Nat.min 1 (ps.length+1 - i)*7;rw[gK];omega) (fun jx u hu=>Uu.cells _ Y jx u hu) (by rw[vK (by rw[Af,hp.len,hdl];omega),Af,hp.len,hvl];have:i*7≤ps.length*7:=Dp _ (by omega);omega) Z9<|fun w3 H3=>Xr Hr<|Rq<|Xm Y<|Xa Y<|Xr Hr<|J5<|Cj Y Y ?_
 have HZ:=H3
 change Hp _ _ _ [((some gx,110,zG (zG _ (0+(i+1)*7) _) (0+i*7) _):Ent)]at HZ
 rw[Au,Au,G2 hp rfl (by omega) hvl Zd]at HZ
 have hp2:Pl 7 (ps.take i++vs::ps.drop i):=(hp.sub fun x hx=>Fa hx).app fun x hx=>by
  rcases Cm.1 hx with rfl | hx
  · exact hvl
  exact hp x (Ep hx)
 have hl3:(ps.take i++vs::ps.drop i).length=ps.length+1:=by rw[Af,Bg,Aw,Bh];omega
 refine⟨some gx,cap,sp.drop 7,Y,by omega,?_,(fun h=>by cases h),HZ⟩
 rw[Af,hp.len]at hcz
 rw[Af,hp2.len,hl3,Bh]
 omega
set_option maxHeartbeats 4000000
section
variable {w w0:World} {ok:Nat→Prop} {n:Int} {ps:List (List Value)} {l:List Vt} {gc:Nat} {Xp:List Value} {Tc:TypeId}
theorem voteC (s n:Int) (c1 c2 c3:Value) (w0:World):Aj 165 #[.agg [Aa s,c1,c2,c3].toArray,Aa n] w0 (fun r w'=>r=Aa (sH s n)∧Hp w0 w' [] []):=by
 refine zE Tryz.func165 Tryz.ntmps165 Y<|cR e15 ?_
 have H:=Hp.refl w0
 refine Rq<|zW Y Y H<|fun w1 g1 H1 hg1=>Xa Y<|Xr e15<|J1<|J7<|Rq<|Xf wY Y<|OV (EL ty3 Y (H1.cell (i:=0) Y Y))<|Xm Y<|OT (zR Y Y) (fun hp9=>?_) (fun hp9=>?_)
 refine Xa Y<|Xr e15<|J3 Y<|Rq<|Xa Y<|Xr e15<|J5<|BR<|Cj Y Y<|⟨by unfold sH;rw[if_pos (by omega)],H1.Ag⟩
 refine Xa Y<|Xr e15<|J4 Y<|Rq<|Xf wY Y<|OV (EL ty3 Y (H1.cell (i:=0) Y Y))<|Xm Y<|OT (yP Y Y) (fun hp14=>?_) (fun hp14=>?_)
 refine Xa Y<|Xr e15<|J3 Y<|Rq<|Xa Y<|Xr e15<|J5<|BR<|Cj Y Y<|⟨by unfold sH;rw[if_neg (by omega),if_pos (by omega)],H1.Ag⟩
 refine Xa Y<|Xr e15<|J4 Y<|J6<|zA (zD ?_)
 refine Rq<|Xa Y<|Xr e15<|J5<|Cj Y Y<|⟨by unfold sH;rw[if_neg (by omega),if_neg (by omega)],H1.Ag⟩
theorem WV (s n:Int) (c1 c2 c3 c4 c5 c6:Value) (w0:World):Aj 190 #[.agg [Aa s,c1,c2,c3,c4,c5,c6].toArray,Aa n] w0 (fun r w'=>r=Aa (sH s n)∧Hp w0 w' [] []):=by
 refine zE Tryz.func190 Tryz.ntmps190 Y<|cR e15 ?_
 have H:=Hp.refl w0
 refine Rq<|zW Y Y H<|fun w1 g1 H1 hg1=>Xa Y<|Xr e15<|J1<|J7<|Rq<|Xf tT Y<|OV (EL ty3 Y (H1.cell (i:=0) Y Y))<|Xm Y<|OT (zR Y Y) (fun hp9=>?_) (fun hp9=>?_)
 refine Xa Y<|Xr e15<|J3 Y<|Rq<|Xa Y<|Xr e15<|J5<|BR<|Cj Y Y<|⟨by unfold sH;rw[if_pos (by omega)],H1.Ag⟩
 refine Xa Y<|Xr e15<|J4 Y<|Rq<|Xf tT Y<|OV (EL ty3 Y (H1.cell (i:=0) Y Y))<|Xm Y<|OT (yP Y Y) (fun hp14=>?_) (fun hp14=>?_)
 refine Xa Y<|Xr e15<|J3 Y<|Rq<|Xa Y<|Xr e15<|J5<|BR<|Cj Y Y<|⟨by unfold sH;rw[if_neg (by omega),if_pos (by omega)],H1.Ag⟩
 refine Xa Y<|Xr e15<|J4 Y<|J6<|zA (zD ?_)
 refine Rq<|Xa Y<|Xr e15<|J5<|Cj Y Y<|⟨by unfold sH;rw[if_neg (by omega),if_neg (by omega)],H1.Ag⟩
theorem U0 (s n:Int) (c1 c2 c3:Value) (w0:World) (gc:Nat) (Xp:List Value) (Tc:TypeId) (hgc:w0.heap[gc]? =some (.cells Xp.toArray Tc (0,0))) (hv:Xp[0]? =some (Aa n)):Aj 195 #[.agg [Aa s,c1,c2,c3].toArray,Ah gc] w0 (fun r w'=>r=.bool (decide (s≤n))∧Hp w0 w' [] []):=by
 refine zE Tryz.func195 Tryz.ntmps195 Y<|cR e8 ?_
 have H:=Hp.refl w0
 refine Rq<|zW Y Y H<|fun w1 g1 H1 hg1=>Xa Y<|Xr e8<|Rq<|Xf wY Y<|OV (EL ty3 Y (H1.cell (i:=0) Y Y))<|OV (EL ty3 Y (fH (H1.keep hgc (by simp)) hv))<|OT (uV Y Y) (fun Ur=>?_) (fun Ur=>?_)
 refine Xa Y<|Xr e8<|J5<|Cj Y Y<|⟨bt (by omega),H1.Ag⟩
 refine Xa Y<|Xr e8<|J5<|Cj Y Y<|⟨bf (by omega),H1.Ag⟩
theorem XK (s n:Int) (c1:Value) (w0:World) (gc:Nat) (Xp:List Value) (Tc:TypeId) (hgc:w0.heap[gc]? =some (.cells Xp.toArray Tc (0,0))) (hv:Xp[0]? =some (Aa n)):Aj 169 #[.agg [Aa s,c1].toArray,Ah gc] w0 (fun r w'=>r=.bool (decide (s≤n))∧Hp w0 w' [] []):=by
 refine zE Tryz.func169 Tryz.ntmps169 Y<|cR e9 ?_
 have H:=Hp.refl w0
 refine Rq<|zW Y Y H<|fun w1 g1 H1 hg1=>Xa Y<|Xr e9<|Rq<|Xf xX Y<|OV (EL ty3 Y (H1.cell (i:=0) Y Y))<|Xf xX Y<|OV (EL ty3 Y (fH (H1.keep hgc (by simp)) hv))<|Ae e9<|OT (uV Y Y) (fun hp8=>?_) (fun hp8=>?_)
 refine Xa Y<|Xr e9<|J5<|Cj Y Y<|⟨bt (by omega),H1.Ag⟩
 refine Xa Y<|Xr e9<|J5<|Cj Y Y<|⟨bf (by omega),H1.Ag⟩
theorem WO (s n:Int) (c1 c2 c3 c4 c5 c6:Value) (w0:World) (gc:Nat) (Xp:List Value) (Tc:TypeId) (hgc:w0.heap[gc]? =some (.cells Xp.toArray Tc (0,0))) (hv:Xp[14]? =some (Aa n)):Aj 114 #[.agg [Aa s,c1,c2,c3,c4,c5,c6].toArray,Ah gc] w0 (fun r w'=>r=.bool (decide (s=n))∧Hp w0 w' [] []):=by
 refine zE Tryz.func114 Tryz.ntmps114 Y<|cR e9 ?_
 have H:=Hp.refl w0
 refine Rq<|zW Y Y H<|fun w1 g1 H1 hg1=>Xa Y<|Xr e9<|Rq<|Xf tT Y<|OV (EL ty3 Y (H1.cell (i:=0) Y Y))<|Xf uQ Y<|OV (EL ty3 Y (fH (H1.keep hgc (by simp)) hv))<|Ae e9<|OT (yU Y Y) (fun hp8=>?_) (fun hp8=>?_)
 refine Xa Y<|Xr e9<|J5<|Cj Y Y<|⟨bt (by omega),H1.Ag⟩
 refine Xa Y<|Xr e9<|J5<|Cj Y Y<|⟨bf (by omega),H1.Ag⟩
theorem YA (a b:Blk) (w0:World):Aj 209 #[yI a,yI b] w0 (fun r w'=>r=Aa (Lib.compareBytes a b)∧Hp w0 w' [] []):=by
 refine zE Tryz.func209 Tryz.ntmps209 Y<|cR e8 ?_
 have H:=Hp.refl w0
 refine Rq<|Xa Y<|Xr e8<|Rq<|Xm Y<|Xm Y<|mC (fn:=(Tryz.prog.funcs[218]?).get!) (e:=Extern.BytealgCompare.compare) (v:=Aa (Lib.compareBytes a b)) (by kernel_rfl) (by kernel_rfl) (by kernel_rfl) (by kernel_rfl) (by kernel_rfl) Y (Lib.run_compareString ⟨a.toArray⟩ ⟨b.toArray⟩ _)<|Xa Y<|Xr e8<|J5<|Cj Y Y<|⟨Y,H⟩
theorem WN (a b:Blk) (w0:World):Aj 186 #[yI a,yI b] w0 (fun r w'=>r=Aa (Lib.compareBytes a b)∧Hp w0 w' [] []):=by
 refine zE Tryz.func186 Tryz.ntmps186 Y<|cR e8 ?_
 have H:=Hp.refl w0
 refine Rq<|Xa Y<|Xr e8<|Rq<|Xm Y<|Xm Y<|OC (EC gf209 Y) (YA _ _ _)<|fun w1 Hd=>have H1:=H.Ap Hd;Xa Y<|Xr e8<|J5<|Cj Y Y<|⟨Y,H1⟩
theorem OK (a b:Rt) (w0:World):Aj 155 #[.agg (Dc a).toArray,.agg (Dc b).toArray] w0 (fun r w'=>r=Aa (nI a b)∧Hp w0 w' [] []):=by
 refine zE Tryz.func155 Tryz.ntmps155 Y<|cR e20 ?_
 have H:=Hp.refl w0
 refine Rq<|zW Y Y H<|fun w1 g1 H1 hg1=>zW Y Y H1<|fun w2 g2 H2 hg2=>Xa Y<|Xr e20<|J1<|Rq<|Xf qD Y<|OV (EL ty3 Y (H2.cell (i:=0) Y Y))<|Xf qD Y<|OV (EL ty3 Y (H2.cell (i:=1) Y Y))<|Ae e20<|OT (yR Y Y) (fun hp9=>?_) (fun hp9=>?_)
 refine Xr e20<|J3 Y<|J1<|Rq<|Xf qD Y<|OV (EL ty3 Y (H2.cell (i:=0) Y Y))<|Xf qD Y<|OV (EL ty3 Y (H2.cell (i:=1) Y Y))<|Ae e20<|OT (zR Y Y) (fun hp14=>?_) (fun hp14=>?_)
 refine Xr e20<|J3 Y<|Rq<|Xa Y<|Xr e20<|J5<|Cj Y Y<|⟨by unfold nI;rw[if_pos (by omega),if_pos (by omega)],H2.Ag⟩
 refine Xr e20<|J4 Y<|J6<|Rq<|Xa Y<|Xr e20<|J5<|Cj Y Y<|⟨by unfold nI;rw[if_pos (by omega),if_neg (by omega)],H2.Ag⟩
 refine Xr e20<|J4 Y<|J6<|Rq<|Xf oV Y<|OV (EL ty9 Y (H2.cell (i:=0) Y Y))<|Xf oV Y<|OV (EL ty9 Y (H2.cell (i:=1) Y Y))<|Ae e20<|OC (EC gf186 Y) (WN _ _ _)<|fun w3 Hd=>have H3:=H2.Ap Hd;Xa Y<|Xr e20<|J5<|Cj Y Y<|⟨by unfold nI;rw[if_neg (by omega)],H3.Ag⟩
theorem Q7 (h2:wT (Oc w ok) ps l) (hr:dK (fun x:Vt=>sH x.slot n) l):Cmp Tryz.prog 165 (Aa n) (WJ n) ps:=
 ⟨gf165,fun w1 p hp=>by
  obtain⟨i,hi⟩:=Dh hp
  obtain⟨x,_,hR⟩:=h2.getL hi
  obtain⟨A,k,rfl,_⟩:=hR
  exact voteC x.slot n _ _ _ w1,hr.mono h2 fun p x h=>B5 h⟩
theorem Q8 {l:List Mk} (h2:wT Pq ps l) (hr:dK (fun x:Mk=>sH x.client n) l):Cmp Tryz.prog 190 (Aa n) (PA n) ps:=
 ⟨gf190,fun w1 p hp=>by
  obtain⟨i,hi⟩:=Dh hp
  obtain⟨x,_,hR⟩:=h2.getL hi
  unfold Pq at hR
  subst hR
  exact WV x.client n _ _ _ _ _ _ w1,hr.mono h2 fun p x h=>gO h⟩
theorem MK {r:Rt} {l:List Rt} (h2:wT Px ps l) (hr:dK (fun x:Rt=>nI x r) l):Cmp Tryz.prog 155 (.agg (Nz r).toArray) (ST r) ps:=
 ⟨VR,fun w1 p hp=>by
  obtain⟨i,hi⟩:=Dh hp
  obtain⟨x,_,hR⟩:=h2.getL hi
  have e:=dR (r:=r) hR
  unfold Px at hR
  subst hR
  rw[e]
  exact OK x r w1,hr.mono h2 fun p x h=>dR h⟩
theorem YX (h2:wT (Oc w ok) ps l) (hgc:w0.heap[gc]? =some (.cells Xp.toArray Tc (0,0))) (hv:Xp[0]? =some (Aa n)):Prd Tryz.prog 195 gc (Ji n) ps w0:=
 ⟨gf195,(Dw.1 hgc).1,fun w1 h1 p hp=>by
  obtain⟨i,hi⟩:=Dh hp
  obtain⟨x,_,hR⟩:=h2.getL hi
  obtain⟨A,k,rfl,_⟩:=hR
  exact U0 x.slot n _ _ _ w1 gc Xp Tc (h1.trans hgc) hv⟩
theorem Yx {l:List En} (h2:wT (Qu w ok) ps l) (hgc:w0.heap[gc]? =some (.cells Xp.toArray Tc (0,0))) (hv:Xp[0]? =some (Aa n)):Prd Tryz.prog 169 gc (Ji n) ps w0:=
 ⟨gf169,(Dw.1 hgc).1,fun w1 h1 p hp=>by
  obtain⟨i,hi⟩:=Dh hp
  obtain⟨x,_,hR⟩:=h2.getL hi
  obtain⟨A,k,rfl,_⟩:=hR
  exact XK x.slot n _ w1 gc Xp Tc (h1.trans hgc) hv⟩
theorem Vy {l:List Mk} (h2:wT Pq ps l) (hgc:w0.heap[gc]? =some (.cells Xp.toArray Tc (0,0))) (hv:Xp[14]? =some (Aa n)):Prd Tryz.prog 114 gc (Iy n) ps w0:=
 ⟨gf114,(Dw.1 hgc).1,fun w1 h1 p hp=>by
  obtain⟨i,hi⟩:=Dh hp
  obtain⟨x,_,hR⟩:=h2.getL hi
  unfold Pq at hR
  subst hR
  exact WO x.client n _ _ _ _ _ _ w1 gc Xp Tc (h1.trans hgc) hv⟩
end
theorem GU :wW Tryz.prog 75=some [(0,1),(1,1)]:=by kernel_rfl
theorem pl77 :wW Tryz.prog 77=some [(0,1),(1,2),(3,1)]:=by kernel_rfl
theorem WW :wW Tryz.prog 79=some [(0,1),(1,1)]:=by kernel_rfl
theorem dD :wW Tryz.prog 110=some [(0,1),(1,1),(2,1),(3,4)]:=by kernel_rfl
theorem TD :wW Tryz.prog 41=some [(0,1),(1,1),(2,1)]:=by kernel_rfl
theorem eB :wW Tryz.prog 81=some [(0,1),(1,1),(2,2),(4,4),(8,2),(10,4),(14,1),(15,1)]:=by kernel_rfl
theorem VH :wW Tryz.prog 263=some [(0,2),(2,1),(3,1)]:=by kernel_rfl
theorem VI :wW Tryz.prog 245=some [(0,2),(2,1),(3,1)]:=by kernel_rfl
theorem TY (n:Int) (w0:World):Aj 197 #[Aa n] w0 (fun r w'=>r=.bool (decide (1≤n∧n≤5))∧Hp w0 w' [] []):=by
 refine zE Tryz.func197 Tryz.ntmps197 Y<|cR e9 ?_
 have H:=Hp.refl w0
 refine Rq<|Xa Y<|Xr e9<|Rq<|Xm Y<|OT (wC Y Y) (fun hp4=>?_) (fun hp4=>?_)
 refine Xm Y<|Ae e9<|OY Y<|Xm Y<|OY Y<|OT (uV Y Y) (fun Ur=>?_) (fun Ur=>?_)
 refine Xt Y Y<|Xa Y<|Xr e9<|J5<|Cj Y Y<|⟨bt (by omega),H.Ag⟩
 refine Xt Y Y<|Xa Y<|Xr e9<|J5<|Cj Y Y<|⟨bf (by omega),H.Ag⟩
 refine Xm Y<|Ae e9<|Oz 2 Y<|Xu Y Y<|Xa Y<|Xr e9<|J5<|Cj Y Y<|⟨bf (by omega),H.Ag⟩
theorem W9 (n:Int) (w0:World):Aj 175 #[Aa n] w0 (fun r w'=>r=.bool (decide (1≤n∧n≤5))∧Hp w0 w' [] []):=by
 refine zE Tryz.func175 Tryz.ntmps175 Y<|cR e9 ?_
 have H:=Hp.refl w0
 refine Rq<|Xa Y<|Xr e9<|Rq<|Xm Y<|OT (wC Y Y) (fun hp4=>?_) (fun hp4=>?_)
 refine Xm Y<|Ae e9<|OY Y<|Xm Y<|OY Y<|OT (uV Y Y) (fun Ur=>?_) (fun Ur=>?_)
 refine Xt Y Y<|Xa Y<|Xr e9<|J5<|Cj Y Y<|⟨bt (by omega),H.Ag⟩
 refine Xt Y Y<|Xa Y<|Xr e9<|J5<|Cj Y Y<|⟨bf (by omega),H.Ag⟩
 refine Xm Y<|Ae e9<|Oz 2 Y<|Xu Y Y<|Xa Y<|Xr e9<|J5<|Cj Y Y<|⟨bf (by omega),H.Ag⟩
theorem FW (n:Int) (w0:World):Aj 92 #[Aa n] w0 (fun r w'=>r=.bool (decide (1≤n∧n≤8))∧Hp w0 w' [] []):=by
 refine zE Tryz.func92 Tryz.ntmps92 Y<|cR e9 ?_
 have H:=Hp.refl w0
 refine Rq<|Xa Y<|Xr e9<|Rq<|Xm Y<|OT (wC Y Y) (fun hp4=>?_) (fun hp4=>?_)
 refine Xm Y<|Ae e9<|OY Y<|Xm Y<|OY Y<|OT (uV Y Y) (fun Ur=>?_) (fun Ur=>?_)
 refine Xt Y Y<|Xa Y<|Xr e9<|J5<|Cj Y Y<|⟨bt (by omega),H.Ag⟩
 refine Xt Y Y<|Xa Y<|Xr e9<|J5<|Cj Y Y<|⟨bf (by omega),H.Ag⟩
 refine Xm Y<|Ae e9<|Oz 2 Y<|Xu Y Y<|Xa Y<|Xr e9<|J5<|Cj Y Y<|⟨bf (by omega),H.Ag⟩
theorem VG (n:Int) (w0:World):Aj 93 #[Aa n] w0 (fun r w'=>r=.bool (decide (1≤n∧n≤4611686018427387904))∧Hp w0 w' [] []):=by
 refine zE Tryz.func93 Tryz.ntmps93 Y<|cR e9 ?_
 have H:=Hp.refl w0
 refine Rq<|Xa Y<|Xr e9<|Rq<|Xm Y<|OT (wC Y Y) (fun hp4=>?_) (fun hp4=>?_)
 refine Xm Y<|Ae e9<|OY Y<|Xm Y<|OY Y<|OT (uV Y Y) (fun Ur=>?_) (fun Ur=>?_)
 refine Xt Y Y<|Xa Y<|Xr e9<|J5<|Cj Y Y<|⟨bt (by omega),H.Ag⟩
 refine Xt Y Y<|Xa Y<|Xr e9<|J5<|Cj Y Y<|⟨bf (by omega),H.Ag⟩
 refine Xm Y<|Ae e9<|Oz 2 Y<|Xu Y Y<|Xa Y<|Xr e9<|J5<|Cj Y Y<|⟨bf (by omega),H.Ag⟩
theorem UB (n:Int) (w0:World):Aj 172 #[Aa n] w0 (fun r w'=>r=.bool (decide (1≤n∧n < 8))∧Hp w0 w' [] []):=by
 refine zE Tryz.func172 Tryz.ntmps172 Y<|cR e9 ?_
 have H:=Hp.refl w0
 refine Rq<|Xa Y<|Xr e9<|Rq<|Xm Y<|OT (wC Y Y) (fun hp4=>?_) (fun hp4=>?_)
 refine Xm Y<|Ae e9<|OY Y<|Xm Y<|OY Y<|OT (zR Y Y) (fun Ur=>?_) (fun Ur=>?_)
 refine Xt Y Y<|Xa Y<|Xr e9<|J5<|Cj Y Y<|⟨bt (by omega),H.Ag⟩
 refine Xt Y Y<|Xa Y<|Xr e9<|J5<|Cj Y Y<|⟨bf (by omega),H.Ag⟩
 refine Xm Y<|Ae e9<|Oz 2 Y<|Xu Y Y<|Xa Y<|Xr e9<|J5<|Cj Y Y<|⟨bf (by omega),H.Ag⟩
theorem UA (n:Int) (w0:World):Aj 185 #[Aa n] w0 (fun r w'=>r=.bool (decide (1≤n∧n < 8))∧Hp w0 w' [] []):=by
 refine zE Tryz.func185 Tryz.ntmps185 Y<|cR e9 ?_
 have H:=Hp.refl w0
 refine Rq<|Xa Y<|Xr e9<|Rq<|Xm Y<|OT (wC Y Y) (fun hp4=>?_) (fun hp4=>?_)
 refine Xm Y<|Ae e9<|OY Y<|Xm Y<|OY Y<|OT (zR Y Y) (fun Ur=>?_) (fun Ur=>?_)
 refine Xt Y Y<|Xa Y<|Xr e9<|J5<|Cj Y Y<|⟨bt (by omega),H.Ag⟩
 refine Xt Y Y<|Xa Y<|Xr e9<|J5<|Cj Y Y<|⟨bf (by omega),H.Ag⟩
 refine Xm Y<|Ae e9<|Oz 2 Y<|Xu Y Y<|Xa Y<|Xr e9<|J5<|Cj Y Y<|⟨bf (by omega),H.Ag⟩
theorem GZ (a b:Bal) (w0:World):Aj 162 #[.agg [Aa a.r,Aa a.n].toArray,.agg [Aa b.r,Aa b.n].toArray] w0 (fun r w'=>r=.bool (decide (Bal.lt a b))∧Hp w0 w' [] []):=by
 refine zE Tryz.func162 Tryz.ntmps162 Y<|cR e24 ?_
 have H:=Hp.refl w0
 refine Rq<|zW Y Y H<|fun w1 g1 H1 hg1=>zW Y Y H1<|fun w2 g2 H2 hg2=>Xa Y<|Xr e24<|Rq<|Xf sW Y<|OV (EL ty3 Y (H2.cell (i:=0) Y Y))<|Xf sW Y<|OV (EL ty3 Y (H2.cell (i:=1) Y Y))<|Ae e24<|OT (zR Y Y) (fun hp9=>?_) (fun hp9=>?_)
 refine Xm Y<|Oz 12 Y<|Ae e24<|Xt Y Y<|Xa Y<|Xr e24<|J5<|Cj Y Y<|⟨bt (by omega),H2.Ag⟩
 refine Xm Y<|OY Y<|Xf sW Y<|Ae e24<|OY Y<|OV (EL ty3 Y (H2.cell (i:=0) Y Y))<|OY Y<|Xf sW Y<|Ae e24<|OY Y<|OV (EL ty3 Y (H2.cell (i:=1) Y Y))<|OY Y<|OT (yU Y Y) (fun Iz=>?_) (fun Iz=>?_)
 refine OY Y<|Xm Y<|Ae e24<|OY Y<|Xf qC Y<|OY Y<|OV (EL ty3 Y (H2.cell (i:=0) Y Y))<|Ae e24<|OY Y<|Xf qC Y<|OY Y<|OV (EL ty3 Y (H2.cell (i:=1) Y Y))<|Ae e24<|OY Y<|OT (zR Y Y) (fun hp21=>?_) (fun hp21=>?_)
 refine OY Y<|Xt Y Y<|Xu Y Y<|Xa Y<|Xr e24<|J5<|Cj Y Y<|⟨bt (by omega),H2.Ag⟩
 refine OY Y<|Xt Y Y<|Xu Y Y<|Xa Y<|Xr e24<|J5<|Cj Y Y<|⟨bf (by omega),H2.Ag⟩
 refine OY Y<|Xm Y<|Ae e24<|Oz 5 Y<|Ae e24<|OY Y<|Xu Y Y<|Xu Y Y<|Xa Y<|Xr e24<|J5<|Cj Y Y<|⟨bf (by omega),H2.Ag⟩
theorem PH (a b:Bal) (w0:World):Aj 174 #[.agg [Aa a.r,Aa a.n].toArray,.agg [Aa b.r,Aa b.n].toArray] w0 (fun r w'=>r=.bool (decide (Bal.lt a b))∧Hp w0 w' [] []):=by
 refine zE Tryz.func174 Tryz.ntmps174 Y<|cR e20 ?_
 have H:=Hp.refl w0
 refine Rq<|zW Y Y H<|fun w1 g1 H1 hg1=>zW Y Y H1<|fun w2 g2 H2 hg2=>Xa Y<|Xr e20<|J1<|Rq<|Xf sW Y<|OV (EL ty3 Y (H2.cell (i:=0) Y Y))<|Xf sW Y<|OV (EL ty3 Y (H2.cell (i:=1) Y Y))<|Ae e20<|OT (yR Y Y) (fun hp9=>?_) (fun hp9=>?_)
 refine Xr e20<|J3 Y<|Rq<|Xf sW Y<|OV (EL ty3 Y (H2.cell (i:=0) Y Y))<|Xf sW Y<|OV (EL ty3 Y (H2.cell (i:=1) Y Y))<|Ae e20<|OT (zR Y Y) (fun hp14=>?_) (fun hp14=>?_)
 refine Xa Y<|Xr e20<|J5<|Cj Y Y<|⟨bt (by omega),H2.Ag⟩
 refine Xa Y<|Xr e20<|J5<|Cj Y Y<|⟨bf (by omega),H2.Ag⟩
 refine Xr e20<|J4 Y<|J6<|Rq<|Xf qC Y<|OV (EL ty3 Y (H2.cell (i:=0) Y Y))<|Xf qC Y<|OV (EL ty3 Y (H2.cell (i:=1) Y Y))<|Ae e20<|OT (zR Y Y) (fun hp19=>?_) (fun hp19=>?_)
 refine Xa Y<|Xr e20<|J5<|Cj Y Y<|⟨bt (by omega),H2.Ag⟩
 refine Xa Y<|Xr e20<|J5<|Cj Y Y<|⟨bf (by omega),H2.Ag⟩
theorem may_b (a:Bal) (n:Int) (w0:World):Aj 170 #[.agg [Aa a.r,Aa a.n].toArray,Aa n] w0 (fun r w'=>r=.bool (decide (1≤n∧n≤5∧1≤a.r∧1≤a.n∧a.n≤n))∧Hp w0 w' [] []):=by
 refine zE Tryz.func170 Tryz.ntmps170 Y<|cR e23 ?_
 have H:=Hp.refl w0
 refine Rq<|zW Y Y H<|fun w1 g1 H1 hg1=>Xa Y<|Xr e23<|Rq<|Xm Y<|OX (EC gf197 Y) (TY _ _) (fun hp6 w2 Hd=>?_) (fun hp6 w2 Hd=>?_)
 have H2:=H1.Ap Hd
 refine Xm Y<|Ae e23<|OY Y<|Xf sW Y<|OY Y<|OV (EL ty3 Y (H2.cell (i:=0) Y Y))<|Ae e23<|OY Y<|OT (wC Y Y) (fun hp10=>?_) (fun hp10=>?_)
 refine Xt Y Y<|Xm Y<|Ae e23<|OY Y<|Xf qC Y<|OY Y<|OV (EL ty3 Y (H2.cell (i:=0) Y Y))<|Ae e23<|OY Y<|OT (wC Y Y) (fun Iz=>?_) (fun Iz=>?_)
 refine Xt Y Y<|Xm Y<|Ae e23<|OY Y<|Xf qC Y<|OY Y<|OV (EL ty3 Y (H2.cell (i:=0) Y Y))<|Ae e23<|OY Y<|Xm Y<|OY Y<|OT (uV Y Y) (fun hp21=>?_) (fun hp21=>?_)
 refine Xt Y Y<|Xa Y<|Xr e23<|J5<|Cj Y Y<|⟨bt (by omega),H2.Ag⟩
 refine Xt Y Y<|Xa Y<|Xr e23<|J5<|Cj Y Y<|⟨bf (by omega),H2.Ag⟩
 refine Xt Y Y ?_
 have m1:=()
 rotate_left 1
 refine Xt Y Y<|Xm Y<|Ae e23<|Oz 3 Y<|Ae e23<|Xu Y Y ?_
 have m1:=()
 rotate_left 1
 have H2:=H1.Ap Hd
 refine Xm Y<|Ae e23<|Oz 3 Y<|Ae e23<|Xu Y Y<|Xm Y<|Ae e23<|Oz 3 Y<|Ae e23<|Xu Y Y ?_
 have m1:=()
 rotate_left 1
 any_goals
  clear m1
  refine Xm Y<|Ae e23<|Oz 4 Y<|Ae e23<|Xu Y Y<|Xa Y<|Xr e23<|J5<|Cj Y Y<|⟨bf (by omega),H2.Ag⟩
theorem may9 (a:Bal) (n:Int) (w0:World):Aj 139 #[.agg [Aa a.r,Aa a.n].toArray,Aa n] w0 (fun r w'=>r=.bool (decide (1≤n∧n≤5∧1≤a.r∧1≤a.n∧a.n≤n))∧Hp w0 w' [] []):=by
 refine zE Tryz.func139 Tryz.ntmps139 Y<|cR e23 ?_
 have H:=Hp.refl w0
 refine Rq<|zW Y Y H<|fun w1 g1 H1 hg1=>Xa Y<|Xr e23<|Rq<|Xm Y<|OX (EC gf175 Y) (W9 _ _) (fun hp6 w2 Hd=>?_) (fun hp6 w2 Hd=>?_)
 have H2:=H1.Ap Hd
 refine Xm Y<|Ae e23<|OY Y<|Xf qC Y<|OY Y<|OV (EL ty3 Y (H2.cell (i:=0) Y Y))<|Ae e23<|OY Y<|OT (wC Y Y) (fun hp10=>?_) (fun hp10=>?_)
 refine Xt Y Y<|Xm Y<|Ae e23<|OY Y<|Xf qC Y<|OY Y<|OV (EL ty3 Y (H2.cell (i:=0) Y Y))<|Ae e23<|OY Y<|Xm Y<|OY Y<|OT (uV Y Y) (fun hp16=>?_) (fun hp16=>?_)
 refine Xt Y Y<|Xm Y<|Ae e23<|OY Y<|Xf sW Y<|OY Y<|OV (EL ty3 Y (H2.cell (i:=0) Y Y))<|Ae e23<|OY Y<|OT (wC Y Y) (fun hp21=>?_) (fun hp21=>?_)
 refine Xt Y Y<|Xa Y<|Xr e23<|J5<|Cj Y Y<|⟨bt (by omega),H2.Ag⟩
 refine Xt Y Y<|Xa Y<|Xr e23<|J5<|Cj Y Y<|⟨bf (by omega),H2.Ag⟩
 refine Xt Y Y ?_
 have m1:=()
 rotate_left 1
 refine Xt Y Y<|Xm Y<|Ae e23<|Oz 4 Y<|Ae e23<|Xu Y Y ?_
 have m1:=()
 rotate_left 1
 have H2:=H1.Ap Hd
 refine Xm Y<|Ae e23<|Oz 3 Y<|Ae e23<|Xu Y Y<|Xm Y<|Ae e23<|Oz 4 Y<|Ae e23<|Xu Y Y ?_
 have m1:=()
 rotate_left 1
 any_goals
  clear m1
  refine Xm Y<|Ae e23<|Oz 3 Y<|Ae e23<|Xu Y Y<|Xa Y<|Xr e23<|J5<|Cj Y Y<|⟨bf (by omega),H2.Ag⟩
theorem GQ (a:Bal) (w0:World):Aj 198 #[.agg [Aa a.r,Aa a.n].toArray] w0 (fun r w'=>r=.bool (decide (1≤a.r∧1≤a.n))∧Hp w0 w' [] []):=by
 refine zE Tryz.func198 Tryz.ntmps198 Y<|cR e11 ?_
 have H:=Hp.refl w0
 refine Rq<|zW Y Y H<|fun w1 g1 H1 hg1=>Xa Y<|Xr e11<|Rq<|Xf sW Y<|OV (EL ty3 Y (H1.cell (i:=0) Y Y))<|OT (wC Y Y) (fun hp5=>?_) (fun hp5=>?_)
 refine Xm Y<|Ae e11<|OY Y<|Xf qC Y<|OY Y<|OV (EL ty3 Y (H1.cell (i:=0) Y Y))<|Ae e11<|OY Y<|OT (wC Y Y) (fun hp9=>?_) (fun hp9=>?_)
 refine Xt Y Y<|Xa Y<|Xr e11<|J5<|Cj Y Y<|⟨bt (by omega),H1.Ag⟩
 refine Xt Y Y<|Xa Y<|Xr e11<|J5<|Cj Y Y<|⟨bf (by omega),H1.Ag⟩
 refine Xm Y<|Ae e11<|Oz 3 Y<|Ae e11<|Xu Y Y<|Xa Y<|Xr e11<|J5<|Cj Y Y<|⟨bf (by omega),H1.Ag⟩
theorem GH (a:Bal) (w0:World):Aj 176 #[.agg [Aa a.r,Aa a.n].toArray] w0 (fun r w'=>r=.bool (decide (1≤a.r∧1≤a.n))∧Hp w0 w' [] []):=by
 refine zE Tryz.func176 Tryz.ntmps176 Y<|cR e11 ?_
 have H:=Hp.refl w0
 refine Rq<|zW Y Y H<|fun w1 g1 H1 hg1=>Xa Y<|Xr e11<|Rq<|Xf sW Y<|OV (EL ty3 Y (H1.cell (i:=0) Y Y))<|OT (wC Y Y) (fun hp5=>?_) (fun hp5=>?_)
 refine Xm Y<|Ae e11<|OY Y<|Xf qC Y<|OY Y<|OV (EL ty3 Y (H1.cell (i:=0) Y Y))<|Ae e11<|OY Y<|OT (wC Y Y) (fun hp9=>?_) (fun hp9=>?_)
 refine Xt Y Y<|Xa Y<|Xr e11<|J5<|Cj Y Y<|⟨bt (by omega),H1.Ag⟩
 refine Xt Y Y<|Xa Y<|Xr e11<|J5<|Cj Y Y<|⟨bf (by omega),H1.Ag⟩
 refine Xm Y<|Ae e11<|Oz 3 Y<|Ae e11<|Xu Y Y<|Xa Y<|Xr e11<|J5<|Cj Y Y<|⟨bf (by omega),H1.Ag⟩
theorem key15 (s:Blk) (w0:World):Aj 173 #[yI s] w0 (fun r w'=>r=.bool (decide (1≤s.length∧s.length≤16))∧Hp w0 w' [] []):=by
 refine zE Tryz.func173 Tryz.ntmps173 Y<|cR e11 ?_
 have H:=Hp.refl w0
 refine Rq<|Xa Y<|Xr e11<|Rq<|Xm Y<|OV (oI Tryz.underlying9 Y)<|OT (wC Y Y) (fun hp5=>?_) (fun hp5=>?_)
 refine Xm Y<|Ae e11<|OY Y<|Xm Y<|OY Y<|OV (oI Tryz.underlying9 Y)<|Ae e11<|OY Y<|OT (uV Y Y) (fun hp9=>?_) (fun hp9=>?_)
 refine Xt Y Y<|Xa Y<|Xr e11<|J5<|Cj Y Y<|⟨bt (by omega),H.Ag⟩
 refine Xt Y Y<|Xa Y<|Xr e11<|J5<|Cj Y Y<|⟨bf (by omega),H.Ag⟩
 refine Xm Y<|Ae e11<|Oz 3 Y<|Ae e11<|Xu Y Y<|Xa Y<|Xr e11<|J5<|Cj Y Y<|⟨bf (by omega),H.Ag⟩
theorem VJ (a:Rt) (w0:World):Aj 153 #[.agg (Dc a).toArray] w0 (fun r w'=>r=.bool (decide (nK a))∧Hp w0 w' [] []):=by
 refine zE Tryz.func153 Tryz.ntmps153 Y<|cR e23 ?_
 have H:=Hp.refl w0
 refine Rq<|zW Y Y H<|fun w1 g1 H1 hg1=>Xa Y<|Xr e23<|Rq<|Xf qD Y<|OV (EL ty3 Y (H1.cell (i:=0) Y Y))<|OX (EC gf185 Y) (UA _ _) (fun hp5 w2 Hd=>?_) (fun hp5 w2 Hd=>?_)
 have H2:=H1.Ap Hd
 refine Xm Y<|Ae e23<|OY Y<|Xf oV Y<|OY Y<|OV (EL ty9 Y (H2.cell (i:=0) Y Y))<|Ae e23<|OY Y<|OV (oI Tryz.underlying9 Y)<|OY Y<|OT (wC Y Y) (fun hp10=>?_) (fun hp10=>?_)
 refine Xt Y Y<|Xm Y<|Ae e23<|OY Y<|Xf oV Y<|OY Y<|OV (EL ty9 Y (H2.cell (i:=0) Y Y))<|Ae e23<|OY Y<|OV (oI Tryz.underlying9 Y)<|OY Y<|OT (uV Y Y) (fun hp16=>?_) (fun hp16=>?_)
 refine Xt Y Y<|Xm Y<|Ae e23<|OY Y<|Xf aC Y<|OY Y<|OV (EL ty3 Y (H2.cell (i:=0) Y Y))<|Ae e23<|OY Y<|OT (wC Y Y) (fun hp21=>?_) (fun hp21=>?_)
 refine Xt Y Y<|Xa Y<|Xr e23<|J5<|Cj Y Y<|⟨bt (by omega),H2.Ag⟩
 refine Xt Y Y<|Xa Y<|Xr e23<|J5<|Cj Y Y<|⟨bf (by omega),H2.Ag⟩
 refine Xt Y Y ?_
 have m1:=()
 rotate_left 1
 refine Xt Y Y<|Xm Y<|Ae e23<|Oz 4 Y<|Ae e23<|Xu Y Y ?_
 have m1:=()
 rotate_left 1
 have H2:=H1.Ap Hd
 refine Xm Y<|Ae e23<|Oz 4 Y<|Ae e23<|Xu Y Y<|Xm Y<|Ae e23<|Oz 4 Y<|Ae e23<|Xu Y Y ?_
 have m1:=()
 rotate_left 1
 any_goals
  clear m1
  refine Xm Y<|Ae e23<|Oz 3 Y<|Ae e23<|Xu Y Y<|Xa Y<|Xr e23<|J5<|Cj Y Y<|⟨bf (by omega),H2.Ag⟩
theorem VK (a:Rt) (w0:World):Aj 132 #[.agg (Dc a).toArray] w0 (fun r w'=>r=.bool (decide (nK a))∧Hp w0 w' [] []):=by
 refine zE Tryz.func132 Tryz.ntmps132 Y<|cR e16 ?_
 have H:=Hp.refl w0
 refine Rq<|zW Y Y H<|fun w1 g1 H1 hg1=>Xa Y<|Xr e16<|Rq<|Xf qD Y<|OV (EL ty3 Y (H1.cell (i:=0) Y Y))<|OX (EC gf172 Y) (UB _ _) (fun hp5 w2 Hd=>?_) (fun hp5 w2 Hd=>?_)
 have H2:=H1.Ap Hd
 refine Xm Y<|Ae e16<|OY Y<|Xf oV Y<|OY Y<|OV (EL ty9 Y (H2.cell (i:=0) Y Y))<|Ae e16<|OY Y<|OX (EC gf173 Y) (key15 _ _) (fun hp9 w3 Hd=>?_) (fun hp9 w3 Hd=>?_)
 have H3:=H2.Ap Hd
 refine Xt Y Y<|Xm Y<|Ae e16<|OY Y<|Xf aC Y<|OY Y<|OV (EL ty3 Y (H3.cell (i:=0) Y Y))<|Ae e16<|OY Y<|OT (wC Y Y) (fun hp14=>?_) (fun hp14=>?_)
 refine Xt Y Y<|Xa Y<|Xr e16<|J5<|Cj Y Y<|⟨bt (by omega),H3.Ag⟩
 refine Xt Y Y<|Xa Y<|Xr e16<|J5<|Cj Y Y<|⟨bf (by omega),H3.Ag⟩
 have H3:=H2.Ap Hd
 refine Xt Y Y<|Xm Y<|Ae e16<|Oz 3 Y<|Ae e16<|Xu Y Y<|Xa Y<|Xr e16<|J5<|Cj Y Y<|⟨bf (by omega),H3.Ag⟩
 have H2:=H1.Ap Hd
 refine Xm Y<|Ae e16<|Oz 3 Y<|Ae e16<|Xu Y Y<|Xm Y<|Ae e16<|Oz 3 Y<|Ae e16<|Xu Y Y<|Xa Y<|Xr e16<|J5<|Cj Y Y<|⟨bf (by omega),H2.Ag⟩
theorem cF (a b:Rt) (w0:World):Aj 133 #[.agg (Dc a).toArray,.agg (Dc b).toArray] w0 (fun r w'=>r=.bool (decide (Ox a b=true))∧Hp w0 w' [] []):=by
 refine zE Tryz.func133 Tryz.ntmps133 Y<|cR e24 ?_
 have H:=Hp.refl w0
 refine Rq<|zW Y Y H<|fun w1 g1 H1 hg1=>zW Y Y H1<|fun w2 g2 H2 hg2=>Xa Y<|Xr e24<|Rq<|Xf qD Y<|OV (EL ty3 Y (H2.cell (i:=0) Y Y))<|Xf qD Y<|OV (EL ty3 Y (H2.cell (i:=1) Y Y))<|Ae e24<|OT (zR Y Y) (fun hp9=>?_) (fun hp9=>?_)
 refine Xm Y<|Oz 12 Y<|Ae e24<|Xt Y Y<|Xa Y<|Xr e24<|J5<|Cj Y Y<|⟨bt (by simp_all [Ox]),H2.Ag⟩
 refine Xm Y<|OY Y<|Xf qD Y<|Ae e24<|OY Y<|OV (EL ty3 Y (H2.cell (i:=0) Y Y))<|OY Y<|Xf qD Y<|Ae e24<|OY Y<|OV (EL ty3 Y (H2.cell (i:=1) Y Y))<|OY Y<|OT (yU Y Y) (fun Iz=>?_) (fun Iz=>?_)
 refine OY Y<|Xm Y<|Ae e24<|OY Y<|Xf oV Y<|OY Y<|OV (EL ty9 Y (H2.cell (i:=0) Y Y))<|Ae e24<|OY Y<|Xf oV Y<|OY Y<|OV (EL ty9 Y (H2.cell (i:=1) Y Y))<|Ae e24<|OY Y<|OT (HU Y Y) (fun hp21=>?_) (fun hp21=>?_)
 refine OY Y<|Xt Y Y<|Xu Y Y<|Xa Y<|Xr e24<|J5<|Cj Y Y<|⟨bt (by simp_all [Ox]),H2.Ag⟩
 refine OY Y<|Xt Y Y<|Xu Y Y<|Xa Y<|Xr e24<|J5<|Cj Y Y<|⟨bf (by simp_all [Ox]),H2.Ag⟩
 refine OY Y<|Xm Y<|Ae e24<|Oz 5 Y<|Ae e24<|OY Y<|Xu Y Y<|Xu Y Y<|Xa Y<|Xr e24<|J5<|Cj Y Y<|⟨bf (by simp_all [Ox]),H2.Ag⟩
set_option maxHeartbeats 16000000
theorem PJ (gs:Nat) (c0 c1 c2 c4:Value) (x:Int) (A3:Option Addr) (m k3:Nat) (w0:World) (hrow:w0.heap[gs]? =some (.cells [c0,c1,c2,Aa x,c4,Ac A3 m k3].toArray 97 (0,0))) (hx:-1000000000000000000≤x∧x≤1000000000000000000) (hm:m≤1000000000000000000):Aj 163 #[Ah gs] w0 (fun r w'=>r=Aa (x+m)∧Hp w0 w' [] []):=by
 refine zE Tryz.func163 Tryz.ntmps163 Y<|cR e13 ?_
 have H:=Hp.refl w0
 refine Rq<|Xa Y<|Xr e13<|J1<|zQ 10 [(true,0),(true,1),(true,2),(true,3),(true,4),(true,5),(true,6),(true,7),(true,8),(true,9),(false,10)] H [] yF (by decide) (by kernel_rfl) ?_
 rintro w1 hw1
 have H1:=Hp.drew H;rw[← hw1]at H1
 refine Zm Y Y<|Zc Y Y<|Zf Y wX Y<|MP Y<|MV (fun wz hz=>EL ty3 Y (fH (hz.keep hrow (by simp)) Y))<|cZ e13<|Zm Y Y<|Zc Y Y<|Zf Y wL Y<|MP Y<|MV (fun wz hz=>EL tX Y (fH (hz.keep hrow (by simp)) Y))<|cZ e13<|MP Y<|MV (fun wz hz=>ES Na Y)<|MP Y<|MV (fun wz hz=>zL Y Y (Ad _ (by omega)))<|MO Y<|Xa Y<|OE<|⟨fun hne=>absurd Y hne,?_⟩
 refine cZ e13<|ME<|cR e13<|J5<|Cj Y Y<|⟨Y,H1.Ag⟩
theorem eA (gs:Nat) (p:Bal) (c2 c3 c4 c5:Value) (n:Nt) (B1:Option Addr) (j1:Nat) (B2:Option Addr) (j2:Nat) (w0:World) (hrow:w0.heap[gs]? =some (.cells [Aa p.r,Aa p.n,c2,c3,c4,c5].toArray 97 (0,0))):Aj 116 #[Ah gs,.agg (Dv n B1 j1 B2 j2).toArray] w0 (fun _ w'=>Hp w0 w' [gs] [((some gs,97,[Aa (rz p n.b).r,Aa (rz p n.b).n,c2,c3,c4,c5]):Ent)]):=by
 refine zE Tryz.func116 Tryz.ntmps116 Y<|cR e16 ?_
 have H:=Hp.old hrow
 refine Rq<|zW Y Y H<|fun w1 g1 H1 hg1=>Xr e16<|J1<|zQ 6 [(true,0),(true,1),(true,2),(true,3),(true,4),(true,5),(false,6)] H1 [0,1] yF (by decide) (by kernel_rfl) ?_
 rintro w2 hw2
 have H2:=Hp.drew H1;rw[← hw2]at H2
 refine Zm Y Y<|Zc Y Y<|Zf Y uZ Y<|MP Y<|MV (fun wz hz=>EN vC Y (vs:=[Aa p.r,Aa p.n]) Y (hz.Ak (i:=0) Y Y))<|cZ e16<|Zf Y mM Y<|MP Y<|MV (fun wz hz=>EN vC Y (vs:=[Aa n.b.r,Aa n.b.n]) Y (hz.Ak (i:=1) Y Y))<|MO Y<|OX (EC P6 Y) (GZ _ _ _) (fun hp10 w3 Hd=>?_) (fun hp10 w3 Hd=>?_)
 have H3:=H2.Ap Hd
 refine OE ?_
 refine⟨fun hne=>absurd Y hne,?_⟩
 refine ME<|cR e16<|J3 Y<|J2<|Xm Y<|Xf mM Y<|OV (EN vC Y (vs:=[Aa n.b.r,Aa n.b.n]) Y (H3.Ak (i:=1) Y Y))<|Xc Y<|Ae e16<|Xf uZ Y<|OS vC H3 0 Y Y Y Y Y (by first|exact NL Y|simp[zG]) Y<|fun w4 H4=>Xr e16<|zA<|yO Y ?_
 unfold rz
 rw[if_pos hp10]
 exact H4.pick [0] (by decide)
 have H3:=H2.Ap Hd
 refine OE ?_
 refine⟨fun hne=>absurd Y hne,?_⟩
 refine ME<|cR e16<|J4 Y<|J6<|zA<|yO Y ?_
 unfold rz
 rw[if_neg hp10]
 exact H3.pick [0] (by decide)
theorem fI (A:Option Addr) (k:Nat) (l:List Vt) (n:Int) (ok:Nat→Prop) (w0:World) (hl:Sl (Oc w0 ok) 4 w0 ok A l) (hn:l.length≤1099511627776):Aj 167 #[Ac A l.length k,Aa n] w0 (fun r w'=>∃ A' k',r=Ac A' (vR l n).length k'∧Sl (Oc w' (up ok w0.heap.size)) 4 w' (up ok w0.heap.size) A' (vR l n)∧Hp w0 w' [] []):=by
 refine zE Tryz.func167 Tryz.ntmps167 Y<|cR e9 ?_
 have H:=Hp.refl w0
 obtain⟨ps,hp,hr,ha,h2⟩:=hl
 have hlen:=h2.len
 have hon:=h2.ones fun _ _ h=>h.ones
 refine Rq<|zW Y Y H<|fun w1 gc H1 hgc=>Xa Y<|Xr e9<|Rq<|Xm Y<|OQ (EC XO Y) (IA A l.length k ps.flatten _ (hr.to0 H1) (xF hon) (by omega)) ?_
 rintro _ w2 ⟨g,cap,sp,rfl,hgn,hcz,hg0,Hc⟩
 have hgf:=wO (ok:=ok) Hc (i:=0) rfl (fun _ h=>by cases h)
 have hsz1:=H1.size
 have H2:=H1.call0 Hc
 refine OV (wH Y Y) ?_
 have hgcx:=H2.at (i:=0) rfl
 refine OQ (EC gf194 Y) (UP g cap l.length ps hlen sp 195 gc (Ji n) _ (H2.pick [1] (by decide)).here hp hon (by omega) (by omega) hcz (YX h2 hgcx Y) (Fg H2 (i:=0) (is:=[1]) Y (by decide))) ?_
 rintro _ w3 ⟨sp2,rfl,hl2,Hd⟩
 have H3:=H2.Dq [1] rfl Hd
 refine Ae e9<|Xa Y<|Xr e9<|J5<|Cj Y Y ?_
 have hf:=h2.filter (f:=fun p=>!Ji n p) (g:=fun x=>!decide (x.slot≤n)) fun p x h=>by rw[IP h]
 rw[MS]at hf
 rw[hf.len]
 refine⟨_,cap,Y,Sl.row H3 (i:=2) Y (hp.sub fun x hx=>(Dy.1 hx).1) (by decide) (hf.imp fun p x h=>h.to H3 vD) (fun b hb=>?_),H3.Ag⟩
 rcases hgf b hb with h | h
 exact .inl h
 exact .inr (by omega)
theorem WK (gs:Nat) (s:Sv) (A1:Option Addr) (k1:Nat) (A2:Option Addr) (k2:Nat) (A3:Option Addr) (k3:Nat) (n:Nt) (B1:Option Addr) (j1:Nat) (B2:Option Addr) (j2:Nat) (Vd:Nat→Prop) (w0:World) (hrow:w0.heap[gs]? =some (.cells (Cb s A1 k1 A2 k2 A3 k3).toArray 97 (0,0))) (ok:Nat→Prop) (hok:¬ok gs) (hv1:Sl (Oc w0 ok) 4 w0 ok A1 s.Bd) (hv2:Bs w0 ok A2 s.image) (hv3:Sl (Qu w0 ok) 2 w0 ok A3 s.entries) (Ya:¬Vd gs) (hb:Bs w0 Vd B1 n.Eb.val) (hrise:dK (fun x:Vt=>sH x.slot n.Eb.slot) s.Bd) (hvl:s.Bd.length≤1000) (hi:0≤s.index∧s.index≤1099511627776) (he:s.entries.length≤1099511627776):Aj 117 #[Ah gs,.agg (Dv n B1 j1 B2 j2).toArray] w0 (fun _ w'=>∃ cs',Hp w0 w' [gs] [((some gs,97,cs'):Ent)]∧Rl w' (up ok w0.heap.size) cs' (if n.Eb.slot≤s.last then s else({ s with Bd:=Jv s.Bd n.Eb }:Sv).raise n.Eb.b)):=by
 refine zE Tryz.func117 Tryz.ntmps117 Y<|cR e53 ?_
 have H:=Hp.old hrow
 have hks:=KX (n:=w0.heap.size) (ok:=ok) (S:=[gs]) fun x hx hg=>hok (by rw[← Bc.1 hg];exact hx)
 have hkn:∀ x,Vd x→x < w0.heap.size→x∉[gs]∧Vd x:=fun x hx _=>⟨fun hg=>Ya (by rw[← Bc.1 hg];exact hx),hx⟩
 obtain⟨ps,hp,hr,ha,h2⟩:=id hv1
 have hlen:=h2.len
 have hon:=h2.ones fun _ _ h=>h.ones
 refine Rq<|zW Y Y H<|fun w1 g1 H1 hg1=>Xr e53<|Rq<|Xf qO Y<|OV (EN xC Y (vs:=Ju n B1 j1) Y (H1.Ak (i:=1) Y Y))<|OA xC H1<|fun w2 g2 H2 hg2=>OS xC H2 2 Y Y Y Y Y (by first|exact NL Y|simp[zG]) Y<|fun w3 H3=>Xr e53<|J1<|J1<|zQ 4 [(true,0),(true,1),(true,2),(false,3),(false,4)] H3 [0,1,2] yF (by decide) (by kernel_rfl) ?_
 rintro w4 hw4
 have H4:=Hp.drew H3;rw[← hw4]at H4
 refine Zf Y wY Y<|MP Y<|MV (fun wz hz=>EL ty3 Y (hz.cell (i:=2) Y Y))<|Zm Y Y<|MO Y<|OC (EC VQ Y) (PJ gs _ _ _ _ s.index A3 s.entries.length k3 _ (H4.at (i:=0) Y) ⟨by omega,by omega⟩ (by omega))<|fun w5 Hd=>have H5:=H4.Ap Hd;OE<|⟨fun hne=>H5.pick [0,1,2] (by decide),?_⟩
 refine cZ e53<|MO Y<|OT (uV Y Y) (fun hp14=>?_) (fun hp14=>?_)
 refine OE ?_
 refine⟨fun hne=>absurd Y hne,?_⟩
 refine ME<|cR e53<|J3 Y<|J5<|rQ Y ?_
 rw[if_pos (by unfold Sv.last;exact hp14)]
 exact⟨_,H5.pick [0] (by decide),A1,k1,A2,k2,A3,k3,Y,hv1.Qi H5 hks,hv2.to H5 hks,hv3.Si H5 hks⟩
 refine OE ?_
 refine⟨fun hne=>absurd Y hne,?_⟩
 refine ME<|cR e53<|J4 Y<|J6<|Rq<|Xf tO Y<|OV (EL xG Y (H5.cell (i:=2) Y Y))<|yW (EC jS Y) (vM B1 n.Eb.val j1 _ (hb.to H5 hkn).1 (by have:=hb.2.2;omega))<|fun w6 gb cb sb hmb hcb hgb Hc=>have H6:=H5.call0 Hc;Xf tO Y<|Ae e53<|OW xG H6 2 Y Y Y Y (by first|exact NL Y|simp[zG]) Y<|fun w7 H7=>Xr e53<|J1<|zQ 11 [(true,0),(true,1),(true,2),(true,3),(true,4),(true,5),(false,6),(true,7),(true,8),(true,9),(true,10),(false,11)] H7 [0,1,2,3] yF (by decide) (by kernel_rfl) ?_
 rintro w8 hw8
 have H8:=Hp.drew H7;rw[← hw8]at H8
 refine Zm Y Y<|Zc Y Y<|Zf Y wM Y<|MP Y<|MV (fun wz hz=>EL tY Y (hz.cell (i:=0) Y Y))<|cZ e53<|Zf Y wY Y<|MP Y<|MV (fun wz hz=>EL ty3 Y (hz.cell (i:=2) Y Y))<|MO Y<|OQ (EC gf164 Y) (RB A1 k1 ps s.Bd.length hlen 165 n.Eb.slot (WJ n.Eb.slot) _ hp (by rw[hlen];exact(hr.move (by decide) ha H8 hks).1) (by omega) (Q7 h2 hrise)) ?_
 rintro _ w9 ⟨i,f,rfl,hfd,Hd⟩
 have H9:=H8.Ap Hd
 refine OE ?_
 refine⟨fun hne=>H9.pick [0,1,2,3] (by decide),?_⟩
 refine cZ e53<|Zm Y Y<|MP Y<|MV (fun wz hz=>xA Y Y)<|MP Y<|MV (fun wz hz=>xA Y Y)<|MP Y<|MV (fun wz hz=>zP Y)<|cZ e53<|MO Y<|Xa Y<|OE<|⟨fun hne=>absurd Y hne,?_⟩
 refine cZ e53<|ME<|cR e53<|Rq<|Xm Y<|Xc Y<|Xf wM Y<|OV (EL tY Y (H9.cell (i:=0) Y Y))<|Ae e53<|OQ (EC XO Y) (IA A1 s.Bd.length k1 ps.flatten _ (hr.move (by decide) ha H9 hks).1 (xF hon) (by omega)) ?_
 rintro _ Sm ⟨gv,cv,sv,rfl,hmv,hcv,Tj,Hc⟩
 have Il:=H9.call0 Hc
 refine Xa Y<|Xr e53<|J1<|Rq<|Xm Y<|Xr e53<|wP Y (fun hb34=>?_) (fun hb34=>?_)
 obtain⟨pi,hpi,_⟩:=hfd.yes hb34
 have hil:=lt_of_get hpi
 obtain⟨gw,rfl⟩:=vO Il (i:=4) rfl (by rw[Af,hp.len];omega)
 subst hb34
 refine J2<|Xm Y<|Xm Y<|OV (EN xC Y (vs:=Ju n (hd gb) cb) Y (Il.Ak (i:=2) Y Y))<|OV (uS Jj xC Y Y Y (by omega))<|Ae e53<|OS xC Il 4 Y Y Y Y Y (by rw[Af,hp.len];show 0+i*4+4≤_;omega) Y<|fun w10 Df=>?_
 rw[nV (sz:=4) (vs:=Ju n (hd gb) cb) hp hil rfl]at Df
 replace Df:=Df.pick [0,1,2,3,4] (by decide)
 refine Xr e53<|Rq<|Xm Y<|Xm Y<|Xc Y<|Xf wM Y<|Ae e53<|OW tY Df 0 Y Y Y Y (by simp) Y<|fun w12 Gi=>Xr e53<|J2<|Xm Y<|Xf tA Y<|OV (EN vC Y (vs:=[Aa n.Eb.b.r,Aa n.Eb.b.n]) Y (Gi.Ak (i:=2) Y Y))<|OV (EB xT eB Y Y)<|Ae e53<|OQ (EC P7 Y) (eA gs s.p _ _ _ _ ⟨0,0,n.Eb.b,⟨0,⟨0,0⟩,[]⟩,⟨0,[]⟩,⟨0,[],0,0⟩,0,0⟩ none 0 none 0 _ (Gi.at (i:=0) Y)) ?_
 rintro r Nu Hd
 have Eh:=(Gi.Dq [0] rfl Hd).pick [5,1,2,3,4] (by decide)
 refine Xr e53<|zA<|yO Y ?_
 rw[if_neg (by unfold Sv.last;exact hp14)]
 have HZ:=Eh
 have Rz:=wO (ok:=ok) HZ (i:=3) rfl (fun b hb=>by rw[Bc.1 hb];exact fun e=>HZ.ne (i:=3) (j:=0) (g:=gs) (by rw[e];rfl) rfl (by decide) rfl)
 have hgv2:=wO (ok:=ok) HZ (i:=4) rfl (fun b hb=>by rw[Bc.1 hb];exact fun e=>HZ.ne (i:=4) (j:=0) (g:=gs) (by rw[e];rfl) rfl (by decide) rfl)
 have hnew:Oc Nu (up ok w0.heap.size) (Ju n (hd gb) cb) n.Eb:=⟨hd gb,cb,rfl,Bs.row HZ (i:=3) rfl hb.2.2 Rz⟩
 have hold:=h2.imp (R':=Oc Nu (up ok w0.heap.size)) fun p x h=>h.to HZ hks
 have hput:=hfd.put (v:=n.Eb) h2 (fun p x h=>B5 h) hrise
 rw[← D7]at hput
 rw[nF,hput]
 rw[if_pos rfl]
 have hset:=hold.set i hnew
 refine⟨_,HZ.pick [0] (by decide),hd (some gw),cv,A2,k2,A3,k3,by rw[Ko],?_,hv2.to HZ hks,hv3.Si HZ hks⟩
 exact Sl.row HZ (i:=4) Y (hp.Sr Y) (by decide) hset hgv2
 subst hb34
 refine J2<|Xm Y<|Xm Y<|OV (EN xC Y (vs:=Ju n (hd gb) cb) Y (Il.Ak (i:=2) Y Y))<|zJ Jj xC Il Y (by decide) Y<|fun w10 g11 Df hg11=>Ae e53<|OQ (EC gf166 Y) (T7 gv cv i _ s.Bd.length ps hlen (Ju n (hd gb) cb) sv _ (Df.pick [4] (by decide)).here hp hon (by omega) hcv Tj hfd.le (Df.at (i:=5) Y) Y Y (Fg Df (i:=5) (is:=[4]) Y (by decide)) (by omega)) ?_
 rintro _ w12 ⟨gw,cw,sw,rfl,hnw,hcw,hgw,Hd⟩
 rw[hlen]
 have Gi:=(Df.Dq [4] rfl Hd).pick [0,1,2,3,6] (by decide)
 refine Xa Y<|Xr e53<|Rq<|Xm Y<|Xm Y<|Xc Y<|Xf wM Y<|Ae e53<|OW tY Gi 0 Y Y Y Y (by simp) Y<|fun Nu Eh=>Xr e53<|J2<|Xm Y<|Xf tA Y<|OV (EN vC Y (vs:=[Aa n.Eb.b.r,Aa n.Eb.b.n]) Y (Eh.Ak (i:=2) Y Y))<|OV (EB xT eB Y Y)<|Ae e53<|OQ (EC P7 Y) (eA gs s.p _ _ _ _ ⟨0,0,n.Eb.b,⟨0,⟨0,0⟩,[]⟩,⟨0,[]⟩,⟨0,[],0,0⟩,0,0⟩ none 0 none 0 _ (Eh.at (i:=0) Y)) ?_
 rintro r Vw Hd
 have Ob:=(Eh.Dq [0] rfl Hd).pick [5,1,2,3,4] (by decide)
 refine Xr e53<|zA<|yO Y ?_
 rw[if_neg (by unfold Sv.last;exact hp14)]
 have HZ:=Ob
 have Rz:=wO (ok:=ok) HZ (i:=3) rfl (fun b hb=>by rw[Bc.1 hb];exact fun e=>HZ.ne (i:=3) (j:=0) (g:=gs) (by rw[e];rfl) rfl (by decide) rfl)
 have hgv2:=wO (ok:=ok) HZ (i:=4) rfl (fun b hb=>by rw[Bc.1 hb];exact fun e=>HZ.ne (i:=4) (j:=0) (g:=gs) (by rw[e];rfl) rfl (by decide) rfl)
 have hnew:Oc Vw (up ok w0.heap.size) (Ju n (hd gb) cb) n.Eb:=⟨hd gb,cb,rfl,Bs.row HZ (i:=3) rfl hb.2.2 Rz⟩
 have hold:=h2.imp (R':=Oc Vw (up ok w0.heap.size)) fun p x h=>h.to HZ hks
 have hput:=hfd.put (v:=n.Eb) h2 (fun p x h=>B5 h) hrise
 rw[← D7]at hput
 rw[nF,hput]
 rw[if_neg (by decide)]
 have hle:=hfd.le
 have hil3:(s.Bd.take i++n.Eb::s.Bd.drop i).length=s.Bd.length+1:=by rw[Af,Bg,Aw,Bh];omega
 refine⟨_,HZ.pick [0] (by decide),hd gw,cw,A2,k2,A3,k3,by rw[hil3],?_,hv2.to HZ hks,hv3.Si HZ hks⟩
 exact Sl.row HZ (i:=4) Y ((hp.sub fun x hx=>Fa hx).app fun x hx=>by
  rcases Cm.1 hx with rfl | hx
  · rfl
  exact hp x (Ep hx)) (by decide) ((hold.take i).app ⟨hnew,hold.drop i⟩) hgv2
theorem UN (gs:Nat) (s:Sv) (A1:Option Addr) (k1:Nat) (A2:Option Addr) (k2:Nat) (A3:Option Addr) (k3:Nat) (n:Nt) (B1:Option Addr) (j1:Nat) (B2:Option Addr) (j2:Nat) (Vd:Nat→Prop) (w0:World) (hrow:w0.heap[gs]? =some (.cells (Cb s A1 k1 A2 k2 A3 k3).toArray 97 (0,0))) (ok:Nat→Prop) (hok:¬ok gs) (hv1:Sl (Oc w0 ok) 4 w0 ok A1 s.Bd) (hv2:Bs w0 ok A2 s.image) (hv3:Sl (Qu w0 ok) 2 w0 ok A3 s.entries) (Ya:¬Vd gs) (hb:Bs w0 Vd B2 n.entry.val) (hvl:s.Bd.length≤1000) (hi:0≤s.index∧s.index≤1099511627776) (he:s.entries.length≤1099511627776):Aj 118 #[Ah gs,.agg (Dv n B1 j1 B2 j2).toArray] w0 (fun _ w'=>∃ cs',Hp w0 w' [gs] [((some gs,97,cs'):Ent)]∧Rl w' (up ok w0.heap.size) cs' (if n.entry.slot=s.last+1 then { s with entries:=s.entries++[n.entry],Bd:=vR s.Bd n.entry.slot } else s)):=by
 refine zE Tryz.func118 Tryz.ntmps118 Y<|cR e38 ?_
 have H:=Hp.old hrow
 have hks:=KX (n:=w0.heap.size) (ok:=ok) (S:=[gs]) fun x hx hg=>hok (by rw[← Bc.1 hg];exact hx)
 have hkn:∀ x,Vd x→x < w0.heap.size→x∉[gs]∧Vd x:=fun x hx _=>⟨fun hg=>Ya (by rw[← Bc.1 hg];exact hx),hx⟩
 obtain⟨pe,hpe,hre,hae,he2⟩:=id hv3
 have hel:=he2.len
 have hon:=he2.ones fun _ _ h=>h.ones
 have hkB:∀ x,ok x→x < w0.heap.size→x∉[gs]∧(ok x∧x < w0.heap.size):=fun x hx hl=>⟨(hks x hx hl).1,hx,hl⟩
 refine Rq<|zW Y Y H<|fun w1 g1 H1 hg1=>Xr e38<|Rq<|Xf vV Y<|OV (EN wJ Y (vs:=Gy n B2 j2) Y (H1.Ak (i:=1) Y Y))<|OA wJ H1<|fun w2 g2 H2 hg2=>OS wJ H2 2 Y Y Y Y Y (by first|exact NL Y|simp[zG]) Y<|fun w3 H3=>Xr e38<|J1<|J1<|zQ 5 [(true,0),(true,1),(true,2),(false,3),(true,4),(false,5)] H3 [0,1,2] yF (by decide) (by kernel_rfl) ?_
 rintro w4 hw4
 have H4:=Hp.drew H3;rw[← hw4]at H4
 refine Zf Y xX Y<|MP Y<|MV (fun wz hz=>EL ty3 Y (hz.cell (i:=2) Y Y))<|Zm Y Y<|MO Y<|OC (EC VQ Y) (PJ gs _ _ _ _ s.index A3 s.entries.length k3 _ (H4.at (i:=0) Y) ⟨by omega,by omega⟩ (by omega))<|fun w5 Hd=>have H5:=H4.Ap Hd;OE<|⟨fun hne=>H5.pick [0,1,2] (by decide),?_⟩
 refine cZ e38<|MP Y<|MV (fun wz hz=>zL Y Y (Ad _ (by omega)))<|MO Y<|OT (yR Y Y) (fun Np=>?_) (fun Np=>?_)
 refine OE ?_
 refine⟨fun hne=>absurd Y hne,?_⟩
 refine ME<|cR e38<|J3 Y<|J5<|rQ Y ?_
 rw[if_neg (by unfold Sv.last;exact Np)]
 exact⟨_,H5.pick [0] (by decide),A1,k1,A2,k2,A3,k3,Y,hv1.Qi H5 hks,hv2.to H5 hks,hv3.Si H5 hks⟩
 refine OE ?_
 refine⟨fun hne=>absurd Y hne,?_⟩
 refine ME<|cR e38<|J4 Y<|J6<|Rq<|Xf uH Y<|OV (EL xG Y (H5.cell (i:=2) Y Y))<|yW (EC jS Y) (vM B2 n.entry.val j2 _ (hb.to H5 hkn).1 (by have:=hb.2.2;omega))<|fun w6 gb cb sb hmb hcb hgb Hc=>have H6:=H5.call0 Hc;Xf uH Y<|Ae e38<|OW xG H6 2 Y Y Y Y (by first|exact NL Y|simp[zG]) Y<|fun w7 H7=>Xr e38<|J1<|qJ 11 (.p 0 (.p 1 (.p 2 (.p 3 (.p 4 (.p 6 (.two 5 (.o 7 (.o 8 (.p 9 (.p 10 (.o 11 .nil))))) 7 (.o 5 (.o 8 (.p 9 (.p 10 (.o 11 .nil)))))))))))) H7 [0,1,2,3] yF (by decide) (by kernel_rfl) ?_
 rintro w8 hw8
 have H8:=Hp.drew H7;rw[← hw8]at H8
 refine Tm Y Y<|Tm Y Y<|TP Y<|MV (fun wz hz=>yH Y)<|Tf Y wL Y<|cT e38<|TP Y<|MV (fun wz hz=>EL tX Y (hz.cell (i:=0) Y Y))<|TP Y<|MV (fun wz hz=>EN wJ Y (vs:=Gy n (hd gb) cb) Y (hz.Ak (i:=2) Y Y))<|pU ?_ ?_
 refine TQ Y<|OQ (EC UC Y) (C7 A3 s.entries.length k3 pe.flatten _ (hre.move (by decide) hae H8 hks).1 (xF hon) (by omega)) ?_
 rintro _ w9 ⟨ge,ce,se,rfl,hme,hce,hge0,Hc⟩
 have H9:=H8.call0 Hc
 refine OE ?_
 refine⟨fun hne=>H9.pick [0,1,2,3] (by decide),?_⟩
 refine cT e38<|TQ Y<|zJ Na wJ H9 Y (by decide) Y<|fun Nu g10 Eh hg10=>have m1:=();?_
 rotate_left 1
 refine TQ Y<|zJ Na wJ H8 Y (by decide) Y<|fun w9 g9 H9 hg9=>OE<|⟨fun hne=>H9.pick [0,1,2,3] (by decide),?_⟩
 refine cT e38<|TQ Y<|OQ (EC UC Y) (C7 A3 s.entries.length k3 pe.flatten _ (hre.move (by decide) hae H9 hks).1 (xF hon) (by omega)) ?_
 rintro _ Nu ⟨ge,ce,se,rfl,hme,hce,hge0,Hc⟩
 have Eh:=(H9.call0 Hc).pick [0,1,2,3,5,4] (by decide)
 have m1:=()
 rotate_left 1
 any_goals
  clear m1
  refine OE ?_
  refine⟨fun hne=>Eh.pick [0,1,2,3] (by decide),?_⟩
  refine cT e38<|TQ Y<|yX Na wJ (by decide) Eh 4 (g:=ge) (n:=s.entries.length) (xs:=pe.flatten) (sp:=se) Y Y (by rw[hpe.len,hel]) hce hme hge0 Y (Eh.rd (i:=5) (o:=some _) (xs:=((Gy n (hd gb) cb):List Value)) (sp:=[]) Y Y (by decide)) Y (by omega) (by omega) (by decide)<|fun Vw gw cw sw Ob hcw hmw hgw=>OE<|⟨fun hne=>Ob.pick [0,1,2,3] (by decide),?_⟩
  refine cT e38<|TP Y<|MV (fun wz hz=>yH Y)<|Tf Y wL Y<|TQ Y<|OW tX Ob 0 Y Y Y Y (by first|exact NL Y|simp[zG]) Y<|fun Yu Qh=>OE<|⟨fun hne=>absurd Y hne,?_⟩
  refine cT e38<|rA<|cR e38<|zQ 10 [(true,0),(true,1),(true,2),(true,3),(true,4),(true,5),(true,6),(false,7),(true,8),(true,9),(false,10)] Qh [0,1,2,3,4,5] yF (by decide) (by kernel_rfl) ?_
  rintro w10 Ql
  have Df:=Hp.drew Qh;rw[← Ql]at Df
  refine Zm Y Y<|Zm Y Y<|Zc Y Y<|Zf Y wM Y<|cZ e38<|MP Y<|MV (fun wz hz=>EL tY Y (hz.cell (i:=0) Y Y))<|Zf Y xX Y<|MP Y<|MV (fun wz hz=>EL ty3 Y (hz.cell (i:=2) Y Y))<|MO Y<|OQ (EC JL Y) (fI A1 k1 s.Bd n.entry.slot (fun x=>ok x∧x < w0.heap.size) _ (hv1.Qi Df hkB) (by omega)) ?_
  rintro _ Sm ⟨A9,k9,rfl,Vp,Hd⟩
  have hsz9:=Df.size
  have Yb:=fun x hx=>pZ Df (b:=x) hx
  have Il:=Df.Ap Hd
  have Y4:=bl_place Il
  refine OE ?_
  refine⟨fun hne=>Il.pick [0,1,2,3,4,5] (by decide),?_⟩
  refine cZ e38<|Zc Y Y<|Zf Y wM Y<|MO Y ?_
  have HB:=Il
  have HL:=HB.here
  refine OW tY HL 0 Y Y Y Y (by first | (simp;done) | simp[zG]) Y<|fun w12 Gi=>have HW:=HB.all Gi;?_
  have Vp:=Vp.Qi (ok':=up ok w0.heap.size) Gi (fun x hx hl=>?_)
  rotate_left
  rcases hx with hx | hx
  refine⟨fun hb=>?_,.inl hx.1⟩
  rcases Y4 x hb with h | h
  exact(hks x hx.1 hx.2).1 h
  have:=hx.2;omega
  exact⟨fun hb=>by have:=Yb x hb;omega,.inr (by omega)⟩
  refine OE ?_
  refine⟨fun hne=>absurd Y hne,?_⟩
  refine cZ e38<|ME<|cR e38<|zA<|yO Y ?_
  rw[if_pos (by unfold Sv.last;omega)]
  have Rz:=wO (ok:=ok) HW (i:=3) rfl (fun b hb=>by rw[Bc.1 hb];exact fun e=>HW.ne (i:=3) (j:=0) (g:=gs) (by rw[e];rfl) rfl (by decide) rfl)
  have hgw2:=wO (ok:=ok) HW (i:=4) rfl (fun b hb=>by rw[Bc.1 hb];exact fun e=>HW.ne (i:=4) (j:=0) (g:=gs) (by rw[e];rfl) rfl (by decide) rfl)
  have hnew:Qu w12 (up ok w0.heap.size) ((Gy n (hd gb) cb):List Value) n.entry:=⟨hd gb,cb,rfl,Bs.row HW (i:=3) rfl hb.2.2 Rz⟩
  have hold:=he2.imp (R':=Qu w12 (up ok w0.heap.size)) fun p x h=>h.to HW hks
  have hfl:pe.flatten++((Gy n (hd gb) cb):List Value)=(pe++[((Gy n (hd gb) cb):List Value)]).flatten:=by rw[Jd];simp
  refine⟨_,HW.pick [0] (by decide),A9,k9,A2,k2,hd gw,cw,by rw[Af];rfl,Vp,hv2.to HW hks,?_⟩
  exact Sl.row HW (i:=4) (by rw[← hfl];rfl) (hpe.app (Pl.one Y)) (by decide) (hold.app (wT.one hnew)) hgw2
theorem T9 (gs:Nat) (s:Sv) (A1:Option Addr) (k1:Nat) (A2:Option Addr) (k2:Nat) (A3:Option Addr) (k3:Nat) (n:Nt) (B1:Option Addr) (j1:Nat) (B2:Option Addr) (j2:Nat) (Vd:Nat→Prop) (w0:World) (hrow:w0.heap[gs]? =some (.cells (Cb s A1 k1 A2 k2 A3 k3).toArray 97 (0,0))) (ok:Nat→Prop) (hok:¬ok gs) (hv1:Sl (Oc w0 ok) 4 w0 ok A1 s.Bd) (hv2:Bs w0 ok A2 s.image) (hv3:Sl (Qu w0 ok) 2 w0 ok A3 s.entries) (Ya:¬Vd gs) (hb:Bs w0 Vd B2 n.entry.val) (hvl:s.Bd.length≤1000) (hes:∀ x∈s.entries,x.slot≤1099511627776) (hi:0≤s.index∧s.index≤1099511627776) (he:s.entries.length≤1099511627776):Aj 119 #[Ah gs,.agg (Dv n B1 j1 B2 j2).toArray] w0 (fun _ w'=>∃ cs',Hp w0 w' [gs] [((some gs,97,cs'):Ent)]∧Rl w' (up ok w0.heap.size) cs' (if n.entry.slot≤s.index then s else { s with index:=n.entry.slot,image:=n.entry.val,entries:=rG s.entries n.entry.slot,Bd:=vR s.Bd n.entry.slot })):=by
 refine zE Tryz.func119 Tryz.ntmps119 Y<|cR Nq ?_
 have H:=Hp.old hrow
 have hks:=KX (n:=w0.heap.size) (ok:=ok) (S:=[gs]) fun x hx hg=>hok (by rw[← Bc.1 hg];exact hx)
 have hkn:∀ x,Vd x→x < w0.heap.size→x∉[gs]∧Vd x:=fun x hx _=>⟨fun hg=>Ya (by rw[← Bc.1 hg];exact hx),hx⟩
 obtain⟨pe,hpe,hre,hae,he2⟩:=id hv3
 have hel:=he2.len
 have hon:=he2.ones fun _ _ h=>h.ones
 have hkB:∀ x,ok x→x < w0.heap.size→x∉[gs]∧(ok x∧x < w0.heap.size):=fun x hx hl=>⟨(hks x hx hl).1,hx,hl⟩
 refine Rq<|zW Y Y H<|fun w1 g1 H1 hg1=>Xr Nq<|Rq<|Xf vV Y<|OV (EN wJ Y (vs:=Gy n B2 j2) Y (H1.Ak (i:=1) Y Y))<|OA wJ H1<|fun w2 g2 H2 hg2=>OS wJ H2 2 Y Y Y Y Y (by first|exact NL Y|simp[zG]) Y<|fun w3 H3=>Xr Nq<|J1<|J1<|zQ 6 [(true,0),(true,1),(true,2),(true,3),(true,4),(true,5),(false,6)] H3 [0,1,2] yF (by decide) (by kernel_rfl) ?_
 rintro w4 hw4
 have H4:=Hp.drew H3;rw[← hw4]at H4
 refine Zf Y xX Y<|MP Y<|MV (fun wz hz=>EL ty3 Y (hz.cell (i:=2) Y Y))<|Zm Y Y<|Zc Y Y<|cZ Nq<|Zf Y wX Y<|MP Y<|MV (fun wz hz=>EL ty3 Y (hz.cell (i:=0) Y Y))<|MO Y<|OT (uV Y Y) (fun Qp=>?_) (fun Qp=>?_)
 refine OE ?_
 refine⟨fun hne=>absurd Y hne,?_⟩
 refine ME<|cR Nq<|J3 Y<|J5<|rQ Y ?_
 rw[if_pos Qp]
 exact⟨_,H4.pick [0] (by decide),A1,k1,A2,k2,A3,k3,Y,hv1.Qi H4 hks,hv2.to H4 hks,hv3.Si H4 hks⟩
 refine OE ?_
 refine⟨fun hne=>absurd Y hne,?_⟩
 refine ME<|cR Nq<|J4 Y<|J6<|Rq<|Xm Y<|Xm Y<|Xc Y<|Xf wL Y<|Ae Nq<|OV (EL tX Y (H4.cell (i:=0) Y Y))<|OQ (EC UC Y) (C7 A3 s.entries.length k3 pe.flatten _ (hre.move (by decide) hae H4 hks).1 (xF hon) (by omega)) ?_
 rintro _ w5 ⟨ge,ce,se,rfl,hme,hce,hge0,Hc⟩
 have H5:=H4.call0 Hc
 refine OV (wH Y Y)<|OQ (EC gf168 Y) (UQ ge ce s.entries.length pe hel se 169 _ (Ji n.entry.slot) _ (H5.pick [3] (by decide)).here hpe hon (by omega) (by omega) hce (Yx he2 (H5.at (i:=2) Y) Y) (Fg H5 (i:=2) (is:=[3]) Y (by decide))) ?_
 rintro _ w6 ⟨se2,rfl,hl2,Hd⟩
 have H6:=(H5.Dq [3] rfl Hd).pick [0,1,2,4] (by decide)
 have HI:=H6
 have hef:=he2.filter (f:=fun p=>!Ji n.entry.slot p) (g:=fun x=>decide (n.entry.slot < x.slot)) (fun p x h=>by
  rw[JZ h]
  by_cases hx:x.slot≤n.entry.slot
  · rw[decide_eq_true hx,decide_eq_false (by omega)];rfl
  rw[decide_eq_false hx,decide_eq_true (by omega)];rfl)
 have hefl:=hef.len
 have hpf:Pl 2 (pe.filter fun p=>!Ji n.entry.slot p):=hpe.sub fun x hx=>(Dy.1 hx).1
 refine Ae Nq<|Xc Y<|Xf wL Y<|OW tX H6 0 Y Y Y Y (by first | (simp;done) | simp[zG]) Y<|fun w7 H7=>Xr Nq<|J1<|J1<|zQ 18 [(true,0),(true,1),(true,2),(true,3),(true,4),(true,5),(true,6),(true,7),(true,8),(true,9),(true,10),(true,11),(true,12),(true,13),(true,14),(true,15),(true,16),(true,17),(false,18)] H7 [0,1,2,3] yF (by decide) (by kernel_rfl) ?_
 rintro w8 hw8
 have H8:=Hp.drew H7;rw[← hw8]at H8
 refine Zm Y Y<|Zc Y Y<|Zf Y wL Y<|MP Y<|MV (fun wz hz=>EL tX Y (hz.cell (i:=0) Y Y))<|cZ Nq<|MP Y<|MV (fun wz hz=>ES Na Y)<|MP Y<|vZ (fun wz hz=>yP Y Y) (fun Y9=>?_) (fun Y9=>?_)
 obtain⟨p0,hp0⟩:=yM (l:=(pe.filter fun p=>!Ji n.entry.slot p)) (j:=0) (by omega)
 obtain⟨e0,he0,hR0⟩:=hef.getL hp0
 have hmem0:=(Dy.1 (Fh he0))
 have hsl0:=hes e0 hmem0.1
 have hgt0:n.entry.slot < e0.slot:=by simpa using hmem0.2
 obtain⟨Aq,kq,hpq,_⟩:=hR0
 subst hpq
 have hc0:((pe.filter fun p=>!Ji n.entry.slot p).flatten++se2)[0+0*2+0]? =some (Aa e0.slot):=by
  have h1:=hpf.get hp0 (j:=0) (u:=Aa e0.slot) rfl
  rw[Di (lt_of_get h1)];exact h1
 obtain⟨gx,rfl⟩:=vO HI (i:=3) rfl (lt_of_get hc0)
 refine Zm Y Y<|MP Y<|MY Y<|MV (fun wz hz=>zK Y)<|MP Y<|MY Y<|MV (fun wz hz=>yH Y)<|cZ Nq<|MP Y<|MY Y<|MV (fun wz hz=>EF wL Y)<|MP Y<|MY Y<|MV (fun wz hz=>EL tX Y (hz.cell (i:=0) Y Y))<|MP Y<|MY Y<|MV (fun wz hz=>uS Na wJ Y Y (i:=0) Y (by omega))<|MP Y<|MY Y<|MV (fun wz hz=>EF xX Y)<|cZ Nq<|MP Y<|MY Y<|MV (fun wz hz=>EL ty3 Y (hz.cell (i:=3) Y hc0))<|MP Y<|MY Y<|MV (fun wz hz=>EF xX Y)<|MP Y<|MY Y<|MV (fun wz hz=>EL ty3 Y (hz.cell (i:=2) Y Y))<|MP Y<|MY Y<|MV (fun wz hz=>zL Y Y (Ad _ (by omega)))<|cZ Nq<|MP Y<|MY Y<|vZ (fun wz hz=>yR Y Y) (fun hp41=>?_) (fun hp41=>?_)
 · refine MO Y<|Xt Y Y<|OE<|⟨fun hne=>absurd Y hne,?_⟩
   refine cZ Nq<|ME<|cR Nq<|J3 Y<|J2<|Xm Y<|Xc Y<|Xf wL Y<|OW tX H8 0 Y Y Y Y (by first | (simp;done) | simp[zG]) Y<|fun w9 H9=>Xr Nq<|J1<|zQ 12 [(true,0),(true,1),(true,2),(true,3),(true,4),(true,5),(false,6),(true,7),(true,8),(false,9),(true,10),(true,11),(false,12)] H9 [1,2,3] yF (by decide) (by kernel_rfl) ?_
   rintro w12 hw12
   have Gi:=Hp.drew H9;rw[← hw12]at Gi
   refine Zm Y Y<|Zm Y Y<|Zf Y xX Y<|MP Y<|MV (fun wz hz=>EL ty3 Y (hz.cell (i:=1) Y Y))<|cZ Nq<|Zf Y uH Y<|MP Y<|MV (fun wz hz=>EL xG Y (hz.cell (i:=1) Y Y))<|MO Y<|yW (EC jS Y) (vM B2 n.entry.val j2 _ (hb.to Gi hkn).1 (by have:=hb.2.2;omega))<|fun Vw gb cb sb hmb hcb hgb Hc=>have Ob:=Gi.call0 Hc;OE<|⟨fun hne=>Ob.pick [1,2,3] (by decide),?_⟩
   refine cZ Nq<|Zc Y Y<|Zf Y wX Y<|MO Y<|OW ty3 Ob 0 Y Y Y Y (by first|exact NL Y|simp[zG]) Y<|fun Yu Qh=>OE<|⟨fun hne=>Qh.pick [1,2,3] (by decide),?_⟩
   refine cZ Nq<|Zc Y Y<|Zf Y uY Y<|MO Y<|OW xG Qh 0 Y Y Y Y (by first|exact NL Y|simp[zG]) Y<|fun w10 Df=>OE<|⟨fun hne=>absurd Y hne,?_⟩
   refine cZ Nq<|ME<|cR Nq<|zQ 10 [(true,0),(true,1),(true,2),(true,3),(true,4),(true,5),(true,6),(false,7),(true,8),(true,9),(false,10)] Df [0,1,2,3,4] yF (by decide) (by kernel_rfl) ?_
   rintro Nu YZ
   have Eh:=Hp.drew Df;rw[← YZ]at Eh
   refine Zm Y Y<|Zm Y Y<|Zc Y Y<|Zf Y wM Y<|cZ Nq<|MP Y<|MV (fun wz hz=>EL tY Y (hz.cell (i:=0) Y Y))<|Zf Y xX Y<|MP Y<|MV (fun wz hz=>EL ty3 Y (hz.cell (i:=2) Y Y))<|MO Y<|OQ (EC JL Y) (fI A1 k1 s.Bd n.entry.slot (fun x=>ok x∧x < w0.heap.size) _ (hv1.Qi Eh hkB) (by omega)) ?_
   rintro _ Sm ⟨A9,k9,rfl,Vp,Hd⟩
   have hsz9:=Eh.size
   have Yb:=fun x hx=>pZ Eh (b:=x) hx
   have Il:=Eh.Ap Hd
   have Y4:=bl_place Il
   refine OE ?_
   refine⟨fun hne=>Il.pick [0,1,2,3,4] (by decide),?_⟩
   refine cZ Nq<|Zc Y Y<|Zf Y wM Y<|MO Y ?_
   have HB:=Il
   have HL:=HB.here
   refine OW tY HL 0 Y Y Y Y (by first | (simp;done) | simp[zG]) Y<|fun w16 Wp=>have HW:=HB.all Wp;?_
   have Vp:=Vp.Qi (ok':=up ok w0.heap.size) Wp (fun x hx hl=>?_)
   rotate_left
   rcases hx with hx | hx
   refine⟨fun hb=>?_,.inl hx.1⟩
   rcases Y4 x hb with h | h
   exact(hks x hx.1 hx.2).1 h
   have:=hx.2;omega
   exact⟨fun hb=>by have:=Yb x hb;omega,.inr (by omega)⟩
   refine OE ?_
   refine⟨fun hne=>absurd Y hne,?_⟩
   refine cZ Nq<|ME<|cR Nq<|zA<|yO Y ?_
   rw[if_neg Qp]
   have Rz:=wO (ok:=ok) HW (i:=4) rfl (fun b hb=>by rw[Bc.1 hb];exact fun e=>HW.ne (i:=4) (j:=0) (g:=gs) (by rw[e];rfl) rfl (by decide) rfl)
   have hge2:=wO (ok:=ok) HW (i:=3) rfl (fun b hb=>by rw[Bc.1 hb];exact fun e=>HW.ne (i:=3) (j:=0) (g:=gs) (by rw[e];rfl) rfl (by decide) rfl)
   have hold:=hef.imp (R':=Qu w16 (up ok w0.heap.size)) fun p x h=>h.to HW hks
   have h0:rG s.entries n.entry.slot=[]:=by
    unfold rG
    cases hq:(s.entries.filter fun x=>decide (n.entry.slot < x.slot))with
    | nil=>rfl
    | cons a r=>
     rw[hq]at he0
     cases he0
     exact if_neg hp41
   rw[h0]
   refine⟨_,HW.pick [0] (by decide),A9,k9,hd gb,cb,none,0,Y,Vp,Bs.row HW (i:=4) Y hb.2.2 Rz,Sl.none _ _ _ _⟩
 · refine MO Y<|Xt Y Y<|OE<|⟨fun hne=>absurd Y hne,?_⟩
   refine cZ Nq<|ME<|cR Nq<|J4 Y<|J6<|J1<|zQ 12 [(true,0),(true,1),(true,2),(true,3),(true,4),(true,5),(false,6),(true,7),(true,8),(false,9),(true,10),(true,11),(false,12)] H8 [1,2,3] yF (by decide) (by kernel_rfl) ?_
   rintro w9 hw9
   have H9:=Hp.drew H8;rw[← hw9]at H9
   refine Zm Y Y<|Zm Y Y<|Zf Y xX Y<|MP Y<|MV (fun wz hz=>EL ty3 Y (hz.cell (i:=1) Y Y))<|cZ Nq<|Zf Y uH Y<|MP Y<|MV (fun wz hz=>EL xG Y (hz.cell (i:=1) Y Y))<|MO Y<|yW (EC jS Y) (vM B2 n.entry.val j2 _ (hb.to H9 hkn).1 (by have:=hb.2.2;omega))<|fun w12 gb cb sb hmb hcb hgb Hc=>have Gi:=H9.call0 Hc;OE<|⟨fun hne=>Gi.pick [1,2,3] (by decide),?_⟩
   refine cZ Nq<|Zc Y Y<|Zf Y wX Y<|MO Y<|OW ty3 Gi 0 Y Y Y Y (by first|exact NL Y|simp[zG]) Y<|fun Vw Ob=>OE<|⟨fun hne=>Ob.pick [1,2,3] (by decide),?_⟩
   refine cZ Nq<|Zc Y Y<|Zf Y uY Y<|MO Y<|OW xG Ob 0 Y Y Y Y (by first|exact NL Y|simp[zG]) Y<|fun Yu Qh=>OE<|⟨fun hne=>absurd Y hne,?_⟩
   refine cZ Nq<|ME<|cR Nq<|zQ 10 [(true,0),(true,1),(true,2),(true,3),(true,4),(true,5),(true,6),(false,7),(true,8),(true,9),(false,10)] Qh [0,1,2,3,4] yF (by decide) (by kernel_rfl) ?_
   rintro w10 Ql
   have Df:=Hp.drew Qh;rw[← Ql]at Df
   refine Zm Y Y<|Zm Y Y<|Zc Y Y<|Zf Y wM Y<|cZ Nq<|MP Y<|MV (fun wz hz=>EL tY Y (hz.cell (i:=0) Y Y))<|Zf Y xX Y<|MP Y<|MV (fun wz hz=>EL ty3 Y (hz.cell (i:=2) Y Y))<|MO Y<|OQ (EC JL Y) (fI A1 k1 s.Bd n.entry.slot (fun x=>ok x∧x < w0.heap.size) _ (hv1.Qi Df hkB) (by omega)) ?_
   rintro _ Nu ⟨A9,k9,rfl,Vp,Hd⟩
   have hsz9:=Df.size
   have Yb:=fun x hx=>pZ Df (b:=x) hx
   have Eh:=Df.Ap Hd
   have Y4:=bl_place Eh
   refine OE ?_
   refine⟨fun hne=>Eh.pick [0,1,2,3,4] (by decide),?_⟩
   refine cZ Nq<|Zc Y Y<|Zf Y wM Y<|MO Y ?_
   have HB:=Eh
   have HL:=HB.here
   refine OW tY HL 0 Y Y Y Y (by first | (simp;done) | simp[zG]) Y<|fun Sm Il=>have HW:=HB.all Il;?_
   have Vp:=Vp.Qi (ok':=up ok w0.heap.size) Il (fun x hx hl=>?_)
   rotate_left
   rcases hx with hx | hx
   refine⟨fun hb=>?_,.inl hx.1⟩
   rcases Y4 x hb with h | h
   exact(hks x hx.1 hx.2).1 h
   have:=hx.2;omega
   exact⟨fun hb=>by have:=Yb x hb;omega,.inr (by omega)⟩
   refine OE ?_
   refine⟨fun hne=>absurd Y hne,?_⟩
   refine cZ Nq<|ME<|cR Nq<|zA<|yO Y ?_
   rw[if_neg Qp]
   have Rz:=wO (ok:=ok) HW (i:=4) rfl (fun b hb=>by rw[Bc.1 hb];exact fun e=>HW.ne (i:=4) (j:=0) (g:=gs) (by rw[e];rfl) rfl (by decide) rfl)
   have hge2:=wO (ok:=ok) HW (i:=3) rfl (fun b hb=>by rw[Bc.1 hb];exact fun e=>HW.ne (i:=3) (j:=0) (g:=gs) (by rw[e];rfl) rfl (by decide) rfl)
   have hold:=hef.imp (R':=Qu Sm (up ok w0.heap.size)) fun p x h=>h.to HW hks
   have h0:rG s.entries n.entry.slot=(s.entries.filter fun x=>decide (n.entry.slot < x.slot)):=by
    unfold rG
    cases hq:(s.entries.filter fun x=>decide (n.entry.slot < x.slot))with
    | nil=>simp[hq]at he0
    | cons a r=>
     rw[hq]at he0
     cases he0
     exact if_pos (by omega)
   rw[h0]
   refine⟨_,HW.pick [0] (by decide),A9,k9,hd gb,cb,hd (some gx),ce,by rw[← hefl];rfl,Vp,Bs.row HW (i:=4) Y hb.2.2 Rz,Sl.row HW (i:=3) Y hpf (by decide) hold hge2⟩
 · refine Zm Y Y<|MP Y<|MZ Y<|cZ Nq<|MP Y<|MZ Y<|MP Y<|MZ Y<|cZ Nq<|MP Y<|MZ Y<|MP Y<|MZ Y<|cZ Nq<|MP Y<|MZ Y<|MP Y<|MZ Y<|cZ Nq<|MP Y<|MZ Y<|MP Y<|MZ Y<|cZ Nq<|MP Y<|MZ Y<|MP Y<|MZ Y<|cZ Nq<|MO Y<|Xu Y Y<|OE<|⟨fun hne=>absurd Y hne,?_⟩
   refine cZ Nq<|ME<|cR Nq<|J4 Y<|J6<|J1<|zQ 12 [(true,0),(true,1),(true,2),(true,3),(true,4),(true,5),(false,6),(true,7),(true,8),(false,9),(true,10),(true,11),(false,12)] H8 [1,2,3] yF (by decide) (by kernel_rfl) ?_
   rintro w9 hw9
   have H9:=Hp.drew H8;rw[← hw9]at H9
   refine Zm Y Y<|Zm Y Y<|Zf Y xX Y<|MP Y<|MV (fun wz hz=>EL ty3 Y (hz.cell (i:=1) Y Y))<|cZ Nq<|Zf Y uH Y<|MP Y<|MV (fun wz hz=>EL xG Y (hz.cell (i:=1) Y Y))<|MO Y<|yW (EC jS Y) (vM B2 n.entry.val j2 _ (hb.to H9 hkn).1 (by have:=hb.2.2;omega))<|fun w12 gb cb sb hmb hcb hgb Hc=>have Gi:=H9.call0 Hc;OE<|⟨fun hne=>Gi.pick [1,2,3] (by decide),?_⟩
   refine cZ Nq<|Zc Y Y<|Zf Y wX Y<|MO Y<|OW ty3 Gi 0 Y Y Y Y (by first|exact NL Y|simp[zG]) Y<|fun Vw Ob=>OE<|⟨fun hne=>Ob.pick [1,2,3] (by decide),?_⟩
   refine cZ Nq<|Zc Y Y<|Zf Y uY Y<|MO Y<|OW xG Ob 0 Y Y Y Y (by first|exact NL Y|simp[zG]) Y<|fun Yu Qh=>OE<|⟨fun hne=>absurd Y hne,?_⟩
   refine cZ Nq<|ME<|cR Nq<|zQ 10 [(true,0),(true,1),(true,2),(true,3),(true,4),(true,5),(true,6),(false,7),(true,8),(true,9),(false,10)] Qh [0,1,2,3,4] yF (by decide) (by kernel_rfl) ?_
   rintro w10 Ql
   have Df:=Hp.drew Qh;rw[← Ql]at Df
   refine Zm Y Y<|Zm Y Y<|Zc Y Y<|Zf Y wM Y<|cZ Nq<|MP Y<|MV (fun wz hz=>EL tY Y (hz.cell (i:=0) Y Y))<|Zf Y xX Y<|MP Y<|MV (fun wz hz=>EL ty3 Y (hz.cell (i:=2) Y Y))<|MO Y<|OQ (EC JL Y) (fI A1 k1 s.Bd n.entry.slot (fun x=>ok x∧x < w0.heap.size) _ (hv1.Qi Df hkB) (by omega)) ?_
   rintro _ Nu ⟨A9,k9,rfl,Vp,Hd⟩
   have hsz9:=Df.size
   have Yb:=fun x hx=>pZ Df (b:=x) hx
   have Eh:=Df.Ap Hd
   have Y4:=bl_place Eh
   refine OE ?_
   refine⟨fun hne=>Eh.pick [0,1,2,3,4] (by decide),?_⟩
   refine cZ Nq<|Zc Y Y<|Zf Y wM Y<|MO Y ?_
   have HB:=Eh
   have HL:=HB.here
   refine OW tY HL 0 Y Y Y Y (by first | (simp;done) | simp[zG]) Y<|fun Sm Il=>have HW:=HB.all Il;?_
   have Vp:=Vp.Qi (ok':=up ok w0.heap.size) Il (fun x hx hl=>?_)
   rotate_left
   rcases hx with hx | hx
   refine⟨fun hb=>?_,.inl hx.1⟩
   rcases Y4 x hb with h | h
   exact(hks x hx.1 hx.2).1 h
   have:=hx.2;omega
   exact⟨fun hb=>by have:=Yb x hb;omega,.inr (by omega)⟩
   refine OE ?_
   refine⟨fun hne=>absurd Y hne,?_⟩
   refine cZ Nq<|ME<|cR Nq<|zA<|yO Y ?_
   rw[if_neg Qp]
   have Rz:=wO (ok:=ok) HW (i:=4) rfl (fun b hb=>by rw[Bc.1 hb];exact fun e=>HW.ne (i:=4) (j:=0) (g:=gs) (by rw[e];rfl) rfl (by decide) rfl)
   have hge2:=wO (ok:=ok) HW (i:=3) rfl (fun b hb=>by rw[Bc.1 hb];exact fun e=>HW.ne (i:=3) (j:=0) (g:=gs) (by rw[e];rfl) rfl (by decide) rfl)
   have hold:=hef.imp (R':=Qu Sm (up ok w0.heap.size)) fun p x h=>h.to HW hks
   have h0:rG s.entries n.entry.slot=(s.entries.filter fun x=>decide (n.entry.slot < x.slot)):=by
    unfold rG
    have:(s.entries.filter fun x=>decide (n.entry.slot < x.slot))=[]:=Ec (by omega)
    rw[this]
   rw[h0]
   refine⟨_,HW.pick [0] (by decide),A9,k9,hd gb,cb,hd ge,ce,by rw[← hefl];rfl,Vp,Bs.row HW (i:=4) Y hb.2.2 Rz,Sl.row HW (i:=3) Y hpf (by decide) hold hge2⟩
theorem FU (x:Vt) (Ax:Option Addr) (kx:Nat) (ok:Nat→Prop) (w0:World) (hb:Bs w0 ok Ax x.val):Aj 199 #[.agg (Dl x Ax kx).toArray] w0 (fun _ w'=>Hp w0 w' [] []):=by
 refine zE Tryz.func199 Tryz.ntmps199 Y<|cR e8 ?_
 have H:=Hp.refl w0
 refine Rq<|zW Y Y H<|fun w1 g1 H1 hg1=>OA xC H1<|fun w2 g2 H2 hg2=>Xr e8<|Rq<|Xf tO Y<|OV (EL xG Y (H2.cell (i:=0) Y Y))<|yW (EC jS Y) (vM Ax x.val kx _ (hb.1.to0 H2) (by have:=hb.2.2;omega))<|fun w3 gb cb sb hmb hcb hgb Hc=>have H3:=H2.call0 Hc;Xf tO Y<|Ae e8<|OW xG H3 0 Y Y Y Y (by first|exact NL Y|simp[zG]) Y<|fun w4 H4=>Xr e8<|Rq<|OV (EN xC Y (vs:=Dl x (hd gb) cb) Y (H4.Ak (i:=0) Y Y))<|OS xC H4 1 Y Y Y Y Y (by first|exact NL Y|simp[zG]) Y<|fun w5 H5=>Xr e8<|J5<|uO Y xC (cs:=Dl x (hd gb) cb) Y Y (H5.Ak (i:=1) Y Y)<|H5.Ag
theorem PG (p:Bal) (first:Int) (A:Option Addr) (k:Nat) (l:List Vt) (ok:Nat→Prop) (w0:World) (hl:Sl (Oc w0 ok) 4 w0 ok A l) (hn:l.length≤1000000000000000000):Aj 171 #[.agg [Aa p.r,Aa p.n].toArray,Aa first,Ac A l.length k] w0 (fun r w'=>∃ (v:Value) (e:Int),r=.tuple #[v,Aa e]∧Ans (oT p first l) e∧Hp w0 w' [] []):=by
 refine zE Tryz.func171 Tryz.ntmps171 Y<|cR Gs ?_
 have H:=Hp.refl w0
 obtain⟨ps,hp,hr,ha,h2⟩:=hl
 have hlen:=h2.len
 refine Rq<|zW Y Y H<|fun w1 gp H1 _=>Xa Y<|Xa Y<|Xr Gs<|J1<|Rq<|Xm Y<|OT (zR Y Y) (fun Qp=>?_) (fun Qp=>?_)
 refine Xm Y<|Ae Gs<|Oz 2 Y<|Xt Y Y ?_
 have m3:=()
 rotate_left 1
 refine Xm Y<|Ae Gs<|OY Y<|Xm Y<|OY Y<|OT (yP Y Y) (fun hp16=>?_) (fun hp16=>?_)
 refine Xu Y Y ?_
 have m3:=()
 rotate_left 1
 refine Xu Y Y<|Xm Y<|Ae Gs<|OY Y<|OV (EN vC Y (vs:=[Aa p.r,Aa p.n]) Y (H1.Ak (i:=0) Y Y))<|OY Y<|OV (EB vC GU Y Y)<|Ae Gs<|OY Y<|OT (qE Y Y) (fun hp21=>?_) (fun hp21=>?_)
 refine OY Y<|Xm Y<|OY Y<|OV (EN vC Y (vs:=[Aa p.r,Aa p.n]) Y (H1.Ak (i:=0) Y Y))<|Ae Gs<|OY Y<|OX (EC P1 Y) (GQ _ _) (fun hp24 w2 Hd=>?_) (fun hp24 w2 Hd=>?_)
 have H2:=H1.Ap Hd
 refine OY Y<|Xn Y<|OY Y<|Xt Y Y<|Xu Y Y<|Xr Gs<|J4 Y<|J6<|Rq<|OV (EN vC Y (vs:=[Aa p.r,Aa p.n]) Y (H2.Ak (i:=0) Y Y))<|Xm Y<|dE H2<|fun w3 gm H3 hgm hgm0=>have Xd:=mV.new hgm;?_
 have hgmw:w0.heap.size≤gm:=by have:=H2.size;omega
 refine OV (EB VB VH Y Y)<|Ae Gs ?_
 have HB:=H3
 have H3:=HB.here
 refine zW Y Y H3<|fun w4 ga H4 _=>?_
 have Xd:=Xd.to H4 (fun hb=>by obtain⟨arr,T,z,hh⟩:=sJ HB gm hb;exact Xd.not _ _ _ hh)
 replace H4:=HB.all H4
 refine Xa Y<|Xr Gs<|Rq<|Xm Y<|Xa Y<|Xr Gs<|J1<|Rq<|Xm Y<|OV (ES Jj Y)<|Xm Y<|Xr Gs<|J7<|zU (fun nQ lQ w=>∃ (i:Nat) (y m:Int),l.length - i=nQ∧xO (Ik [(0,.agg [Aa p.r,Aa p.n].toArray),(1,Aa first),(3,Ah gp),(8,Ah ga),(9,Aa m),(34,Ac A l.length k),(35,Aa (l.length:Int)),(36,Aa y)] 0 82) lQ∧y=(i:Int)∧i≤l.length∧uE p first first l=uE p first m (l.drop i)∧first≤m∧mV w gm∧Hp w0 w [] [((some gp,75,[Aa p.r,Aa p.n]):Ent),(some ga,263,[Aa p.r,Aa p.n,Aa first,.map (some gm)])]) (l.length) ?_ ?_
 exact⟨0,_,first,Y,(ft8 Y Y Y Y Y Y Y Y Y),Y,Am _,Y,Int.le_refl _,Xd,H4⟩
 rintro nQ lQ w5 ⟨i,y,m,rfl,hfit,rfl,hi,hinv,hfm,Xd,H5⟩
 obtain⟨j,rfl⟩:=hfit.open
 refine cR Gs ?_
 clear hfit
 have HB:=H5
 replace H5:=HB.here
 have hgmn:gm∉bl _:=fun hb=>by obtain⟨arr,T,z,hh⟩:=sJ HB gm hb;exact Xd.not _ _ _ hh
 refine Rq<|OT (zR Y Y) (fun hp37=>?_) (fun hp37=>?_)
 have hil:i < l.length:=by omega
 obtain⟨x,hx⟩:=yM hil
 obtain⟨p1,hp1,hR⟩:=h2.get hx
 obtain⟨Ax,kx,rfl,hbx⟩:=hR
 obtain⟨a1,ha1⟩:=hr.some_ (by omega)
 subst ha1
 refine Xr Gs<|J1<|J3 Y<|J6<|J1<|J7<|Rq<|OV (EI Jj xC Y Y Y hil Y)<|OV (EN xC Y (vs:=Dl x Ax kx) Y ((hr.to0 (HB.all H5)).elem hp hp1))<|OA xC H5<|fun w6 g6 H6 hg6=>OS xC H6 2 Y Y Y Y Y (by first|exact NL Y|simp[zG]) Y<|fun w7 H7=>Xr Gs<|J1<|Rq<|Xf wY Y<|OV (EL ty3 Y (H7.cell (i:=2) Y Y))<|Xm Y<|OT (zR Y Y) (fun Zi=>?_) (fun Zi=>?_)
 refine Xm Y<|Ae Gs<|Oz 5 Y<|Ae Gs<|Xt Y Y ?_
 have m1:=()
 rotate_left 1
 refine Xm Y<|Ae Gs<|OY Y<|Xf wY Y<|OY Y<|OV (EL ty3 Y (H7.cell (i:=2) Y Y))<|Ae Gs<|OY Y<|Xm Y<|OY Y<|OV (zL Y Y (Ad _ (by omega)))<|Ae Gs<|OY Y<|OT (wC Y Y) (fun Zh=>?_) (fun Zh=>?_)
 refine Xu Y Y ?_
 have m1:=()
 rotate_left 1
 refine Xu Y Y<|Xm Y<|Ae Gs<|OY Y<|Xf tA Y<|OY Y<|OV (EN vC Y (vs:=[Aa x.b.r,Aa x.b.n]) Y (H7.Ak (i:=2) Y Y))<|Ae Gs<|OY Y<|OX (EC P1 Y) (GQ _ _) (fun Wy w8 Hd=>?_) (fun Wy w8 Hd=>?_)
 have H8:=H7.Ap Hd
 refine OY Y<|Xn Y<|Xu Y Y<|Xm Y<|Ae Gs<|OY Y<|OV (EN vC Y (vs:=[Aa p.r,Aa p.n]) Y (H8.Ak (i:=0) Y Y))<|OY Y<|Xf tA Y<|Ae Gs<|OY Y<|OV (EN vC Y (vs:=[Aa x.b.r,Aa x.b.n]) Y (H8.Ak (i:=2) Y Y))<|OY Y<|OX (EC P6 Y) (GZ _ _ _) (fun Ux w9 Hd=>?_) (fun Ux w9 Hd=>?_)
 have H9:=H8.Ap Hd
 refine Xu Y Y<|Xm Y<|Ae Gs<|Oz 4 Y<|Ae Gs<|Xt Y Y<|Xr Gs<|J3 Y<|Rq<|Xa Y<|Xa Y<|Xr Gs<|J5<|BR<|yN<|BR<|Kw Y Y Y<|⟨_,_,Y,Ans.no (by rw[nM (by omega) (by omega),hinv];exact sT hx fun hh=>hh.2.2.2.2.1 Ux),(HB.all H9).Ag⟩
 have H9:=H8.Ap Hd
 refine Xu Y Y<|Xm Y<|Ae Gs<|OY Y<|Xf tO Y<|OY Y<|OV (EL xG Y (H9.cell (i:=2) Y Y))<|Ae Gs<|OY Y<|OV (ES Hf Y)<|OY Y<|OT (yP Y Y) (fun Wv=>?_) (fun Wv=>?_)
 refine Xu Y Y<|Xr Gs<|J3 Y<|Rq<|Xa Y<|Xa Y<|Xr Gs<|J5<|BR<|yN<|BR<|Kw Y Y Y<|⟨_,_,Y,Ans.no (by rw[nM (by omega) (by omega),hinv];exact sT hx fun hh=>by omega),(HB.all H9).Ag⟩
 refine Xu Y Y<|Xr Gs<|J4 Y<|J6<|J1<|zQ 8 [(true,0),(true,1),(true,2),(true,3),(true,4),(true,5),(true,6),(false,7),(false,8)] H9 [0,1,2] yF (by decide) (by kernel_rfl) ?_
 rintro w10 Ql
 have Df:=Hp.drew H9;rw[← Ql]at Df
 refine Zm Y Y<|Zc Y Y<|Zf Y JR Y<|MP Y<|MV (fun wz hz=>EL VC Y (hz.cell (i:=1) Y Y))<|cZ Gs<|Zf Y wY Y<|MP Y<|MV (fun wz hz=>EL ty3 Y (hz.cell (i:=2) Y Y))<|MP Y<|MV (fun wz hz=>EN xC Y (vs:=Dl x Ax kx) Y (hz.Ak (i:=2) Y Y))<|MO Y<|OQ (EC VO Y) (FU x Ax kx (fun _=>True) _ (hbx.to (HB.all Df) (fun _ _ _=>⟨by simp,trivial⟩)))<|fun r Nu Hd=>have Eh:=Df.Ap Hd;OE<|⟨fun hne=>Eh.pick [0,1,2] (by decide),?_⟩
 refine cZ Gs<|MO Y ?_
 have HW:=HB.all Eh
 refine jV Tryz.underlying261 Tryz.underlying3 HW Y Y Y (Xd.to Eh hgmn) hgmw<|fun w12 Gi Xd _=>?_
 have hgo:=BZ (p:=p) (first:=first) (m:=m) hx ⟨by omega,by omega,Wy.1,Wy.2,Ux,by omega⟩
 refine OE ?_
 refine⟨fun hne=>absurd Y hne,?_⟩
 refine cZ Gs<|ME<|cR Gs<|J2<|Xf wY Y<|OV (EL ty3 Y (Gi.cell (i:=2) Y Y))<|OV (zL Y Y (Ad _ (by omega)))<|Xa Y<|Xr Gs<|zA (zD ?_)
 refine J2<|OV (zL Y Y (Ad _ (by omega)))<|Xm Y<|Xr Gs<|zA (zH ?_)
 exact⟨l.length - (i+1),by omega,i+1,_,x.slot+1,Y,(ft8 Y Y Y Y Y Y Y Y Y),by omega,by omega,by rw[hinv,hgo],by omega,Xd,Gi.pick [0,1] (by decide)⟩
 have H8:=H7.Ap Hd
 refine OY Y<|Xn Y<|Xu Y Y<|Xm Y<|Ae Gs<|Oz 4 Y<|Ae Gs<|Xt Y Y<|Xm Y<|Ae Gs<|Oz 4 Y<|Ae Gs<|Xt Y Y<|Xr Gs<|J3 Y<|Rq<|Xa Y<|Xa Y<|Xr Gs<|J5<|BR<|yN<|BR<|Kw Y Y Y<|⟨_,_,Y,Ans.no (by rw[nM (by omega) (by omega),hinv];exact sT hx fun hh=>Wy ⟨hh.2.2.1,hh.2.2.2.1⟩),(HB.all H8).Ag⟩
 obtain rfl:i=l.length:=by omega
 refine Xr Gs<|J1<|J4 Y<|J8<|zT<|zS<|Rq<|Xm Y<|Xa Y<|Xa Y<|Xr Gs<|J5<|Kw Y Y Y<|⟨_,_,Y,Ans.ok (by rw[nM (by omega) (by omega),hinv];exact dM),(HB.all H5).Ag⟩
 have H2:=H1.Ap Hd
 refine OY Y<|Xn Y<|OY Y<|Xt Y Y<|Xu Y Y<|Xr Gs<|J3 Y<|Rq<|Xa Y<|Xa Y<|Xr Gs<|J5<|Kw Y Y Y<|⟨_,_,Y,Ans.no (VL (by omega)),H2.Ag⟩
 refine OY Y<|Xm Y<|Oz 3 Y<|Ae Gs<|OY Y<|Xu Y Y<|Xu Y Y<|Xr Gs<|J4 Y<|J6<|Rq<|OV (EN vC Y (vs:=[Aa p.r,Aa p.n]) Y (H1.Ak (i:=0) Y Y))<|Xm Y<|dE H1<|fun w2 gm H2 hgm hgm0=>have Xd:=mV.new hgm;?_
 have hgmw:w0.heap.size≤gm:=by have:=H1.size;omega
 refine OV (EB VB VH Y Y)<|Ae Gs ?_
 have HB:=H2
 have H2:=HB.here
 refine zW Y Y H2<|fun w3 ga H3 _=>?_
 have Xd:=Xd.to H3 (fun hb=>by obtain⟨arr,T,z,hh⟩:=sJ HB gm hb;exact Xd.not _ _ _ hh)
 replace H3:=HB.all H3
 refine Xa Y<|Xr Gs<|Rq<|Xm Y<|Xa Y<|Xr Gs<|J1<|Rq<|Xm Y<|OV (ES Jj Y)<|Xm Y<|Xr Gs<|J7<|zU (fun nQ lQ w=>∃ (i:Nat) (y m:Int),l.length - i=nQ∧xO (Ik [(0,.agg [Aa p.r,Aa p.n].toArray),(1,Aa first),(3,Ah gp),(8,Ah ga),(9,Aa m),(34,Ac A l.length k),(35,Aa (l.length:Int)),(36,Aa y)] 0 82) lQ∧y=(i:Int)∧i≤l.length∧uE p first first l=uE p first m (l.drop i)∧first≤m∧mV w gm∧Hp w0 w [] [((some gp,75,[Aa p.r,Aa p.n]):Ent),(some ga,263,[Aa p.r,Aa p.n,Aa first,.map (some gm)])]) (l.length) ?_ ?_
 exact⟨0,_,first,Y,(ft8 Y Y Y Y Y Y Y Y Y),Y,Am _,Y,Int.le_refl _,Xd,H3⟩
 rintro nQ lQ w4 ⟨i,y,m,rfl,hfit,rfl,hi,hinv,hfm,Xd,H4⟩
 obtain⟨j,rfl⟩:=hfit.open
 refine cR Gs ?_
 clear hfit
 have HB:=H4
 replace H4:=HB.here
 have hgmn:gm∉bl _:=fun hb=>by obtain⟨arr,T,z,hh⟩:=sJ HB gm hb;exact Xd.not _ _ _ hh
 refine Rq<|OT (zR Y Y) (fun hp37=>?_) (fun hp37=>?_)
 have hil:i < l.length:=by omega
 obtain⟨x,hx⟩:=yM hil
 obtain⟨p1,hp1,hR⟩:=h2.get hx
 obtain⟨Ax,kx,rfl,hbx⟩:=hR
 obtain⟨a1,ha1⟩:=hr.some_ (by omega)
 subst ha1
 refine Xr Gs<|J1<|J3 Y<|J6<|J1<|J7<|Rq<|OV (EI Jj xC Y Y Y hil Y)<|OV (EN xC Y (vs:=Dl x Ax kx) Y ((hr.to0 (HB.all H4)).elem hp hp1))<|OA xC H4<|fun w5 g5 H5 hg5=>OS xC H5 2 Y Y Y Y Y (by first|exact NL Y|simp[zG]) Y<|fun w6 H6=>Xr Gs<|J1<|Rq<|Xf wY Y<|OV (EL ty3 Y (H6.cell (i:=2) Y Y))<|Xm Y<|OT (zR Y Y) (fun Zi=>?_) (fun Zi=>?_)
 refine Xm Y<|Ae Gs<|Oz 5 Y<|Ae Gs<|Xt Y Y ?_
 have m2:=()
 rotate_left 1
 refine Xm Y<|Ae Gs<|OY Y<|Xf wY Y<|OY Y<|OV (EL ty3 Y (H6.cell (i:=2) Y Y))<|Ae Gs<|OY Y<|Xm Y<|OY Y<|OV (zL Y Y (Ad _ (by omega)))<|Ae Gs<|OY Y<|OT (wC Y Y) (fun Zh=>?_) (fun Zh=>?_)
 refine Xu Y Y ?_
 have m2:=()
 rotate_left 1
 refine Xu Y Y<|Xm Y<|Ae Gs<|OY Y<|Xf tA Y<|OY Y<|OV (EN vC Y (vs:=[Aa x.b.r,Aa x.b.n]) Y (H6.Ak (i:=2) Y Y))<|Ae Gs<|OY Y<|OX (EC P1 Y) (GQ _ _) (fun Wy w7 Hd=>?_) (fun Wy w7 Hd=>?_)
 have H7:=H6.Ap Hd
 refine OY Y<|Xn Y<|Xu Y Y<|Xm Y<|Ae Gs<|OY Y<|OV (EN vC Y (vs:=[Aa p.r,Aa p.n]) Y (H7.Ak (i:=0) Y Y))<|OY Y<|Xf tA Y<|Ae Gs<|OY Y<|OV (EN vC Y (vs:=[Aa x.b.r,Aa x.b.n]) Y (H7.Ak (i:=2) Y Y))<|OY Y<|OX (EC P6 Y) (GZ _ _ _) (fun Ux w8 Hd=>?_) (fun Ux w8 Hd=>?_)
 have H8:=H7.Ap Hd
 refine Xu Y Y<|Xm Y<|Ae Gs<|Oz 4 Y<|Ae Gs<|Xt Y Y<|Xr Gs<|J3 Y<|Rq<|Xa Y<|Xa Y<|Xr Gs<|J5<|BR<|yN<|BR<|Kw Y Y Y<|⟨_,_,Y,Ans.no (by rw[nM (by omega) (by omega),hinv];exact sT hx fun hh=>hh.2.2.2.2.1 Ux),(HB.all H8).Ag⟩
 have H8:=H7.Ap Hd
 refine Xu Y Y<|Xm Y<|Ae Gs<|OY Y<|Xf tO Y<|OY Y<|OV (EL xG Y (H8.cell (i:=2) Y Y))<|Ae Gs<|OY Y<|OV (ES Hf Y)<|OY Y<|OT (yP Y Y) (fun Wv=>?_) (fun Wv=>?_)
 refine Xu Y Y<|Xr Gs<|J3 Y<|Rq<|Xa Y<|Xa Y<|Xr Gs<|J5<|BR<|yN<|BR<|Kw Y Y Y<|⟨_,_,Y,Ans.no (by rw[nM (by omega) (by omega),hinv];exact sT hx fun hh=>by omega),(HB.all H8).Ag⟩
 refine Xu Y Y<|Xr Gs<|J4 Y<|J6<|J1<|zQ 8 [(true,0),(true,1),(true,2),(true,3),(true,4),(true,5),(true,6),(false,7),(false,8)] H8 [0,1,2] yF (by decide) (by kernel_rfl) ?_
 rintro w9 hw9
 have H9:=Hp.drew H8;rw[← hw9]at H9
 refine Zm Y Y<|Zc Y Y<|Zf Y JR Y<|MP Y<|MV (fun wz hz=>EL VC Y (hz.cell (i:=1) Y Y))<|cZ Gs<|Zf Y wY Y<|MP Y<|MV (fun wz hz=>EL ty3 Y (hz.cell (i:=2) Y Y))<|MP Y<|MV (fun wz hz=>EN xC Y (vs:=Dl x Ax kx) Y (hz.Ak (i:=2) Y Y))<|MO Y<|OQ (EC VO Y) (FU x Ax kx (fun _=>True) _ (hbx.to (HB.all H9) (fun _ _ _=>⟨by simp,trivial⟩)))<|fun r w10 Hd=>have Df:=H9.Ap Hd;OE<|⟨fun hne=>Df.pick [0,1,2] (by decide),?_⟩
 refine cZ Gs<|MO Y ?_
 have HW:=HB.all Df
 refine jV Tryz.underlying261 Tryz.underlying3 HW Y Y Y (Xd.to Df hgmn) hgmw<|fun Nu Eh Xd _=>?_
 have hgo:=BZ (p:=p) (first:=first) (m:=m) hx ⟨by omega,by omega,Wy.1,Wy.2,Ux,by omega⟩
 refine OE ?_
 refine⟨fun hne=>absurd Y hne,?_⟩
 refine cZ Gs<|ME<|cR Gs<|J2<|Xf wY Y<|OV (EL ty3 Y (Eh.cell (i:=2) Y Y))<|OV (zL Y Y (Ad _ (by omega)))<|Xa Y<|Xr Gs<|zA (zD ?_)
 refine J2<|OV (zL Y Y (Ad _ (by omega)))<|Xm Y<|Xr Gs<|zA (zH ?_)
 exact⟨l.length - (i+1),by omega,i+1,_,x.slot+1,Y,(ft8 Y Y Y Y Y Y Y Y Y),by omega,by omega,by rw[hinv,hgo],by omega,Xd,Eh.pick [0,1] (by decide)⟩
 have H7:=H6.Ap Hd
 refine OY Y<|Xn Y<|Xu Y Y<|Xm Y<|Ae Gs<|Oz 4 Y<|Ae Gs<|Xt Y Y<|Xm Y<|Ae Gs<|Oz 4 Y<|Ae Gs<|Xt Y Y<|Xr Gs<|J3 Y<|Rq<|Xa Y<|Xa Y<|Xr Gs<|J5<|BR<|yN<|BR<|Kw Y Y Y<|⟨_,_,Y,Ans.no (by rw[nM (by omega) (by omega),hinv];exact sT hx fun hh=>Wy ⟨hh.2.2.1,hh.2.2.2.1⟩),(HB.all H7).Ag⟩
 obtain rfl:i=l.length:=by omega
 refine Xr Gs<|J1<|J4 Y<|J8<|zT<|zS<|Rq<|Xm Y<|Xa Y<|Xa Y<|Xr Gs<|J5<|Kw Y Y Y<|⟨_,_,Y,Ans.ok (by rw[nM (by omega) (by omega),hinv];exact dM),(HB.all H4).Ag⟩
 any_goals
  clear m3
  refine Xm Y<|Ae Gs<|Oz 8 Y<|Ae Gs<|Xt Y Y<|Xr Gs<|J3 Y<|Rq<|Xa Y<|Xa Y<|Xr Gs<|J5<|Kw Y Y Y<|⟨_,_,Y,Ans.no (VM (by omega)),H1.Ag⟩
 any_goals
  clear m2
  refine Xm Y<|Ae Gs<|Oz 4 Y<|Ae Gs<|Xt Y Y<|Xm Y<|Ae Gs<|Oz 4 Y<|Ae Gs<|Xt Y Y<|Xm Y<|Ae Gs<|Oz 4 Y<|Ae Gs<|Xt Y Y<|Xr Gs<|J3 Y<|Rq<|Xa Y<|Xa Y<|Xr Gs<|J5<|BR<|yN<|BR<|Kw Y Y Y<|⟨_,_,Y,Ans.no (by rw[nM (by omega) (by omega),hinv];exact sT hx fun hh=>by omega),(HB.all H6).Ag⟩
 any_goals
  clear m1
  refine Xm Y<|Ae Gs<|Oz 4 Y<|Ae Gs<|Xt Y Y<|Xm Y<|Ae Gs<|Oz 4 Y<|Ae Gs<|Xt Y Y<|Xm Y<|Ae Gs<|Oz 4 Y<|Ae Gs<|Xt Y Y<|Xr Gs<|J3 Y<|Rq<|Xa Y<|Xa Y<|Xr Gs<|J5<|BR<|yN<|BR<|Kw Y Y Y<|⟨_,_,Y,Ans.no (by rw[nM (by omega) (by omega),hinv];exact sT hx fun hh=>by omega),(HB.all H7).Ag⟩
theorem XC (s:Sv) (A1:Option Addr) (k1:Nat) (A2:Option Addr) (k2:Nat) (A3:Option Addr) (k3:Nat) (ok:Nat→Prop) (w0:World) (hv1:Sl (Oc w0 ok) 4 w0 ok A1 s.Bd) (hv2:Bs w0 ok A2 s.image) (hv3:Sl (Qu w0 ok) 2 w0 ok A3 s.entries) (hvl:s.Bd.length≤1000000000000000000) (hel2:s.entries.length≤1000000000000000000):Aj 120 #[Aa 1,Aa 5,.agg (Cb s A1 k1 A2 k2 A3 k3).toArray] w0 (fun r w'=>∃ (v:Value) (e:Int),r=.tuple #[v,Aa e]∧Ans (chk s) e∧Hp w0 w' [] []):=by
 refine zE Tryz.func120 Tryz.ntmps120 Y<|cR e115 ?_
 have H:=Hp.refl w0
 obtain⟨pe,hpe,hre,hae,he2⟩:=id hv3
 have hel:=he2.len
 refine Rq<|zW Y Y H<|fun w1 gs H1 _=>Xa Y<|Xa Y<|Xr e115<|J1<|Rq<|Xm Y<|Qg (yR Y Y) (by decide)<|Xm Y<|Ae e115<|OY Y<|Xm Y<|OY Y<|Qg (yR Y Y) (by decide)<|Xt Y Y<|Xm Y<|Ae e115<|OY Y<|Xm Y<|OY Y<|Jt (yR Y Y) (by decide)<|Xt Y Y<|Xm Y<|Ae e115<|OY Y<|Xm Y<|OY Y<|Jt (zR Y Y) (by decide)<|Xu Y Y<|Xm Y<|Ae e115<|OY Y<|Xm Y<|OY Y<|Xm Y ?_
 refine Ae e115<|OY Y<|Jt (yP Y Y) (by decide)<|Xu Y Y<|Xr e115<|J4 Y<|J6<|J1<|Rq<|Xf uZ Y<|OV (EN vC Y (vs:=Ij s) Y (H1.Ak (i:=0) Y Y))<|OV (EB vC GU Y Y)<|OT (qE Y Y) (fun Zk=>?_) (fun Zk=>?_)
 refine Xm Y<|Ae e115<|OY Y<|Xf uZ Y<|OY Y<|OV (EN vC Y (vs:=Ij s) Y (H1.Ak (i:=0) Y Y))<|Ae e115<|OY Y<|Xm Y<|OY Y<|OX (EC gf170 Y) (may_b _ _ _) (fun Qo w2 Hd=>?_) (fun Qo w2 Hd=>?_)
 have H2:=H1.Ap Hd
 refine OY Y<|Xn Y<|Xt Y Y<|Xm Y<|Ae e115<|OY Y<|Xf wX Y<|OY Y<|OV (EL ty3 Y (H2.cell (i:=0) Y Y))<|Ae e115<|OY Y<|OT (zR Y Y) (fun hp45=>?_) (fun hp45=>?_)
 refine Xu Y Y<|Xm Y<|Ae e115<|Oz 3 Y<|Ae e115<|Xt Y Y ?_
 have m5:=()
 rotate_left 1
 refine Xu Y Y<|Xm Y<|Ae e115<|OY Y<|Xf wX Y<|OY Y<|OV (EL ty3 Y (H2.cell (i:=0) Y Y))<|Ae e115<|OY Y<|OT (yP Y Y) (fun Y8=>?_) (fun Y8=>?_)
 refine Xu Y Y ?_
 have m5:=()
 rotate_left 1
 refine Xu Y Y<|Xm Y<|Ae e115<|OY Y<|Xf wX Y<|OY Y<|OV (EL ty3 Y (H2.cell (i:=0) Y Y))<|Ae e115<|OY Y<|OT (yU Y Y) (fun hp55=>?_) (fun hp55=>?_)
 refine OY Y<|Xm Y<|OY Y<|Xf uY Y<|Ae e115<|OY Y<|OV (EL xG Y (H2.cell (i:=0) Y Y))<|OY Y<|OV (ES Hf Y)<|Ae e115<|OY Y<|OT (yP Y Y) (fun hp60=>?_) (fun hp60=>?_)
 refine OY Y<|Xt Y Y<|Xu Y Y ?_
 have m3:=()
 rotate_left 1
 refine OY Y<|Xt Y Y ?_
 have m1:=()
 rotate_left 1
 refine OY Y<|Xm Y<|Oz 4 Y<|Ae e115<|OY Y<|Xu Y Y ?_
 have m1:=()
 rotate_left 1
 have H2:=H1.Ap Hd
 refine OY Y<|Xn Y<|Xt Y Y<|Xm Y<|Ae e115<|Oz 3 Y<|Ae e115<|Xt Y Y<|Xm Y<|Ae e115<|Oz 3 Y<|Ae e115<|Xt Y Y<|Xm Y<|Ae e115<|Oz 9 Y<|Ae e115<|Xt Y Y<|Xm Y<|Ae e115<|Oz 4 Y<|Ae e115 ?_
 refine Xt Y Y<|Xr e115<|J3 Y<|Rq<|Xa Y<|Xa Y<|Xr e115<|J5<|Kw Y Y Y<|⟨_,_,Y,Ans.no (RA (by omega)),H2.Ag⟩
 refine Xm Y<|Ae e115<|Oz 5 Y<|Ae e115<|Xu Y Y<|Xm Y<|Ae e115<|OY Y<|Xf wX Y<|OY Y<|OV (EL ty3 Y (H1.cell (i:=0) Y Y))<|Ae e115<|OY Y<|OT (zR Y Y) (fun hp45=>?_) (fun hp45=>?_)
 refine Xu Y Y<|Xm Y<|Ae e115<|Oz 3 Y<|Ae e115<|Xt Y Y ?_
 have m6:=()
 rotate_left 1
 refine Xu Y Y<|Xm Y<|Ae e115<|OY Y<|Xf wX Y<|OY Y<|OV (EL ty3 Y (H1.cell (i:=0) Y Y))<|Ae e115<|OY Y<|OT (yP Y Y) (fun Y8=>?_) (fun Y8=>?_)
 refine Xu Y Y ?_
 have m6:=()
 rotate_left 1
 refine Xu Y Y<|Xm Y<|Ae e115<|OY Y<|Xf wX Y<|OY Y<|OV (EL ty3 Y (H1.cell (i:=0) Y Y))<|Ae e115<|OY Y<|OT (yU Y Y) (fun hp55=>?_) (fun hp55=>?_)
 refine OY Y<|Xm Y<|OY Y<|Xf uY Y<|Ae e115<|OY Y<|OV (EL xG Y (H1.cell (i:=0) Y Y))<|OY Y<|OV (ES Hf Y)<|Ae e115<|OY Y<|OT (yP Y Y) (fun hp60=>?_) (fun hp60=>?_)
 refine OY Y<|Xt Y Y<|Xu Y Y ?_
 have m4:=()
 rotate_left 1
 refine OY Y<|Xt Y Y ?_
 have m2:=()
 rotate_left 1
 refine OY Y<|Xm Y<|Oz 4 Y<|Ae e115<|OY Y<|Xu Y Y ?_
 have m2:=()
 rotate_left 1
 any_goals
  clear m6
  refine Xm Y<|Ae e115<|Oz 9 Y<|Ae e115<|Xt Y Y ?_
  have m4:=()
  rotate_left 1
 any_goals
  clear m5
  refine Xm Y<|Ae e115<|Oz 9 Y<|Ae e115<|Xt Y Y ?_
  have m3:=()
  rotate_left 1
 any_goals
  clear m4
  refine Xm Y<|Ae e115<|Oz 4 Y<|Ae e115<|Xt Y Y<|Xr e115<|J3 Y<|Rq<|Xa Y<|Xa Y<|Xr e115<|J5<|Kw Y Y Y<|⟨_,_,Y,Ans.no (kI (by omega)),H1.Ag⟩
 any_goals
  clear m3
  refine Xm Y<|Ae e115<|Oz 4 Y<|Ae e115<|Xt Y Y<|Xr e115<|J3 Y<|Rq<|Xa Y<|Xa Y<|Xr e115<|J5<|Kw Y Y Y<|⟨_,_,Y,Ans.no (kI (by omega)),H2.Ag⟩
 any_goals
  clear m2
  refine Xu Y Y<|Xm Y<|Ae e115<|OY Y<|Xf uY Y<|OY Y<|OV (EL xG Y (H1.cell (i:=0) Y Y))<|Ae e115<|OY Y<|OV (ES Hf Y)<|OY Y<|OT (yP Y Y) (fun Wv=>?_) (fun Wv=>?_)
  refine Xu Y Y<|Xr e115<|J3 Y<|Rq<|Xa Y<|Xa Y<|Xr e115<|J5<|Kw Y Y Y<|⟨_,_,Y,Ans.no (kI (by omega)),H1.Ag⟩
  refine Xu Y Y<|Xr e115<|J4 Y<|J6<|J1<|Rq<|Xf wL Y<|OV (EL tX Y (H1.cell (i:=0) Y Y))<|OV (ES Na Y)<|Xm Y<|Xr e115<|J7<|zU (fun nQ lQ w=>∃ (i:Nat) (y:Int),s.entries.length - i=nQ∧xO (Ik [(1,Aa 5),(5,Ah gs),(70,Ac A3 s.entries.length k3),(71,Aa (s.entries.length:Int)),(72,Aa y)] 0 115) lQ∧y=(i:Int)∧i≤s.entries.length∧tI s.index s.entries=tI (s.index+i) (s.entries.drop i)∧Hp w0 w [] [((some gs,97,Cb s A1 k1 A2 k2 A3 k3):Ent)]) (s.entries.length) ?_ ?_
  exact⟨0,_,Y,(Qr Y Y Y Y Y Y),Y,Am _,by simp,H1⟩
  rintro nQ lQ w2 ⟨i,y,rfl,hfit,rfl,hi,hinv,H2⟩
  obtain⟨j,rfl⟩:=hfit.open
  refine cR e115 ?_
  clear hfit
  refine Rq<|OT (zR Y Y) (fun Y6=>?_) (fun Y6=>?_)
  have hil:i < s.entries.length:=by omega
  obtain⟨x,hx⟩:=yM hil
  obtain⟨p1,hp1,hR⟩:=he2.get hx
  obtain⟨Ax,kx,rfl,hbx⟩:=hR
  obtain⟨a1,ha1⟩:=hre.some_ (by omega)
  subst ha1
  refine Xr e115<|J1<|J3 Y<|J6<|J1<|J7<|Rq<|Xm Y<|OV (EI Na wJ Y Y Y hil Y)<|OV (EN wJ Y (vs:=Ey x Ax kx) Y ((hre.to0 H2).elem hpe hp1))<|OA wJ H2<|fun w3 g3 H3 hg3=>Ae e115<|Xa Y<|OS wJ H3 1 Y Y Y Y Y (by first|exact NL Y|simp[zG]) Y<|fun w4 H4=>Xr e115<|Rq<|Xf xX Y<|OV (EL ty3 Y (H4.cell (i:=1) Y Y))<|Xf wX Y<|OV (EL ty3 Y (H4.cell (i:=0) Y Y))<|Ae e115<|OV (zL Y Y (Ad _ (by omega)))<|Xm Y<|OV (zL Y Y (Ad _ (by omega)))<|OT (yR Y Y) (fun Ze=>?_) (fun Ze=>?_)
  refine Xm Y<|Ae e115<|Oz 3 Y<|Ae e115<|Xt Y Y<|Xm Y<|Ae e115<|Oz 4 Y<|Ae e115<|Xt Y Y<|Xr e115<|J3 Y<|Rq<|Xa Y<|Xa Y<|Xr e115<|J5<|BR<|yN<|BR<|Kw Y Y Y<|⟨_,_,Y,Ans.no (qS (by rw[hinv];exact qR hx fun hh=>by omega)),H4.Ag⟩
  refine Xm Y<|Ae e115<|OY Y<|Xf xX Y<|OY Y<|OV (EL ty3 Y (H4.cell (i:=1) Y Y))<|Ae e115<|OY Y<|OT (yP Y Y) (fun hp88=>?_) (fun hp88=>?_)
  refine Xu Y Y<|Xm Y<|Ae e115<|Oz 4 Y<|Ae e115<|Xt Y Y<|Xr e115<|J3 Y<|Rq<|Xa Y<|Xa Y<|Xr e115<|J5<|BR<|yN<|BR<|Kw Y Y Y<|⟨_,_,Y,Ans.no (qS (by rw[hinv];exact qR hx fun hh=>by omega)),H4.Ag⟩
  refine Xu Y Y<|Xm Y<|Ae e115<|OY Y<|Xf uH Y<|OY Y<|OV (EL xG Y (H4.cell (i:=1) Y Y))<|Ae e115<|OY Y<|OV (ES Hf Y)<|OY Y<|OT (yP Y Y) (fun Yz=>?_) (fun Yz=>?_)
  refine Xu Y Y<|Xr e115<|J3 Y<|Rq<|Xa Y<|Xa Y<|Xr e115<|J5<|BR<|yN<|BR<|Kw Y Y Y<|⟨_,_,Y,Ans.no (qS (by rw[hinv];exact qR hx fun hh=>by omega)),H4.Ag⟩
  refine Xu Y Y<|Xr e115<|J4 Y<|J6<|zA (zD ?_)
  refine J2<|OV (zL Y Y (Ad _ (by omega)))<|Xm Y<|Xr e115<|zA (zH ?_)
  have hgo:=C5 (m:=s.index+i) hx ⟨by omega,by omega,by omega⟩
  exact⟨s.entries.length - (i+1),by omega,i+1,_,Y,(Qr Y Y Y Y Y Y),by omega,by omega,by rw[hinv,hgo];congr 1;omega,H4.pick [0] (by decide)⟩
  obtain rfl:i=s.entries.length:=by omega
  have hent:=hinv.trans cC
  refine Xr e115<|J1<|J4 Y<|J8<|zT<|zS<|Rq<|Xf uZ Y<|OV (EN vC Y (vs:=Ij s) Y (H2.Ak (i:=0) Y Y))<|Xf wX Y<|OV (EL ty3 Y (H2.cell (i:=0) Y Y))<|Ae e115<|Xf wL Y<|OV (EL tX Y (H2.cell (i:=0) Y Y))<|OV (ES Na Y)<|OV (zL Y Y (Ad _ (by omega)))<|Ae e115<|OV (zL Y Y (Ad _ (by omega)))<|Xf wM Y<|OV (EL tY Y (H2.cell (i:=0) Y Y))<|OQ (EC VP Y) (PG s.p (s.index+s.entries.length+1) A1 k1 s.Bd ok _ (hv1.Qi H2 k0) (by omega)) ?_
  rintro _ w3 ⟨v,e,rfl,hans,Hd⟩
  have H3:=H2.Ap Hd
  rw[← C8 (by omega) (by omega) hent]at hans
  refine Ae e115<|Xm Y<|Xe Y Y<|Xe Y Y<|Xa Y<|Ae e115<|Xa Y<|Xr e115<|J1<|Rq<|Xm Y<|OT (yR Y Y) (fun Xx=>?_) (fun Xx=>?_)
  refine Xr e115<|J3 rfl<|Rq<|Xa rfl<|Xa rfl<|Xr e115<|J5<|Kw rfl rfl rfl<|⟨_,_,rfl,Ans.no (by cases hc:chk s with | false=>rfl | true=>exact absurd (hans.1 hc) Xx),H3.Ag⟩
  refine Xr e115<|J4 rfl<|J6<|Rq<|Xm rfl<|Xa rfl<|Xa rfl<|Xr e115<|J5<|Kw rfl rfl rfl<|⟨_,_,rfl,Ans.ok (by cases hc:chk s with | true=>rfl | false=>have:=hans.2 hc;omega),H3.Ag⟩
 any_goals
  clear m1
  refine Xu Y Y<|Xm Y<|Ae e115<|OY Y<|Xf uY Y<|OY Y<|OV (EL xG Y (H2.cell (i:=0) Y Y))<|Ae e115<|OY Y<|OV (ES Hf Y)<|OY Y<|OT (yP Y Y) (fun Wv=>?_) (fun Wv=>?_)
  refine Xu Y Y<|Xr e115<|J3 Y<|Rq<|Xa Y<|Xa Y<|Xr e115<|J5<|Kw Y Y Y<|⟨_,_,Y,Ans.no (kI (by omega)),H2.Ag⟩
  refine Xu Y Y<|Xr e115<|J4 Y<|J6<|J1<|Rq<|Xf wL Y<|OV (EL tX Y (H2.cell (i:=0) Y Y))<|OV (ES Na Y)<|Xm Y<|Xr e115<|J7<|zU (fun nQ lQ w=>∃ (i:Nat) (y:Int),s.entries.length - i=nQ∧xO (Ik [(1,Aa 5),(5,Ah gs),(70,Ac A3 s.entries.length k3),(71,Aa (s.entries.length:Int)),(72,Aa y)] 0 115) lQ∧y=(i:Int)∧i≤s.entries.length∧tI s.index s.entries=tI (s.index+i) (s.entries.drop i)∧Hp w0 w [] [((some gs,97,Cb s A1 k1 A2 k2 A3 k3):Ent)]) (s.entries.length) ?_ ?_
  exact⟨0,_,Y,(Qr Y Y Y Y Y Y),Y,Am _,by simp,H2⟩
  rintro nQ lQ w3 ⟨i,y,rfl,hfit,rfl,hi,hinv,H3⟩
  obtain⟨j,rfl⟩:=hfit.open
  refine cR e115 ?_
  clear hfit
  refine Rq<|OT (zR Y Y) (fun Y6=>?_) (fun Y6=>?_)
  have hil:i < s.entries.length:=by omega
  obtain⟨x,hx⟩:=yM hil
  obtain⟨p1,hp1,hR⟩:=he2.get hx
  obtain⟨Ax,kx,rfl,hbx⟩:=hR
  obtain⟨a1,ha1⟩:=hre.some_ (by omega)
  subst ha1
  refine Xr e115<|J1<|J3 Y<|J6<|J1<|J7<|Rq<|Xm Y<|OV (EI Na wJ Y Y Y hil Y)<|OV (EN wJ Y (vs:=Ey x Ax kx) Y ((hre.to0 H3).elem hpe hp1))<|OA wJ H3<|fun w4 g4 H4 hg4=>Ae e115<|Xa Y<|OS wJ H4 1 Y Y Y Y Y (by first|exact NL Y|simp[zG]) Y<|fun w5 H5=>Xr e115<|Rq<|Xf xX Y<|OV (EL ty3 Y (H5.cell (i:=1) Y Y))<|Xf wX Y<|OV (EL ty3 Y (H5.cell (i:=0) Y Y))<|Ae e115<|OV (zL Y Y (Ad _ (by omega)))<|Xm Y<|OV (zL Y Y (Ad _ (by omega)))<|OT (yR Y Y) (fun Ze=>?_) (fun Ze=>?_)
  refine Xm Y<|Ae e115<|Oz 3 Y<|Ae e115<|Xt Y Y<|Xm Y<|Ae e115<|Oz 4 Y<|Ae e115<|Xt Y Y<|Xr e115<|J3 Y<|Rq<|Xa Y<|Xa Y<|Xr e115<|J5<|BR<|yN<|BR<|Kw Y Y Y<|⟨_,_,Y,Ans.no (qS (by rw[hinv];exact qR hx fun hh=>by omega)),H5.Ag⟩
  refine Xm Y<|Ae e115<|OY Y<|Xf xX Y<|OY Y<|OV (EL ty3 Y (H5.cell (i:=1) Y Y))<|Ae e115<|OY Y<|OT (yP Y Y) (fun hp88=>?_) (fun hp88=>?_)
  refine Xu Y Y<|Xm Y<|Ae e115<|Oz 4 Y<|Ae e115<|Xt Y Y<|Xr e115<|J3 Y<|Rq<|Xa Y<|Xa Y<|Xr e115<|J5<|BR<|yN<|BR<|Kw Y Y Y<|⟨_,_,Y,Ans.no (qS (by rw[hinv];exact qR hx fun hh=>by omega)),H5.Ag⟩
  refine Xu Y Y<|Xm Y<|Ae e115<|OY Y<|Xf uH Y<|OY Y<|OV (EL xG Y (H5.cell (i:=1) Y Y))<|Ae e115<|OY Y<|OV (ES Hf Y)<|OY Y<|OT (yP Y Y) (fun Yz=>?_) (fun Yz=>?_)
  refine Xu Y Y<|Xr e115<|J3 Y<|Rq<|Xa Y<|Xa Y<|Xr e115<|J5<|BR<|yN<|BR<|Kw Y Y Y<|⟨_,_,Y,Ans.no (qS (by rw[hinv];exact qR hx fun hh=>by omega)),H5.Ag⟩
  refine Xu Y Y<|Xr e115<|J4 Y<|J6<|zA (zD ?_)
  refine J2<|OV (zL Y Y (Ad _ (by omega)))<|Xm Y<|Xr e115<|zA (zH ?_)
  have hgo:=C5 (m:=s.index+i) hx ⟨by omega,by omega,by omega⟩
  exact⟨s.entries.length - (i+1),by omega,i+1,_,Y,(Qr Y Y Y Y Y Y),by omega,by omega,by rw[hinv,hgo];congr 1;omega,H5.pick [0] (by decide)⟩
  obtain rfl:i=s.entries.length:=by omega
  have hent:=hinv.trans cC
  refine Xr e115<|J1<|J4 Y<|J8<|zT<|zS<|Rq<|Xf uZ Y<|OV (EN vC Y (vs:=Ij s) Y (H3.Ak (i:=0) Y Y))<|Xf wX Y<|OV (EL ty3 Y (H3.cell (i:=0) Y Y))<|Ae e115<|Xf wL Y<|OV (EL tX Y (H3.cell (i:=0) Y Y))<|OV (ES Na Y)<|OV (zL Y Y (Ad _ (by omega)))<|Ae e115<|OV (zL Y Y (Ad _ (by omega)))<|Xf wM Y<|OV (EL tY Y (H3.cell (i:=0) Y Y))<|OQ (EC VP Y) (PG s.p (s.index+s.entries.length+1) A1 k1 s.Bd ok _ (hv1.Qi H3 k0) (by omega)) ?_
  rintro _ w4 ⟨v,e,rfl,hans,Hd⟩
  have H4:=H3.Ap Hd
  rw[← C8 (by omega) (by omega) hent]at hans
  refine Ae e115<|Xm Y<|Xe Y Y<|Xe Y Y<|Xa Y<|Ae e115<|Xa Y<|Xr e115<|J1<|Rq<|Xm Y<|OT (yR Y Y) (fun Xx=>?_) (fun Xx=>?_)
  refine Xr e115<|J3 rfl<|Rq<|Xa rfl<|Xa rfl<|Xr e115<|J5<|Kw rfl rfl rfl<|⟨_,_,rfl,Ans.no (by cases hc:chk s with | false=>rfl | true=>exact absurd (hans.1 hc) Xx),H4.Ag⟩
  refine Xr e115<|J4 rfl<|J6<|Rq<|Xm rfl<|Xa rfl<|Xa rfl<|Xr e115<|J5<|Kw rfl rfl rfl<|⟨_,_,rfl,Ans.ok (by cases hc:chk s with | true=>rfl | false=>have:=hans.2 hc;omega),H4.Ag⟩
theorem UW (s:Sv) (A1:Option Addr) (k1:Nat) (A2:Option Addr) (k2:Nat) (A3:Option Addr) (k3:Nat) (ok:Nat→Prop) (w0:World) (hv1:Sl (Oc w0 ok) 4 w0 ok A1 s.Bd) (hv2:Bs w0 ok A2 s.image) (hv3:Sl (Qu w0 ok) 2 w0 ok A3 s.entries) (hvl:s.Bd.length≤1000000000000000000) (hel2:s.entries.length≤1000000000000000000):Aj 68 #[Aa 1,Aa 5,.agg (Cb s A1 k1 A2 k2 A3 k3).toArray] w0 (fun r w'=>∃ e:Int,r=Aa e∧Ans (chk s) e∧Hp w0 w' [] []):=by
 refine zE Tryz.func68 Tryz.ntmps68 Y<|cR e17 ?_
 have H:=Hp.refl w0
 refine Rq<|zW Y Y H<|fun w1 g1 H1 hg1=>Xa Y<|Xr e17<|Rq<|Xm Y<|Xm Y<|OV (EN xY Y (vs:=Cb s A1 k1 A2 k2 A3 k3) Y (H1.Ak (i:=0) Y Y))<|OQ (EC gf120 Y) (XC s A1 k1 A2 k2 A3 k3 ok _ (hv1.Qi H1 k0) (hv2.to H1 k0) (hv3.Si H1 k0) hvl hel2) ?_
 rintro _ w2 ⟨v,e,rfl,hans,Hd⟩
 have H2:=H1.Ap Hd
 refine Ae e17<|Xm Y<|Xe Y Y<|Xe Y Y<|Xa Y<|Ae e17<|Xa Y<|Xr e17<|Rq<|Xm Y<|Xa Y<|Xr e17<|J5<|Cj Y Y<|⟨_,Y,hans,H2.Ag⟩
theorem UX (A:Option Addr) (k:Nat) (l:List Rt) (ok:Nat→Prop) (w0:World) (hl:Sl Px 4 w0 ok A l) (hn:l.length≤1000000000000) (hso:qK l):Aj 152 #[Ac A l.length k] w0 (fun r w'=>r=Aa 0∧Hp w0 w' [] []):=by
 refine zE Tryz.func152 Tryz.ntmps152 Y<|cR e30 ?_
 have H:=Hp.refl w0
 obtain⟨ps,hp,hr,ha,h2⟩:=id hl
 have hlen:=h2.len
 obtain⟨Wi,hrise⟩:=sA hso
 refine Rq<|Xa Y<|Xr e30<|J1<|Rq<|Xm Y<|OV (ES Kv Y)<|Xm Y<|Xr e30<|J7<|zU (fun nQ lQ w=>∃ (i:Nat) (y:Int),l.length - i=nQ∧xO (Ik [(0,Ac A l.length k),(5,Ac A l.length k),(6,Aa (l.length:Int)),(7,Aa y)] 0 30) lQ∧y=(i:Int)∧i≤l.length∧Hp w0 w [] []) (l.length) ?_ ?_
 exact⟨0,_,Y,(Ja Y Y Y Y Y),Y,Am _,H⟩
 rintro nQ lQ w1 ⟨i,y,rfl,hfit,rfl,hi,H1⟩
 obtain⟨j,rfl⟩:=hfit.open
 refine cR e30 ?_
 clear hfit
 refine Rq<|OT (zR Y Y) (fun hp8=>?_) (fun hp8=>?_)
 have hil:i < l.length:=by omega
 obtain⟨x,hx⟩:=yM hil
 obtain⟨p1,hp1,hR⟩:=h2.get hx
 unfold Px at hR
 subst hR
 obtain⟨a1,ha1⟩:=hr.some_ (by omega)
 subst ha1
 have hmay:=Wi x (mem_of hx)
 refine Xr e30<|J1<|J3 Y<|J6<|J1<|J7<|Rq<|Xm Y<|OV (EI Kv xR Y Y Y hil Y)<|OV (EN xR Y (vs:=Dc x) Y ((hr.to0 H1).elem hp hp1))<|OA xR H1<|fun w2 g2 H2 hg2=>Ae e30<|Xa Y<|OS xR H2 0 Y Y Y Y Y (by first|exact NL Y|simp[zG]) Y<|fun w3 H3=>Xr e30<|J1<|zQ 16 [(true,0),(false,1),(true,2),(true,3),(true,4),(true,5),(true,6),(true,7),(true,8),(true,9),(true,10),(true,11),(true,12),(false,13),(true,14),(true,15),(false,16)] H3 [0] yF (by decide) (by kernel_rfl) ?_
 rintro w4 hw4
 have H4:=Hp.drew H3;rw[← hw4]at H4
 refine MP Y<|MV (fun wz hz=>EN xR Y (vs:=Dc x) Y (hz.Ak (i:=0) Y Y))<|MO Y<|oR (EC VS Y) (VJ _ _) (hmay)<|fun w5 Hd=>have H5:=H4.Ap Hd;OE<|⟨fun hne=>H5.pick [0] (by decide),?_⟩
 refine cZ e30<|MP Y<|MV (fun wz hz=>aF Y)<|Zm Y Y<|MP Y<|MY Y<|MV (fun wz hz=>zK Y)<|MP Y<|MY Y<|vZ (fun wz hz=>yP Y Y) (fun hp17=>?_) (fun hp17=>?_)
 obtain⟨y,hy⟩:=yM (l:=l) (j:=i - 1) (by omega)
 obtain⟨p2,hp2,hR2⟩:=h2.get hy
 unfold Px at hR2
 subst hR2
 have hneg:nI y x < 0:=TF.2 (hrise (i - 1) i y x (by omega) hy hx)
 refine MP Y<|MY Y<|MV (fun wz hz=>zK Y)<|cZ e30<|MP Y<|MY Y<|MV (fun wz hz=>zK Y)<|MP Y<|MY Y<|MV (fun wz hz=>zK Y)<|MP Y<|MY Y<|MV (fun wz hz=>uI Y Y (Ad _ (by omega)))<|MP Y<|MY Y<|MV (fun wz hz=>EI Kv xR Y Y (len:=l.length) (i:=i - 1) (by omega) (by omega) Y)<|cZ e30<|MP Y<|MY Y<|MV (fun wz hz=>EN xR Y (vs:=Dc y) Y ((hr.to0 hz).elem hp hp2))<|MP Y<|MY Y<|MV (fun wz hz=>EN xR Y (vs:=Dc x) Y (hz.Ak (i:=0) Y Y))<|MO Y<|OY Y<|OC (EC VR Y) (OK y x _)<|fun w6 Hd=>have H6:=H5.Ap Hd;OE<|⟨fun hne=>H6.pick [0] (by decide),?_⟩
 refine cZ e30<|MP Y<|MY Y<|iM (fun wz hz=>wC Y Y) (by omega)<|MP Y<|MY Y<|MV (fun wz hz=>xS Y Y)<|MO Y<|Xu Y Y<|OE<|⟨fun hne=>absurd Y hne,?_⟩
 refine cZ e30<|ME<|cR e30<|J4 Y<|J6<|zA (zD ?_)
 refine J2<|OV (zL Y Y (Ad _ (by omega)))<|Xm Y<|Xr e30<|zA (zH ?_)
 exact⟨l.length - (i+1),by omega,i+1,_,Y,(Ja Y Y Y Y Y),by omega,by omega,H6.Ag⟩
 refine MP Y<|MY Y<|MV (fun wz hz=>zK Y)<|cZ e30<|MP Y<|MZ Y<|MP Y<|MZ Y<|cZ e30<|MP Y<|MZ Y<|MP Y<|MZ Y<|cZ e30<|MP Y<|MZ Y<|MP Y<|MZ Y<|cZ e30<|MO Y<|OZ Y<|OE<|⟨fun hne=>H5.pick [0] (by decide),?_⟩
 refine MP Y<|MZ Y<|cZ e30<|MP Y<|MY Y<|MV (fun wz hz=>vL Y Y)<|MO Y<|Xu Y Y<|OE<|⟨fun hne=>absurd Y hne,?_⟩
 refine cZ e30<|ME<|cR e30<|J4 Y<|J6<|zA (zD ?_)
 refine J2<|OV (zL Y Y (Ad _ (by omega)))<|Xm Y<|Xr e30<|zA (zH ?_)
 exact⟨l.length - (i+1),by omega,i+1,_,Y,(Ja Y Y Y Y Y),by omega,by omega,H5.Ag⟩
 refine Xr e30<|J1<|J4 Y<|J8<|zT<|zS<|Rq<|Xa Y<|Xr e30<|J5<|Cj Y Y<|⟨Y,H1.Ag⟩
theorem put_l (x:Rt) (A:Option Addr) (k:Nat) (l:List Rt) (ok:Nat→Prop) (w0:World) (hl:Sl Px 4 w0 ok A l) (hn:l.length≤1000000000000) (hso:qK l):Aj 111 #[Ac A l.length k,.agg (Dc x).toArray] w0 (fun r w'=>(nK x→∃ A' k',r=.tuple #[Ac A' (Hg l x).length k',Aa 0]∧Sl Px 4 w' (fun b=>w0.heap.size≤b) A' (Hg l x))∧(¬nK x→r=.tuple #[Dj,Aa 1])∧Hp w0 w' [] []):=by
 refine zE Tryz.func111 Tryz.ntmps111 Y<|cR e34 ?_
 have H:=Hp.refl w0
 obtain⟨ps,hp,hr,ha,h2⟩:=id hl
 have hlen:=h2.len
 obtain⟨Wi,hrise⟩:=sA hso
 have hon:=h2.ones fun _ _ h=>h.ones
 refine Rq<|zW Y Y H<|fun w1 gx H1 _=>Xa Y<|Xa Y<|Xr e34<|J1<|Rq<|Xm Y<|OC (EC gf152 Y) (UX A k l ok _ (hl.toR H1 k0) hn hso)<|fun w2 Hd=>have H2:=H1.Ap Hd;Jt (yR Y Y) (by decide)<|Xr e34<|J4 Y<|J6<|J1<|Rq<|OV (EN xR Y (vs:=Dc x) Y (H2.Ak (i:=0) Y Y))<|OX (EC VS Y) (VJ _ _) (fun Qp w3 Hd=>?_) (fun Qp w3 Hd=>?_)
 have H3:=H2.Ap Hd
 refine Xn Y<|Xr e34<|J4 Y<|J6<|Rq<|Xm Y<|OQ (EC XV Y) (IB A l.length k ps.flatten _ (hr.to0 H3) (xF hon) (by omega)) ?_
 rintro _ w4 ⟨gv,cv,sv,rfl,hmv,hcv,Tj,Hc⟩
 have hgf:=wO (ok:=fun _=>False) Hc (i:=0) rfl (fun _ h=>by cases h)
 have hsz1:=H3.size
 have H4:=H3.call0 Hc
 refine Xa Y<|Xr e34<|Rq<|Xm Y<|OV (EN xR Y (vs:=Dc x) Y (H4.Ak (i:=0) Y Y)) ?_
 have hrs:=H4.rd (i:=1) (xs:=ps.flatten) (sp:=sv) rfl hp.len (by decide)
 refine OQ (EC gf154 Y) (RC (hd gv) cv ps l.length hlen 155 (Nz x) Y (ST x) _ hp hrs (by omega) (MK h2 (B9 hrise x))) ?_
 rintro _ w5 ⟨i,f,rfl,hfd,Hd⟩
 have H5:=H4.Ap Hd
 refine Xm Y<|Ae e34<|Xe Y Y<|Xe Y Y<|Xa Y<|Xa Y<|Xr e34<|J1<|Rq<|Xm Y<|Xr e34<|wP Y (fun hb23=>?_) (fun hb23=>?_)
 obtain⟨pi,hpi,_⟩:=hfd.yes hb23
 have hil:=lt_of_get hpi
 obtain⟨gw,rfl⟩:=vO H5 (i:=1) rfl (by rw[Af,hp.len];omega)
 subst hb23
 refine Rq<|Xm Y<|Xm Y<|OV (EN xR Y (vs:=Dc x) Y (H5.Ak (i:=0) Y Y))<|OV (uS Kv xR Y Y Y (by omega))<|Ae e34<|OS xR H5 1 Y Y Y Y Y (by rw[Af,hp.len];show 0+i*4+4≤_;omega) Y<|fun w6 H6=>?_
 rw[nV (sz:=4) (vs:=Nz x) hp hil rfl]at H6
 replace H6:=H6.pick [0,1] (by decide)
 refine Xr e34<|Rq<|Xm Y<|Xa Y<|Xa Y<|Xr e34<|J5<|Kw Y Y Y ?_
 have hput:=hfd.put (v:=x) h2 (fun p x h=>dR h) (B9 hrise x)
 rw[← D8]at hput
 have HZ:=H6
 rw[if_pos rfl]at hput
 refine⟨fun _=>⟨hd (some gw),cv,by rw[hput,Ko],?_⟩,fun h=>absurd Qp h,H6.Ag⟩
 rw[hput]
 exact Sl.row HZ (i:=1) Y (hp.Sr Y) (by decide) (h2.set i Y) (fun b hb=>by
  rcases HZ.place (i:=1) (g:=b) (by cases hb;rfl)with h | h
  · cases h
  exact h)
 subst hb23
 refine J6<|Rq<|Xm Y<|Xm Y<|OV (EN xR Y (vs:=Dc x) Y (H5.Ak (i:=0) Y Y))<|zJ Kv xR H5 Y (by decide) Y<|fun w6 g6 H6 hg6=>Ae e34<|OQ (EC gf156 Y) (T8 gv cv i _ l.length ps hlen (Nz x) sv _ (H6.pick [1] (by decide)).here hp hon (by omega) hcv Tj hfd.le (H6.at (i:=2) Y) Y Y (Fg H6 (i:=2) (is:=[1]) Y (by decide)) (by omega)) ?_
 rintro _ w7 ⟨gw,cw,sw,rfl,hnw,hcw,hgw,Hd⟩
 rw[hlen]
 have H7:=(H6.Dq [1] rfl Hd).pick [0,3] (by decide)
 refine Xa Y<|Xa Y<|Xr e34<|J5<|Kw Y Y Y ?_
 have hput:=hfd.put (v:=x) h2 (fun p x h=>dR h) (B9 hrise x)
 rw[← D8]at hput
 have HZ:=H7
 rw[if_neg (by decide)]at hput
 have hle:=hfd.le
 have hil3:(l.take i++x::l.drop i).length=l.length+1:=by rw[Af,Bg,Aw,Bh];omega
 refine⟨fun _=>⟨hd gw,cw,by rw[hput,hil3],?_⟩,fun h=>absurd Qp h,H7.Ag⟩
 rw[hput]
 exact Sl.row HZ (i:=1) Y ((hp.sub fun x hx=>Fa hx).app fun x hx=>by
  rcases Cm.1 hx with rfl | hx
  · rfl
  · exact hp x (Ep hx)) (by decide) ((h2.take i).app ⟨Y,h2.drop i⟩) (fun b hb=>by
  rcases HZ.place (i:=1) (g:=b) (by cases hb;rfl)with h | h
  · cases h
  exact h)
 have H3:=H2.Ap Hd
 refine Xn Y<|Xr e34<|J3 Y<|Rq<|Xa Y<|Xa Y<|Xr e34<|J5<|Kw Y Y Y<|⟨fun h=>absurd h Qp,fun _=>Y,H3.Ag⟩
theorem UU (A:Option Addr) (k:Nat) (l:List Mk) (ok:Nat→Prop) (w0:World) (hl:Sl Pq 7 w0 ok A l) (hn:l.length≤1000000000000) (hso:sC 0 l):Aj 157 #[Ac A l.length k] w0 (fun r w'=>r=Aa 0∧Hp w0 w' [] []):=by
 refine zE Tryz.func157 Tryz.ntmps157 Y<|cR e49 ?_
 have H:=Hp.refl w0
 obtain⟨ps,hp,hr,ha,h2⟩:=id hl
 have hlen:=h2.len
 obtain⟨Zu,hrise⟩:=uA hso
 refine Rq<|Xa Y<|Xr e49<|Rq<|Xa Y<|Xr e49<|J1<|Rq<|Xm Y<|OV (ES La Y)<|Xm Y<|Xr e49<|J7<|zU (fun nQ lQ w=>∃ (i:Nat) (y m:Int),l.length - i=nQ∧xO (Ik [(3,Aa m),(6,Ac A l.length k),(7,Aa (l.length:Int)),(8,Aa y)] 0 49) lQ∧y=(i:Int)∧i≤l.length∧sC m (l.drop i)∧Hp w0 w [] []) (l.length) ?_ ?_
 exact⟨0,_,0,Y,(Ja Y Y Y Y Y),Y,Am _,hso,H⟩
 rintro nQ lQ w1 ⟨i,y,m,rfl,hfit,rfl,hi,hinv,H1⟩
 obtain⟨j,rfl⟩:=hfit.open
 refine cR e49 ?_
 clear hfit
 refine Rq<|OT (zR Y Y) (fun hp9=>?_) (fun hp9=>?_)
 have hil:i < l.length:=by omega
 obtain⟨x,hx⟩:=yM hil
 obtain⟨p1,hp1,hR⟩:=h2.get hx
 unfold Pq at hR
 subst hR
 obtain⟨a1,ha1⟩:=hr.some_ (by omega)
 subst ha1
 rw[uX hx]at hinv
 obtain⟨hm1,hm2,hm3,hm4,hm5⟩:=hinv
 refine Xr e49<|J1<|J3 Y<|J6<|J1<|J7<|Rq<|OV (EI La yQ Y Y Y hil Y)<|OV (EN yQ Y (vs:=[Aa x.client,Aa x.seq,.bool false,Aa 0,Aa 0,Aa 0,Aa 0]) Y ((hr.to0 H1).elem hp hp1))<|OA yQ H1<|fun w2 g2 H2 hg2=>OS yQ H2 0 Y Y Y Y Y (by first|exact NL Y|simp[zG]) Y<|fun w3 H3=>Xr e49<|J1<|Rq<|Xf tT Y<|OV (EL ty3 Y (H3.cell (i:=0) Y Y))<|Xm Y<|Jt (uV Y Y) (by omega)<|Ae e49<|Xm Y<|OY Y<|Xf tT Y<|Ae e49<|OY Y<|OV (EL ty3 Y (H3.cell (i:=0) Y Y))<|OY Y<|Jt (yP Y Y) (by omega)<|Xu Y Y<|Xm Y<|Ae e49<|OY Y<|Xf jM Y<|OY Y<|OV (EL ty3 Y (H3.cell (i:=0) Y Y)) ?_
 refine Ae e49<|OY Y<|Jt (zR Y Y) (by omega)<|Xu Y Y<|Xm Y<|Ae e49<|OY Y<|Xf jM Y<|OY Y<|OV (EL ty3 Y (H3.cell (i:=0) Y Y))<|Ae e49<|OY Y<|Jt (yP Y Y) (by omega)<|Xu Y Y<|Xm Y<|Ae e49<|OY Y<|Xf JU Y<|OY Y<|OV (EL ty4 Y (H3.cell (i:=0) Y Y))<|Ae e49<|OY Y<|Xm Y<|Oz 9 Y<|Ae e49<|OY Y<|Xu Y Y<|Xu Y Y ?_
 refine Xr e49<|J4 Y<|J6<|J2<|Xf tT Y<|OV (EL ty3 Y (H3.cell (i:=0) Y Y))<|Xa Y<|Xr e49<|zA (zD ?_)
 refine J2<|OV (zL Y Y (Ad _ (by omega)))<|Xm Y<|Xr e49<|zA (zH ?_)
 exact⟨l.length - (i+1),by omega,i+1,_,x.client,Y,(Ja Y Y Y Y Y),by omega,by omega,hm5,H3.Ag⟩
 refine Xr e49<|J1<|J4 Y<|J8<|zT<|zS<|Rq<|Xa Y<|Xr e49<|J5<|Cj Y Y<|⟨Y,H1.Ag⟩
set_option maxHeartbeats 4000000
theorem TC (A:Option Addr) (k:Nat) (l:List Mk) (c:Int) (ps:List (List Value)) (w0:World) (hp:Pl 7 ps) (hr:Rd w0 A l.length 7 ps.flatten) (h2:wT Pq ps l) (hn:l.length≤1000000) (hso:sC 0 l):Aj 158 #[Ac A l.length k,Aa c] w0 (fun r w'=>∃ (i:Nat) (f:Bool),r=.tuple #[Aa (i:Int),.bool f]∧BT ps (PA c) i f∧Hp w0 w' [] []):=by
 refine zE Tryz.func158 Tryz.ntmps158 Y<|cR e11 ?_
 have H:=Hp.refl w0
 have hlen:=h2.len
 refine Rq<|Xa Y<|Xa Y<|Xr e11<|Rq<|Xm Y<|Xm Y<|OQ (EC gf189 Y) (RD A k ps l.length hlen 190 c (PA c) _ hp (by rw[hlen];exact hr.to0 H) (by omega) (Q8 h2 (IX (uA hso).2 c))) ?_
 rintro _ w1 ⟨i,f,rfl,hfd,Hd⟩
 have H1:=H.Ap Hd
 refine Xe Y Y<|Ae e11<|Xe Y Y<|Xa Y<|Xa Y<|Xr e11<|J5<|Kw Y Y Y<|⟨i,f,Y,hfd,H1.Ag⟩
theorem QI (A:Option Addr) (k:Nat) (l:List Mk) (c:Int) (ok:Nat→Prop) (w0:World) (hl:Sl Pq 7 w0 ok A l) (hn:l.length≤1000000) (hso:sC 0 l):Aj 112 #[Ac A l.length k,Aa c] w0 (fun r w'=>∃ (m:Mk) (f:Bool),r=.tuple #[.agg (Uo m).toArray,.bool f]∧(f=true→Fj l c=some m)∧(f=false→Fj l c=none)∧Hp w0 w' [] []):=by
 refine zE Tryz.func112 Tryz.ntmps112 Y<|cR e25 ?_
 have H:=Hp.refl w0
 obtain⟨ps,hp,hr,ha,h2⟩:=id hl
 have hlen:=h2.len
 refine Rq<|OA yQ H<|fun w1 g1 H1 hg1=>Xa Y<|Xr e25<|J1<|Rq<|Xm Y<|OC (EC gf157 Y) (UU A k l ok _ (hl.toM H1 k0) (by omega) hso)<|fun w2 Hd=>have H2:=H1.Ap Hd;Jt (yR Y Y) (by decide)<|Xr e25<|J4 Y<|J6<|Rq<|Xm Y<|Xm Y<|OQ (EC gf158 Y) (TC A k l c ps _ hp (hr.to0 H2) h2 hn hso) ?_
 rintro _ w3 ⟨i,f,rfl,hfd,Hd⟩
 have H3:=H2.Ap Hd
 obtain⟨hyes,hno⟩:=G8 hfd h2 (uA hso).2
 cases f
 refine Xm Y<|Xe Y Y<|Ae e25<|Xe Y Y<|Xa Y<|Xa Y<|Xr e25<|J1<|Rq<|Xm Y<|Xn Y<|Xr e25<|J3 Y<|Rq<|OV (EB yQ dD Y Y)<|OS yQ H3 0 Y Y Y Y Y (by first|exact NL Y|simp[zG]) Y<|fun w4 H4=>Xa Y<|Xr e25<|J5<|xN Y yQ (cs:=Uo ⟨0,0⟩) Y Y Y (H4.Ak (i:=0) Y Y)<|⟨⟨0,0⟩,false,Y,(fun h=>by cases h),fun _=>hno Y,H4.Ag⟩
 obtain⟨x,hx,hfx⟩:=hyes rfl
 obtain⟨p1,hp1,hR⟩:=h2.get hx
 unfold Pq at hR
 subst hR
 obtain⟨a1,ha1⟩:=hr.some_ (by have:=lt_of_get hx;omega)
 subst ha1
 refine Xm Y<|Xe Y Y<|Ae e25<|Xe Y Y<|Xa Y<|Xa Y<|Xr e25<|J1<|Rq<|Xm Y<|Xn Y<|Xr e25<|J4 Y<|J6<|Rq<|Xm Y<|Xm Y<|OV (EI La yQ Y Y Y (lt_of_get hx) Y)<|OV (EN yQ Y (vs:=Uo x) Y ((hr.to0 H3).elem hp hp1))<|Ae e25<|OS yQ H3 0 Y Y Y Y Y (by first|exact NL Y|simp[zG]) Y<|fun w4 H4=>Xa Y<|Xr e25<|J5<|xN Y yQ (cs:=Uo x) Y Y Y (H4.Ak (i:=0) Y Y)<|⟨x,true,Y,fun _=>hfx,(fun h=>by cases h),H4.Ag⟩
theorem SG (n:Int) (w0:World):Aj 67 #[Aa n] w0 (fun r w'=>((n < 1∨4 < n)→r=.nilFunc)∧(n=1→r=.func (.func 116) #[] #[])∧(n=2→r=.func (.func 117) #[] #[])∧(n=3→r=.func (.func 118) #[] #[])∧(n=4→r=.func (.func 119) #[] #[])∧Hp w0 w' [] []):=by
 refine zE Tryz.func67 Tryz.ntmps67 Y<|cR e12 ?_
 have H:=Hp.refl w0
 refine Rq<|Xa Y<|Xr e12<|J1<|Rq<|Xm Y<|OT (zR Y Y) (fun hp4=>?_) (fun hp4=>?_)
 refine Xm Y<|Ae e12<|Oz 2 Y<|Xt Y Y ?_
 have m1:=()
 rotate_left 1
 refine Xm Y<|Ae e12<|OY Y<|Xm Y<|OY Y<|OT (yP Y Y) (fun Ur=>?_) (fun Ur=>?_)
 refine Xu Y Y ?_
 have m1:=()
 rotate_left 1
 refine Xu Y Y<|Xr e12<|J4 Y<|J6<|Rq<|OV (MC ty192 U192 DM Y Y)<|Xm Y ?_
 obtain hk | hk | hk | hk:n=1∨n=2∨n=3∨n=4:=by omega
 subst hk
 refine OV (mP U192 DM Y Y (i:=1) Y (by decide) Y)<|Xa Y<|Xr e12<|J5<|Cj Y Y ?_
 refine⟨fun h=>by omega,fun _=>Y,fun h=>by omega,fun h=>by omega,fun h=>by omega,H.Ag⟩
 subst hk
 refine OV (mP U192 DM Y Y (i:=2) Y (by decide) Y)<|Xa Y<|Xr e12<|J5<|Cj Y Y ?_
 refine⟨fun h=>by omega,fun h=>by omega,fun _=>Y,fun h=>by omega,fun h=>by omega,H.Ag⟩
 subst hk
 refine OV (mP U192 DM Y Y (i:=3) Y (by decide) Y)<|Xa Y<|Xr e12<|J5<|Cj Y Y ?_
 refine⟨fun h=>by omega,fun h=>by omega,fun h=>by omega,fun _=>Y,fun h=>by omega,H.Ag⟩
 subst hk
 refine OV (mP U192 DM Y Y (i:=4) Y (by decide) Y)<|Xa Y<|Xr e12<|J5<|Cj Y Y ?_
 refine⟨fun h=>by omega,fun h=>by omega,fun h=>by omega,fun h=>by omega,fun _=>Y,H.Ag⟩
 any_goals
  clear m1
  refine Xr e12<|J3 Y<|Rq<|Xa Y<|Xr e12<|J5<|Cj Y Y ?_
  refine⟨fun _=>Y,fun h=>by omega,fun h=>by omega,fun h=>by omega,fun h=>by omega,H.Ag⟩
set_option maxHeartbeats 32000000
@[reducible] def bof :Option Value→Nat
 | none=>0
 | some _=>1
@[reducible] def bty :Option Value→TypeId
 | none=>41
 | some _=>69
@[reducible] def bcs :Option Value→List Value→List Value
 | none,l=>l
 | some p,l=>p::l
theorem SI (pre:Option Value) (gb:Nat) (b:Bo) (A1:Option Addr) (k1:Nat) (A2:Option Addr) (k2:Nat) (A3:Option Addr) (k3:Nat) (n:Nt) (B1:Option Addr) (j1:Nat) (B2:Option Addr) (j2:Nat) (N:Nat) (w0:World) (hrow:w0.heap[gb]? =some (.cells (bcs pre (Az A1 b k1 A2 k2 A3 k3)).toArray (bty pre) (0,0))) (ok:Nat→Prop) (hok:¬ok gb) (hb1:Sl (Rl w0 ok) 6 w0 ok A1 b.groups) (hb2:Sl Px 4 w0 ok A2 b.rights) (hb3:Sl Pq 7 w0 ok A3 b.last) (hg:rU b N) (hN:N≤900000000000):Aj 66 #[.pointer (some ⟨gb,bof pre,none⟩),.agg (Dv n B1 j1 B2 j2).toArray] w0 (fun r w'=>(nK n.right→r=.bool true∧∃ cs',Hp w0 w' [gb] [((some gb,bty pre,bcs pre cs'):Ent)]∧Sj w' (up ok w0.heap.size) cs' { b with rights:=Hg b.rights n.right,last:=uT b.last n.client n.seq })∧(¬nK n.right→r=.bool false∧Hp w0 w' [gb] [])):=by
 refine zE Tryz.func66 Tryz.ntmps66 Y<|cR Hl ?_
 let o:=bof pre
 rcases pre with _ | p
 all_goals
  have H:=Hp.old hrow
  have hks:=KX (n:=w0.heap.size) (ok:=ok) (S:=[gb]) fun x hx hg=>hok (by rw[← Bc.1 hg];exact hx)
  have hml:=mF hg.Yk
  have hrl:=hg.few
  obtain⟨pm,hpm,hrm,ham,hm2⟩:=id hb3
  have hplen:=hm2.len
  have hon:=hm2.ones fun _ _ h=>h.ones
  refine Rq<|zW Y Y H<|fun w1 g1 H1 hg1=>Xa Y<|Xr Hl<|J1<|zQ 11 [(true,0),(true,1),(true,2),(true,3),(true,4),(true,5),(false,6),(true,7),(true,8),(true,9),(true,10),(false,11)] H1 [0,1] yF (by decide) (by kernel_rfl) ?_
  rintro w2 hw2
  have H2:=Hp.drew H1;rw[← hw2]at H2
  refine Zm Y Y<|Zc Y Y<|Zf Y rP Y<|MP Y<|MV (fun wz hz=>EL gA Y (hz.cell (i:=0) Y Y))<|cZ Hl<|Zf Y kB Y<|MP Y<|MV (fun wz hz=>EN xR Y (vs:=Qy n) Y (hz.Ak (i:=1) Y Y))<|MO Y ?_
  have hnb:=Hp.fresh H2
  have hszj:=H2.size
  refine OQ (EC gf111 Y) (put_l n.right A2 k2 b.rights (up ok w0.heap.size) _ (hb2.toR H2 hks) (by omega) hg.rts) ?_
  rintro r w3 ⟨hyes,hno,Hd⟩
  have H3:=H2.Ap Hd
  by_cases hmay:nK n.right
  obtain⟨A9,k9,rfl,hS9⟩:=hyes hmay
  refine OE ?_
  refine⟨fun hne=>H3.pick [0,1] (by decide),?_⟩
  refine Zm Y Y<|MP Y<|MV (fun wz hz=>xA Y Y)<|cZ Hl<|MP Y<|MV (fun wz hz=>xA Y Y)<|MP Y<|MV (fun wz hz=>zP Y)<|MO Y<|Xa Y<|OE<|⟨fun hne=>absurd Y hne,?_⟩
  refine cZ Hl<|ME<|cR Hl<|J1<|Rq<|Xm Y<|Jt (yR Y Y) (by decide)<|Xr Hl<|J4 Y<|J6<|Rq<|Xm Y<|Xm Y<|Xc Y<|Xf rP Y<|Ae Hl ?_
  have HB:=H3
  replace H3:=HB.here
  refine OW gA H3 0 Y Y Y Y (Og Y) Y<|fun w4 H4=>Xr Hl<|J1<|Rq<|Xf uQ Y<|OV (EL ty3 Y (H4.cell (i:=1) Y Y))<|OT (zR Y Y) (fun Y9=>?_) (fun Y9=>?_)
  refine Xm Y<|Ae Hl<|Oz 3 Y<|Ae Hl<|Xt Y Y ?_
  have m4:=()
  rotate_left 1
  refine Xm Y<|Ae Hl<|OY Y<|Xf uQ Y<|OY Y<|OV (EL ty3 Y (H4.cell (i:=1) Y Y))<|Ae Hl<|OY Y<|OT (yP Y Y) (fun Zl=>?_) (fun Zl=>?_)
  refine Xu Y Y ?_
  have m4:=()
  rotate_left 1
  refine Xu Y Y<|Xm Y<|Ae Hl<|OY Y<|Xf tN Y<|OY Y<|OV (EL ty3 Y (H4.cell (i:=1) Y Y))<|Ae Hl<|OY Y<|OT (zR Y Y) (fun hp38=>?_) (fun hp38=>?_)
  refine Xu Y Y<|Xm Y<|Ae Hl<|Oz 3 Y<|Ae Hl<|Xt Y Y ?_
  have m3:=()
  rotate_left 1
  refine Xu Y Y<|Xm Y<|Ae Hl<|OY Y<|Xf tN Y<|OY Y<|OV (EL ty3 Y (H4.cell (i:=1) Y Y))<|Ae Hl<|OY Y<|OT (yP Y Y) (fun Zi=>?_) (fun Zi=>?_)
  refine Xu Y Y ?_
  have m3:=()
  rotate_left 1
  refine Xu Y Y<|Xr Hl<|J4 Y<|J6<|J1<|J1<|qJ 12 (.p 0 (.p 1 (.p 2 (.p 3 (.p 4 (.p 5 (.two 6 (.p 7 (.p 8 (.p 9 (.o 10 (.o 11 (.o 12 .nil)))))) 10 (.o 6 (.p 7 (.p 8 (.p 9 (.o 11 (.o 12 .nil))))))))))))) H4 [0,1] yF (by decide) (by kernel_rfl) ?_
  rintro w5 hw5
  have H5:=Hp.drew H4;rw[← hw5]at H5
  refine Tm Y Y<|TP Y<|MV (fun wz hz=>yH Y)<|Tf Y tP Y<|TP Y<|MV (fun wz hz=>EL mX Y (hz.cell (i:=0) Y Y))<|cT Hl<|Tf Y uQ Y<|TP Y<|MV (fun wz hz=>EL ty3 Y (hz.cell (i:=1) Y Y))<|pU ?_ ?_
  refine TQ Y<|OQ (EC V5 Y) (QI A3 k3 b.last n.client (up ok w0.heap.size) _ (hb3.toM (HB.all H5) hks) (by omega) hg.Yk) ?_
  rintro _ w6 ⟨mq,fq,rfl,hyq,hnq,Hd⟩
  have H6:=H5.Ap Hd
  cases fq
  refine OE ?_
  refine⟨fun hne=>H6.pick [0,1] (by decide),?_⟩
  refine Tm Y Y<|TP Y<|MV (fun wz hz=>xA Y Y)<|cT Hl<|TP Y<|MV (fun wz hz=>xA Y Y)<|TQ Y<|OA yQ H6<|fun w7 g7 H7 hg7=>OE<|⟨fun hne=>H7.pick [0,1] (by decide),?_⟩
  refine cT Hl ?_
  have m2:=()
  rotate_left 1
  refine OE ?_
  refine⟨fun hne=>H6.pick [0,1] (by decide),?_⟩
  refine Tm Y Y<|TP Y<|MV (fun wz hz=>xA Y Y)<|cT Hl<|TP Y<|MV (fun wz hz=>xA Y Y)<|TQ Y<|OA yQ H6<|fun w7 g7 H7 hg7=>OE<|⟨fun hne=>H7.pick [0,1] (by decide),?_⟩
  refine cT Hl ?_
  have m1:=()
  rotate_left 1
  refine TQ Y<|OA yQ H5<|fun w6 g6 H6 hg6=>OE<|⟨fun hne=>H6.pick [0,1] (by decide),?_⟩
  refine cT Hl<|TQ Y<|OQ (EC V5 Y) (QI A3 k3 b.last n.client (up ok w0.heap.size) _ (hb3.toM (HB.all H6) hks) (by omega) hg.Yk) ?_
  rintro _ w7 ⟨mq,fq,rfl,hyq,hnq,Hd⟩
  have H7:=H6.Ap Hd
  cases fq
  refine OE ?_
  refine⟨fun hne=>H7.pick [0,1] (by decide),?_⟩
  refine Tm Y Y<|TP Y<|MV (fun wz hz=>xA Y Y)<|TP Y<|MV (fun wz hz=>xA Y Y) ?_
  have m2:=()
  rotate_left 1
  refine OE ?_
  refine⟨fun hne=>H7.pick [0,1] (by decide),?_⟩
  refine Tm Y Y<|TP Y<|MV (fun wz hz=>xA Y Y)<|TP Y<|MV (fun wz hz=>xA Y Y) ?_
  have m1:=()
  rotate_left 1
  obtain rfl:=hno hmay
  refine OE ?_
  refine⟨fun hne=>H3.pick [0,1] (by decide),?_⟩
  refine Zm Y Y<|MP Y<|MV (fun wz hz=>xA Y Y)<|cZ Hl<|MP Y<|MV (fun wz hz=>xA Y Y)<|MP Y<|MV (fun wz hz=>zP Y)<|MO Y<|Xa Y<|OE<|⟨fun hne=>absurd Y hne,?_⟩
  refine cZ Hl<|ME<|cR Hl<|J1<|Rq<|Xm Y<|Qg (yR Y Y) (by decide)<|Xr Hl<|J3 Y<|Rq<|Xa Y<|Xr Hl<|J5<|Cj Y Y<|⟨fun h=>absurd h hmay,fun _=>⟨Y,H3.Ag⟩⟩
  any_goals
   clear m4
   refine Xm Y<|Ae Hl<|Oz 3 Y<|Ae Hl<|Xt Y Y<|Xm Y<|Ae Hl<|Oz 3 Y<|Ae Hl<|Xt Y Y ?_
   have m3:=()
   rotate_left 1
  any_goals
   clear m3
   refine Xr Hl<|J3 Y<|Rq<|Xa Y<|Xr Hl<|J5<|Cj Y Y ?_
   have HW:=HB.all H4
   refine⟨fun _=>⟨Y,_,HW.pick [0] (by decide),A1,k1,A9,k9,A3,k3,by rw[qI (by omega)];rfl,hb1.toS HW hks,hS9.toR H4 (fun x hx _=>⟨hnb x hx,.inr (by omega)⟩),?_⟩,fun h=>absurd hmay h⟩
   rw[qI (by omega)]
   exact hb3.toM HW hks
  any_goals
   clear m2
   refine TQ Y<|OS yQ H7 2 Y Y Y Y Y (by first|exact NL Y|simp[zG]) Y<|fun w8 H8=>OE<|⟨fun hne=>H8.pick [0,1] (by decide),?_⟩
   refine cT Hl<|TQ Y<|Xa Y<|OE<|⟨fun hne=>absurd Y hne,?_⟩
   refine cT Hl<|rA<|cR Hl<|Rq<|Xm Y<|Xm Y<|Ae Hl<|Oz 5 Y<|Ae Hl<|Xu Y Y<|Xr Hl<|J4 Y<|J6<|Rq<|Xm Y<|Xc Y<|Xf tP Y<|OV (EL mX Y (H8.cell (i:=0) Y Y))<|Ae Hl<|OQ (EC XN Y) (IC A3 b.last.length k3 pm.flatten _ (hrm.move (by decide) ham (HB.all H8) hks).1 (xF hon) (by omega)) ?_
   rintro _ w9 ⟨gv,cv,sv,rfl,hmv,hcv,Tj,Hc⟩
   have H9:=H8.call0 Hc
   refine OV (wH Y Y)<|OQ (EC V4 Y) (KA gv cv b.last.length pm hplen sv 114 _ (Iy n.client) _ (H9.pick [3] (by decide)).here hpm hon (by omega) (by omega) hcv (Vy hm2 (H9.at (i:=1) Y) Y) (Fg H9 (i:=1) (is:=[3]) Y (by decide))) ?_
   rintro _ Vw ⟨sv2,rfl,hl2,Hd⟩
   have Ob:=(H9.Dq [3] rfl Hd).pick [0,1,2,4] (by decide)
   have hmf:=hm2.filter (f:=fun p=>!Iy n.client p) (g:=fun x=>!decide (x.client=n.client)) (fun p x h=>EW h)
   have Vh:=hmf.len
   have hpf:Pl 7 (pm.filter fun p=>!Iy n.client p):=hpm.sub fun x hx=>(Dy.1 hx).1
   have hfl3:(pm.filter fun p=>!Iy n.client p).length≤pm.length:=Nh _ _
   have Zn:∀ p∈(pm.filter fun p=>!Iy n.client p),p.all (·.oneCell')=true:=fun x hx=>hon x (Dy.1 hx).1
   have HC:=Ob
   refine Xa Y<|Xr Hl<|Rq<|Xa Y<|Xr Hl<|J1<|J7<|zU (fun nQ lQ w=>∃ (i:Nat) (y:Int),(pm.filter fun p=>!Iy n.client p).length - i=nQ∧xO (Ik [(0,.pointer (some ⟨gb,o,none⟩)),(3,Ah g1),(9,Ac (hd gv) (pm.filter fun p=>!Iy n.client p).length cv),(10,Aa y)] 0 98) lQ∧y=(i:Int)∧i≤(pm.filter fun p=>!Iy n.client p).length∧(∀ (k:Nat) (m:Mk),k < i→(b.last.filter fun x=>!decide (x.client=n.client))[k]? =some m→m.client < n.client)∧Hp Vw w [] []) ((pm.filter fun p=>!Iy n.client p).length) ?_ ?_
   exact⟨0,_,Y,(Ja Y Y Y Y Y),Y,Am _,(fun k m h=>by omega),Hp.refl _⟩
   rintro nQ lQ Yu ⟨i,y,rfl,hfit,rfl,hi,hlo,Qh⟩
   obtain⟨j,rfl⟩:=hfit.open
   refine cR Hl ?_
   clear hfit
   refine J1<|J1<|uU yF (by kernel_rfl) ?_
   rintro w10 Ql
   have Df:=Hp.drew Qh;rw[← Ql]at Df
   refine SV (zK Y)<|SV (zK Y)<|SV (ES La Y)<|vG (zR Y Y) (fun Y6=>?_) (fun Y6=>?_)
   have hil:i < (pm.filter fun p=>!Iy n.client p).length:=by omega
   obtain⟨p1,hp1⟩:=yM hil
   obtain⟨x,hx,hR⟩:=hmf.getL hp1
   unfold Pq at hR
   subst hR
   have hc0:((pm.filter fun p=>!Iy n.client p).flatten++sv2)[0+i*7+0]? =some (Aa x.client):=by
    have h1:=hpf.get hp1 (j:=0) (u:=Aa x.client) rfl
    show(_++_)[0+i*7+0]? =_
    rw[Au,Di (lt_of_get h1)];exact h1
   obtain⟨gz,rfl⟩:=vO HC (i:=3) rfl (by have:=lt_of_get hc0;omega)
   refine SV (zK Y)<|vN Hl<|yS Y<|SV (zK Y)<|yS Y<|SV (zK Y)<|vN Hl<|yS Y<|SV (uS La yQ Y Y Y hil)<|yS Y<|SV (EF tT Y)<|vN Hl<|yS Y<|SV (EL ty3 Y ((HC.Ap Df).cell (i:=3) Y hc0))<|yS Y<|SV (EF uQ Y)<|vN Hl<|yS Y<|SV (EL ty3 Y ((HC.Ap Df).cell (i:=1) Y Y))<|yS Y<|vG (zR Y Y) (fun Y5=>?_) (fun Y5=>?_)
   refine SV (xS Y Y)<|xP<|cR Hl<|J3 Y<|J6<|J7<|J2<|Xm Y<|OV (zL Y Y (Ad _ (by omega)))<|Xa Y<|Xr Hl<|zA (zD ?_)
   refine zA (zH ?_)
   exact⟨(pm.filter fun p=>!Iy n.client p).length - (i+1),by omega,i+1,_,Y,(Ja Y Y Y Y Y),by omega,by omega,fun k m hk hm=>by
    rcases Nat.lt_or_eq_of_le (show k≤i by omega)with h | rfl
    · exact hlo k m h hm
    rw[hx]at hm
    simp only[Option.some.injEq]at hm
    subst hm;exact Y5,Df⟩
   refine SV (xS Y Y)<|xP<|cR Hl<|J4 Y<|J8<|zT<|zS<|Rq ?_
   replace Df:=HC.Ap Df
   refine Xm Y<|Xm Y<|Xm Y<|Xf uQ Y<|Ae Hl<|OV (EL ty3 Y (Df.cell (i:=1) Y Y))<|Xf tN Y<|OV (EL ty3 Y (Df.cell (i:=1) Y Y))<|OV (EB yQ dD Y Y)<|Ae Hl<|zJ La yQ Df Y (by decide) Y<|fun Nu g13 Eh hg13=>OQ (EC JP Y) (dV _ cv i _ (pm.filter fun p=>!Iy n.client p).length (pm.filter fun p=>!Iy n.client p) Y (Uo ⟨n.client,n.seq⟩) sv2 _ (Eh.pick [3] (by decide)).here hpf Zn (by omega) (by rw[hl2];exact hcv) Tj (by omega) (Eh.at (i:=4) Y) Y Y (Fg Eh (i:=4) (is:=[3]) Y (by decide)) (by omega)) ?_
   rintro _ Sm ⟨gw,cw,sw,rfl,hnw,hcw,hgw,Hd⟩
   have Il:=(Eh.Dq [3] rfl Hd).pick [0,1,2,5] (by decide)
   refine Xc Y<|Xf tP Y<|Ae Hl<|OW mX Il 0 Y Y Y Y (Og Y) Y<|fun w12 Gi=>Xr Hl<|Rq<|Xa Y<|Xr Hl<|J5<|Cj Y Y ?_
   have HW:=HB.all Gi
   have hput:=jB (v:=⟨n.client,n.seq⟩) (i:=i) (uA hg.Yk).2 (by rw[← Vh];omega) hlo (.inr ⟨x,hx,Y5⟩)
   have hsp:uT b.last n.client n.seq=uN b.last ⟨n.client,n.seq⟩:=kV (by omega) (hnq rfl)
   rw[← hput]at hsp
   have hln:((b.last.filter fun x=>!decide (x.client=n.client)).take i++(⟨n.client,n.seq⟩:Mk)::(b.last.filter fun x=>!decide (x.client=n.client)).drop i).length=(pm.filter fun p=>!Iy n.client p).length+1:=by rw[Af,Bg,Aw,Bh,← Vh];omega
   refine⟨fun _=>⟨Y,_,HW.pick [0] (by decide),A1,k1,A9,k9,hd gw,cw,by rw[hsp,hln];rfl,hb1.toS HW hks,hS9.toR Gi (fun x hx _=>⟨hnb x hx,.inr (by omega)⟩),?_⟩,fun h=>absurd hmay h⟩
   rw[hsp]
   exact Sl.row HW (i:=3) Y ((hpf.sub fun x hx=>Fa hx).app fun x hx=>by
    rcases Cm.1 hx with rfl | hx
    · rfl
    exact hpf x (Ep hx)) (by decide) ((hmf.take i).app ⟨Y,hmf.drop i⟩) (fun b hb=>wO (ok:=ok) HW (i:=3) Y (fun c hc=>by rw[Bc.1 hc];exact fun e=>HW.ne (i:=3) (j:=0) (g:=gb) (by rw[e];rfl) Y (by decide) Y) b hb)
   refine SV (zK Y)<|vN Hl<|yY Y<|yY Y<|vN Hl<|yY Y<|yY Y<|vN Hl<|yY Y<|yY Y<|vN Hl<|yY Y<|yY Y<|SV (vL Y Y)<|xP<|cR Hl<|J4 Y<|J8<|zT<|zS<|Rq ?_
   replace Df:=HC.Ap Df
   refine Xm Y<|Xm Y<|Xm Y<|Xf uQ Y<|Ae Hl<|OV (EL ty3 Y (Df.cell (i:=1) Y Y))<|Xf tN Y<|OV (EL ty3 Y (Df.cell (i:=1) Y Y))<|OV (EB yQ dD Y Y)<|Ae Hl<|zJ La yQ Df Y (by decide) Y<|fun Nu g13 Eh hg13=>OQ (EC JP Y) (dV _ cv i _ (pm.filter fun p=>!Iy n.client p).length (pm.filter fun p=>!Iy n.client p) Y (Uo ⟨n.client,n.seq⟩) sv2 _ (Eh.pick [3] (by decide)).here hpf Zn (by omega) (by rw[hl2];exact hcv) Tj (by omega) (Eh.at (i:=4) Y) Y Y (Fg Eh (i:=4) (is:=[3]) Y (by decide)) (by omega)) ?_
   rintro _ Sm ⟨gw,cw,sw,rfl,hnw,hcw,hgw,Hd⟩
   have Il:=(Eh.Dq [3] rfl Hd).pick [0,1,2,5] (by decide)
   refine Xc Y<|Xf tP Y<|Ae Hl<|OW mX Il 0 Y Y Y Y (Og Y) Y<|fun w12 Gi=>Xr Hl<|Rq<|Xa Y<|Xr Hl<|J5<|Cj Y Y ?_
   have HW:=HB.all Gi
   have hput:=jB (v:=⟨n.client,n.seq⟩) (i:=i) (uA hg.Yk).2 (by rw[← Vh];omega) hlo (.inl (by rw[← Vh];omega))
   have hsp:uT b.last n.client n.seq=uN b.last ⟨n.client,n.seq⟩:=kV (by omega) (hnq rfl)
   rw[← hput]at hsp
   have hln:((b.last.filter fun x=>!decide (x.client=n.client)).take i++(⟨n.client,n.seq⟩:Mk)::(b.last.filter fun x=>!decide (x.client=n.client)).drop i).length=(pm.filter fun p=>!Iy n.client p).length+1:=by rw[Af,Bg,Aw,Bh,← Vh];omega
   refine⟨fun _=>⟨Y,_,HW.pick [0] (by decide),A1,k1,A9,k9,hd gw,cw,by rw[hsp,hln];rfl,hb1.toS HW hks,hS9.toR Gi (fun x hx _=>⟨hnb x hx,.inr (by omega)⟩),?_⟩,fun h=>absurd hmay h⟩
   rw[hsp]
   exact Sl.row HW (i:=3) Y ((hpf.sub fun x hx=>Fa hx).app fun x hx=>by
    rcases Cm.1 hx with rfl | hx
    · rfl
    exact hpf x (Ep hx)) (by decide) ((hmf.take i).app ⟨Y,hmf.drop i⟩) (fun b hb=>wO (ok:=ok) HW (i:=3) Y (fun c hc=>by rw[Bc.1 hc];exact fun e=>HW.ne (i:=3) (j:=0) (g:=gb) (by rw[e];rfl) Y (by decide) Y) b hb)
  any_goals
   clear m1
   refine TQ Y<|OS yQ H7 2 Y Y Y Y Y (by first|exact NL Y|simp[zG]) Y<|fun w8 H8=>OE<|⟨fun hne=>H8.pick [0,1] (by decide),?_⟩
   refine cT Hl<|TQ Y<|Xa Y<|OE<|⟨fun hne=>absurd Y hne,?_⟩
   refine cT Hl<|rA<|cR Hl<|Rq<|Xm Y<|Xm Y<|Ae Hl<|OY Y<|Xf jM Y<|OY Y<|OV (EL ty3 Y (H8.cell (i:=2) Y Y))<|Ae Hl<|OY Y<|Xf tN Y<|OY Y<|OV (EL ty3 Y (H8.cell (i:=1) Y Y))<|Ae Hl<|OY Y<|OT (wC Y Y) (fun Ux=>?_) (fun Ux=>?_)
   refine Xt Y Y<|Xr Hl<|J3 Y<|Rq<|Xa Y<|Xr Hl<|J5<|Cj Y Y ?_
   have HW:=HB.all H8
   refine⟨fun _=>⟨Y,_,HW.pick [0] (by decide),A1,k1,A9,k9,A3,k3,by rw[kW (hyq Y) (by omega)];rfl,hb1.toS HW hks,hS9.toR H8 (fun x hx _=>⟨hnb x hx,.inr (by omega)⟩),?_⟩,fun h=>absurd hmay h⟩
   rw[kW (hyq rfl) (by omega)]
   exact hb3.toM HW hks
   refine Xt Y Y<|Xr Hl<|J4 Y<|J6<|Rq<|Xm Y<|Xc Y<|Xf tP Y<|OV (EL mX Y (H8.cell (i:=0) Y Y))<|Ae Hl<|OQ (EC XN Y) (IC A3 b.last.length k3 pm.flatten _ (hrm.move (by decide) ham (HB.all H8) hks).1 (xF hon) (by omega)) ?_
   rintro _ w9 ⟨gv,cv,sv,rfl,hmv,hcv,Tj,Hc⟩
   have H9:=H8.call0 Hc
   refine OV (wH Y Y)<|OQ (EC V4 Y) (KA gv cv b.last.length pm hplen sv 114 _ (Iy n.client) _ (H9.pick [3] (by decide)).here hpm hon (by omega) (by omega) hcv (Vy hm2 (H9.at (i:=1) Y) Y) (Fg H9 (i:=1) (is:=[3]) Y (by decide))) ?_
   rintro _ Vw ⟨sv2,rfl,hl2,Hd⟩
   have Ob:=(H9.Dq [3] rfl Hd).pick [0,1,2,4] (by decide)
   have hmf:=hm2.filter (f:=fun p=>!Iy n.client p) (g:=fun x=>!decide (x.client=n.client)) (fun p x h=>EW h)
   have Vh:=hmf.len
   have hpf:Pl 7 (pm.filter fun p=>!Iy n.client p):=hpm.sub fun x hx=>(Dy.1 hx).1
   have hfl3:(pm.filter fun p=>!Iy n.client p).length≤pm.length:=Nh _ _
   have Zn:∀ p∈(pm.filter fun p=>!Iy n.client p),p.all (·.oneCell')=true:=fun x hx=>hon x (Dy.1 hx).1
   have HC:=Ob
   refine Xa Y<|Xr Hl<|Rq<|Xa Y<|Xr Hl<|J1<|J7<|zU (fun nQ lQ w=>∃ (i:Nat) (y:Int),(pm.filter fun p=>!Iy n.client p).length - i=nQ∧xO (Ik [(0,.pointer (some ⟨gb,o,none⟩)),(3,Ah g1),(9,Ac (hd gv) (pm.filter fun p=>!Iy n.client p).length cv),(10,Aa y)] 0 98) lQ∧y=(i:Int)∧i≤(pm.filter fun p=>!Iy n.client p).length∧(∀ (k:Nat) (m:Mk),k < i→(b.last.filter fun x=>!decide (x.client=n.client))[k]? =some m→m.client < n.client)∧Hp Vw w [] []) ((pm.filter fun p=>!Iy n.client p).length) ?_ ?_
   exact⟨0,_,Y,(Ja Y Y Y Y Y),Y,Am _,(fun k m h=>by omega),Hp.refl _⟩
   rintro nQ lQ Yu ⟨i,y,rfl,hfit,rfl,hi,hlo,Qh⟩
   obtain⟨j,rfl⟩:=hfit.open
   refine cR Hl ?_
   clear hfit
   refine J1<|J1<|uU yF (by kernel_rfl) ?_
   rintro w10 Ql
   have Df:=Hp.drew Qh;rw[← Ql]at Df
   refine SV (zK Y)<|SV (zK Y)<|SV (ES La Y)<|vG (zR Y Y) (fun Y6=>?_) (fun Y6=>?_)
   have hil:i < (pm.filter fun p=>!Iy n.client p).length:=by omega
   obtain⟨p1,hp1⟩:=yM hil
   obtain⟨x,hx,hR⟩:=hmf.getL hp1
   unfold Pq at hR
   subst hR
   have hc0:((pm.filter fun p=>!Iy n.client p).flatten++sv2)[0+i*7+0]? =some (Aa x.client):=by
    have h1:=hpf.get hp1 (j:=0) (u:=Aa x.client) rfl
    show(_++_)[0+i*7+0]? =_
    rw[Au,Di (lt_of_get h1)];exact h1
   obtain⟨gz,rfl⟩:=vO HC (i:=3) rfl (by have:=lt_of_get hc0;omega)
   refine SV (zK Y)<|vN Hl<|yS Y<|SV (zK Y)<|yS Y<|SV (zK Y)<|vN Hl<|yS Y<|SV (uS La yQ Y Y Y hil)<|yS Y<|SV (EF tT Y)<|vN Hl<|yS Y<|SV (EL ty3 Y ((HC.Ap Df).cell (i:=3) Y hc0))<|yS Y<|SV (EF uQ Y)<|vN Hl<|yS Y<|SV (EL ty3 Y ((HC.Ap Df).cell (i:=1) Y Y))<|yS Y<|vG (zR Y Y) (fun Y5=>?_) (fun Y5=>?_)
   refine SV (xS Y Y)<|xP<|cR Hl<|J3 Y<|J6<|J7<|J2<|Xm Y<|OV (zL Y Y (Ad _ (by omega)))<|Xa Y<|Xr Hl<|zA (zD ?_)
   refine zA (zH ?_)
   exact⟨(pm.filter fun p=>!Iy n.client p).length - (i+1),by omega,i+1,_,Y,(Ja Y Y Y Y Y),by omega,by omega,fun k m hk hm=>by
    rcases Nat.lt_or_eq_of_le (show k≤i by omega)with h | rfl
    · exact hlo k m h hm
    rw[hx]at hm
    simp only[Option.some.injEq]at hm
    subst hm;exact Y5,Df⟩
   refine SV (xS Y Y)<|xP<|cR Hl<|J4 Y<|J8<|zT<|zS<|Rq ?_
   replace Df:=HC.Ap Df
   refine Xm Y<|Xm Y<|Xm Y<|Xf uQ Y<|Ae Hl<|OV (EL ty3 Y (Df.cell (i:=1) Y Y))<|Xf tN Y<|OV (EL ty3 Y (Df.cell (i:=1) Y Y))<|OV (EB yQ dD Y Y)<|Ae Hl<|zJ La yQ Df Y (by decide) Y<|fun Nu g13 Eh hg13=>OQ (EC JP Y) (dV _ cv i _ (pm.filter fun p=>!Iy n.client p).length (pm.filter fun p=>!Iy n.client p) Y (Uo ⟨n.client,n.seq⟩) sv2 _ (Eh.pick [3] (by decide)).here hpf Zn (by omega) (by rw[hl2];exact hcv) Tj (by omega) (Eh.at (i:=4) Y) Y Y (Fg Eh (i:=4) (is:=[3]) Y (by decide)) (by omega)) ?_
   rintro _ Sm ⟨gw,cw,sw,rfl,hnw,hcw,hgw,Hd⟩
   have Il:=(Eh.Dq [3] rfl Hd).pick [0,1,2,5] (by decide)
   refine Xc Y<|Xf tP Y<|Ae Hl<|OW mX Il 0 Y Y Y Y (Og Y) Y<|fun w12 Gi=>Xr Hl<|Rq<|Xa Y<|Xr Hl<|J5<|Cj Y Y ?_
   have HW:=HB.all Gi
   have hput:=jB (v:=⟨n.client,n.seq⟩) (i:=i) (uA hg.Yk).2 (by rw[← Vh];omega) hlo (.inr ⟨x,hx,Y5⟩)
   have hsp:uT b.last n.client n.seq=uN b.last ⟨n.client,n.seq⟩:=nW (by omega) (hyq rfl) (by omega)
   rw[← hput]at hsp
   have hln:((b.last.filter fun x=>!decide (x.client=n.client)).take i++(⟨n.client,n.seq⟩:Mk)::(b.last.filter fun x=>!decide (x.client=n.client)).drop i).length=(pm.filter fun p=>!Iy n.client p).length+1:=by rw[Af,Bg,Aw,Bh,← Vh];omega
   refine⟨fun _=>⟨Y,_,HW.pick [0] (by decide),A1,k1,A9,k9,hd gw,cw,by rw[hsp,hln];rfl,hb1.toS HW hks,hS9.toR Gi (fun x hx _=>⟨hnb x hx,.inr (by omega)⟩),?_⟩,fun h=>absurd hmay h⟩
   rw[hsp]
   exact Sl.row HW (i:=3) Y ((hpf.sub fun x hx=>Fa hx).app fun x hx=>by
    rcases Cm.1 hx with rfl | hx
    · rfl
    exact hpf x (Ep hx)) (by decide) ((hmf.take i).app ⟨Y,hmf.drop i⟩) (fun b hb=>wO (ok:=ok) HW (i:=3) Y (fun c hc=>by rw[Bc.1 hc];exact fun e=>HW.ne (i:=3) (j:=0) (g:=gb) (by rw[e];rfl) Y (by decide) Y) b hb)
   refine SV (zK Y)<|vN Hl<|yY Y<|yY Y<|vN Hl<|yY Y<|yY Y<|vN Hl<|yY Y<|yY Y<|vN Hl<|yY Y<|yY Y<|SV (vL Y Y)<|xP<|cR Hl<|J4 Y<|J8<|zT<|zS<|Rq ?_
   replace Df:=HC.Ap Df
   refine Xm Y<|Xm Y<|Xm Y<|Xf uQ Y<|Ae Hl<|OV (EL ty3 Y (Df.cell (i:=1) Y Y))<|Xf tN Y<|OV (EL ty3 Y (Df.cell (i:=1) Y Y))<|OV (EB yQ dD Y Y)<|Ae Hl<|zJ La yQ Df Y (by decide) Y<|fun Nu g13 Eh hg13=>OQ (EC JP Y) (dV _ cv i _ (pm.filter fun p=>!Iy n.client p).length (pm.filter fun p=>!Iy n.client p) Y (Uo ⟨n.client,n.seq⟩) sv2 _ (Eh.pick [3] (by decide)).here hpf Zn (by omega) (by rw[hl2];exact hcv) Tj (by omega) (Eh.at (i:=4) Y) Y Y (Fg Eh (i:=4) (is:=[3]) Y (by decide)) (by omega)) ?_
   rintro _ Sm ⟨gw,cw,sw,rfl,hnw,hcw,hgw,Hd⟩
   have Il:=(Eh.Dq [3] rfl Hd).pick [0,1,2,5] (by decide)
   refine Xc Y<|Xf tP Y<|Ae Hl<|OW mX Il 0 Y Y Y Y (Og Y) Y<|fun w12 Gi=>Xr Hl<|Rq<|Xa Y<|Xr Hl<|J5<|Cj Y Y ?_
   have HW:=HB.all Gi
   have hput:=jB (v:=⟨n.client,n.seq⟩) (i:=i) (uA hg.Yk).2 (by rw[← Vh];omega) hlo (.inl (by rw[← Vh];omega))
   have hsp:uT b.last n.client n.seq=uN b.last ⟨n.client,n.seq⟩:=nW (by omega) (hyq rfl) (by omega)
   rw[← hput]at hsp
   have hln:((b.last.filter fun x=>!decide (x.client=n.client)).take i++(⟨n.client,n.seq⟩:Mk)::(b.last.filter fun x=>!decide (x.client=n.client)).drop i).length=(pm.filter fun p=>!Iy n.client p).length+1:=by rw[Af,Bg,Aw,Bh,← Vh];omega
   refine⟨fun _=>⟨Y,_,HW.pick [0] (by decide),A1,k1,A9,k9,hd gw,cw,by rw[hsp,hln];rfl,hb1.toS HW hks,hS9.toR Gi (fun x hx _=>⟨hnb x hx,.inr (by omega)⟩),?_⟩,fun h=>absurd hmay h⟩
   rw[hsp]
   exact Sl.row HW (i:=3) Y ((hpf.sub fun x hx=>Fa hx).app fun x hx=>by
    rcases Cm.1 hx with rfl | hx
    · rfl
    exact hpf x (Ep hx)) (by decide) ((hmf.take i).app ⟨Y,hmf.drop i⟩) (fun b hb=>wO (ok:=ok) HW (i:=3) Y (fun c hc=>by rw[Bc.1 hc];exact fun e=>HW.ne (i:=3) (j:=0) (g:=gb) (by rw[e];rfl) Y (by decide) Y) b hb)
theorem LG (gs:Nat) (s:Sv) (A1:Option Addr) (k1:Nat) (A2:Option Addr) (k2:Nat) (A3:Option Addr) (k3:Nat) (n:Nt) (B1:Option Addr) (j1:Nat) (B2:Option Addr) (j2:Nat) (w0:World) (hrow:w0.heap[gs]? =some (.cells (Cb s A1 k1 A2 k2 A3 k3).toArray 97 (0,0))) (ok:Nat→Prop) (hok:¬ok gs) (hv1:Sl (Oc w0 ok) 4 w0 ok A1 s.Bd) (hv2:Bs w0 ok A2 s.image) (hv3:Sl (Qu w0 ok) 2 w0 ok A3 s.entries):Aj 116 #[Ah gs,.agg (Dv n B1 j1 B2 j2).toArray] w0 (fun _ w'=>∃ cs',Hp w0 w' [gs] [((some gs,97,cs'):Ent)]∧Rl w' (up ok w0.heap.size) cs' (s.raise n.b)):=by
 refine(eA gs s.p _ _ _ _ n B1 j1 B2 j2 w0 hrow).mono fun r w' H=>?_
 have hks:=KX (n:=w0.heap.size) (ok:=ok) (S:=[gs]) fun x hx hg=>hok (by rw[← Bc.1 hg];exact hx)
 rw[nF]
 exact⟨_,H,A1,k1,A2,k2,A3,k3,Y,hv1.Qi H hks,hv2.to H hks,hv3.Si H hks⟩
theorem CQ (pre:Option Value) (gb:Nat) (b:Bo) (A1:Option Addr) (k1:Nat) (A2:Option Addr) (k2:Nat) (A3:Option Addr) (k3:Nat) (n:Nt) (B1:Option Addr) (j1:Nat) (B2:Option Addr) (j2:Nat) (Vd:Nat→Prop) (N:Nat) (w0:World) (hrow:w0.heap[gb]? =some (.cells (bcs pre (Az A1 b k1 A2 k2 A3 k3)).toArray (bty pre) (0,0))) (ok:Nat→Prop) (hok:¬ok gb) (hb1:Sl (Rl w0 ok) 6 w0 ok A1 b.groups) (hb2:Sl Px 4 w0 ok A2 b.rights) (hb3:Sl Pq 7 w0 ok A3 b.last) (Ya:¬Vd gb) (hbv:Bs w0 Vd B1 n.Eb.val) (hbe:Bs w0 Vd B2 n.entry.val) (hg:rU b N) (hN:N≤900000000000):Aj 32 #[.pointer (some ⟨gb,bof pre,none⟩),.agg (Dv n B1 j1 B2 j2).toArray] w0 (fun r w'=>(∀ b',b.into n=some b'→r=.bool true∧∃ cs',Hp w0 w' [gb] [((some gb,bty pre,bcs pre cs'):Ent)]∧Sj w' (up ok w0.heap.size) cs' b')∧(b.into n=none→r=.bool false∧Hp w0 w' [gb] [])):=by
 refine zE Tryz.func32 Tryz.ntmps32 Y<|cR e58 ?_
 have hsp:=SI pre gb b A1 k1 A2 k2 A3 k3 n B1 j1 B2 j2
 let o:=bof pre
 rcases pre with _ | p
 all_goals
  have H:=Hp.old hrow
  have hks:=KX (n:=w0.heap.size) (ok:=ok) (S:=[gb]) fun x hx hg=>hok (by rw[← Bc.1 hg];exact hx)
  have hkB:∀ x,ok x→x < w0.heap.size→x∉[gb]∧(ok x∧x < w0.heap.size):=fun x hx hl=>⟨(hks x hx hl).1,hx,hl⟩
  have hkn:∀ x,Vd x→x < w0.heap.size→x∉[gb]∧(Vd x∧x < w0.heap.size):=fun x hx hl=>⟨fun hg=>Ya (by rw[← Bc.1 hg];exact hx),hx,hl⟩
  obtain⟨pg,hpg,hrg,hag,h2g⟩:=id hb1
  have hgl:=h2g.len
  have h8:=hg.eight
  have hong:=h2g.ones fun _ _ h=>h.ones
  refine Rq<|zW Y Y H<|fun w1 g1 H1 hg1=>Xa Y<|Xr e58<|J1<|Rq<|Xf qP Y<|OV (EL ty3 Y (H1.cell (i:=1) Y Y))<|OT (yU Y Y) (fun hp9=>?_) (fun hp9=>?_)
  refine Xr e58<|J3 Y<|Rq<|Xm Y<|OV (EN xT Y (vs:=Dv n B1 j1 B2 j2) Y (H1.Ak (i:=1) Y Y)) ?_
  have HZ0:=H1
  refine OQ (EC gf66 rfl) (hsp N _ (H1.at (i:=0) rfl) (up ok w0.heap.size) (fun hh=>by rcases hh with h | h;exact hok h;have:=(Dw.1 hrow).1;omega) (hb1.toS H1 hks) (hb2.toR H1 hks) (hb3.toM H1 hks) hg hN) ?_
  rintro r w2 ⟨hyes,hno⟩
  by_cases hmay:nK n.right
  obtain⟨rfl,cs',Hd,hB⟩:=hyes hmay
  have Y0:=HZ0.size
  have ZT:=(HZ0.Dq [0] rfl Hd).pick [2] (by decide)
  refine Xa Y<|Xr e58<|J5<|Cj Y Y ?_
  exact⟨fun b' hb'=>by
   rw[vI hp9 hmay]at hb'
   simp only[Option.some.injEq]at hb'
   subst hb'
   exact⟨Y,cs',ZT,hB.to (Hp.refl _) (fun x hx _=>⟨by simp,by
    rcases hx with hx | hx
    · exact hx
    exact .inr (by omega)⟩)⟩,fun h=>by rw[vI hp9 hmay]at h;cases h⟩
  obtain⟨rfl,Hd⟩:=hno hmay
  have ZT:=(HZ0.Dq [0] rfl Hd).Ag
  refine Xa Y<|Xr e58<|J5<|Cj Y Y<|⟨(fun b' hb'=>by rw[bT hp9 hmay]at hb';cases hb'),fun _=>⟨Y,ZT⟩⟩
  refine Xr e58<|J4 Y<|J6<|Rq<|Xf qP Y<|OV (EL ty3 Y (H1.cell (i:=1) Y Y))<|OQ (EC gf67 Y) (SG n.kind _) ?_
  rintro r w2 ⟨h0,h1,h2,h3,h4,Hd⟩
  have H2:=H1.Ap Hd
  obtain hk | hk | hk | hk | hk:(n.kind < 1∨4 < n.kind)∨n.kind=1∨n.kind=2∨n.kind=3∨n.kind=4:=by omega
  obtain rfl:=h0 hk
  refine Xa Y<|Xr e58<|J1<|Rq<|Xm Y<|OV (C0 U136 Y)<|Xm Y<|Ae e58<|Oz 3 Y<|Ae e58<|Xt Y Y<|Xm Y<|Ae e58<|Oz 3 Y<|Ae e58<|Xt Y Y ?_
  have m2:=()
  rotate_left 1
  obtain rfl:=h1 hk
  refine Xa Y<|Xr e58<|J1<|Rq<|Xm Y<|OV (oJ U136 Y)<|Xm Y<|Ae e58<|OY Y<|Xf fl81_1 Y<|OY Y<|OV (EL ty3 Y (H2.cell (i:=1) Y Y))<|Ae e58<|OY Y<|OT (zR Y Y) (fun hp21=>?_) (fun hp21=>?_)
  refine Xu Y Y<|Xm Y<|Ae e58<|Oz 3 Y<|Ae e58<|Xt Y Y ?_
  have m2:=()
  rotate_left 1
  refine Xu Y Y<|Xm Y<|Ae e58<|OY Y<|Xf fl81_1 Y<|OY Y<|OV (EL ty3 Y (H2.cell (i:=1) Y Y))<|Ae e58<|OY Y<|OT (wC Y Y) (fun Qw=>?_) (fun Qw=>?_)
  refine Xu Y Y ?_
  have m2:=()
  rotate_left 1
  obtain⟨s,hs⟩:=yM (l:=b.groups) (j:=n.group.toNat) (by omega)
  have hsl:=lt_of_get hs
  obtain⟨p1,hp1,hR⟩:=h2g.get hs
  obtain⟨C1,q1,C2,q2,C3,q3,rfl,hv1,hv2,hv3⟩:=hR
  obtain⟨a1,ha1⟩:=hrg.some_ (by omega)
  subst ha1
  have hce:=(tC s).1 (hg.chk s (mem_of hs))
  have Yl:=oC hce
  have Tn:=pY hce
  have Yn:=nO s n
  refine Xu Y Y<|Xr e58<|J4 Y<|J6<|J1<|zQ 9 [(true,0),(true,1),(true,2),(true,3),(true,4),(true,5),(true,6),(true,7),(false,8),(false,9)] H2 [0,1] yF (by decide) (by kernel_rfl) ?_
  rintro w3 hw3
  have H3:=Hp.drew H2;rw[← hw3]at H3
  refine Zm Y Y<|Zc Y Y<|Zf Y vW Y<|MP Y<|MV (fun wz hz=>EL qX Y (hz.cell (i:=0) Y Y))<|cZ e58<|Zf Y fl81_1 Y<|MP Y<|MV (fun wz hz=>EL ty3 Y (hz.cell (i:=1) Y Y))<|MP Y<|MV (fun wz hz=>EI Ub xY Y Y (len:=b.groups.length) (i:=n.group.toNat) (by omega) (by omega) Y)<|MP Y<|MV (fun wz hz=>EN xY Y (vs:=Cb s C1 q1 C2 q2 C3 q3) Y ((hrg.move (by decide) hag hz hks).1.elem hpg hp1))<|cZ e58<|MO Y<|OA xY H3<|fun w4 gs H4 hgs=>?_
  have hgs0:w0.heap.size≤gs:=by have:=H3.size;omega
  refine OE ?_
  refine⟨fun hne=>H4.pick [0,1] (by decide),?_⟩
  refine cZ e58<|MO Y<|OS xY H4 2 Y Y Y Y Y (by first|exact NL Y|simp[zG]) Y<|fun w5 H5=>OE<|⟨fun hne=>absurd Y hne,?_⟩
  refine cZ e58<|ME<|cR e58<|Rq<|Xm Y<|OV (EN xT Y (vs:=Dv n B1 j1 B2 j2) Y (H5.Ak (i:=1) Y Y))<|OQ (xD P7 Y Y) (LG gs s C1 q1 C2 q2 C3 q3 n B1 j1 B2 j2 _ (H5.at (i:=2) Y) (fun x=>ok x∧x < w0.heap.size) (fun hh=>by have:=hh.2;omega) (hv1.Qi H5 hkB) (hv2.to H5 hkB) (hv3.Si H5 hkB)) ?_
  rintro _ w6 ⟨cs2,Hd,hsv⟩
  have hnp:=Hp.fresh H5
  have Y0:=H5.size
  have hpl:=bl_place H5
  have HB:=(H5.Dq [2] rfl Hd).pick [0,1,3] (by decide)
  rw[← JI hk]at hsv
  have m1:=()
  rotate_left 1
  obtain rfl:=h2 hk
  refine Xa Y<|Xr e58<|J1<|Rq<|Xm Y<|OV (oJ U136 Y)<|Xm Y<|Ae e58<|OY Y<|Xf fl81_1 Y<|OY Y<|OV (EL ty3 Y (H2.cell (i:=1) Y Y))<|Ae e58<|OY Y<|OT (zR Y Y) (fun hp21=>?_) (fun hp21=>?_)
  refine Xu Y Y<|Xm Y<|Ae e58<|Oz 3 Y<|Ae e58<|Xt Y Y ?_
  have m2:=()
  rotate_left 1
  refine Xu Y Y<|Xm Y<|Ae e58<|OY Y<|Xf fl81_1 Y<|OY Y<|OV (EL ty3 Y (H2.cell (i:=1) Y Y))<|Ae e58<|OY Y<|OT (wC Y Y) (fun Qw=>?_) (fun Qw=>?_)
  refine Xu Y Y ?_
  have m2:=()
  rotate_left 1
  obtain⟨s,hs⟩:=yM (l:=b.groups) (j:=n.group.toNat) (by omega)
  have hsl:=lt_of_get hs
  obtain⟨p1,hp1,hR⟩:=h2g.get hs
  obtain⟨C1,q1,C2,q2,C3,q3,rfl,hv1,hv2,hv3⟩:=hR
  obtain⟨a1,ha1⟩:=hrg.some_ (by omega)
  subst ha1
  have hce:=(tC s).1 (hg.chk s (mem_of hs))
  have Yl:=oC hce
  have Tn:=pY hce
  have Yn:=nO s n
  refine Xu Y Y<|Xr e58<|J4 Y<|J6<|J1<|zQ 9 [(true,0),(true,1),(true,2),(true,3),(true,4),(true,5),(true,6),(true,7),(false,8),(false,9)] H2 [0,1] yF (by decide) (by kernel_rfl) ?_
  rintro w3 hw3
  have H3:=Hp.drew H2;rw[← hw3]at H3
  refine Zm Y Y<|Zc Y Y<|Zf Y vW Y<|MP Y<|MV (fun wz hz=>EL qX Y (hz.cell (i:=0) Y Y))<|cZ e58<|Zf Y fl81_1 Y<|MP Y<|MV (fun wz hz=>EL ty3 Y (hz.cell (i:=1) Y Y))<|MP Y<|MV (fun wz hz=>EI Ub xY Y Y (len:=b.groups.length) (i:=n.group.toNat) (by omega) (by omega) Y)<|MP Y<|MV (fun wz hz=>EN xY Y (vs:=Cb s C1 q1 C2 q2 C3 q3) Y ((hrg.move (by decide) hag hz hks).1.elem hpg hp1))<|cZ e58<|MO Y<|OA xY H3<|fun w4 gs H4 hgs=>?_
  have hgs0:w0.heap.size≤gs:=by have:=H3.size;omega
  refine OE ?_
  refine⟨fun hne=>H4.pick [0,1] (by decide),?_⟩
  refine cZ e58<|MO Y<|OS xY H4 2 Y Y Y Y Y (by first|exact NL Y|simp[zG]) Y<|fun w5 H5=>OE<|⟨fun hne=>absurd Y hne,?_⟩
  refine cZ e58<|ME<|cR e58<|Rq<|Xm Y<|OV (EN xT Y (vs:=Dv n B1 j1 B2 j2) Y (H5.Ak (i:=1) Y Y))<|OQ (xD gf117 Y Y) (WK gs s C1 q1 C2 q2 C3 q3 n B1 j1 B2 j2 (fun x=>Vd x∧x < w0.heap.size) _ (H5.at (i:=2) Y) (fun x=>ok x∧x < w0.heap.size) (fun hh=>by have:=hh.2;omega) (hv1.Qi H5 hkB) (hv2.to H5 hkB) (hv3.Si H5 hkB) (fun hh=>by have:=hh.2;omega) (hbv.to H5 hkn) (SX (hU hce.v).2 _) (by omega) ⟨hce.i.1,hce.i.2.1⟩ Tn) ?_
  rintro _ w6 ⟨cs2,Hd,hsv⟩
  have hnp:=Hp.fresh H5
  have Y0:=H5.size
  have hpl:=bl_place H5
  have HB:=(H5.Dq [2] rfl Hd).pick [0,1,3] (by decide)
  rw[← FA hk]at hsv
  have m1:=()
  rotate_left 1
  obtain rfl:=h3 hk
  refine Xa Y<|Xr e58<|J1<|Rq<|Xm Y<|OV (oJ U136 Y)<|Xm Y<|Ae e58<|OY Y<|Xf fl81_1 Y<|OY Y<|OV (EL ty3 Y (H2.cell (i:=1) Y Y))<|Ae e58<|OY Y<|OT (zR Y Y) (fun hp21=>?_) (fun hp21=>?_)
  refine Xu Y Y<|Xm Y<|Ae e58<|Oz 3 Y<|Ae e58<|Xt Y Y ?_
  have m2:=()
  rotate_left 1
  refine Xu Y Y<|Xm Y<|Ae e58<|OY Y<|Xf fl81_1 Y<|OY Y<|OV (EL ty3 Y (H2.cell (i:=1) Y Y))<|Ae e58<|OY Y<|OT (wC Y Y) (fun Qw=>?_) (fun Qw=>?_)
  refine Xu Y Y ?_
  have m2:=()
  rotate_left 1
  obtain⟨s,hs⟩:=yM (l:=b.groups) (j:=n.group.toNat) (by omega)
  have hsl:=lt_of_get hs
  obtain⟨p1,hp1,hR⟩:=h2g.get hs
  obtain⟨C1,q1,C2,q2,C3,q3,rfl,hv1,hv2,hv3⟩:=hR
  obtain⟨a1,ha1⟩:=hrg.some_ (by omega)
  subst ha1
  have hce:=(tC s).1 (hg.chk s (mem_of hs))
  have Yl:=oC hce
  have Tn:=pY hce
  have Yn:=nO s n
  refine Xu Y Y<|Xr e58<|J4 Y<|J6<|J1<|zQ 9 [(true,0),(true,1),(true,2),(true,3),(true,4),(true,5),(true,6),(true,7),(false,8),(false,9)] H2 [0,1] yF (by decide) (by kernel_rfl) ?_
  rintro w3 hw3
  have H3:=Hp.drew H2;rw[← hw3]at H3
  refine Zm Y Y<|Zc Y Y<|Zf Y vW Y<|MP Y<|MV (fun wz hz=>EL qX Y (hz.cell (i:=0) Y Y))<|cZ e58<|Zf Y fl81_1 Y<|MP Y<|MV (fun wz hz=>EL ty3 Y (hz.cell (i:=1) Y Y))<|MP Y<|MV (fun wz hz=>EI Ub xY Y Y (len:=b.groups.length) (i:=n.group.toNat) (by omega) (by omega) Y)<|MP Y<|MV (fun wz hz=>EN xY Y (vs:=Cb s C1 q1 C2 q2 C3 q3) Y ((hrg.move (by decide) hag hz hks).1.elem hpg hp1))<|cZ e58<|MO Y<|OA xY H3<|fun w4 gs H4 hgs=>?_
  have hgs0:w0.heap.size≤gs:=by have:=H3.size;omega
  refine OE ?_
  refine⟨fun hne=>H4.pick [0,1] (by decide),?_⟩
  refine cZ e58<|MO Y<|OS xY H4 2 Y Y Y Y Y (by first|exact NL Y|simp[zG]) Y<|fun w5 H5=>OE<|⟨fun hne=>absurd Y hne,?_⟩
  refine cZ e58<|ME<|cR e58<|Rq<|Xm Y<|OV (EN xT Y (vs:=Dv n B1 j1 B2 j2) Y (H5.Ak (i:=1) Y Y))<|OQ (xD gf118 Y Y) (UN gs s C1 q1 C2 q2 C3 q3 n B1 j1 B2 j2 (fun x=>Vd x∧x < w0.heap.size) _ (H5.at (i:=2) Y) (fun x=>ok x∧x < w0.heap.size) (fun hh=>by have:=hh.2;omega) (hv1.Qi H5 hkB) (hv2.to H5 hkB) (hv3.Si H5 hkB) (fun hh=>by have:=hh.2;omega) (hbe.to H5 hkn) (by omega) ⟨hce.i.1,hce.i.2.1⟩ Tn) ?_
  rintro _ w6 ⟨cs2,Hd,hsv⟩
  have hnp:=Hp.fresh H5
  have Y0:=H5.size
  have hpl:=bl_place H5
  have HB:=(H5.Dq [2] rfl Hd).pick [0,1,3] (by decide)
  rw[← E9 hk]at hsv
  have m1:=()
  rotate_left 1
  obtain rfl:=h4 hk
  refine Xa Y<|Xr e58<|J1<|Rq<|Xm Y<|OV (oJ U136 Y)<|Xm Y<|Ae e58<|OY Y<|Xf fl81_1 Y<|OY Y<|OV (EL ty3 Y (H2.cell (i:=1) Y Y))<|Ae e58<|OY Y<|OT (zR Y Y) (fun hp21=>?_) (fun hp21=>?_)
  refine Xu Y Y<|Xm Y<|Ae e58<|Oz 3 Y<|Ae e58<|Xt Y Y ?_
  have m2:=()
  rotate_left 1
  refine Xu Y Y<|Xm Y<|Ae e58<|OY Y<|Xf fl81_1 Y<|OY Y<|OV (EL ty3 Y (H2.cell (i:=1) Y Y))<|Ae e58<|OY Y<|OT (wC Y Y) (fun Qw=>?_) (fun Qw=>?_)
  refine Xu Y Y ?_
  have m2:=()
  rotate_left 1
  obtain⟨s,hs⟩:=yM (l:=b.groups) (j:=n.group.toNat) (by omega)
  have hsl:=lt_of_get hs
  obtain⟨p1,hp1,hR⟩:=h2g.get hs
  obtain⟨C1,q1,C2,q2,C3,q3,rfl,hv1,hv2,hv3⟩:=hR
  obtain⟨a1,ha1⟩:=hrg.some_ (by omega)
  subst ha1
  have hce:=(tC s).1 (hg.chk s (mem_of hs))
  have Yl:=oC hce
  have Tn:=pY hce
  have Yn:=nO s n
  refine Xu Y Y<|Xr e58<|J4 Y<|J6<|J1<|zQ 9 [(true,0),(true,1),(true,2),(true,3),(true,4),(true,5),(true,6),(true,7),(false,8),(false,9)] H2 [0,1] yF (by decide) (by kernel_rfl) ?_
  rintro w3 hw3
  have H3:=Hp.drew H2;rw[← hw3]at H3
  refine Zm Y Y<|Zc Y Y<|Zf Y vW Y<|MP Y<|MV (fun wz hz=>EL qX Y (hz.cell (i:=0) Y Y))<|cZ e58<|Zf Y fl81_1 Y<|MP Y<|MV (fun wz hz=>EL ty3 Y (hz.cell (i:=1) Y Y))<|MP Y<|MV (fun wz hz=>EI Ub xY Y Y (len:=b.groups.length) (i:=n.group.toNat) (by omega) (by omega) Y)<|MP Y<|MV (fun wz hz=>EN xY Y (vs:=Cb s C1 q1 C2 q2 C3 q3) Y ((hrg.move (by decide) hag hz hks).1.elem hpg hp1))<|cZ e58<|MO Y<|OA xY H3<|fun w4 gs H4 hgs=>?_
  have hgs0:w0.heap.size≤gs:=by have:=H3.size;omega
  refine OE ?_
  refine⟨fun hne=>H4.pick [0,1] (by decide),?_⟩
  refine cZ e58<|MO Y<|OS xY H4 2 Y Y Y Y Y (by first|exact NL Y|simp[zG]) Y<|fun w5 H5=>OE<|⟨fun hne=>absurd Y hne,?_⟩
  refine cZ e58<|ME<|cR e58<|Rq<|Xm rfl<|OV (EN xT rfl (vs:=Dv n B1 j1 B2 j2) rfl (H5.Ak (i:=1) rfl rfl))<|OQ (xD gf119 rfl rfl) (T9 gs s C1 q1 C2 q2 C3 q3 n B1 j1 B2 j2 (fun x=>Vd x∧x < w0.heap.size) _ (H5.at (i:=2) rfl) (fun x=>ok x∧x < w0.heap.size) (fun hh=>by have:=hh.2;omega) (hv1.Qi H5 hkB) (hv2.to H5 hkB) (hv3.Si H5 hkB) (fun hh=>by have:=hh.2;omega) (hbe.to H5 hkn) (by omega) (fun x hx=>by obtain⟨i,hi⟩:=Dh hx;exact(qF hce.e i x hi).2.1) ⟨hce.i.1,hce.i.2.1⟩ Tn) ?_
  rintro _ w6 ⟨cs2,Hd,hsv⟩
  have hnp:=Hp.fresh H5
  have Y0:=H5.size
  have hpl:=bl_place H5
  have HB:=(H5.Dq [2] rfl Hd).pick [0,1,3] (by decide)
  rw[← bX hk]at hsv
  have m1:=()
  rotate_left 1
  any_goals
   clear m2
   refine Xr e58<|J3 Y<|Rq<|Xa Y<|Xr e58<|J5<|Cj Y Y<|⟨(fun b' hb'=>by rw[E4 hp9 (by omega)]at hb';cases hb'),fun _=>⟨Y,H2.Ag⟩⟩
  any_goals
   clear m1
   obtain⟨D1,e1,D2,e2,D3,e3,rfl,hw1,hw2,hw3⟩:=hsv
   have H6:=HB.here
   have hnk:∀ x,up (fun x=>ok x∧x < w0.heap.size) w5.heap.size x→x∉bl _:=fun x hx hb=>(show False from by
    rcases hx with hx | hx
    · rcases hpl x hb with h | h
      · exact(hks x hx.1 hx.2).1 h
      have:=hx.2;omega
    exact hnp x hx hb)
   have hkk:∀ x,up (fun x=>ok x∧x < w0.heap.size) w5.heap.size x→x < w6.heap.size→x∉bl _∧up ok w0.heap.size x:=fun x hx _=>⟨hnk x hx,by
    rcases hx with hx | hx
    · exact .inl hx.1
    exact .inr (by omega)⟩
   refine Xr e58<|J1<|Rq<|OV (EN xY Y (vs:=Cb (s.goes n) D1 e1 D2 e2 D3 e3) Y (H6.Ak (i:=2) Y Y))<|OQ (EC gf68 Y) (UW (s.goes n) D1 e1 D2 e2 D3 e3 _ _ hw1 hw2 hw3 (by omega) (by omega)) ?_
   rintro _ w7 ⟨e,rfl,hans,Hd⟩
   have H7:=H6.Ap Hd
   refine OT (yR Y Y) (fun hp41=>?_) (fun hp41=>?_)
   refine Xr e58<|J3 rfl<|Rq<|Xa rfl<|Xr e58<|J5<|Cj rfl rfl<|⟨(fun b' hb'=>by rw[JF hp9 hs (by cases hc:chk (s.goes n)with | false=>rfl | true=>exact absurd (hans.1 hc) hp41)]at hb';cases hb'),fun _=>⟨rfl,(HB.all H7).Ag⟩⟩
   have Zw:chk (s.goes n)=true:=by cases hc:chk (s.goes n)with | true=>rfl | false=>have:=hans.2 hc;omega
   refine Xr e58<|J4 Y<|J6<|Rq<|Xm Y<|Xm Y<|Xc Y<|Xf vW Y<|Ae e58<|OV (EL qX Y (H7.cell (i:=0) Y Y))<|OQ (EC gf69 Y) (Q9 (some a1) b.groups.length k1 pg.flatten _ (hrg.move (by decide) hag (HB.all H7) hks).1 (xF hong) (by rw[h8];decide)) ?_
   rintro _ w8 ⟨gv,cv,sv,rfl,hmv,hcv,Tj,Hc⟩
   have H8:=H7.call0 Hc
   obtain⟨gw,rfl⟩:=vO H8 (i:=3) rfl (by rw[Af,hpg.len];omega)
   refine Xc Y<|Xf vW Y<|Ae e58<|OW qX H8 0 Y Y Y Y (Og Y) Y<|fun w9 H9=>Xr e58<|J1<|zQ 8 [(true,0),(true,1),(true,2),(true,3),(true,4),(true,5),(true,6),(true,7),(false,8)] H9 [0,1,2,3] yF (by decide) (by kernel_rfl) ?_
   rintro Nu YZ
   have Eh:=Hp.drew H9;rw[← YZ]at Eh
   refine Zm Y Y<|Zc Y Y<|Zf Y vW Y<|MP Y<|MV (fun wz hz=>EL qX Y (hz.cell (i:=0) Y Y))<|cZ e58<|Zf Y fl81_1 Y<|MP Y<|MV (fun wz hz=>EL ty3 Y (hz.cell (i:=1) Y Y))<|MP Y<|MV (fun wz hz=>EN xY Y (vs:=Cb (s.goes n) D1 e1 D2 e2 D3 e3) Y (hz.Ak (i:=2) Y Y))<|MP Y<|MV (fun wz hz=>uS Ub xY Y Y (len:=b.groups.length) (i:=n.group.toNat) (by omega) (by omega))<|cZ e58<|MO Y<|OS xY Eh 3 Y Y Y Y Y (by rw[Af,hpg.len];show 0+n.group.toNat*6+6≤_;omega) Y<|fun w10 Df=>?_
   rw[nV (sz:=6) (vs:=Cb (s.goes n) D1 e1 D2 e2 D3 e3) hpg (by omega) rfl]at Df
   refine OE ?_
   refine⟨fun hne=>absurd Y hne,?_⟩
   refine cZ e58<|ME<|cR e58<|Rq<|Xa Y<|Xr e58<|J5<|Cj Y Y ?_
   have HW:=HB.all Df
   refine⟨fun b' hb'=>?_,fun h=>by rw[nN hp9 (by omega) hs Zw]at h;cases h⟩
   rw[nN hp9 (by omega) hs Zw]at hb'
   simp only[Option.some.injEq]at hb'
   subst hb'
   refine⟨Y,_,HW.pick [0] (by decide),hd (some gw),cv,A2,k2,A3,k3,by rw[Ko];rfl,?_,hb2.toR HW hks,hb3.toM HW hks⟩
   exact Sl.row HW (i:=3) Y (hpg.Sr Y) (by decide) ((h2g.imp (R':=Rl w10 (up ok w0.heap.size)) fun p x h=>h.to HW hks).set _ ⟨D1,e1,D2,e2,D3,e3,Y,hw1.Qi Df hkk,hw2.to Df hkk,hw3.Si Df hkk⟩) (fun c hc=>wO (ok:=ok) HW (i:=3) Y (fun c hc=>by rw[Bc.1 hc];exact fun e=>HW.ne (i:=3) (j:=0) (g:=gb) (by rw[e];rfl) Y (by decide) Y) c hc)
end Go.Proofs.YtjoeklkmnfaabaaGreat
namespace Go.Proofs.YtjoeklkmnfaabaaGreat
open Go Go.RowKit
set_option linter.unusedVariables false
set_option linter.unusedSimpArgs false
section
def Xi (w:World) (bad:Nat→Prop) (xs:List Value) (bs:List Blk):Prop:=
 xs.length=bs.length∧∀ i (h:i < bs.length),∃ (B:Option Addr) (c:Nat),xs[i]? =some (.slice B bs[i].length c)∧Rd w B bs[i].length 1 (u8s bs[i])∧(0 < bs[i].length→∀ p,B=some p→¬bad p.block)
variable {w w':World} {S:List Nat} {bad bad':Nat→Prop} {es2:List Ent} {xs:List Value} {bs:List Blk} {D:Dk} {W:Wl} {b:Bo}
theorem Xi.keep (h:Xi w bad xs bs) (H:Hp w w' S es2) (hS:∀ b∈S,bad b) (hn:∀ b,bad' b→b < w.heap.size→bad b):Xi w' bad' xs bs:=by
 refine⟨h.1,fun i hi=>?_⟩
 obtain⟨B,c,h1,h2,h3⟩:=h.2 i hi
 by_cases h0:bs[i].length=0
 · exact⟨B,c,h1,h2.empty h0,fun h=>absurd h (by omega)⟩
 refine⟨B,c,h1,h2.to H (fun p hp hb=>h3 (by omega) p hp (hS _ hb)),fun _ p hp hb=>h3 (by omega) p hp (hn _ hb ?_)⟩
 have h5:0 < (u8s bs[i]).length:=by rw[zZ];omega
 have h6:=Ir w _ (h2.cells p hp 0 _ (Bq h5))
 rwa [Iq]at h6
theorem Xi.lsw {es:List Ent} (h:Xi w bad xs bs) (hb:∀ b∈bl es,bad b):Pv w es xs bs:=by
 refine⟨h.1,fun i hi=>?_⟩
 obtain⟨B,c,h1,h2,h3⟩:=h.2 i hi
 exact⟨B,c,h1,h2,fun h0 p hp hx=>h3 h0 p hp (hb _ hx)⟩
theorem Xi.frame {w1 w2:World} {ys:List Value} {rs rs':List Blk} (h1:Xi w1 bad xs rs) (hx:fK w1 xs ys) (h2:Pv w2 es2 ys rs') (hn:∀ b,bad' b→(bad b∧b < w1.heap.size)∨b∈bl es2):Xi w2 bad' ys rs':=by
 refine⟨h2.1,fun i hi=>?_⟩
 obtain⟨B,c,a1,a2,a3⟩:=h2.2 i hi
 refine⟨B,c,a1,a2,fun h0 p hp hb=>?_⟩
 rcases hn _ hb with ⟨hf1,hf2⟩ | hb
 · rcases hx _ (Fh a1)with hv | hv
   · obtain⟨j,hj⟩:=Dh hv
     obtain⟨B',c',b1,b2,b3⟩:=h1.2 j (by rw[← h1.1];exact lt_of_get hj)
     rw[hj]at b1
     simp only[Option.some.injEq,Value.slice.injEq]at b1
     exact b3 (by rw[← b1.2.1];exact h0) p (by rw[← b1.1];exact hp) hf1
   have:=hv p _ c (by rw[hp])
   omega
 exact a3 h0 p hp hb
structure Vm where
 m:Mw
 gx:Nat
 cs:List Value
variable {v:Vm}
@[reducible] def fN (v:Vm):List Value:=.pointer (some ⟨v.m.gv,0,none⟩)::v.cs
@[reducible] def Ar (v:Vm) (D:Dk) (W:Wl):List Ent:=Ba v.m D W++[(some v.gx,69,fN v)]
structure Wj (w:World) (v:Vm) (D:Dk) (W:Wl) (b:Bo) (bad:Nat→Prop):Prop where
 ok:Lr w v.m D W
 recs:Xi w bad v.m.xs W.recs
 bo:Sj w (fun x=>¬bad x) v.cs b
theorem Wj.keep (h:Wj w v D W b bad) (H:Hp w w' S es2) (hS:∀ x∈S,bad x) (hn:∀ x,bad' x→x < w.heap.size→bad x) (hw:∀ x∈bl (Ba v.m D W),bad' x):Wj w' v D W b bad':=by
 have hr:=h.recs.keep H hS hn
 exact⟨{ h.ok with lst:=hr.lsw hw },hr,h.bo.to H fun x hx hl=>⟨fun hs=>hx (hS x hs),fun hb=>hx (hn x hb hl)⟩⟩
def KJ (w0 w':World) (v:Vm) (bad:Nat→Prop) (S:List Nat) (D:Dk) (W:Wl) (b:Bo):Prop:=
 ∃ v':Vm,v'.m.gd=v.m.gd∧v'.m.gk=v.m.gk∧v'.gx=v.gx∧Wj w' v' D W b (fun x=>(bad x∧x < w0.heap.size)∨x∈bl (Ar v' D W))∧Hp w0 w' S (Ar v' D W)
theorem Wj.log {D':Dk} {W':Wl} (h:Wj w v D W b bad) (hb:∀ x∈bl (Ba v.m D W),bad x) (hp:vY w w' (bl (Ba v.m D W)) v.m D' W'):
 ∃ m':Mw,m'.gd=v.m.gd∧m'.gk=v.m.gk∧m'.gv=v.m.gv∧Wj w' ⟨m',v.gx,v.cs⟩ D' W' b (fun x=>(bad x∧x < w.heap.size)∨x∈bl (Ba m' D' W'))∧Hp w w' (bl (Ba v.m D W)) (Ba m' D' W'):=by
 obtain⟨m',e1,e2,e3,hx,hok,H⟩:=hp
 refine⟨m',e1,e2,e3,⟨hok,h.recs.frame hx hok.lst fun _ h=>h,h.bo.to H fun x hx hl=>⟨fun hs=>hx (hb x hs),?_⟩⟩,H⟩
 rintro(⟨h1,_⟩ | h1)
 · exact hx h1
 rcases bl_place H x h1 with h2 | h2
 · exact hx (hb x h2)
 omega
def RR (s:Nat) (D:Dk) (W:Wl) (b:Bo) (l:List Nt) (x:Int) (D':Dk) (W':Wl) (b':Bo):Prop:=
 ((∃ n∈l,¬tM n)∧x=22∧D'=D∧W'=W∧b'=b)∨
 ((∀ n∈l,tM n)∧xZ b l=none∧x=21∧D'=D∧W'=W∧b'=b)∨
 ((∀ n∈l,tM n)∧∃ bz,xZ b l=some bz∧
  ((∃ (i:Nat) (n:Nt) (D1:Dk) (W1:Wl),l[i]? =some n∧kL s D W ((l.take i).map xM) D1 W1∧xZ b (l.take i)=some b'∧
   ((x=3∧D.kept.length / 2 < used (W.recs++(l.take i).map xM)+wgt (xM n).length+16∧D'=D1∧W'=W1)∨
    (x=40∧0 < D.armed∧D'.down=true∧D'.kept=D.kept∧∃ xs,D'.wait=D.wait++xs∧xs.length≤2000000∧sK D.kept.length s (nbs W.recs) xs)))∨
   (∃ D1 W1,kL s D W (l.map xM) D1 W1∧b'=bz∧BQ D1 W1 0 x D' W')))
end
theorem Hp.swap {w0 w:World} {S:List Nat} {a b:List Ent} (H:Hp w0 w S (a++b)):Hp w0 w S (b++a):=by
 refine H.sub (fun i=>if i < b.length then a.length+i else i - b.length) (fun i e he=> .inl ?_) (fun i j hi hj h=>?_)
 · by_cases hb:i < b.length
   · rw[Di hb]at he
     simp only[if_pos hb]
     rw[Ef (by omega),Hq]
     exact he
   rw[Ef (by omega)]at he
   simp only[if_neg hb]
   rw[Di (lt_of_get he)]
   exact he
 rw[Af]at hi hj
 split at h <;>split at h <;>omega
theorem Hp.mid {w0 w w':World} {S:List Nat} {a R:List Ent} {r r':Ent} (H:Hp w0 w S ((a++[r])++R)) (H':Hp w w' (bl [r]) [r']):Hp w0 w' S ((a++[r'])++R):=by
 rw[Bf]at H ⊢
 have h1:=H.swap
 rw[Bf]at h1
 have h2:=h1.front H'
 rw[← Bf]at h2
 exact h2.swap
def iW (w0:World) (bad:Nat→Prop) (es:List Ent) (x:Nat):Prop:=(bad x∧x < w0.heap.size)∨x∈bl es
structure Qn (w0 w:World) (S:List Nat) (bad:Nat→Prop) (v0 v:Vm) (D:Dk) (W:Wl) (b:Bo) (R:List Ent):Prop where
 gd:v.m.gd=v0.m.gd
 gk:v.m.gk=v0.m.gk
 gx:v.gx=v0.gx
 ok:Wj w v D W b (iW w0 bad (Ar v D W++R))
 H:Hp w0 w S (Ar v D W++R)
theorem qW {v:Vm} {D:Dk} {W:Wl} {R:List Ent} {x:Nat} (h:x∈bl (Ba v.m D W)):x∈bl (Ar v D W++R):=Fp (Fp h)
theorem Pm {a b:List Ent} {x:Nat} (h:x∈bl b):x∈bl (a++b):=by rw[vS];exact Nl _ h
theorem Qn.start {w0:World} {bad:Nat→Prop} {v:Vm} {D:Dk} {W:Wl} {b:Bo} (h:Wj w0 v D W b bad) (H:Hp w0 w0 (bl (Ar v D W)) (Ar v D W)) (hv:∀ x∈bl (Ar v D W),bad x):Qn w0 w0 (bl (Ar v D W)) bad v v D W b []:=by
 refine⟨Y,Y,Y,h.keep (Hp.refl w0) (fun x hx=>by cases hx) (fun x hx _=>?_) (fun x hx=> .inr (qW hx)),by rw[Dt];exact H⟩
 rcases hx with hx | hx
 · exact hx.1
 rw[Dt]at hx;exact hv x hx
section
variable {w0 w w':World} {S:List Nat} {bad:Nat→Prop} {v0 v:Vm} {D:Dk} {W:Wl} {b:Bo} {R R':List Ent}
theorem Qn.on (h:Qn w0 w S bad v0 v D W b R) (H:Hp w w' (bl (Ar v D W++R)) (Ar v D W++R')):Qn w0 w' S bad v0 v D W b R':=by
 refine⟨h.gd,h.gk,h.gx,h.ok.keep H (fun x hx=> .inr hx) (fun x hx hl=>?_) (fun x hx=> .inr (qW hx)),h.H.all H⟩
 rcases hx with hx | hx
 · exact .inl hx
 rcases bl_place H x hx with h2 | h2
 · exact .inr h2
 omega
theorem Qn.log {D':Dk} {W':Wl} (h:Qn w0 w S bad v0 v D W b R) (hp:vY w w' (bl (Ba v.m D W)) v.m D' W'):
 ∃ v':Vm,v'.cs=v.cs∧v'.gx=v.gx∧Qn w0 w' S bad v0 v' D' W' b R∧Hp w w' (bl (Ar v D W++R)) (Ar v' D' W'++R):=by
 obtain⟨m',e1,e2,e3,hok,H'⟩:=h.ok.log (fun x hx=> .inr (qW hx)) hp
 have hH:∀ {wz:World} {Sz:List Nat},Hp wz w Sz (Ar v D W++R)→Hp wz w' Sz (Ar ⟨m',v.gx,v.cs⟩ D' W'++R):=fun HZ=>by
  have h1:=HZ
  unfold Ar fN at h1 ⊢
  rw[Bf]at h1 ⊢
  rw[e3]
  exact h1.front H'
 refine⟨⟨m',v.gx,v.cs⟩,Y,Y,⟨e1.trans h.gd,e2.trans h.gk,h.gx,hok.keep (Hp.refl w') (fun x hx=>by cases hx) (fun x hx _=>?_) (fun x hx=> .inr (qW hx)),hH h.H⟩,hH h.H.here⟩
 have hsz:=h.H.size
 rcases hx with hx | hx
 · exact .inl ⟨.inl hx,by have:=hx.2;omega⟩
 rw[vS,vS]at hx
 rcases Bj.1 hx with hx | hx
 · rcases Bj.1 hx with hx | hx
   · exact .inr hx
   have h2:x∈bl (Ar v D W++R):=Fp (Pm hx)
   exact .inl ⟨.inr h2,pZ h.H h2⟩
 have h2:x∈bl (Ar v D W++R):=Pm hx
 exact .inl ⟨.inr h2,pZ h.H h2⟩
theorem Qn.book {b':Bo} {cs:List Value} (h:Qn w0 w S bad v0 v D W b R) (H:Hp w w' [v.gx] [(some v.gx,69,Ah v.m.gv::cs)]) (hb:Sj w' (up (fun x=>¬iW w0 bad (Ar v D W++R) x) w.heap.size) cs b'):
 Qn w0 w' S bad v0 ⟨v.m,v.gx,cs⟩ D W b' R∧Hp w w' (bl (Ar v D W++R)) (Ar ⟨v.m,v.gx,cs⟩ D W++R):=by
 have hS:∀ x∈[v.gx],x∈bl (Ar v D W++R):=fun x hx=>by
  rw[Bc.1 hx]
  exact Fp (Pm (by simp[bl]))
 have hsz:=h.H.size
 have hr:Xi w' (iW w0 bad (Ar v D W++R)) v.m.xs W.recs:=h.ok.recs.keep H (fun x hx=> .inr (hS x hx)) fun x hx _=>hx
 refine⟨⟨h.gd,h.gk,h.gx,⟨{ h.ok.ok with lst:=hr.lsw fun x hx=> .inr (qW hx) },hr,hb.to (Hp.refl w') fun x hx _=>⟨by simp,?_⟩⟩,h.H.mid H⟩,h.H.here.mid H⟩
 rcases hx with hx | hx
 · exact hx
 rintro(h1 | h1)
 · have:=h1.2;omega
 have:=pZ h.H h1;omega
theorem Qn.post (h:Qn w0 w S bad v0 v D W b R):KJ w0 w v0 bad S D W b:=by
 refine⟨v,h.gd,h.gk,h.gx,h.ok.keep (Hp.refl w) (fun x hx=>by cases hx) (fun x hx _=>?_) (fun x hx=> .inr (Fp hx)),h.H.less⟩
 rcases hx with hx | hx
 · exact .inl hx
 exact .inr (Fp hx)
def Yr (n:Nat) (w:World) (es:List Ent) (xs:List Value) (bs:List Blk):Prop:=Xi w (fun x=>x < n∨x∈bl es) xs bs
theorem Yr.nil (n:Nat) (w:World) (es:List Ent):Yr n w es [] []:=⟨rfl,fun i hi=>absurd hi (by simp)⟩
theorem Yr.on {n:Nat} {es es':List Ent} {xs:List Value} {bs:List Blk} (h:Yr n w es xs bs) (H:Hp w w' (bl es) es'):Yr n w' es' xs bs:=by
 refine Xi.keep h H (fun x hx=> .inr hx) fun x hx hl=>?_
 rcases hx with hx | hx
 · exact .inl hx
 rcases bl_place H x hx with h2 | h2
 · exact .inr h2
 omega
theorem Yr.snoc {n:Nat} {es:List Ent} {xs:List Value} {bs:List Blk} {t:Blk} {B:Option Addr} {c:Nat} (h:Yr n w es xs bs) (hr:Rd w B t.length 1 (u8s t)) (ha:∀ p,B=some p→n≤p.block∧p.block∉bl es):Yr n w es (xs++[Ac B t.length c]) (bs++[t]):=by
 refine⟨by simp[h.1],fun i hi=>?_⟩
 by_cases hin:i < bs.length
 · rw[List.getElem_append_left hin]
   obtain⟨B',c',h1,h2,h3⟩:=h.2 i hin
   exact⟨B',c',by rw[Di (by rw[h.1];exact hin)];exact h1,h2,h3⟩
 have hi2:i=bs.length:=by simp at hi;omega
 subst hi2
 rw[List.getElem_append_right (Ai _)]
 simp only[Le,List.getElem_cons_zero]
 refine⟨B,c,by rw[Ef (by rw[h.1];exact Ai _),h.1,Le];rfl,hr,fun _ p hp hb=>?_⟩
 obtain⟨h1,h2⟩:=ha p hp
 rcases hb with hb | hb
 · omega
 exact h2 hb
theorem Yr.get {n i:Nat} {es:List Ent} {xs:List Value} {bs:List Blk} {t:Blk} (h:Yr n w es xs bs) (hi:bs[i]? =some t):∃ (B:Option Addr) (c:Nat),xs[i]? =some (Ac B t.length c)∧Rd w B t.length 1 (u8s t)∧(0 < t.length→∀ p,B=some p→n≤p.block∧p.block∉bl es):=by
 obtain⟨hl,rfl⟩:=Ea.1 hi
 obtain⟨B,c,h1,h2,h3⟩:=h.2 i hl
 exact⟨B,c,h1,h2,fun h0 p hp=>⟨by have:=h3 h0 p hp;omega,fun hb=>h3 h0 p hp (.inr hb)⟩⟩
end
section
variable {n:Nt} {b:Bo} {s:Sv}
theorem W7 (h:NtB n):∀ f∈Pn n,FOk f:=by
 intro f hf
 unfold Pn at hf
 simp only[Cm,Lu,or_false]at hf
 rcases hf with rfl | rfl | rfl | rfl | rfl | rfl | rfl | rfl | rfl | rfl | rfl | rfl | rfl | rfl | rfl | rfl
 all_goals first | exact trivial | exact h.kind | exact h.group | exact h.br | exact h.bn | exact h.vs | exact h.vr | exact h.vn | exact h.es | exact h.rg | exact h.rl | exact h.rn | exact h.cl | exact h.sq
theorem TM (hb:NtB n) (h0:Nc n=0):Qx rM (xM n)=0∧PV rM (xM n)=Pn n:=by
 have hl:(xV (Pn n) W0).long=false:=by
  cases hl:(xV (Pn n) W0).long with
  | false=>rfl
  | true=>unfold Nc at h0;rw[(mT hl).2]at h0;cases h0
 have ho:xM n=(xV (Pn n) W0).out:=(fB hl).1
 have hr:rM.rd (xM n) 0 0=(Pn n,(xM n).length,0):=by
  have h1:=KE (Pn n) (W7 hb) W0 (xM n) rfl hl (by rw[ho];exact List.prefix_refl _)
  rw[← ho]at h1
  exact h1
 have he:Qx rM (xM n)=0:=by rw[UK (jF n) hr,if_neg (by omega)]
 exact⟨he,by rw[(JH he).1,hr]⟩
theorem IL :∀ (fs:List Fv) (st:WS),st.long=false→(∀ f∈fs,wK f=false)→st.out.length+(fs.map fun f=>(rJ f).length).sum≤65536→(xV fs st).long=false∧(xV fs st).out.length=st.out.length+(fs.map fun f=>(rJ f).length).sum
 | [],st,h0,_,_=>⟨h0,by simp[xV]⟩
 | f::fs,st,h0,ht,hs=>by
  rw[Jz,List.sum_cons]at hs ⊢
  have h1:qM f st=⟨st.out++rJ f,false⟩:=by
   rw[lC h0 (ht f Gn)]
   unfold iX
   rw[if_neg (by rw[h0];simp;omega),h0]
  have ih:=IL fs (qM f st) (by rw[h1]) (fun g hg=>ht g (Es _ hg)) (by rw[h1];simp only[Af];omega)
  refine⟨ih.1,ih.2.trans ?_⟩
  rw[h1]
  simp only[Af]
  omega
theorem sN {n:Int} (h:i64 n):(rJ (.int n)).length≤10:=by
 have:=uW (GA n h.1 h.2)
 show(uC n).length≤10
 rw[rH]
 exact this
theorem cP {b:Blk} (h:b.length≤8192):(xW b).length≤8202∧(xW b).length≤10+b.length:=by
 have:=uW (v:=b.length) (by omega)
 unfold xW
 rw[Af]
 omega
theorem pR (h:NtB n) (hv:n.Eb.val.length≤2048) (he:n.entry.val.length≤8192) (hk:n.right.key.length≤16):tM n:=by
 have b1:(rJ (.bytes n.Eb.val)).length≤2058:=by have:=(cP (b:=n.Eb.val) (by omega)).2;show(xW _).length≤_;omega
 have b2:(rJ (.bytes n.entry.val)).length≤8202:=(cP (b:=n.entry.val) he).1
 have b3:(rJ (.text n.right.key)).length≤26:=by have:=(cP (b:=n.right.key) (by omega)).2;show(xW _).length≤_;omega
 have hs:((Pn n).map fun f=>(rJ f).length).sum≤11000:=Ci (Gj (sN h.kind) (Gj (sN h.group) (Gj (sN h.br) (Gj (sN h.bn) (Gj (sN h.vs) (Gj (sN h.vr) (Gj (sN h.vn) (Gj (b1) (Gj (sN h.es) (Gj (b2) (Gj (sN h.rg) (Gj (b3) (Gj (sN h.rl) (Gj (sN h.rn) (Gj (sN h.cl) (Gj (sN h.sq) (Ai 0))))))))))))))))) (by decide)
 have hw:=IL (Pn n) W0 rfl (fun f hf=>?_) (by show 0+_≤_;omega)
 · have ho:=fB hw.1
   refine⟨ho.2,?_⟩
   have h2:(xM n).length=0+((Pn n).map fun f=>(rJ f).length).sum:=by
    show(sZ _).length=_
    rw[ho.1]
    exact hw.2
   omega
 · unfold Pn at hf
   simp only[Cm,Lu,or_false]at hf
   rcases hf with rfl | rfl | rfl | rfl | rfl | rfl | rfl | rfl | rfl | rfl | rfl | rfl | rfl | rfl | rfl | rfl
   all_goals first | rfl | exact decide_eq_false (by omega)
structure SvB (s:Sv):Prop where
 pr:i64 s.p.r
 pn:i64 s.p.n
 ix:i64 s.index
 vt:∀ v∈s.Bd,i64 v.slot∧i64 v.b.r∧i64 v.b.n
 en:∀ e∈s.entries,i64 e.slot
structure BoB (b:Bo):Prop where
 gr:∀ s∈b.groups,SvB s
 rt:∀ r∈b.rights,i64 r.g∧i64 r.lease∧i64 r.net
theorem BoB.empty :BoB Bo.empty:=⟨fun s hs=>by
 rw[(List.mem_replicate.1 hs).2]
 exact⟨by decide,by decide,by decide,(fun v hv=>by cases hv),(fun e he=>by cases he)⟩,(fun r hr=>by cases hr)⟩
theorem SvB.raise {b:Bal} (h:SvB s) (h1:i64 b.r) (h2:i64 b.n):SvB (s.raise b):=by
 unfold Sv.raise
 split
 · exact { h with pr:=h1,pn:=h2 }
 exact h
theorem LX {l:List En} {n:Int} {e:En} (h:e∈rG l n):e∈l:=by
 unfold rG at h
 split at h
 · cases h
 rename_i x r hx
 split at h
 · rw[← hx]at h;exact(Dy.1 h).1
 cases h
theorem SvB.goes (h:SvB s) (hn:NtB n):SvB (s.goes n):=by
 unfold Sv.goes
 split
 · exact h.raise hn.br hn.bn
 split
 · split
   · exact h
   refine SvB.raise { h with vt:=fun v hv=>?_ } hn.vr hn.vn
   rcases Bj.1 hv with hv | hv
   · exact h.vt v (Dy.1 hv).1
   rcases Cm.1 hv with rfl | hv
   · exact⟨hn.vs,hn.vr,hn.vn⟩
   exact h.vt v (Dy.1 hv).1
 split
 · split
   · refine { h with vt:=fun v hv=>h.vt v (Dy.1 hv).1,en:=fun e he=>?_ }
     rcases Bj.1 he with he | he
     · exact h.en e he
     rw[Bc.1 he];exact hn.es
   exact h
 split
 · exact h
 exact { h with ix:=hn.es,vt:=fun v hv=>h.vt v (Dy.1 hv).1,en:=fun e he=>h.en e (LX he) }
theorem BoB.into {b':Bo} (h:BoB b) (hn:NtB n) (hi:b.into n=some b'):BoB b':=by
 unfold Bo.into at hi
 split at hi
 · split at hi
   · simp only[Option.some.injEq]at hi
     subst hi
     refine⟨h.gr,fun r hr=>?_⟩
     rcases Bj.1 hr with hr | hr
     · exact h.rt r (Dy.1 hr).1
     rcases Cm.1 hr with rfl | hr
     · exact⟨hn.rg,hn.rl,hn.rn⟩
     exact h.rt r (Dy.1 hr).1
   cases hi
 split at hi
 · cases hi
 split at hi
 · rename_i s hs
   split at hi
   · simp only[Option.some.injEq]at hi
     subst hi
     refine⟨fun t ht=>?_,h.rt⟩
     rcases List.mem_or_eq_of_mem_set ht with ht | rfl
     · exact h.gr t ht
     exact(h.gr s (Fh hs)).goes hn
   cases hi
 cases hi
theorem BoB.Yv :∀ {l:List Nt} {b b':Bo},BoB b→(∀ n∈l,NtB n)→xZ b l=some b'→BoB b'
 | [],b,b',h,_,hr=>by
  simp only[Go.Proofs.YtjoeklkmnfaabaaGreat.xZ,Option.some.injEq]at hr
  exact hr▸h
 | n::l,b,b',h,hl,hr=>by
  rw[Go.Proofs.YtjoeklkmnfaabaaGreat.xZ]at hr
  split at hr
  · rename_i c hc
    exact BoB.Yv (h.into (hl n Gn) hc) (fun x hx=>hl x (Es _ hx)) hr
  cases hr
theorem IM {p:Bal} {first:Int}:∀ {l:List Vt} {n:Int},uE p first n l=true→∀ v∈l,v.val.length≤2048
 | [],_,_,v,hv=>by cases hv
 | e::l,n,h,v,hv=>by
  simp only[uE,Ce,decide_eq_true_eq]at h
  rcases Cm.1 hv with rfl | hv
  · exact h.1.2.2.2.2.2
  exact IM h.2 v hv
theorem z64 :i64 0:=by decide
theorem eC {N:Nat} (hg:rU b N) (hb:BoB b):∀ n∈b.notes,NtB n∧tM n:=by
 intro n hn
 unfold Bo.notes at hn
 rcases Bj.1 hn with hn | hn
 · obtain⟨g,s,hs,hm⟩:=PE hn
   have hc:=(tC s).1 (hg.chk s (mem_of hs))
   have h8:=hg.eight
   have hgl:=(Ea.1 hs).1
   have hsb:=hb.gr s (mem_of hs)
   have hg64:i64 (g:Int):=⟨by omega,by omega⟩
   unfold Xk oB oQ at hm
   rcases Bj.1 hm with hm | hm
   · rcases Bj.1 hm with hm | hm
     · rcases Bj.1 hm with hm | hm
       · split at hm
         · rw[Bc.1 hm]
           have h1:NtB (ntI g s):=⟨(by decide:i64 4),hg64,z64,z64,z64,z64,z64,hsb.ix,z64,z64,z64,z64,z64⟩
           exact⟨h1,pR h1 (Am _) hc.i.2.2.2 (Am _)⟩
         cases hm
       obtain⟨e,he,rfl⟩:=Ie.1 hm
       obtain⟨i,hi⟩:=Dh he
       have hl:=(qF hc.e i e hi).2.2
       have h1:NtB (Yj g e):=⟨(by decide:i64 3),hg64,z64,z64,z64,z64,z64,hsb.en e he,z64,z64,z64,z64,z64⟩
       exact⟨h1,pR h1 (Am _) (by show e.val.length≤8192;omega) (Am _)⟩
     split at hm
     · rw[Bc.1 hm]
       have h1:NtB (ntP g s.p):=⟨(by decide:i64 1),hg64,hsb.pr,hsb.pn,z64,z64,z64,z64,z64,z64,z64,z64,z64⟩
       exact⟨h1,pR h1 (Am _) (Am _) (Am _)⟩
     cases hm
   obtain⟨v,hv,rfl⟩:=Ie.1 hm
   have hq:=hsb.vt v hv
   have h1:NtB (ntV g v):=⟨(by decide:i64 2),hg64,z64,z64,hq.1,hq.2.1,hq.2.2,z64,z64,z64,z64,z64,z64⟩
   exact⟨h1,pR h1 (IM hc.v v hv) (Am _) (Am _)⟩
 obtain⟨r,hr,rfl⟩:=Ie.1 hn
 obtain⟨i,hi⟩:=Dh hr
 have hrs:=(sA hg.rts).1 r hr
 have hq:=hb.rt r hr
 have h1:NtB (ntF r):=⟨(by decide:i64 5),z64,z64,z64,z64,z64,z64,z64,hq.1,hq.2.1,hq.2.2,z64,z64⟩
 exact⟨h1,pR h1 (Am _) (Am _) hrs.2.2.2.1⟩
end
theorem Rt.ext_iff' {a b:Rt}:a=b↔a.g=b.g∧a.key=b.key∧a.lease=b.lease∧a.net=b.net:=by
 cases a;cases b;simp
instance:DecidableEq Rt:=fun a b=>decidable_of_iff _ Rt.ext_iff'.symm
section
variable {l:List Value} {w:World} {ty t t':TypeId} {x y:Operand}
theorem QW (r q:Rt) (w:World) (n:Nat):(Op.equalIn (n+2) 35 (.agg (Nz r).toArray) (.agg (Nz q).toArray)).run Tryz.prog w=.ok (decide (r=q)) w:=by
 have u3:=Tryz.underlying3
 have a3:=Tryz.isAgg3
 have z3:=Tryz.sizeOf3
 have u9:=Tryz.underlying9
 have a9:=Tryz.isAgg9
 have z9:=Tryz.sizeOf9
 have hS:Tryz.prog.underlying 35=some (.struct (Tryz.prog.fieldsOf 35)):=by kernel_rfl
 have hp:Tryz.prog.stoodInHeld 35=false:=by kernel_rfl
 rw[show(n+2:Nat)=(n+1)+1 from rfl,run_equalIn_agg w (n+1) 35 _ _ hS hp]
 simp only[Program.fieldsOf,Tryz.underlying35,Nz,yI]
 rw[show decide (r=q)=decide (r.g=q.g∧r.key=q.key∧r.lease=q.lease∧r.net=q.net) from decide_eq_decide.2 Rt.ext_iff']
 go_simp
 by_cases h1:r.g=q.g <;>by_cases h2:r.key=q.key <;>by_cases h3:r.lease=q.lease <;>by_cases h4:r.net=q.net <;>simp[h1,h2,h3,h4]
theorem HV {r q:Rt} (hx:ev l x=some (.agg (Nz r).toArray)) (hy:ev l y=some (.agg (Nz q).toArray)):Ex Tryz.prog l (.binOp .eql 35 x y t') ty w (.value (.bool (decide (r=q)))) w:=by
 have h:=eT (ty:=ty) (t':=t') (w:=w) (op:=.eql) (P:=Tryz.prog) (t:=35) (by kernel_rfl) (fun w=>QW r q w 9998) hx hy (.inl rfl)
 simp only[if_true]at h
 exact h
end
theorem Sl.tail {X:Type} {R:List Value→X→Prop} {sz c:Nat} {w:World} {ok:Nat→Prop} {A:Option Addr} {x:X} {xs:List X} (h:Sl R sz w ok A (x::xs)) (hc:xs.length+1≤c):Sl R sz w (fun _=>True) (wE A 1 c sz) xs:=by
 obtain⟨ps,hp,hr,_,h2⟩:=h
 cases ps with
 | nil=>exact h2.elim
 | cons p ps=>
  have h3:=hr.cut 1 (xs.length+1) c (by omega) (Ai _) hc
  have hpl:p.length=sz:=hp p Gn
  have Ib:ps.flatten.length=xs.length*sz:=by
   have h4:=hr.len
   rw[Ic,Af,hpl,Bg,Du,Nat.one_mul]at h4
   omega
  refine⟨ps,fun y hy=>hp y (Es _ hy),?_,fun _ _ _=>trivial,h2.2⟩
  have h4:((p::ps).flatten.drop (1*sz)).take ((xs.length+1 - 1)*sz)=ps.flatten:=by
   rw[Ic,Nat.one_mul,Gg hpl,Nat.add_sub_cancel,← Ib,Cc]
  rw[h4]at h3
  exact h3
def leftR :List Rt→List Rt→List Rt
 | [],k=>k
 | r::l,k=>leftR l (match k with | q::k'=>if q=r then k' else q::k' | []=>[])
theorem BE :∀ l,leftR l []=[]
 | []=>rfl
 | _::l=>BE l
theorem mG :∀ (l:List Rt) (r:Rt) (k:List Rt),leftR (l++[r]) k=(match leftR l k with | q::k'=>if q=r then k' else q::k' | []=>[])
 | [],_,_=>rfl
 | _::l,r,k=>mG l r _
theorem eL :∀ {l k:List Rt},k.Sublist l→l.Nodup→leftR l k=[]
 | [],k,h,_=>by rw[List.sublist_nil.1 h];rfl
 | r::l,[],_,_=>BE _
 | r::l,q::k,h,hn=>by
  rcases List.sublist_cons_iff.1 h with h1 | ⟨_,h1,h2⟩
  · have hq:q∈l:=h1.subset Gn
    have:q≠r:=by rintro rfl;exact(List.nodup_cons.1 hn).1 hq
    show leftR l (if q=r then k else q::k)=[]
    rw[if_neg this]
    exact eL h1 (List.nodup_cons.1 hn).2
  show leftR l (if q=r then k else q::k)=[]
  simp only[List.cons.injEq]at h1
  rw[if_pos h1.1]
  rw[← h1.2]at h2
  exact eL h2 (List.nodup_cons.1 hn).2
theorem gP :∀ {l k:List Rt},leftR l k=[]→k.Sublist l
 | [],_,h=>by rw[leftR]at h;rw[h];exact List.Sublist.refl _
 | r::l,[],_=>List.nil_sublist _
 | r::l,p::k,h=>by
  change leftR l (if p=r then k else p::k)=[]at h
  split at h
  · rename_i e
    exact e▸(gP h).cons_cons r
  exact(gP h).cons r
section
variable {w0 w:World} {bad:Nat→Prop} {es:List Ent} {b:Bo} {q:List Rt}
theorem nR {w':World} {es':List Ent} (H:Hp w w' (bl es) es'):∀ x,¬iW w0 bad es x→x < w.heap.size→x∉bl es∧¬iW w0 bad es' x:=fun x hx hl=>⟨fun hb=>hx (.inr hb),fun h=>by
 rcases h with h | h
 · exact hx (.inl h)
 rcases bl_place H x h with h2 | h2
 · exact hx (.inr h2)
 omega⟩
theorem RJ {w1:World} {S:List Nat} (H:Hp w0 w S es) (hs:w.heap.size≤w1.heap.size):∀ x,w1.heap.size≤x→¬iW w0 bad es x:=fun x hx h=>by
 have:=H.size
 rcases h with h | h
 · omega
 have:=pZ H h;omega
theorem kL.few {s:Nat} {D D1:Dk} {W W1:Wl} {rs:List Blk} (h:kL s D W rs D1 W1) (hk:D.kept.length≤16384):rs.length≤4096∧D1.wait.length≤D.wait.length+1228800:=by
 have h1:=h.lg.room
 have h2:=dO W1.recs
 rw[h.recs,Af]at h2
 rw[h.recs]at h1
 obtain⟨xs,a1,a2,_⟩:=h.wait
 rw[a1,Af]
 omega
@[reducible] def Bo.fold (b:Bo) (q:List Rt):Bo:=⟨b.groups,q,[]⟩
theorem K6 {l k:List Rt} (h:k.Sublist l) (hl:qK l):qK k:=by
 have h1:=cU hl
 exact cV (fun x hx=>(sA hl).1 x (h.subset hx)) (h1.sublist h)
theorem rU.fold {N:Nat} (h:rU b N) (hq:q.Sublist b.rights):rU (b.fold q) N:=⟨h.eight,h.chk,K6 hq h.rts,trivial,Ci hq.length_le h.few⟩
theorem BoB.fold (h:BoB b) (hq:q.Sublist b.rights):BoB (b.fold q):=⟨h.gr,fun r hr=>h.rt r (hq.subset hr)⟩
theorem QC (hq:q.Sublist b.rights):(b.fold q).notes.length≤b.notes.length:=by
 have:=hq.length_le
 show(gN b.groups++q.map ntF).length≤(gN b.groups++b.rights.map ntF).length
 rw[Af,Af,Bl,Bl]
 omega
def RV (s:Nat) (D:Dk) (W:Wl) (b:Bo) (q:List Rt) (x:Int) (D':Dk) (W':Wl) (b':Bo):Prop:=
 (leftR b.rights q≠[]∧x=1∧D'=D∧W'=W∧b'=b)∨
 (leftR b.rights q=[]∧
  ((∃ (i:Nat) (n:Nt) (D1:Dk) (W1:Wl),(b.fold q).notes[i]? =some n∧kL s D W (((b.fold q).notes.take i).map xM) D1 W1∧b'=b∧
   ((x=3∧D.kept.length / 2 < used (W.recs++((b.fold q).notes.take i).map xM)+wgt (xM n).length+16∧D'=D1∧W'=W1)∨
    (x=40∧0 < D.armed∧D'.down=true∧D'.kept=D.kept∧∃ xs,D'.wait=D.wait++xs∧xs.length≤2000000∧sK D.kept.length s (nbs W.recs) xs)))∨
   (∃ D1 W1,kL s D W ((b.fold q).notes.map xM) D1 W1∧BQ D1 W1 W.recs.length x D' W'∧(x=0→b'=b.fold q)∧(x≠0→b'=b))))
end
def isC (w:World) (x:Nat):Prop:=∃ arr T z,w.heap[x]? =some (.cells arr T z)
theorem isC.to {w w':World} {S:List Nat} {es:List Ent} {x:Nat} (h:isC w x) (H:Hp w w' S es) (hx:x∉S):isC w' x:=by
 obtain⟨arr,T,z,h⟩:=h
 exact⟨arr,T,z,(H.frame x (Dw.1 h).1 hx).trans h⟩
theorem Rd.isc {w:World} {A:Option Addr} {n sz:Nat} {xs:List Value} (h:Rd w A n sz xs) (hn:0 < n) (hz:0 < sz):∀ p,A=some p→isC w p.block:=fun p hp=>by
 have hl:0 < xs.length:=by rw[h.len];exact Nat.mul_pos hn hz
 have h1:=h.cells p hp 0 _ (Bq hl)
 rw[Iq]at h1
 exact aK h1
section
variable {w:World} {ok:Nat→Prop} {A:Option Addr} {p:List Value}
theorem Bs.Vq {b:Blk} (h:Bs w ok A b):Bs w (fun x=>ok x∧isC w x) A b:=⟨h.1,fun h0 p hp=>⟨h.2.1 h0 p hp,h.1.isc h0 (by decide) p hp⟩,h.2.2⟩
theorem Sl.Vq {X:Type} {R R':List Value→X→Prop} {sz:Nat} {xs:List X} (h:Sl R sz w ok A xs) (hz:0 < sz) (hR:∀ p x,R p x→R' p x):Sl R' sz w (fun x=>ok x∧isC w x) A xs:=by
 obtain⟨ps,hp,hr,ha,h2⟩:=h
 exact⟨ps,hp,hr,fun h0 p hp=>⟨ha h0 p hp,hr.isc h0 hz p hp⟩,h2.imp hR⟩
theorem Oc.Vq {x:Vt} (h:Oc w ok p x):Oc w (fun x=>ok x∧isC w x) p x:=by
 obtain⟨A,k,rfl,h⟩:=h
 exact⟨A,k,Y,h.Vq⟩
theorem Qu.Vq {x:En} (h:Qu w ok p x):Qu w (fun x=>ok x∧isC w x) p x:=by
 obtain⟨A,k,rfl,h⟩:=h
 exact⟨A,k,Y,h.Vq⟩
theorem Rl.Vq {x:Sv} (h:Rl w ok p x):Rl w (fun x=>ok x∧isC w x) p x:=by
 obtain⟨A1,k1,A2,k2,A3,k3,rfl,h1,h2,h3⟩:=h
 exact⟨A1,k1,A2,k2,A3,k3,Y,h1.Vq (by decide) fun _ _ h=>h.Vq,h2.Vq,h3.Vq (by decide) fun _ _ h=>h.Vq⟩
theorem Sj.Vq {x:Bo} (h:Sj w ok p x):Sj w (fun x=>ok x∧isC w x) p x:=by
 obtain⟨A1,k1,A2,k2,A3,k3,rfl,h1,h2,h3⟩:=h
 exact⟨A1,k1,A2,k2,A3,k3,Y,h1.Vq (by decide) fun _ _ h=>h.Vq,h2.Vq (by decide) fun _ _ h=>h,h3.Vq (by decide) fun _ _ h=>h⟩
end
theorem Xi.loop {w w':World} {bad:Nat→Prop} {L:Nat} {xs:List Value} {bs:List Blk} (h:Xi w bad xs bs) (H:Hp w w' [L] []) (hL:∀ arr T z,w.heap[L]?≠some (.cells arr T z)):Xi w' bad xs bs:=by
 refine⟨h.1,fun i hi=>?_⟩
 obtain⟨B,c,h1,h2,h3⟩:=h.2 i hi
 by_cases h0:bs[i].length=0
 · exact⟨B,c,h1,h2.empty h0,fun h=>absurd h (by omega)⟩
 refine⟨B,c,h1,h2.to H (fun p hp hb=>?_),h3⟩
 obtain⟨arr,T,z,h7⟩:=h2.isc (by omega) (by decide) p hp
 rw[Bc.1 hb]at h7
 exact hL _ _ _ h7
theorem keepD {w w':World} {S:List Nat} {es:List Ent} {D:Nat} {x:Option (List Deferred)} (hD:w.heap[D]? =some (.deferred x)) (H:Hp w w' S es) (hS:∀ b∈S,∃ arr T z,w.heap[b]? =some (.cells arr T z)):w'.heap[D]? =some (.deferred x):=by
 refine(H.frame D (Dw.1 hD).1 (fun hx=>?_)).trans hD
 obtain⟨arr,T,z,hh⟩:=hS D hx
 rw[hD]at hh;cases hh
theorem FV {g a v:Nat} {l:List Nat} (h1:g≠a) (h2:g≠v) (h3:g∉l):g∉a::v::l:=by
 intro h
 rcases Cm.1 h with h | h
 · exact h1 h
 rcases Cm.1 h with h | h
 · exact h2 h
 exact h3 h
theorem Lr.keep0 {w w':World} {m:Mw} {D:Dk} {W:Wl} {es:List Ent} (h:Lr w m D W) (H:Hp w w' [] es):Lr w' m D W:=
 { h with lst:=h.lst.keep H (fun _ hb=>by cases hb) (fun _ hb=> .inl hb) }
theorem LQ {n:Nt} (h:Nc n=0):n.Eb.val.length≤140737488351232∧n.entry.val.length≤140737488351232:=by
 have key:∀ (i:Nat) (b:Blk),(Pn n)[i]? =some (.bytes b)→b.length≤65535:=fun i b hi=>by
  obtain⟨hl,he⟩:=Ea.1 hi
  rcases Jg 65535 b.length with h1 | h1
  · have h2:=DH hl (by rw[he];exact decide_eq_true h1) W0
    unfold Nc at h
    rw[h2]at h
    cases h
  exact h1
 have h1:=key 7 _ rfl
 have h2:=key 9 _ rfl
 exact⟨by omega,by omega⟩
theorem GV (gd gk:Nat) (gw:Option Nat) (cw:Nat) (sp:List Value) (D:Dk) (w0:World) (H0:Hp w0 w0 (bl (Bv gd gk gw cw sp D)) (Bv gd gk gw cw sp D)) (hD:Qq D gw cw sp) (hd:D.down=false) (hwt:D.wait.length≤1000000000) (W:Wl) (s:Nat) (Xo:Lg D.show D.kept.length W s) (ht:W.told=W.recs.length) (htu:W.turn≤2^50) (hfi:W.first≤2^50):
 Aj 28 #[Ah gd] w0 (fun r w'=>∃ (m:Mw) (W':Wl),r=.tuple #[Ah m.gv,Aa 0]∧m.gd=gd∧m.gk=gk∧fK w0 [] m.xs∧Lr w' m D W'∧Hp w0 w' (bl (Bv gd gk gw cw sp D)) (Ba m D W')∧
  W'.recs=W.recs∧W'.first=W.first∧W'.turn=W.turn∧W'.told=W.recs.length∧W'.dead=false∧Lg D.show D.kept.length W' s):=by
 have hus:=bN W.recs
 have hrm:=Xo.room
 have hsz:=Xo.size
 have hmo:=hD.most
 obtain⟨a1,a2,a3,a4,a5,a6,a7,a8⟩:=OO Xo ht
 refine((Rn.open_any gd gk gw cw sp D w0 H0 hD hd Xo.size hwt W.turn W.first s W.recs ?_ (by omega) (by omega) Xo.sl a2 (by omega) (by omega) Xo.long (by omega)).d (fun _ _ h=>h)).mono ?_
 · rw[a1]
 rintro r w' ⟨m,hr,e1,e2,_,e4,hok,H⟩
 exact⟨m,_,hr,e1,e2,e4,hok,H,a4,a5,a6,a7,a8,a3⟩
theorem Xi.new {w0 w:World} {m:Mw} {D:Dk} {W:Wl} (hx:fK w0 [] m.xs) (h:Lr w m D W):Xi w (fun x=>x < w0.heap.size∨x∈bl (Ba m D W)∨w.heap.size≤x) m.xs W.recs:=by
 refine⟨h.lst.1,fun i hi=>?_⟩
 obtain⟨B,c,h1,h2,h3⟩:=h.lst.2 i hi
 refine⟨B,c,h1,h2,fun h0 p hp hb=>?_⟩
 rcases hb with hb | hb | hb
 · rcases hx _ (Fh h1)with hv | hv
   · cases hv
   have:=hv p _ c (by rw[hp])
   omega
 · exact h3 h0 p hp hb
 have:=N2 h2 h0 hp;omega
theorem rU.Yv :∀ {l:List Nt} {b c:Bo} {N:Nat},rU b N→Go.Proofs.YtjoeklkmnfaabaaGreat.xZ b l=some c→rU c (N+l.length)
 | [],b,c,N,h,hr=>by
  simp only[Go.Proofs.YtjoeklkmnfaabaaGreat.xZ,Option.some.injEq]at hr
  exact hr▸h
 | n::l,b,c,N,h,hr=>by
  rw[Go.Proofs.YtjoeklkmnfaabaaGreat.xZ]at hr
  split at hr
  · rename_i d hd
    have h2:=rU.Yv (h.into hd) hr
    rw[Bg,show N+(l.length+1)=N+1+l.length by omega]
    exact h2
  cases hr
theorem AF (ns:List Nt) (i:Nat):used ((ns.take i).map xM)≤used (ns.map xM):=by
 rw[List.map_take]
 have:=pH (ns.map xM) i
 omega
theorem AG {ns:List Nt} {i:Nat} {n:Nt} (h:ns[i]? =some n):used ((ns.take (i+1)).map xM)=used ((ns.take i).map xM)+wgt (xM n).length:=by
 rw[xE h,Ez,uL]
 exact congrArg _ (hZ _)
theorem off {w w':World} {es es':List Ent} (H:Hp w w' (bl es) es'):∀ x,x∉bl es→x < w.heap.size→x∉bl es∧x∉bl es':=fun x hx hl=>⟨hx,fun h=>by
 rcases bl_place H x h with h2 | h2
 · exact hx h2
 omega⟩
theorem mD {w0 w w1:World} {S:List Nat} {es:List Ent} (H:Hp w0 w S es) (hs:w.heap.size≤w1.heap.size):∀ x,w1.heap.size≤x→x∉bl es:=fun x hx h=>by
 have:=pZ H h;omega
@[reducible] def Z7 :Nat→Prop:=fun _=>False
theorem Qn.call {w0 w w':World} {S:List Nat} {bad:Nat→Prop} {v0 v:Vm} {D D':Dk} {W W':Wl} {b b':Bo} {R:List Ent} (h:Qn w0 w S bad v0 v D W b R) (hp:KJ w w' v (iW w0 bad (Ar v D W++R)) (bl (Ar v D W)) D' W' b'):
 ∃ v':Vm,v'.m.gd=v.m.gd∧v'.m.gk=v.m.gk∧v'.gx=v.gx∧Qn w0 w' S bad v0 v' D' W' b' R∧Hp w w' (bl (Ar v D W)) (Ar v' D' W')∧Hp w w' (bl (Ar v D W++R)) (Ar v' D' W'++R):=by
 obtain⟨v',e1,e2,e3,hok,Hd⟩:=hp
 have hsz:=h.H.size
 refine⟨v',e1,e2,e3,⟨e1.trans h.gd,e2.trans h.gk,e3.trans h.gx,hok.keep (Hp.refl w') (fun x hx=>by cases hx) (fun x hx _=>?_) (fun x hx=> .inr (qW hx)),h.H.front Hd⟩,Hd,h.H.here.front Hd⟩
 rcases hx with hx | hx
 · exact .inl ⟨.inl hx,by have:=hx.2;omega⟩
 rw[vS]at hx
 rcases Bj.1 hx with hx | hx
 · exact .inr hx
 have h2:x∈bl (Ar v D W++R):=Pm hx
 exact .inl ⟨.inr h2,pZ h.H h2⟩
theorem Qn.opened {w0 w w':World} {S:List Nat} {v:Vm} {D:Dk} {W:Wl} {b:Bo} {gd gk:Nat} {gw:Option Nat} {cw:Nat} {sp:List Value} {R:List Ent} (H:Hp w0 w S (Bv gd gk gw cw sp D++R)) (hok:Wj w' v D W b (fun x=>x < w.heap.size∨x∈bl (Ar v D W))) (Hd:Hp w w' (bl (Bv gd gk gw cw sp D)) (Ar v D W)):Qn w0 w' S Z7 v v D W b R:=by
 refine⟨Y,Y,Y,hok.keep (Hp.refl w') (fun x hx=>by cases hx) (fun x hx _=>?_) (fun x hx=> .inr (qW hx)),H.front Hd⟩
 rcases hx with hx | hx
 · exact hx.1.elim
 rw[vS]at hx
 rcases Bj.1 hx with hx | hx
 · exact .inr hx
 exact .inl (pZ H (Pm hx))
@[reducible] def aO :Dk:=⟨List.replicate 4096 tL,[],false,0,4096,[]⟩
theorem XD :Lg aO.show aO.kept.length (Wl.anew 0 0 0) 0:=by
 have h:∀ i,i < 4096→aO.show i=tL:=fun i hi=>by
  show(List.replicate 4096 tL).getD i []=tL
  rw[Dz,List.getElem?_replicate,if_pos hi]
  rfl
 have hl:aO.kept.length=4096:=List.length_replicate ..
 rw[hl]
 exact Lg.empty (by decide) (h 0 (by decide)) (h 1 (by decide))
structure Lov (D:Dk) (W:Wl) (b:Bo) (L:List Nt) (s c:Nat):Prop where
 lg:Lg D.show D.kept.length W s
 up:D.down=false
 dead:W.dead=false
 recs:W.recs=L.map xM
 nts:∀ n∈L,NtB n∧Nc n=0
 rep:xZ Bo.empty L=some b
 size:D.kept.length=4096
 wait:D.wait.length≤c
 first:W.first≤c
 turn:W.turn≤c
section
variable {D D':Dk} {W W':Wl} {b b':Bo} {L:List Nt} {s c:Nat}
theorem Lov.few (h:Lov D W b L s c):L.length≤1024:=by
 have h1:=h.lg.room
 have h2:=dO W.recs
 rw[h.size]at h1
 rw[h.recs,Bl]at h2
 rw[h.recs]at h1
 omega
theorem Lov.good (h:Lov D W b L s c):rU b L.length:=by
 have:=rU.Yv rU.empty h.rep
 rwa [Au]at this
theorem Lov.bob (h:Lov D W b L s c):BoB b:=BoB.empty.Yv (fun n hn=>(h.nts n hn).1) h.rep
theorem Lov.many (h:Lov D W b L s c):b.notes.length≤L.length+144:=LP h.good h.rep
theorem K5 {l:List Rt} (h:qK l):l.Nodup:=by
 refine(cU h).imp fun {a b} hab he=>?_
 subst he
 rw[Rh]at hab
 cases hab
theorem G0 {l:List Rt} (h:qK l):leftR l l=[]:=eL (List.Sublist.refl l) (K5 h)
end
theorem LZ {E:Dk} (h:E.armed=0):E.hit.2=false:=(mI h).2
theorem Va {D:Dk} (hd:D.down=false):(D.sync.2≠0∧0 < D.armed∧D.sync.1.kept=D.kept∧D.sync.1.wait=D.wait∧D.sync.1.down=true)∨(D.sync.2=0∧D.sync.1.kept=flush D.kept D.wait∧D.sync.1.wait=[]∧D.sync.1.down=false∧(D.armed=0→D.sync.1.armed=0)):=by
 unfold Dk.sync
 rw[if_neg (by rw[hd];exact Oe)]
 split
 · rename_i h
   refine .inl ⟨(show(40:Nat)≠0 by decide),?_,gQ _,lW _,Y⟩
   rcases Jr D.armed with h0 | h0
   · rw[LZ h0]at h;cases h
   exact h0
 refine .inr ⟨Y,by show flush D.hit.1.kept D.hit.1.wait=_;rw[gQ,lW],Y,(E6 D).trans hd,fun h0=>(mI h0).1⟩
theorem mU (D:Dk) (keep:List Int):(D.crash keep).kept=tears D.kept D.wait keep D.wait.length:=rfl
def Flk (D:Dk) (P:Wl→Prop):Prop:=D.kept.length=4096∧D.wait.length≤1000000000∧∀ keep,∃ W s,Bse (vk (D.crash keep).kept) 4096 W s∧P W
section
variable {D D':Dk} {W W1 W':Wl} {s gone:Nat} {x:Int}
theorem ZY (h:Lg D.show 4096 W s) (hb:Bse (vk D.kept) 4096 W1 s) (hk:D.kept.length=4096) (hwl:D.wait.length≤1000000000) (hf:sK 4096 s (nbs W1.recs) D.wait) (e1:W1.first=W.first) (e2:W1.turn=W.turn) (hd:D.down=false) (Ny:W.dead=false) (hg:gone≤W.recs.length) (ht:W.turn+1≤2^50) (hfi:W.first≤2^50) (hr:BQ D W gone x D' W'):
 (x=0∧D'.down=false∧(D.armed=0→D'.armed=0)∧D'.wait=[]∧D'.kept.length=4096∧W'.dead=false∧W'.recs=W.recs.drop gone∧W'.first=W.first+gone∧W'.turn≤W.turn+1∧∃ s',Bse (vk D'.kept) 4096 W' s')∨
 (x=40∧0 < D.armed∧D'.down=true∧Flk D' fun V=>V=W1∨V=W.tell gone):=by
 have hdd:(W.dead || D.down)=false:=by rw[hd,Ny];rfl
 have hfl:=hb.flush hf
 have hlf:Lg (vk (flush D.kept D.wait)) 4096 W s:=h
 have hlen:(flush D.kept D.wait).length=4096:=by rw[Gh];exact hk
 have hsy:=Va hd
 have hdl:(W.head gone).length=64:=jI _ _ _ _
 rcases hr with ⟨h1,_⟩ | ⟨_,hr⟩
 · rw[hdd]at h1;cases h1
 have bad:∀ E:Dk,E.kept=flush D.kept D.wait→E.wait=[((W.turn+1) % 2,W.head gone)]→Flk E fun V=>V=W1∨V=W.tell gone:=by
  intro E k1 k2
  refine⟨by rw[k1];exact hlen,by rw[k2];exact(by decide:1≤1000000000),fun keep=>?_⟩
  rw[mU,k1,k2]
  rcases hfl.tear hlf e2.symm hg hfi (by decide) hlen (by rw[e2];exact ht) keep with h3 | ⟨s3,h3⟩
  · exact⟨W1,s,h3,.inl Y⟩
  exact⟨_,s3,h3,.inr Y⟩
 have wr:D.sync.2=0→(tD D.sync.1 W gone).1.kept=flush D.kept D.wait∧(tD D.sync.1 W gone).1.wait=[((W.turn+1) % 2,W.head gone)]∧(((tD D.sync.1 W gone).2=0∧(tD D.sync.1 W gone).1.down=false∧(D.armed=0→(tD D.sync.1 W gone).1.armed=0))∨((tD D.sync.1 W gone).2=40∧0 < D.sync.1.armed∧(tD D.sync.1 W gone).1.down=true)):=by
  intro h0
  rcases hsy with ⟨a1,_⟩ | ⟨_,a2,a3,a4,a5⟩
  · exact absurd h0 a1
  have hw:=iA (D:=D.sync.1) (a:=(W.turn+1) % 2) (b:=W.head gone) a4 (by rw[a2,hlen];omega) hdl
  refine⟨hw.1.trans a2,hw.2.1.trans (by rw[a3];rfl),?_⟩
  rcases hw.2.2 with h2 | h2
  · exact .inl ⟨h2.1,h2.2.1,fun h0=>h2.2.2 (a5 h0)⟩
  exact .inr h2
 rcases hr with ⟨hx,hst,hr⟩ | ⟨hx,hr,_⟩
 · rcases hsy with ⟨a1,_⟩ | ⟨_,a2,a3,a4,a5⟩
   · exact absurd hst a1
   refine .inl ?_
   rcases hr with ⟨hte,rfl,rfl⟩ | ⟨hte,⟨t1,t2,t3⟩,rfl⟩
   · have hst2:¬(0 < gone∨W'.told < W'.recs.length):=of_decide_eq_false hte
     have htl:=h.told
     have hg0:gone=0:=by omega
     subst hg0
     exact⟨hx,a4,a5,a3,by rw[a2];exact hlen,Ny,Y,Y,by omega,s,by rw[a2];exact⟨hlf,by omega,e2▸hfl.slt,by omega⟩⟩
   obtain⟨b1,b2,b3⟩:=wr hst
   rcases b3 with ⟨_,b4,b5⟩ | ⟨b4,_⟩
   · rcases Va b4 with ⟨c1,_⟩ | ⟨_,c2,c3,c4,c5⟩
     · exact absurd t2 c1
     rw[t3]
     rw[b1,b2]at c2
     have h5:=hfl.tell hlf e2.symm hg hfi (by decide) hlen (by rw[e2];exact ht)
     exact⟨hx,c4,fun h0=>c5 (b5 h0),c3,by rw[c2,Gh];exact hlen,Ny,Y,Y,Ai _,_,by rw[c2];exact h5⟩
   omega
 have harm:0 < D.armed:=by
  rcases Jr D.armed with h0 | h0
  · have h1:=WQ (s:=s) (D:=D) (W:=W) (gone:=gone) (x:=x) (D':=D') (W':=W') (by rw[hk];exact h) hd h0 Ny hg (by omega) hfi (by omega) (.inr ⟨hdd,.inr ⟨hx,hr,‹_›⟩⟩)
    have:=h1.1
    omega
  exact h0
 refine .inr ⟨hx,harm,?_⟩
 rcases hr with ⟨h1,rfl⟩ | ⟨h1,_,hr⟩
 · rcases hsy with ⟨_,_,a2,a3,a4⟩ | ⟨a1,_⟩
   · refine⟨a4,by rw[a2];exact hk,by rw[a3];exact hwl,fun keep=>⟨W1,s,?_,.inl Y⟩⟩
     rw[mU,a2,a3]
     exact hb.fall hf keep _
   exact absurd a1 h1
 obtain⟨b1,b2,b3⟩:=wr h1
 rcases hr with ⟨h2,rfl⟩ | ⟨h2,h3,rfl⟩
 · rcases b3 with ⟨b4,_⟩ | ⟨_,_,b4⟩
   · exact absurd b4 h2
   exact⟨b4,bad _ b1 b2⟩
 rcases b3 with ⟨_,b4,_⟩ | ⟨b4,_⟩
 · rcases Va b4 with ⟨_,_,c2,c3,c4⟩ | ⟨c1,_⟩
   · exact⟨c4,bad _ (c2.trans b1) (c3.trans b2)⟩
   exact absurd c1 h3
 omega
end
structure Rf (D:Dk) (W:Wl) (b:Bo) (L:List Nt) (s c:Nat) (W1:Wl):Prop where
 Ls:Lov D W b L s c
 bse:Bse (vk D.kept) 4096 W1 s
 recs:W1.recs=(L.take W.told).map xM
 first:W1.first=W.first
 turn:W1.turn=W.turn
 fresh:sK 4096 s (nbs W1.recs) D.wait
section
variable {D D':Dk} {W W1 W':Wl} {b b':Bo} {L:List Nt} {s c:Nat}
theorem Rf.lg (h:Rf D W b L s c W1):Lg D.show 4096 W s:=by have:=h.Ls.lg;rwa [h.Ls.size]at this
theorem Rf.less (h:Rf D W b L s c W1):nbs W1.recs≤nbs W.recs:=by
 rw[h.recs,h.Ls.recs,List.map_take]
 have:=jX (L.map xM) W.told
 omega
theorem Rf.whole (h:Lov D W b L s c) (hw:D.wait=[]) (hb:Bse (vk D.kept) 4096 W s):Rf D W b L s c W:=by
 refine⟨h,hb,?_,Y,Y,fun p hp=>by rw[hw]at hp;cases hp⟩
 have h1:=hb.told
 rw[h.recs,Bl]at h1
 rw[h.recs,Ej (by omega)]
theorem Rf.grown {l:List Nt} (h:Rf D W b L s c W1) (hg:kL s D W (l.map xM) D' W') (hnt:∀ n∈l,NtB n∧Nc n=0) (hb:xZ b l=some b'):Rf D' W' b' (L++l) s (c+1228800) W1:=by
 have hl:=h.Ls
 have hfew:=hg.few (by rw[hl.size];decide)
 have htl:=h.lg.told
 rw[hl.recs,Bl]at htl
 obtain⟨xs,w1,w2,w3⟩:=hg.wait
 refine⟨⟨by rw[hg.kept];exact hg.lg,hg.up,hg.dead,by rw[hg.recs,hl.recs,Ez],fun n hn=>?_,by rw[pM hl.rep];exact hb,by rw[hg.kept];exact hl.size,by have:=hl.wait;omega,by rw[hg.first];have:=hl.first;omega,by rw[hg.turn];have:=hl.turn;omega⟩,by rw[hg.kept];exact h.bse,?_,h.first.trans hg.first.symm,h.turn.trans hg.turn.symm,?_⟩
 · rcases Bj.1 hn with hn | hn
   · exact hl.nts n hn
   exact hnt n hn
 · rw[h.recs,hg.told,Pz htl]
 rw[w1]
 rw[hl.size]at w3
 exact h.fresh.app (w3.less h.less)
theorem Rf.cut (h:Rf D W b L s c W1) (hk:D'.kept=D.kept) {xs:List (Nat×Blk)} (hw:D'.wait=D.wait++xs) (hc:c≤100000000) (hx:xs.length≤2000000) (hf:sK 4096 s (nbs W.recs) xs):Flk D' fun V=>V=W1:=by
 refine⟨by rw[hk];exact h.Ls.size,by rw[hw,Af];have:=h.Ls.wait;omega,fun keep=>⟨W1,s,?_,Y⟩⟩
 rw[mU,hk,hw]
 exact h.bse.fall (h.fresh.app (hf.less h.less)) keep _
theorem Rf.fall (h:Rf D W b L s c W1) (hc:c≤100000000):Flk D fun V=>V=W1:=h.cut (xs:=[]) rfl (by simp) hc (Am _) fun p hp=>by cases hp
end
theorem Flk.mono {D:Dk} {P Q:Wl→Prop} (h:Flk D P) (hPQ:∀ V,P V→Q V):Flk D Q:=
 ⟨h.1,h.2.1,fun keep=>by obtain⟨W,s,h1,h2⟩:=h.2.2 keep;exact⟨W,s,h1,hPQ W h2⟩⟩
theorem QB {b:Bo} {q:List Rt} (hq:q.Sublist b.rights) {n:Nt} (h:n∈(b.fold q).notes):n∈b.notes:=by
 have h1:n∈gN b.groups++q.map ntF:=h
 show n∈gN b.groups++b.rights.map ntF
 rcases Bj.1 h1 with h1 | h1
 · exact Qa _ h1
 exact Nl _ ((hq.map ntF).subset h1)
section
variable {D D':Dk} {W W1 W':Wl} {b b':Bo} {L:List Nt} {s c:Nat} {x:Int}
theorem Rf.save {l:List Nt} (h:Rf D W b L s c W1) (hc:c≤98000000) (hr:RR s D W b l x D' W' b') (hnt:∀ n∈l,NtB n):
 (x=22∧(∃ n∈l,¬tM n)∧D'=D∧W'=W∧b'=b)∨
 (x=21∧(∀ n∈l,tM n)∧xZ b l=none∧D'=D∧W'=W∧b'=b)∨
 ((∀ n∈l,tM n)∧∃ bz,xZ b l=some bz∧
  ((x=3∧2032 < used (W.recs++l.map xM)∧∃ i,i < l.length∧xZ b (l.take i)=some b'∧Rf D' W' b' (L++l.take i) s (c+1228800) W1)∨
   (x=0∧b'=bz∧(D.armed=0→D'.armed=0)∧D'.wait=[]∧W'.recs=(L++l).map xM∧∃ s',Rf D' W' bz (L++l) s' (c+1) W')∨
   (x=40∧0 < D.armed∧D'.down=true∧(∃ i,xZ b (l.take i)=some b')∧Flk D' fun V=>V=W1∨(V.recs=(L++l).map xM∧V.first=W.first∧V.turn=W.turn+1)))):=by
 have hl:=h.Ls
 have hfi:=hl.first
 have htu:=hl.turn
 rcases hr with ⟨hns,rfl,rfl,rfl,rfl⟩ | ⟨hsh,hb0,rfl,rfl,rfl,rfl⟩ | ⟨hsh,bz,hb1,hr⟩
 · exact .inl ⟨Y,hns,Y,Y,Y⟩
 · exact .inr (.inl ⟨Y,hsh,hb0,Y,Y,Y⟩)
 refine .inr (.inr ⟨hsh,bz,hb1,?_⟩)
 rcases hr with ⟨i,n,D1,Wg,hi,hg,hbi,hr⟩ | ⟨D1,Wg,hg,rfl,hr⟩
 · have hil:=(Ea.1 hi).1
   rcases hr with ⟨rfl,hfull,rfl,rfl⟩ | ⟨rfl,harm,hdn,hkp,xs,hw,hxl,hf⟩
   · refine .inl ⟨Y,?_,i,hil,hbi,h.grown hg (fun n hn=>⟨hnt n (Fa hn),(hsh n (Fa hn)).1⟩) hbi⟩
     rw[hl.size]at hfull
     have h1:used (W.recs++(l.take i).map xM)+wgt (xM n).length≤used (W.recs++l.map xM):=by
      have h2:=AF l (i+1)
      rw[AG hi]at h2
      rw[uL,uL]
      omega
     omega
   rw[hl.size]at hf
   exact .inr (.inr ⟨Y,harm,hdn,⟨i,hbi⟩,(h.cut hkp hw (by omega) hxl hf).mono fun V hV=> .inl hV⟩)
 have hgr:=h.grown hg (fun n hn=>⟨hnt n hn,(hsh n hn).1⟩) hb1
 have hgl:=hgr.Ls
 have e1:=hg.first
 have e2:=hg.turn
 rcases ZY hgr.lg hgr.bse hgl.size (by have:=hgl.wait;omega) hgr.fresh hgr.first hgr.turn hgl.up hgl.dead (Am _) (by omega) (by omega) hr with ⟨a1,a2,a3,a4,a5,a6,a7,a8,a9,s',a10⟩ | ⟨a1,a2,a3,a4⟩
 · rw[Ei,hgl.recs]at a7
   have hk:Rf D' W' b' (L++l) s' (c+1) W':=Rf.whole ⟨by rw[dQ a4,a5];exact a10.lg,a2,a6,a7,hgl.nts,hgl.rep,a5,by rw[a4];exact Am _,by omega,by omega⟩ a4 a10
   exact .inr (.inl ⟨a1,Y,fun h0=>a3 (hg.arm h0),a4,a7,s',hk⟩)
 have harm:0 < D.armed:=by
  rcases Jr D.armed with h0 | h0
  · have:=hg.arm h0;omega
  exact h0
 refine .inr (.inr ⟨a1,harm,a3,⟨l.length,by rw[Cc];exact hb1⟩,a4.mono fun V hV=>?_⟩)
 rcases hV with hV | rfl
 · exact .inl hV
 refine .inr ⟨?_,?_,?_⟩
 · show Wg.recs.drop 0=_
   rw[Ei,hgl.recs]
 · show Wg.first+0=_
   omega
 show Wg.turn+1=_
 omega
theorem Rf.fold {q:List Rt} (h:Rf D W b L s c W1) (hc:c≤98000000) (hr:RV s D W b q x D' W' b'):
 (x=1∧leftR b.rights q≠[]∧D'=D∧W'=W∧b'=b)∨
 (leftR b.rights q=[]∧
  ((x=3∧2032 < used (W.recs++(b.fold q).notes.map xM)∧b'=b∧∃ l,Rf D' W' b (L++l) s (c+1228800) W1)∨
   (x=0∧b'=b.fold q∧(D.armed=0→D'.armed=0)∧D'.wait=[]∧∃ s',Rf D' W' (b.fold q) (b.fold q).notes s' (c+2048) W')∨
   (x=40∧0 < D.armed∧D'.down=true∧b'=b∧Flk D' fun V=>V=W1∨(V.recs=(b.fold q).notes.map xM∧V.first=W.first+W.recs.length∧V.turn=W.turn+1)))):=by
 have hl:=h.Ls
 have hfi:=hl.first
 have htu:=hl.turn
 have hfew:=hl.few
 rcases hr with ⟨hq,rfl,rfl,rfl,rfl⟩ | ⟨hq,hr⟩
 · exact .inl ⟨Y,hq,Y,Y,Y⟩
 refine .inr ⟨hq,?_⟩
 have hsub:=gP hq
 have hgf:=hl.good.fold hsub
 have hown:=eC hgf (hl.bob.fold hsub)
 have hself:∀ m,(∀ n∈m,n∈(b.fold q).notes)→xZ b m=some b:=fun m hm=>AR hl.good m fun n hn=>QB hsub (hm n hn)
 rcases hr with ⟨i,n,D1,Wg,hi,hg,rfl,hr⟩ | ⟨D1,Wg,hg,hr,hb0,hb1⟩
 · have hmem:∀ m∈((b'.fold q).notes.take i),m∈(b'.fold q).notes:=fun m hm=>Fa hm
   rcases hr with ⟨rfl,hfull,rfl,rfl⟩ | ⟨rfl,harm,hdn,hkp,xs,hw,hxl,hf⟩
   · refine .inl ⟨Y,?_,Y,_,h.grown hg (fun m hm=>⟨(hown m (hmem m hm)).1,(hown m (hmem m hm)).2.1⟩) (hself _ hmem)⟩
     rw[hl.size]at hfull
     have h1:used (W.recs++((b'.fold q).notes.take i).map xM)+wgt (xM n).length≤used (W.recs++(b'.fold q).notes.map xM):=by
      have h2:=AF (b'.fold q).notes (i+1)
      rw[AG hi]at h2
      rw[uL,uL]
      omega
     omega
   rw[hl.size]at hf
   exact .inr (.inr ⟨Y,harm,hdn,Y,(h.cut hkp hw (by omega) hxl hf).mono fun V hV=> .inl hV⟩)
 have hgr:=h.grown hg (fun m hm=>⟨(hown m hm).1,(hown m hm).2.1⟩) (hself _ fun m hm=>hm)
 have hgl:=hgr.Ls
 have e1:=hg.first
 have e2:=hg.turn
 have hrl:W.recs.length=L.length:=by rw[hl.recs,Bl]
 have hle:W.recs.length≤Wg.recs.length:=by rw[hg.recs,Af];omega
 rcases ZY hgr.lg hgr.bse hgl.size (by have:=hgl.wait;omega) hgr.fresh hgr.first hgr.turn hgl.up hgl.dead hle (by omega) (by omega) hr with ⟨a1,a2,a3,a4,a5,a6,a7,a8,a9,s',a10⟩ | ⟨a1,a2,a3,a4⟩
 · rw[hg.recs,Gg rfl]at a7
   have hk:Rf D' W' (b.fold q) (b.fold q).notes s' (c+2048) W':=Rf.whole ⟨by rw[dQ a4,a5];exact a10.lg,a2,a6,a7,fun n hn=>⟨(hown n hn).1,(hown n hn).2.1⟩,bM hgf,a5,by rw[a4];exact Am _,by omega,by omega⟩ a4 a10
   exact .inr (.inl ⟨a1,hb0 a1,fun h0=>a3 (hg.arm h0),a4,s',hk⟩)
 have harm:0 < D.armed:=by
  rcases Jr D.armed with h0 | h0
  · have:=hg.arm h0;omega
  exact h0
 refine .inr (.inr ⟨a1,harm,a3,hb1 (by omega),a4.mono fun V hV=>?_⟩)
 rcases hV with hV | rfl
 · exact .inl hV
 refine .inr ⟨?_,?_,?_⟩
 · show Wg.recs.drop W.recs.length=_
   rw[hg.recs,Gg rfl]
 · show Wg.first+W.recs.length=_
   omega
 show Wg.turn+1=_
 omega
end
theorem Bse.start {D:Dk} {keep:List Int} {W:Wl} {s:Nat} (h:Bse (vk (D.crash keep).kept) 4096 W s) (hk:D.kept.length=4096):
 Lg (D.crash keep).start.show (D.crash keep).start.kept.length W s∧(D.crash keep).start.down=false∧(D.crash keep).start.wait=[]∧(D.crash keep).start.armed=0∧(D.crash keep).start.kept.length=4096∧Bse (vk (D.crash keep).start.kept) 4096 W s:=by
 have hkk:(D.crash keep).start.kept=(D.crash keep).kept:=rfl
 have hl:(D.crash keep).start.kept.length=4096:=by rw[hkk,mU,qY];exact hk
 have hw:(D.crash keep).start.wait=[]:=rfl
 exact⟨by rw[dQ hw,hl];exact h.lg,NQ _,hw,Y,hl,h⟩
theorem Rf.opened {D:Dk} {W W':Wl} {L:List Nt} {b:Bo} {s c:Nat} (h:Bse (vk D.kept) 4096 W s) (hup:D.down=false) (hw:D.wait=[]) (hk:D.kept.length=4096) (hr:W.recs=L.map xM) (hnt:∀ n∈L,NtB n∧Nc n=0) (hb:xZ Bo.empty L=some b) (hf:W.first≤c) (ht:W.turn≤c)
 (f1:W'.recs=W.recs) (f2:W'.first=W.first) (f3:W'.turn=W.turn) (f4:W'.told=W.recs.length) (f5:W'.dead=false) (Xo:Lg D.show D.kept.length W' s):Rf D W' b L s c W':=by
 have hl:=h.low
 refine Rf.whole ⟨Xo,hup,f5,f1.trans hr,hnt,hb,hk,by rw[hw];exact Am _,by omega,by omega⟩ hw ⟨?_,by rw[f4,f1],by rw[f3];exact h.slt,by omega⟩
 rw[dQ hw,hk]at Xo
 exact Xo
theorem UZ :Bse (vk aO.kept) 4096 (Wl.anew 0 0 0) 0:=by
 have h:∀ i,i < 4096→vk aO.kept i=tL:=fun i hi=>by
  show(List.replicate 4096 tL).getD i []=tL
  rw[Dz,List.getElem?_replicate,if_pos hi]
  rfl
 have h0:=h 0 (by decide)
 have h1:=h 1 (by decide)
 exact⟨Lg.empty (by decide) h0 h1,Y,⟨by show Cur 0 (vk aO.kept 0);rw[h0];exact Cur.zero,by show Oth 0 (vk aO.kept 1);rw[h1];exact Oth.zero⟩,Am _⟩
section
variable {D D':Dk} {W:Wl}
theorem Lr.disk {w0 w w':World} {S:List Nat} {m:Mw} (h:Lr w m D W) (H:Hp w0 w S (Ba m D W)) (hp:BU w w' (bl (Bv m.gd m.gk m.gw m.cw m.sp D)) m.gd m.gk D') (hk:D'.kept.length=D.kept.length):vY w w' (bl (Ba m D W)) m D' W:=by
 obtain⟨gw,cw,sp,hd,Hd⟩:=hp
 have H':Hp w w' (bl (Ba m D W)) (Ba { m with gw:=gw,cw:=cw,sp:=sp } D' W):=H.here.front Hd
 refine⟨{ m with gw:=gw,cw:=cw,sp:=sp },rfl,rfl,rfl,fK.refl _ _,{ h with d:=hd,lst:=h.lst.keep Hd (fun b hb=>by rw[vS];exact Bj.2 (.inl hb)) (fun b hb=>?_),size:=by rw[hk];exact h.size,fin:=by rw[hk];exact h.fin },H'⟩
 rcases bl_place H' b hb with h2 | h2
 · exact .inl h2
 exact .inr h2
theorem Rf.arm {W1:Wl} {b:Bo} {L:List Nt} {s c:Nat} (h:Rf D W b L s c W1) (hk:D'.kept=D.kept) (hw:D'.wait=D.wait) (hd:D'.down=false):Rf D' W b L s c W1:=by
 have hs:D'.show=D.show:=funext fun i=>by unfold Dk.show;rw[hk,hw]
 have hl:=h.Ls
 exact⟨{ hl with lg:=by rw[hs,hk];exact hl.lg,up:=hd,size:=by rw[hk];exact hl.size,wait:=by rw[hw];exact hl.wait },by rw[hk];exact h.bse,h.recs,h.first,h.turn,by rw[hw];exact h.fresh⟩
end
def ZL (b c:Bo):Prop:=b.groups=c.groups∧b.rights=c.rights
theorem ZL.rfl' {b:Bo}:ZL b b:=⟨rfl,rfl⟩
def OAlk :Option Bo→Option Bo→Prop
 | none,none=>True
 | some b,some c=>ZL b c
 | _,_=>False
theorem PO {b c:Bo} (h:ZL b c) (n:Nt):OAlk (b.into n) (c.into n):=by
 obtain⟨g,r,l⟩:=b
 obtain⟨g2,r2,m⟩:=c
 obtain⟨h1,h2⟩:=h
 subst h1 h2
 unfold Bo.into
 by_cases h5:n.kind=5
 · rw[if_pos h5,if_pos h5]
   by_cases hm:nK n.right
   · rw[if_pos hm,if_pos hm];exact⟨rfl,rfl⟩
   rw[if_neg hm,if_neg hm];trivial
 rw[if_neg h5,if_neg h5]
 by_cases hk:n.kind < 1∨4 < n.kind∨n.group < 0∨8≤n.group
 · rw[if_pos hk,if_pos hk];trivial
 rw[if_neg hk,if_neg hk]
 dsimp only
 cases hg:g[n.group.toNat]? with
 | none=>trivial
 | some s=>
  dsimp only
  by_cases hc:chk (s.goes n)=true
  · rw[if_pos hc,if_pos hc];exact⟨rfl,rfl⟩
  rw[if_neg hc,if_neg hc];trivial
theorem cX :∀ (l:List Nt) {b c:Bo},ZL b c→OAlk (xZ b l) (xZ c l)
 | [],_,_,h=>h
 | n::l,b,c,h=>by
  have h1:=PO h n
  unfold xZ
  cases hb:b.into n with
  | none=>
   rw[hb]at h1
   cases hc:c.into n with
   | none=>trivial
   | some c'=>rw[hc]at h1;exact h1.elim
  | some b'=>
   rw[hb]at h1
   cases hc:c.into n with
   | none=>rw[hc]at h1;exact h1.elim
   | some c'=>rw[hc]at h1;exact cX l h1
theorem K9 {b c b':Bo} {l:List Nt} (h:ZL b c) (hb:xZ b l=some b'):∃ c',xZ c l=some c'∧ZL b' c':=by
 have h1:=cX l h
 rw[hb]at h1
 cases hc:xZ c l with
 | none=>rw[hc]at h1;exact h1.elim
 | some c'=>rw[hc]at h1;exact⟨c',rfl,h1⟩
theorem LA {b c:Bo} {l:List Nt} (h:ZL b c) (hb:xZ b l=none):xZ c l=none:=by
 have h1:=cX l h
 rw[hb]at h1
 cases hc:xZ c l with
 | none=>rfl
 | some c'=>rw[hc]at h1;exact h1.elim
theorem K8 {l m:List Nt} {b c:Bo} (h:xZ b l=some c) (hn:xZ c m=none):xZ b (l++m)=none:=by rw[pM h];exact hn
def Sur (V:Wl) (ba:Bo):Prop:=∃ L1 b1,V.recs=L1.map xM∧(∀ n∈L1,NtB n∧Nc n=0)∧xZ Bo.empty L1=some b1∧ZL b1 ba
def ZU (D:Dk) (all:List Nt) (sure c:Nat):Prop:=
 Flk D fun V=>V.first≤c∧V.turn≤c∧∃ n ba,sure≤n∧n≤all.length∧xZ Bo.empty (all.take n)=some ba∧Sur V ba
structure Vu (D:Dk) (W:Wl) (b:Bo) (L:List Nt) (s c:Nat) (W1:Wl) (all:List Nt):Prop where
 kp:Rf D W b L s c W1
 rep:∃ ba,xZ Bo.empty all=some ba∧ZL b ba∧Sur W1 ba
section
variable {D D':Dk} {W W1 W':Wl} {b b':Bo} {L l all:List Nt} {s c:Nat} {x:Int}
theorem Vu.fall (h:Vu D W b L s c W1 all) (hc:c≤100000000):ZU D all all.length c:=by
 obtain⟨ba,h1,_,h3⟩:=h.rep
 refine(h.kp.fall hc).mono fun V hV=>?_
 subst hV
 have f1:=h.kp.first
 have f2:=h.kp.turn
 have f3:=h.kp.Ls.first
 have f4:=h.kp.Ls.turn
 exact⟨by omega,by omega,all.length,ba,Ai _,Ai _,by rw[Cc];exact h1,h3⟩
theorem Vu.less (h:Vu D W b L s c W1 all) {c':Nat} (hc:c≤c'):Vu D W b L s c' W1 all:=by
 have hl:=h.kp.Ls
 exact⟨{ h.kp with Ls:={ hl with wait:=Ci hl.wait hc,first:=Ci hl.first hc,turn:=Ci hl.turn hc } },h.rep⟩
theorem ZU.less {sure c':Nat} (h:ZU D all sure c) (hc:c≤c'):ZU D all sure c':=
 h.mono fun V hV=>⟨Ci hV.1 hc,Ci hV.2.1 hc,hV.2.2⟩
theorem Vu.save (h:Vu D W b L s c W1 all) (hc:c≤98000000) (hr:RR s D W b l x D' W' b') (hnt:∀ n∈l,NtB n):
 (x=22∧(∃ n∈l,¬tM n)∧D'=D∧W'=W∧b'=b)∨
 (x=21∧(∀ n∈l,tM n)∧xZ Bo.empty (all++l)=none∧D'=D∧W'=W∧b'=b)∨
 ((∀ n∈l,tM n)∧(∃ bz,xZ Bo.empty (all++l)=some bz)∧
  ((x=3∧0 < l.length)∨
   (x=0∧∃ s',Vu D' W' b' (L++l) s' (c+1) W' (all++l))∨
   (x=40∧D'.down=true∧ZU D' (all++l) all.length (c+1)))):=by
 obtain⟨ba,r1,r2,r3⟩:=h.rep
 rcases h.kp.save hc hr hnt with h1 | ⟨h1,h2,h3,h4⟩ | ⟨hsh,bz,hbz,h1⟩
 · exact .inl h1
 · exact .inr (.inl ⟨h1,h2,K8 r1 (LA r2 h3),h4⟩)
 obtain⟨bc,hbc,hal⟩:=K9 r2 hbz
 have hall:xZ Bo.empty (all++l)=some bc:=by rw[pM r1];exact hbc
 refine .inr (.inr ⟨hsh,⟨bc,hall⟩,?_⟩)
 rcases h1 with ⟨h2,_,i,h3,_⟩ | ⟨h2,rfl,_,_,h5,s',h6⟩ | ⟨h2,_,h3,_,h4⟩
 · exact .inl ⟨h2,by omega⟩
 · refine .inr (.inl ⟨h2,s',h6,bc,hall,hal,?_⟩)
   exact⟨L++l,b',h5,h6.Ls.nts,h6.Ls.rep,hal⟩
 refine .inr (.inr ⟨h2,h3,h4.mono fun V hV=>?_⟩)
 have f1:=h.kp.first
 have f2:=h.kp.turn
 have f3:=h.kp.Ls.first
 have f4:=h.kp.Ls.turn
 rcases hV with rfl | ⟨h5,h6,h7⟩
 · exact⟨by omega,by omega,all.length,ba,Ai _,by rw[Af];omega,by rw[Jl Y];exact r1,r3⟩
 refine⟨by omega,by omega,(all++l).length,bc,by rw[Af];omega,Ai _,by rw[Cc];exact hall,L++l,bz,h5,fun n hn=>?_,by rw[pM h.kp.Ls.rep];exact hbz,hal⟩
 rcases Bj.1 hn with hn | hn
 · exact h.kp.Ls.nts n hn
 exact⟨hnt n hn,(hsh n hn).1⟩
theorem Vu.fold (h:Vu D W b L s c W1 all) (hc:c≤98000000) (hr:RV s D W b b.rights x D' W' b'):
 (x=3∧b'=b∧∃ L',Vu D' W' b L' s (c+1228800) W1 all)∨
 (x=0∧b'=b.fold b.rights∧∃ s',Vu D' W' (b.fold b.rights) (b.fold b.rights).notes s' (c+2048) W' all)∨
 (x=40∧D'.down=true∧ZU D' all all.length (c+2048)):=by
 obtain⟨ba,r1,r2,r3⟩:=h.rep
 have hl:=h.kp.Ls
 have hfew:=hl.few
 have hrl:W.recs.length=L.length:=by rw[hl.recs,Bl]
 have hgf:=hl.good.fold (List.Sublist.refl b.rights)
 have hown:=eC hgf (hl.bob.fold (List.Sublist.refl b.rights))
 have hmk:xZ Bo.empty (b.fold b.rights).notes=some (b.fold b.rights):=bM hgf
 have hal:ZL (b.fold b.rights) ba:=⟨r2.1,r2.2⟩
 rcases h.kp.fold hc hr with ⟨_,h1,_⟩ | ⟨_,h1⟩
 · exact absurd (G0 hl.good.rts) h1
 rcases h1 with ⟨h1,_,h2,L',h3⟩ | ⟨h1,h2,_,_,s',h3⟩ | ⟨h1,_,h2,_,h3⟩
 · exact .inl ⟨h1,h2,_,h3,ba,r1,r2,r3⟩
 · exact .inr (.inl ⟨h1,h2,s',h3,ba,r1,hal,_,_,h3.Ls.recs,h3.Ls.nts,hmk,hal⟩)
 refine .inr (.inr ⟨h1,h2,h3.mono fun V hV=>?_⟩)
 have f1:=h.kp.first
 have f2:=h.kp.turn
 have f3:=hl.first
 have f4:=hl.turn
 rcases hV with rfl | ⟨h5,h6,h7⟩
 · exact⟨by omega,by omega,all.length,ba,Ai _,Ai _,by rw[Cc];exact r1,r3⟩
 exact⟨by omega,by omega,all.length,ba,Ai _,Ai _,by rw[Cc];exact r1,_,_,h5,fun n hn=>⟨(hown n hn).1,(hown n hn).2.1⟩,hmk,hal⟩
theorem Vu.arm (h:Vu D W b L s c W1 all) (hk:D'.kept=D.kept) (hw:D'.wait=D.wait) (hd:D'.down=false):Vu D' W b L s c W1 all:=⟨h.kp.arm hk hw hd,h.rep⟩
theorem Bse.few {V:Nat→Blk} (h:Bse V 4096 W s):W.recs.length≤1024:=by
 have h1:=h.lg.room
 have h2:=dO W.recs
 omega
end
@[reducible] def yZ (gq gd:Nat) (vp:Value) (ga:Option Nat) (na ca:Nat) (sure:Int) (full:Bool):Ent:=(some gq,59,[.pointer (some ⟨gd,0,none⟩),vp,.slice (hd ga) na ca,.int .i64 sure,.bool full])
@[reducible] def Dn (ga:Option Nat) (qs:List (List Value)) (sp:List Value):Ent:=(ga,81,qs.flatten++sp)
structure nA (w:World) (n0:Nat) (ga:Option Nat) (ca:Nat) (qs:List (List Value)) (sp:List Value) (all:List Nt):Prop where
 gw:Gw 16 ga ca qs sp
 el:wT (NtR w (fun x=>x < n0)) qs all
 nt:∀ n∈all,NtB n
section
variable {w0 w w':World} {S:List Nat} {es R:List Ent} {n0:Nat} {ga:Option Nat} {ca:Nat} {qs:List (List Value)} {sp:List Value} {all:List Nt}
theorem nA.to (h:nA w n0 ga ca qs sp all) (H:Hp w w' S es) (hS:∀ x∈S,n0≤x):nA w' n0 ga ca qs sp all:=
 ⟨h.gw,h.el.imp fun _ _ h=>h.to H fun x hx _=>⟨fun hs=>by have:=hS x hs;omega,hx⟩,h.nt⟩
theorem nA.len (h:nA w n0 ga ca qs sp all):qs.length=all.length:=h.el.len
theorem nA.cap (h:nA w n0 ga ca qs sp all):all.length≤ca:=by rw[← h.len];exact h.gw.2.1
theorem nA.take (h:nA w n0 ga ca qs sp all) (n:Nat):nA w n0 ga ca (qs.take n) ((qs.drop n).flatten++sp) (all.take n):=by
 obtain⟨h1,h2,h3,h4⟩:=h.gw
 refine⟨⟨?_,Ci (by rw[Aw];omega) h2,h3,fun p hp=>h4 p (Fa hp)⟩,h.el.take n,fun x hx=>h.nt x (Fa hx)⟩
 rw[← Bf,← Jd,Eu]
 exact h1
theorem MX (n:Nat):Dn ga (qs.take n) ((qs.drop n).flatten++sp)=Dn ga qs sp:=by
 unfold Dn
 rw[← Bf,← Jd,Eu]
theorem nA.sl (h:nA w n0 ga ca qs sp all) {i:Nat} (H:Hp w0 w S es) (he:es[i]? =some (Dn ga qs sp)):Sl (NtR w (fun x=>x < n0∨ga=some x)) 16 w (fun x=>x < n0∨ga=some x) (hd ga) all:=
 Sl.row H he h.gw.2.2.2 (by decide) (h.el.imp fun _ _ h=>h.to (Hp.refl w) fun x hx _=>⟨by simp,.inl hx⟩) fun b hb=> .inr hb
theorem Rd.away {A:Option Addr} {n sz:Nat} {xs:List Value} (h:Rd w A n sz xs) (H:Hp w w' S es) (hS:0 < n→∀ p,A=some p→p.block∉S):Rd w' A n sz xs:=by
 rcases Jr n with h0 | h0
 · exact h.zero h0
 exact h.to H (hS h0)
theorem Hp.drewN {w w':World} (h:w'={ heap:=w.heap,tape:=w.tape,drawn:=w.drawn+1,os:=w.os,output:=w.output }):Hp w w' [] []:=by rw[h];exact Hp.drew (Hp.refl w)
theorem after (H:Hp w w' S es) (hS:∀ x∈S,n0≤x) (hn:n0≤w.heap.size):∀ x∈bl es,n0≤x:=fun x hx=>by
 rcases bl_place H x hx with h | h
 · exact hS x h
 omega
theorem nA.app {l:List Nt} {ps:List (List Value)} {g':Option Nat} {c':Nat} {sp':List Value} (h:nA w n0 ga ca qs sp all) (h2:wT (NtR w (fun x=>x < n0)) ps l) (hnt:∀ n∈l,NtB n) (H:Hp w w' S es) (hS:∀ x∈S,n0≤x) (hG:Gw 16 g' c' (qs++ps) sp'):nA w' n0 g' c' (qs++ps) sp' (all++l):=by
 have hk:∀ x,x < n0→x < w.heap.size→x∉S∧x < n0:=fun x hx _=>⟨fun hs=>by have:=hS x hs;omega,hx⟩
 exact⟨hG,(h.el.imp fun _ _ h=>h.to H hk).app (h2.imp fun _ _ h=>h.to H hk),fun n hn=>(Bj.1 hn).elim (h.nt n) (hnt n)⟩
theorem FZ {v:Vm} {D:Dk} {W:Wl} (H:Hp w0 w S (Ar v D W++(Dn ga qs sp::R))) (hS:∀ x∈bl (Ar v D W++(Dn ga qs sp::R)),n0≤x):∀ x,up (fun x=>x < n0∨ga=some x) w.heap.size x→x∉bl (Ar v D W):=by
 rintro x ((hx | hx) | hx) hb
 · have:=hS x (Fp hb);omega
 · subst hx
   exact Fg H (i:=7) Y (is:=[0,1,2,3,4,5,6]) (by decide) hb
 have:=pZ H (Fp hb);omega
end
def Ud (w:World) (n0 gd gk gq c m:Nat) (f:Bool) (es:List Ent):Prop:=
 ∃ (ga:Option Nat) (ca:Nat) (qs:List (List Value)) (sp:List Value) (all:List Nt),nA w n0 ga ca qs sp all∧all.length≤m∧(∀ x∈bl es,n0≤x)∧
  ((f=false∧∃ (v:Vm) (D:Dk) (W:Wl) (b:Bo) (L:List Nt) (s:Nat) (W1:Wl),v.m.gd=gd∧v.m.gk=gk∧es=yZ gq gd (.pointer (some ⟨v.gx,0,none⟩)) ga all.length ca (all.length:Int) false::Dn ga qs sp::Ar v D W∧
   Wj w v D W b (fun x=>x∈bl (Ar v D W++[Dn ga qs sp,yZ gq gd (.pointer (some ⟨v.gx,0,none⟩)) ga all.length ca (all.length:Int) false]))∧Vu D W b L s c W1 all)∨
   (f=false∧∃ (D:Dk) (gw:Option Nat) (cw:Nat) (Qe:List Value) (vp:Value) (sure:Nat),es=yZ gq gd vp ga all.length ca (sure:Int) false::Dn ga qs sp::Bv gd gk gw cw Qe D∧Qq D gw cw Qe∧D.down=true∧sure≤all.length∧ZU D all sure c)∨
   (f=true∧∃ (vp:Value) (sure:Int) (rest:List Ent),es=yZ gq gd vp ga all.length ca sure true::Dn ga qs sp::rest))
section
variable {w0 w:World} {S:List Nat} {n0:Nat} {ga:Option Nat} {ca:Nat} {qs:List (List Value)} {sp:List Value} {all:List Nt} {v v0:Vm} {D:Dk} {W W1:Wl} {b:Bo} {L:List Nt} {s c m gq:Nat} {R:List Ent}
theorem Ud.live {gd gk:Nat} (h:Qn w0 w S Z7 v0 v D W b [Dn ga qs sp,yZ gq gd (Ah v.gx) ga all.length ca (all.length:Int) false]) (hA:nA w n0 ga ca qs sp all) (hm:all.length≤m) (hS:∀ x∈S,n0≤x) (hn:n0≤w0.heap.size) (hk:Vu D W b L s c W1 all) (h1:v.m.gd=gd) (h2:v.m.gk=gk):
 ∃ f es,Hp w0 w S es∧Ud w n0 gd gk gq c m f es:=by
 have H:Hp w0 w S (yZ gq gd (Ah v.gx) ga all.length ca (all.length:Int) false::Dn ga qs sp::Ar v D W):=h.H.pick [8,7,0,1,2,3,4,5,6] (by decide)
 refine⟨false,_,H,ga,ca,qs,sp,all,hA,hm,after H hS hn,.inl ⟨Y,v,D,W,b,L,s,W1,h1,h2,Y,h.ok.keep (Hp.refl w) (fun x hx=>by cases hx) (fun x hx _=> .inr hx) (fun x hx=>Fp (Fp hx)),hk⟩⟩
theorem Ud.down {gd gk:Nat} {gw:Option Nat} {cw:Nat} {Qe:List Value} {vp:Value} {sure:Nat} (H0:Hp w0 w S (Bv gd gk gw cw Qe D++[Dn ga qs sp,yZ gq gd vp ga all.length ca (sure:Int) false])) (hA:nA w n0 ga ca qs sp all) (hm:all.length≤m) (hS:∀ x∈S,n0≤x) (hn:n0≤w0.heap.size) (hd:Qq D gw cw Qe) (hdn:D.down=true) (hs:sure≤all.length) (hf:ZU D all sure c):
 ∃ f es,Hp w0 w S es∧Ud w n0 gd gk gq c m f es:=by
 have H:Hp w0 w S (yZ gq gd vp ga all.length ca (sure:Int) false::Dn ga qs sp::Bv gd gk gw cw Qe D):=H0.pick [4,3,0,1,2] (by decide)
 exact⟨false,_,H,ga,ca,qs,sp,all,hA,hm,after H hS hn,.inr (.inl ⟨Y,D,gw,cw,Qe,vp,sure,Y,hd,hdn,hs,hf⟩)⟩
theorem Ud.full {gd gk:Nat} {vp:Value} {sure:Int} (H:Hp w0 w S [yZ gq gd vp ga all.length ca sure true,Dn ga qs sp]) (hA:nA w n0 ga ca qs sp all) (hm:all.length≤m) (hS:∀ x∈S,n0≤x) (hn:n0≤w0.heap.size):
 ∃ f es,Hp w0 w S es∧Ud w n0 gd gk gq c m f es:=
 ⟨true,_,H,ga,ca,qs,sp,all,hA,hm,after H hS hn,.inr (.inr ⟨rfl,vp,sure,[],rfl⟩)⟩
theorem Qn.begin (h:Wj w v D W b (fun x=>x∈bl (Ar v D W++R))) (H:Hp w w (bl (Ar v D W++R)) (Ar v D W++R)):Qn w w (bl (Ar v D W++R)) Z7 v v D W b R:=
 ⟨rfl,rfl,rfl,h.keep (Hp.refl w) (fun x hx=>by cases hx) (fun x hx _=>hx.elim (fun h=>h.1.elim) id) (fun x hx=> .inr (qW hx)),H⟩
theorem Qn.bare {S:List Nat} (h:Qn w0 w S Z7 v0 v D W b R):Wj w v D W b (fun x=>x∈bl (Ar v D W++R)):=
 h.ok.keep (Hp.refl w) (fun x hx=>by cases hx) (fun x hx _=> .inr hx) (fun x hx=>Fp (Fp hx))
theorem Ud.less {gd gk c' m':Nat} {f:Bool} {es:List Ent} (h:Ud w n0 gd gk gq c m f es) (hc:c≤c') (hm:m≤m'):Ud w n0 gd gk gq c' m' f es:=by
 obtain⟨ga,ca,qs,sp,all,h1,h2,h3,h4⟩:=h
 refine⟨ga,ca,qs,sp,all,h1,Ci h2 hm,h3,?_⟩
 rcases h4 with ⟨hf,v,D,W,b,L,s,W1,a1,a2,a3,a4,a5⟩ | ⟨hf,D,gw,cw,Qe,vp,sure,a1,a2,a3,a4,a5⟩ | h4
 · exact .inl ⟨hf,v,D,W,b,L,s,W1,a1,a2,a3,a4,a5.less hc⟩
 · exact .inr (.inl ⟨hf,D,gw,cw,Qe,vp,sure,a1,a2,a3,a4,a5.less hc⟩)
 exact .inr (.inr h4)
theorem Ud.krow {gd gk:Nat} {f:Bool} {es:List Ent} (h:Ud w n0 gd gk gq c m f es):∃ (vp:Value) (ga:Option Nat) (na ca:Nat) (sure:Int) (rest:List Ent),es=yZ gq gd vp ga na ca sure f::rest:=by
 obtain⟨ga,ca,qs,sp,all,_,_,_,h4⟩:=h
 rcases h4 with ⟨rfl,v,D,W,b,L,s,W1,_,_,a3,_⟩ | ⟨rfl,D,gw,cw,Qe,vp,sure,a1,_⟩ | ⟨rfl,vp,sure,rest,a1⟩
 · exact⟨_,_,_,_,_,_,a3⟩
 · exact⟨_,_,_,_,_,_,a1⟩
 exact⟨_,_,_,_,_,_,a1⟩
end
def M2 (w:World) (n0:Nat) (gi g:Option Nat) (b:Blk):Prop:=b.length≤140737488351232∧(g=none→b=[])∧∀ k,g=some k→n0≤k∧gi≠some k∧∃ s,w.heap[k]? =some (.cells (u8s b++s).toArray 5 (0,0))
section
variable {w0 w w':World} {S:List Nat} {es:List Ent} {n0:Nat} {gi gi' g:Option Nat} {b:Blk}
theorem M2.row {i j:Nat} {s cs:List Value} {T:TypeId} (H:Hp w0 w S es) (he:es[i]? =some (g,5,u8s b++s)) (hj:es[j]? =some (gi,T,cs)) (hij:i≠j) (hS:∀ k∈S,n0≤k) (h0:n0≤w0.heap.size) (hb:b.length≤140737488351232):M2 w n0 gi g b:=by
 refine⟨hb,fun e=>?_,fun k e=>?_⟩
 · subst e
   have:=H.none_ he
   have h2:(u8s b).length=0:=by rw[(List.append_eq_nil_iff.1 this).1];rfl
   rw[zZ]at h2
   exact Ec h2
 subst e
 refine⟨?_,fun e=>?_,s,H.at he⟩
 · rcases H.place he with h | h
   · exact hS k h
   omega
 subst e
 exact H.ne he hj hij Y
theorem M2.to (h:M2 w n0 gi g b) (H:Hp w w' S es) (hk:∀ k,n0≤k→gi≠some k→k < w.heap.size→k∉S∧gi'≠some k):M2 w' n0 gi' g b:=by
 refine⟨h.1,h.2.1,fun k e=>?_⟩
 obtain⟨h1,h2,s,h3⟩:=h.2.2 k e
 have hl:k < w.heap.size:=(Dw.1 h3).1
 obtain⟨h4,h5⟩:=hk k h1 h2 hl
 exact⟨h1,h5,s,by rw[H.frame k hl h4];exact h3⟩
theorem M2.bs (h:M2 w n0 gi g b):Bs w (fun x=>n0≤x∧gi≠some x) (hd g) b:=by
 cases g with
 | none=>rw[h.2.1 rfl];exact Bs.none _ _
 | some k=>
  obtain⟨h1,h2,s,h3⟩:=h.2.2 k rfl
  refine⟨⟨yV b,fun a ha j u hu=>?_,fun e=>(by cases e)⟩,fun _ p hp=>?_,h.1⟩
  · cases ha
    have hj:=(Ea.1 hu).1
    show w.cell? ((⟨k,0,none⟩:Addr).add j)=some u
    rw[Ip,Au]
    simp[World.cell?,h3,hu,Di hj]
  cases hp
  exact⟨h1,h2⟩
end
def NtW (w:World) (n0:Nat) (gi:Option Nat) (p:List Value) (n:Nt):Prop:=∃ g1 c1 g2 c2,p=[.int .i64 n.kind,.int .i64 n.group,.int .i64 n.b.r,.int .i64 n.b.n,.int .i64 n.Eb.slot,.int .i64 n.Eb.b.r,.int .i64 n.Eb.b.n,.slice (hd g1) n.Eb.val.length c1,.int .i64 n.entry.slot,.slice (hd g2) n.entry.val.length c2,.int .i64 n.right.g,yI n.right.key,.int .i64 n.right.lease,.int .i64 n.right.net,.int .i64 n.client,.int .i64 n.seq]∧M2 w n0 gi g1 n.Eb.val∧M2 w n0 gi g2 n.entry.val
section
variable {w0 w w':World} {S:List Nat} {es:List Ent} {n0:Nat} {gi gi' g:Option Nat} {p:List Value} {n:Nt}
theorem NtW.to (h:NtW w n0 gi p n) (H:Hp w w' S es) (hk:∀ k,n0≤k→gi≠some k→k < w.heap.size→k∉S∧gi'≠some k):NtW w' n0 gi' p n:=by
 obtain⟨g1,c1,g2,c2,h1,h2,h3⟩:=h
 exact⟨g1,c1,g2,c2,h1,h2.to H hk,h3.to H hk⟩
theorem NtW.nt (h:NtW w n0 gi p n):NtR w (fun x=>n0≤x∧gi≠some x) p n:=by
 obtain⟨g1,c1,g2,c2,h1,h2,h3⟩:=h
 exact⟨_,c1,_,c2,h1,h2.bs,h3.bs⟩
end
section
variable {sz i k:Nat} {qs rest:List (List Value)} {p sp:List Value} {v:Value}
theorem rO (hq:Pl sz qs) (hl:qs.length=i) (hv:p[k]? =some v):((qs++p::rest).flatten++sp)[0+i*sz+k]? =some v:=by
 have h1:(qs.flatten).length=i*sz:=by rw[hq.len,hl]
 have h2:=(Ea.1 hv).1
 rw[Jd,Ic,Bf,Bf,Au,Ef (by omega),h1,Hq,Di h2]
 exact hv
theorem SK {a b c:List Value} {j k:Nat} (hj:a.length=j) (hk:k < b.length):(a++(b++c)).set (j+k) v=a++(b.set k v++c):=by
 rw[List.set_append_right _ _ (by omega),show j+k - a.length=k by omega,List.set_append_left _ _ hk]
theorem lZ (hq:Pl sz qs) (hl:qs.length=i) (hk:k < p.length):((qs++p::rest).flatten++sp).set (0+i*sz+k) v=(qs++p.set k v::rest).flatten++sp:=by
 have h1:(qs.flatten).length=i*sz:=by rw[hq.len,hl]
 rw[Jd,Ic,Bf,Bf,Au,SK h1 hk,Jd,Ic,Bf,Bf]
theorem mK (hq:Pl sz qs) (hl:qs.length=i) (hk:k < p.length):0+i*sz+k < ((qs++p::rest).flatten++sp).length:=by
 have h1:(qs.flatten).length=i*sz:=by rw[hq.len,hl]
 simp only[Jd,Ic,Af]
 omega
end
section
variable {w0 w:World} {S:List Nat} {es:List Ent} {ok:Nat→Prop} {g:Option Nat} {b:Blk} {sp:List Value} {i:Nat}
theorem Hp.new {g:Nat} {T:TypeId} {cs:List Value} (H:Hp w0 w [] es) (he:es[i]? =some (some g,T,cs)):w0.heap.size≤g:=by
 rcases H.place he with h | h
 · cases h
 exact h
theorem eK {g:Nat} {T:TypeId} {cs:List Value} (h:es[i]? =some (some g,T,cs)):g∈bl es:=Fb.2 ⟨_,Fh h,rfl⟩
theorem not3 {x a b c:Nat} {T U V:TypeId} {ca cb cc:List Value} (h1:x≠a) (h2:x≠b) (h3:x≠c):x∉bl [((some a,T,ca):Ent),(some b,U,cb),(some c,V,cc)]:=fun h=>by
 have:x=a∨x=b∨x=c:=by simpa[bl]using h
 omega
end
end Go.Proofs.YtjoeklkmnfaabaaGreat
namespace Go.Proofs.YtjoeklkmnfaabaaGreat
open Go Go.RowKit
set_option linter.unusedVariables false
set_option linter.unusedSimpArgs false
attribute [local irreducible] yT Ops zO Cd
set_option maxRecDepth 100000
set_option maxHeartbeats 32000000
theorem FT (b:Bo) (A1:Option Addr) (k1:Nat) (A2:Option Addr) (k2:Nat) (A3:Option Addr) (k3:Nat) (N:Nat) (ok:Nat→Prop) (w0:World) (hb1:Sl (Rl w0 ok) 6 w0 ok A1 b.groups) (hb2:Sl Px 4 w0 ok A2 b.rights) (hb3:Sl Pq 7 w0 ok A3 b.last) (hg:rU b N) (hN:N≤900000000000):Aj 46 #[.agg (Az A1 b k1 A2 k2 A3 k3).toArray] w0 (fun r w'=>∃ cs,r=.agg cs.toArray∧Sj w' (fun x=>w0.heap.size≤x) cs b∧U8 cs∧Hp w0 w' [] []):=by
 refine zE Tryz.func46 Tryz.ntmps46 Y<|cR Gp ?_
 have H:=Hp.refl w0
 obtain⟨ps,hp,hr,ha,h2⟩:=id hb1
 obtain⟨pr,hpr,hrr,har,h2r⟩:=id hb2
 obtain⟨pm,hpm,hrm,ham,h2m⟩:=id hb3
 have hl8:ps.length=8:=h2.len.trans hg.eight
 have h8:=hg.eight
 have hfr:=hg.few
 have hfm:=mF hg.Yk
 refine Rq<|zW Y Y H<|fun w1 gb H1 _=>OA xH H1<|fun w2 gr H2 _=>Xr Gp<|Rq<|Xf vW Y<|OV (EL qX Y (H2.cell (i:=0) Y Y))<|OQ (EC gf69 Y) (Q9 A1 b.groups.length k1 ps.flatten _ (hr.to0 H2) (xF (wT.ones (fun _ _ h=>Rl.ones h) h2)) (by omega)) ?_
 rintro _ w3 ⟨gs,cg,sg,rfl,hgn,hcz,hg0,Hc⟩
 have H3:=H2.call0 Hc
 obtain⟨gk,rfl⟩:=vO H3 (i:=2) rfl (by rw[Af,hp.len];omega)
 refine Xf vW Y<|Ae Gp<|OW qX H3 0 Y Y Y Y (by first|exact NL Y|simp[zG]) Y<|fun w4 H4=>Xr Gp<|J1<|Rq<|Xf vW Y<|OV (EL qX Y (H4.cell (i:=0) Y Y))<|OV (ES Ub Y)<|Xm Y<|Xr Gp<|J7<|zU (fun nQ lQ w=>∃ (i:Nat) (y:Int) (qs:List (List Value)),b.groups.length - i=nQ∧xO (Ik [(1,Ah gb),(2,Ah gr),(13,Aa (b.groups.length:Int)),(14,Aa y)] 0 105) lQ∧y=(i:Int)∧i≤b.groups.length∧Pl 6 qs∧wT (Rl w (fun x=>w0.heap.size≤x∧x≠gb∧x≠gr∧x≠gk)) qs (b.groups.take i)∧Hp w0 w [] [((some gb,41,Az (hd (some gk)) b cg A2 k2 A3 k3):Ent),(some gr,41,[Dj,Dj,Dj]),(some gk,97,(qs++ps.drop i).flatten++sg)]) (b.groups.length) ?_ ?_
 exact⟨0,_,[],Y,(Ja Y Y Y Y Y),Y,Am _,Pl.nil _,trivial,H4⟩
 rintro nQ lQ w5 ⟨i,y,qs,rfl,hfit,rfl,hi,hq,hA,H5⟩
 obtain⟨j,rfl⟩:=hfit.open
 refine cR Gp ?_
 clear hfit
 have HB:=H5
 replace H5:=HB.here
 refine Rq<|OT (zR Y Y) (fun Iz=>?_) (fun Iz=>?_)
 have hil:i < b.groups.length:=by omega
 obtain⟨s,hx⟩:=yM hil
 obtain⟨p1,hp1,hR⟩:=h2.get hx
 obtain⟨D1,e1,D2,e2,D3,e3,rfl,hv,hm,he⟩:=hR
 have Ib:qs.length=i:=by rw[hA.len,Aw];omega
 rw[uX hp1]at HB H5
 obtain⟨vs,hpv,Ym,hav,h2v⟩:=id hv
 obtain⟨en,hpe,hre,hae,h2e⟩:=id he
 have hck:=(tC s).1 (hg.chk s (mem_of hx))
 have hv16:=oC hck
 have he40:=pY hck
 refine Xr Gp<|J1<|J3 Y<|J6<|J1<|J7<|Rq<|Xm Y<|Xa Y<|Xr Gp<|Rq<|Xf vW Y<|OV (EL qX Y (H5.cell (i:=0) Y Y))<|Xm Y<|OV (uS Ub xY Y Y Y hil)<|Ae Gp<|Xa Y<|Xr Gp<|J1<|DV [20,23,26] [(6,[20]),(6,[23]),(6,[26]),(11,[20]),(11,[23]),(11,[26]),(16,[20]),(16,[23]),(16,[26])] (.b 0 (.b 1 (.b 2 (.b 3 (.b 4 (.b 5 (.a 6 (.b 8 (.b 9 (.b 10 (.a 11 (.b 13 (.b 14 (.b 15 (.a 16 (.o 7 (.o 12 (.o 17 (.b 18 (.b 19 (.z 20 (.b 21 (.b 22 (.z 23 (.b 24 (.b 25 (.z 26 .nil))))))))))))))))))))))))))) H5 [0,1,2] yF (by decide) (by kernel_rfl) ?_
 rintro w6 hw6
 have H6:=Hp.drew H5;rw[← hw6]at H6
 refine uG Y<|MV (fun wz hz=>zK Y)<|uG Y<|MV (fun wz hz=>zK Y)<|uG Y<|MV (fun wz hz=>zK Y)<|uG Y<|MV (fun wz hz=>zK Y)<|cL Gp<|uG Y<|MV (fun wz hz=>yH Y)<|uG Y<|MV (fun wz hz=>EF uY Y)<|bS Y<|MV (fun wz hz=>EL xG Y (hz.cell (i:=2) Y (rO hq Ib Y)))<|uG Y<|MV (fun wz hz=>zK Y)<|cL Gp<|uG Y<|MV (fun wz hz=>yH Y)<|uG Y<|MV (fun wz hz=>EF wM Y)<|bS Y<|MV (fun wz hz=>EL tY Y (hz.cell (i:=2) Y (rO hq Ib Y)))<|uG Y<|MV (fun wz hz=>zK Y)<|cL Gp<|uG Y<|MV (fun wz hz=>yH Y)<|uG Y<|MV (fun wz hz=>EF wL Y)<|bS Y<|MV (fun wz hz=>EL tX Y (hz.cell (i:=2) Y (rO hq Ib Y)))<|bR Y<|yW (EC jS Y) (vM D2 s.image e2 _ (hm.1.to0 (HB.all H6)) (by have:=hm.2.2;omega))<|fun w7 gi ci si _ _ _ Hc=>have H7:=H6.call0 Hc;OE<|⟨H7.pick [0,1,2] (by decide),?_⟩
 refine cL Gp<|bR Y<|OQ (EC XO Y) (IA D1 s.Bd.length e1 vs.flatten _ (Ym.to0 (HB.all H7)) (xF (wT.ones (fun _ _ h=>Oc.ones h) h2v)) (by omega)) ?_
 rintro _ w8 ⟨gv,cv,sv,rfl,_,_,_,Hc⟩
 have H8:=H7.call0 Hc
 refine OE ?_
 refine⟨H8.pick [0,1,2] (by decide),?_⟩
 refine cL Gp<|bR Y<|OQ (EC UC Y) (C7 D3 s.entries.length e3 en.flatten _ (hre.to0 (HB.all H8)) (xF (wT.ones (fun _ _ h=>Qu.ones h) h2e)) (by omega)) ?_
 rintro _ w9 ⟨gn,cn,sn,rfl,_,_,_,Hc⟩
 have H9:=H8.call0 Hc
 refine OE ?_
 refine⟨H9.pick [0,1,2] (by decide),?_⟩
 refine cL Gp<|uG Y<|MV (fun wz hz=>yH Y)<|uG Y<|MV (fun wz hz=>EF uY Y)<|bQ Y<|OW xG H9 2 Y Y Y Y (mK hq Ib (show(4:Nat) < 6 by decide)) Y<|fun Yu Qh=>?_
 rw[lZ (k:=4) (p:=Cb s D1 e1 D2 e2 D3 e3) hq Ib (show(4:Nat) < 6 by decide)]at Qh
 replace Qh:Hp _ _ _ [((some gb,41,Az (hd (some gk)) b cg A2 k2 A3 k3):Ent),(some gr,41,[Dj,Dj,Dj]),(some gk,97,(qs++(Cb s D1 e1 (hd gi) ci D3 e3)::ps.drop (i+1)).flatten++sg),(gi,5,u8s s.image++si),(gv,77,vs.flatten++sv),(gn,79,en.flatten++sn)]:=Qh
 refine OE<|cL Gp<|uG Y<|MV (fun wz hz=>yH Y)<|uG Y<|MV (fun wz hz=>EF wM Y)<|bQ Y<|OW tY Qh 2 Y Y Y Y (mK hq Ib (show(2:Nat) < 6 by decide)) Y<|fun Vw Ob=>?_
 rw[lZ (k:=2) (p:=Cb s D1 e1 (hd gi) ci D3 e3) hq Ib (show(2:Nat) < 6 by decide)]at Ob
 replace Ob:Hp _ _ _ [((some gb,41,Az (hd (some gk)) b cg A2 k2 A3 k3):Ent),(some gr,41,[Dj,Dj,Dj]),(some gk,97,(qs++(Cb s (hd gv) cv (hd gi) ci D3 e3)::ps.drop (i+1)).flatten++sg),(gi,5,u8s s.image++si),(gv,77,vs.flatten++sv),(gn,79,en.flatten++sn)]:=Ob
 refine OE<|cL Gp<|uG Y<|MV (fun wz hz=>yH Y)<|uG Y<|MV (fun wz hz=>EF wL Y)<|bQ Y<|OW tX Ob 2 Y Y Y Y (mK hq Ib (show(5:Nat) < 6 by decide)) Y<|fun w17 Yt=>?_
 rw[lZ (k:=5) (p:=Cb s (hd gv) cv (hd gi) ci D3 e3) hq Ib (show(5:Nat) < 6 by decide)]at Yt
 replace Yt:Hp _ _ _ [((some gb,41,Az (hd (some gk)) b cg A2 k2 A3 k3):Ent),(some gr,41,[Dj,Dj,Dj]),(some gk,97,(qs++(Cb s (hd gv) cv (hd gi) ci (hd gn) cn)::ps.drop (i+1)).flatten++sg),(gi,5,u8s s.image++si),(gv,77,vs.flatten++sv),(gn,79,en.flatten++sn)]:=Yt
 refine OE<|cL Gp<|EY<|cR Gp<|J1<|Rq<|Xm Y<|Xc Y<|Xf wM Y<|OV (EL tY Y (Yt.cell (i:=2) Y (rO hq Ib Y)))<|Ae Gp<|OV (ES Jj Y)<|Xm Y<|Xr Gp<|J7<|zU (fun nQ lQ w=>∃ (q:Nat) (z:Int) (vq:List (List Value)),s.Bd.length - q=nQ∧xO (Ik [(1,Ah gb),(2,Ah gr),(4,.pointer (some ⟨gk,0+i*6,none⟩)),(13,Aa (b.groups.length:Int)),(14,Aa (i:Int)),(49,Aa (s.Bd.length:Int)),(50,Aa z)] 0 105) lQ∧z=(q:Int)∧q≤s.Bd.length∧Pl 4 vq∧wT (Oc w (fun x=>w0.heap.size≤x∧x∉bl [((some gb,0,[]):Ent),(some gr,0,[]),(some gk,0,[]),(gi,0,[]),(gv,0,[]),(gn,0,[])])) vq (s.Bd.take q)∧Hp w5 w (bl [((some gb,41,Az (hd (some gk)) b cg A2 k2 A3 k3):Ent),(some gr,41,[Dj,Dj,Dj]),(some gk,97,(qs++(Cb s D1 e1 D2 e2 D3 e3)::ps.drop (i+1)).flatten++sg)]) [((some gb,41,Az (hd (some gk)) b cg A2 k2 A3 k3):Ent),(some gr,41,[Dj,Dj,Dj]),(some gk,97,(qs++(Cb s (hd gv) cv (hd gi) ci (hd gn) cn)::ps.drop (i+1)).flatten++sg),(gi,5,u8s s.image++si),(gv,77,(vq++vs.drop q).flatten++sv),(gn,79,en.flatten++sn)]) (s.Bd.length) ?_ ?_
 exact⟨0,_,[],Y,(ft7 Y Y Y Y Y Y Y Y),Y,Am _,Pl.nil _,trivial,Yt⟩
 rintro nQ lQ w12 ⟨q,z,vq,rfl,hfit,rfl,hqi,hvq,hAv,Gi⟩
 obtain⟨j,rfl⟩:=hfit.open
 refine cR Gp ?_
 clear hfit
 have HI:=Gi
 replace Gi:=HI.here
 refine Rq<|OT (zR Y Y) (fun hp51=>?_) (fun hp51=>?_)
 have Uw:q < s.Bd.length:=by omega
 obtain⟨v,hxv⟩:=yM Uw
 obtain⟨pv,hpv1,hRv⟩:=h2v.get hxv
 obtain⟨G1,f1,rfl,hbv⟩:=hRv
 have hvl:vq.length=q:=by rw[hAv.len,Aw];omega
 rw[uX hpv1]at HI Gi
 obtain⟨gvw,rfl⟩:=vO Gi (i:=4) rfl (Nat.lt_of_le_of_lt (Am _) (mK (k:=0) hvq hvl (show(0:Nat) < 4 by decide)))
 refine Xr Gp<|J1<|J3 Y<|J6<|J1<|J7<|Rq<|Xm Y<|Xa Y<|Xr Gp<|zQ 16 [(true,0),(true,1),(true,2),(true,3),(true,4),(true,5),(true,6),(true,7),(true,8),(true,9),(true,10),(true,11),(true,12),(false,13),(true,14),(true,15),(false,16)] Gi [0,1,2,3,4,5] yF (by decide) (by kernel_rfl) ?_
 rintro w10 Ql
 have Df:=Hp.drew Gi;rw[← Ql]at Df
 refine Zm Y Y<|Zc Y Y<|Zf Y wM Y<|MP Y<|MV (fun wz hz=>EL tY Y (hz.cell (i:=2) Y (rO hq Ib Y)))<|cZ Gp<|Zm Y Y<|Zm Y Y<|Zc Y Y<|Zf Y wM Y<|cZ Gp<|MP Y<|MV (fun wz hz=>EL tY Y (hz.cell (i:=2) Y (rO hq Ib Y)))<|Zm Y Y<|MP Y<|MV (fun wz hz=>uS Jj xC Y Y Y Uw)<|Zf Y tO Y<|cZ Gp<|MP Y<|MV (fun wz hz=>EL xG Y (hz.cell (i:=4) Y (rO hvq hvl Y)))<|MO Y ?_
 have hnf:=Hp.fresh Df
 have hsz:=(HB.all (HI.all Df)).size
 obtain⟨wn,hwn⟩:∃ n,n=w10.heap.size:=⟨_,rfl⟩
 refine yW (EC jS Y) (vM G1 v.val f1 _ (hbv.1.to0 (HB.all (HI.all Df))) (by have:=hbv.2.2;omega))<|fun Nu gc cc sc _ _ _ Hc=>?_
 have hnc:∀ k,gc=some k→wn≤k:=fun k hk=>by subst hk;have:=Hc.new (i:=0) rfl;omega
 have Eh:=Df.call0 Hc
 refine OE ?_
 refine⟨fun hne=>Eh.pick [0,1,2,3,4,5] (by decide),?_⟩
 refine cZ Gp<|MP Y<|MV (fun wz hz=>uS Jj xC Y Y Y Uw)<|Zf Y tO Y<|MO Y<|OW xG Eh 4 Y Y Y Y (mK hvq hvl (show(3:Nat) < 4 by decide)) Y<|fun Sm Il=>?_
 rw[lZ (k:=3) (p:=Dl v G1 f1) hvq hvl (show(3:Nat) < 4 by decide)]at Il
 replace Il:Hp _ _ _ [((some gb,41,Az (hd (some gk)) b cg A2 k2 A3 k3):Ent),(some gr,41,[Dj,Dj,Dj]),(some gk,97,(qs++(Cb s (hd (some gvw)) cv (hd gi) ci (hd gn) cn)::ps.drop (i+1)).flatten++sg),(gi,5,u8s s.image++si),(some gvw,77,(vq++(Dl v (hd gc) cc)::vs.drop (q+1)).flatten++sv),(gn,79,en.flatten++sn),(gc,5,u8s v.val++sc)]:=Il
 refine OE ?_
 refine⟨fun hne=>absurd Y hne,?_⟩
 refine cZ Gp<|ME<|cR Gp<|zA (zD ?_)
 refine J2<|OV (zL Y Y (Ad _ (by omega)))<|Xm Y<|Xr Gp<|zA (zH ?_)
 have HW:=HI.all Il
 exact⟨s.Bd.length - (q+1),by omega,q+1,_,vq++[Dl v (hd gc) cc],Y,(ft7 Y Y Y Y Y Y Y Y),by omega,by omega,hvq.app (Pl.one Y),by
  rw[xE hxv]
  exact(hAv.imp fun p x h=>h.to Il fun x hx _=>⟨hx.2,hx⟩).app (wT.one ⟨hd gc,cc,Y,Bs.row Il (i:=6) Y hbv.2.2 fun k hk=>⟨by have:=hnc k hk;omega,fun hb=>hnf k (by have:=hnc k hk;omega) hb⟩⟩),by rw[Bf];exact HW.pick [0,1,2,3,4,5] (by decide)⟩
 obtain rfl:q=s.Bd.length:=by omega
 have hvd:vs.drop s.Bd.length=[]:=Gm (by rw[h2v.len];exact Ai _)
 replace Gi:=HI
 rw[hvd,Dt]at Gi
 rw[Cc]at hAv
 refine Xr Gp<|J1<|J4 Y<|J8<|zT<|zS<|Rq<|Xm Y<|Xc Y<|Xf wL Y<|OV (EL tX Y (Gi.cell (i:=2) Y (rO hq Ib Y)))<|Ae Gp<|OV (ES Na Y)<|Xm Y<|Xr Gp<|J7<|zU (fun nQ lQ w=>∃ (q:Nat) (z:Int) (eq:List (List Value)),s.entries.length - q=nQ∧xO (Ik [(1,Ah gb),(2,Ah gr),(4,.pointer (some ⟨gk,0+i*6,none⟩)),(13,Aa (b.groups.length:Int)),(14,Aa (i:Int)),(74,Aa (s.entries.length:Int)),(75,Aa z)] 0 105) lQ∧z=(q:Int)∧q≤s.entries.length∧Pl 2 eq∧wT (Qu w (fun x=>w0.heap.size≤x∧x∉bl [((some gb,0,[]):Ent),(some gr,0,[]),(some gk,0,[]),(gi,0,[]),(gv,0,[]),(gn,0,[])])) eq (s.entries.take q)∧wT (Oc w (fun x=>w0.heap.size≤x∧x∉bl [((some gb,0,[]):Ent),(some gr,0,[]),(some gk,0,[]),(gi,0,[]),(gv,0,[]),(gn,0,[])])) vq s.Bd∧Hp w5 w (bl [((some gb,41,Az (hd (some gk)) b cg A2 k2 A3 k3):Ent),(some gr,41,[Dj,Dj,Dj]),(some gk,97,(qs++(Cb s D1 e1 D2 e2 D3 e3)::ps.drop (i+1)).flatten++sg)]) [((some gb,41,Az (hd (some gk)) b cg A2 k2 A3 k3):Ent),(some gr,41,[Dj,Dj,Dj]),(some gk,97,(qs++(Cb s (hd gv) cv (hd gi) ci (hd gn) cn)::ps.drop (i+1)).flatten++sg),(gi,5,u8s s.image++si),(gv,77,vq.flatten++sv),(gn,79,(eq++en.drop q).flatten++sn)]) (s.entries.length) ?_ ?_
 exact⟨0,_,[],Y,(ft7 Y Y Y Y Y Y Y Y),Y,Am _,Pl.nil _,trivial,hAv,Gi⟩
 rintro nQ lQ w10 ⟨q,z,eq,rfl,hfit,rfl,hqi,heq,hAe,hAv,Df⟩
 obtain⟨j,rfl⟩:=hfit.open
 refine cR Gp ?_
 clear hfit
 have HI:=Df
 replace Df:=HI.here
 refine Rq<|OT (zR Y Y) (fun hp76=>?_) (fun hp76=>?_)
 have Uw:q < s.entries.length:=by omega
 obtain⟨v,hxv⟩:=yM Uw
 obtain⟨pv,hpv1,hRv⟩:=h2e.get hxv
 obtain⟨G1,f1,rfl,hbv⟩:=hRv
 have hvl:eq.length=q:=by rw[hAe.len,Aw];omega
 rw[uX hpv1]at HI Df
 obtain⟨gnw,rfl⟩:=vO Df (i:=5) rfl (Nat.lt_of_le_of_lt (Am _) (mK (k:=0) heq hvl (show(0:Nat) < 2 by decide)))
 refine Xr Gp<|J1<|J3 Y<|J6<|J1<|J7<|Rq<|Xm Y<|Xa Y<|Xr Gp<|zQ 16 [(true,0),(true,1),(true,2),(true,3),(true,4),(true,5),(true,6),(true,7),(true,8),(true,9),(true,10),(true,11),(true,12),(false,13),(true,14),(true,15),(false,16)] Df [0,1,2,3,4,5] yF (by decide) (by kernel_rfl) ?_
 rintro Nu YZ
 have Eh:=Hp.drew Df;rw[← YZ]at Eh
 refine Zm Y Y<|Zc Y Y<|Zf Y wL Y<|MP Y<|MV (fun wz hz=>EL tX Y (hz.cell (i:=2) Y (rO hq Ib Y)))<|cZ Gp<|Zm Y Y<|Zm Y Y<|Zc Y Y<|Zf Y wL Y<|cZ Gp<|MP Y<|MV (fun wz hz=>EL tX Y (hz.cell (i:=2) Y (rO hq Ib Y)))<|Zm Y Y<|MP Y<|MV (fun wz hz=>uS Na wJ Y Y Y Uw)<|Zf Y uH Y<|cZ Gp<|MP Y<|MV (fun wz hz=>EL xG Y (hz.cell (i:=5) Y (rO heq hvl Y)))<|MO Y ?_
 have hnf:=Hp.fresh Eh
 have hsz:=(HB.all (HI.all Eh)).size
 obtain⟨wn,hwn⟩:∃ n,n=Nu.heap.size:=⟨_,rfl⟩
 refine yW (EC jS Y) (vM G1 v.val f1 _ (hbv.1.to0 (HB.all (HI.all Eh))) (by have:=hbv.2.2;omega))<|fun Sm gc cc sc _ _ _ Hc=>?_
 have hnc:∀ k,gc=some k→wn≤k:=fun k hk=>by subst hk;have:=Hc.new (i:=0) rfl;omega
 have Il:=Eh.call0 Hc
 refine OE ?_
 refine⟨fun hne=>Il.pick [0,1,2,3,4,5] (by decide),?_⟩
 refine cZ Gp<|MP Y<|MV (fun wz hz=>uS Na wJ Y Y Y Uw)<|Zf Y uH Y<|MO Y<|OW xG Il 5 Y Y Y Y (mK heq hvl (show(1:Nat) < 2 by decide)) Y<|fun w16 Wp=>?_
 rw[lZ (k:=1) (p:=Ey v G1 f1) heq hvl (show(1:Nat) < 2 by decide)]at Wp
 replace Wp:Hp _ _ _ [((some gb,41,Az (hd (some gk)) b cg A2 k2 A3 k3):Ent),(some gr,41,[Dj,Dj,Dj]),(some gk,97,(qs++(Cb s (hd gv) cv (hd gi) ci (hd (some gnw)) cn)::ps.drop (i+1)).flatten++sg),(gi,5,u8s s.image++si),(gv,77,vq.flatten++sv),(some gnw,79,(eq++(Ey v (hd gc) cc)::en.drop (q+1)).flatten++sn),(gc,5,u8s v.val++sc)]:=Wp
 refine OE ?_
 refine⟨fun hne=>absurd Y hne,?_⟩
 refine cZ Gp<|ME<|cR Gp<|zA (zD ?_)
 refine J2<|OV (zL Y Y (Ad _ (by omega)))<|Xm Y<|Xr Gp<|zA (zH ?_)
 have HW:=HI.all Wp
 exact⟨s.entries.length - (q+1),by omega,q+1,_,eq++[Ey v (hd gc) cc],Y,(ft7 Y Y Y Y Y Y Y Y),by omega,by omega,heq.app (Pl.one Y),by
  rw[xE hxv]
  exact(hAe.imp fun p x h=>h.to Wp fun x hx _=>⟨hx.2,hx⟩).app (wT.one ⟨hd gc,cc,Y,Bs.row Wp (i:=6) Y hbv.2.2 fun k hk=>⟨by have:=hnc k hk;omega,fun hb=>hnf k (by have:=hnc k hk;omega) hb⟩⟩),hAv.imp fun p x h=>h.to Wp fun x hx _=>⟨hx.2,hx⟩,by rw[Bf];exact HW.pick [0,1,2,3,4,5] (by decide)⟩
 obtain rfl:q=s.entries.length:=by omega
 have hvd:en.drop s.entries.length=[]:=Gm (by rw[h2e.len];exact Ai _)
 replace Df:=HI
 rw[hvd,Dt]at Df
 rw[Cc]at hAe
 refine Xr Gp<|J1<|J4 Y<|J8<|zT<|zS<|zA (zD ?_)
 refine J2<|OV (zL Y Y (Ad _ (by omega)))<|Xm Y<|Xr Gp<|zA (zH ?_)
 have HW:=HB.all Df
 exact⟨b.groups.length - (i+1),by omega,i+1,_,qs++[Cb s (hd gv) cv (hd gi) ci (hd gn) cn],Y,(Ja Y Y Y Y Y),by omega,by omega,hq.app (Pl.one Y),by
  rw[xE hx]
  exact(hA.imp fun p x h=>h.to Df fun x hx _=>⟨not3 hx.2.1 hx.2.2.1 hx.2.2.2,hx⟩).app (wT.one ⟨hd gv,cv,hd gi,ci,hd gn,cn,rfl,Sl.row HW (i:=4) rfl hvq (by decide) (hAv.imp fun p x h=>h.to (Hp.refl _) fun x hx _=>⟨by simp,hx.1,fun e=>hx.2 (by rw[e];exact eK (i:=0) rfl),fun e=>hx.2 (by rw[e];exact eK (i:=1) rfl),fun e=>hx.2 (by rw[e];exact eK (i:=2) rfl)⟩) (fun k hk=>by subst hk;exact⟨HW.new (i:=4) rfl,HW.ne (i:=4) (j:=0) rfl rfl (by decide),HW.ne (i:=4) (j:=1) rfl rfl (by decide),HW.ne (i:=4) (j:=2) rfl rfl (by decide)⟩),Bs.row HW (i:=3) rfl hm.2.2 (fun k hk=>by subst hk;exact⟨HW.new (i:=3) rfl,HW.ne (i:=3) (j:=0) rfl rfl (by decide),HW.ne (i:=3) (j:=1) rfl rfl (by decide),HW.ne (i:=3) (j:=2) rfl rfl (by decide)⟩),Sl.row HW (i:=5) rfl heq (by decide) (hAe.imp fun p x h=>h.to (Hp.refl _) fun x hx _=>⟨by simp,hx.1,fun e=>hx.2 (by rw[e];exact eK (i:=0) rfl),fun e=>hx.2 (by rw[e];exact eK (i:=1) rfl),fun e=>hx.2 (by rw[e];exact eK (i:=2) rfl)⟩) (fun k hk=>by subst hk;exact⟨HW.new (i:=5) rfl,HW.ne (i:=5) (j:=0) rfl rfl (by decide),HW.ne (i:=5) (j:=1) rfl rfl (by decide),HW.ne (i:=5) (j:=2) rfl rfl (by decide)⟩)⟩),by rw[Bf];exact HW.pick [0,1,2] (by decide)⟩
 obtain rfl:i=b.groups.length:=by omega
 refine Xr Gp<|J1<|J4 Y<|J8<|zT<|zS<|J1<|DV [7,9] [(1,[7]),(1,[9]),(4,[7]),(4,[9])] (.b 0 (.a 1 (.b 3 (.a 4 (.o 2 (.b 6 (.o 5 (.z 7 (.b 8 (.z 9 .nil)))))))))) H5 [0,1,2] yF (by decide) (by kernel_rfl) ?_
 rintro w6 hw6
 have H6:=Hp.drew H5;rw[← hw6]at H6
 refine uG Y<|MV (fun wz hz=>EF rP Y)<|bS Y<|MV (fun wz hz=>EL gA Y (hz.cell (i:=0) Y Y))<|uG Y<|MV (fun wz hz=>EF tP Y)<|bS Y<|MV (fun wz hz=>EL mX Y (hz.cell (i:=0) Y Y))<|cL Gp<|bR Y<|OQ (EC XV Y) (IB A2 b.rights.length k2 pr.flatten _ (hrr.to0 (HB.all H6)) (xF (wT.ones (fun _ _ h=>Px.ones h) h2r)) (by omega)) ?_
 rintro _ w7 ⟨gR,kR,sR,rfl,hcR,_,_,Hc⟩
 have H7:=H6.call0 Hc
 refine OE ?_
 refine⟨H7.pick [0,1,2] (by decide),?_⟩
 refine cL Gp<|uG Y<|MV (fun wz hz=>EF rP Y)<|bR Y<|OQ (EC XN Y) (IC A3 b.last.length k3 pm.flatten _ (hrm.to0 (HB.all H7)) (xF (wT.ones (fun _ _ h=>Pq.ones h) h2m)) (by omega)) ?_
 rintro _ w8 ⟨gM,kM,sM,rfl,_,_,_,Hc⟩
 have H8:=H7.call0 Hc
 refine OE ?_
 refine⟨H8.pick [0,1,2] (by decide),?_⟩
 refine cL Gp<|bQ Y<|OW gA H8 0 Y Y Y Y (by first|exact NL Y|simp[zG]) Y<|fun w9 H9=>OE<|cL Gp<|uG Y<|MV (fun wz hz=>EF tP Y)<|bQ Y<|OW mX H9 0 Y Y Y Y (by first|exact NL Y|simp[zG]) Y<|fun Yu Qh=>OE<|cL Gp<|EY<|cR Gp<|Rq<|OV (EN xH Y (vs:=Az (hd (some gk)) b cg (hd gR) kR (hd gM) kM) Y (Qh.Ak (i:=0) Y Y))<|OS xH Qh 1 Y Y Y Y Y (by first|exact NL Y|simp[zG]) Y<|fun Vw Ob=>Xr Gp<|J5<|uO Y xH (cs:=Az (hd (some gk)) b cg (hd gR) kR (hd gM) kM) Y Y (Ob.Ak (i:=1) Y Y) ?_
 have HW:=HB.all Ob
 have hpd:ps.drop b.groups.length=[]:=Gm (by rw[h2.len];exact Ai _)
 rw[hpd,Dt]at HW
 rw[Cc]at hA
 exact⟨_,rfl,⟨hd (some gk),cg,hd gR,kR,hd gM,kM,rfl,Sl.row HW (i:=2) rfl hq (by decide) (hA.imp fun p x h=>h.to Ob fun x hx _=>⟨not3 hx.2.1 hx.2.2.1 hx.2.2.2,hx.1⟩) (fun k hk=>by cases hk;exact HW.new (i:=2) rfl),Sl.row HW (i:=3) rfl hpr (by decide) h2r (fun k hk=>by subst hk;exact HW.new (i:=3) rfl),Sl.row HW (i:=4) rfl hpm (by decide) h2m (fun k hk=>by subst hk;exact HW.new (i:=4) rfl)⟩,(fun _ _ _ _ _ e=>by cases e;exact hcR),HW.Ag⟩
set_option maxHeartbeats 4000000
theorem WM (v:Vm) (D:Dk) (W:Wl) (b:Bo) (bad:Nat→Prop) (w0:World) (H0:Hp w0 w0 (bl (Ar v D W)) (Ar v D W)) (h:Wj w0 v D W b bad):Aj 16 #[Ah v.gx] w0 (fun r w'=>r=Aa (W.recs.length:Int)∧Hp w0 w' (bl (Ar v D W)) (Ar v D W)):=by
 refine zE Tryz.func16 Tryz.ntmps16 Y<|cR e16 ?_
 have H:=H0
 refine Rq<|Xa Y<|Xr e16<|J1<|Rq<|Xm Y<|Jt (yE U23 Y) (by simp)<|Xr e16<|J4 Y<|J6<|J1<|zQ 11 [(true,0),(true,1),(true,2),(true,3),(true,5),(true,6),(true,7),(true,8),(false,4),(true,9),(true,10),(false,11)] H [0,1,2,3,4,5,6] yF (by decide) (by kernel_rfl) ?_
 rintro w1 hw1
 have H1:=Hp.drew H;rw[← hw1]at H1
 refine Zm Y Y<|Zc Y Y<|Zf Y iT Y<|MP Y<|MV (fun wz hz=>EL uF Y (hz.cell (i:=6) Y Y))<|cZ e16<|Zm Y Y<|Zc Y Y<|Zf Y iT Y<|MP Y<|MV (fun wz hz=>EL uF Y (hz.cell (i:=6) Y Y))<|cZ e16<|MO Y ?_
 have hmo:=h.ok.most
 have hfi:=h.ok.first
 refine OC (EC PY Y) (lR v.m.gv W.first W.recs.length v.m.cr (hd v.m.gr) _ (H1.cell (i:=3) Y Y) (H1.cell (i:=3) Y Y) (by omega))<|fun w2 Hc=>have H2:=H1.Ap Hc;OE<|⟨fun hne=>H2.pick [0,1,2,3,4,5,6] (by decide),?_⟩
 refine cZ e16<|MP Y<|rF (fun wz hz=>EC gf47 Y) (fun wz hz=>JV v.m.gv (W.first:Int) wz (hz.cell (i:=3) Y Y))<|MP Y<|MV (fun wz hz=>uI Y Y (Ad _ (by omega)))<|MO Y<|Xa Y<|OE<|⟨fun hne=>absurd Y hne,?_⟩
 refine cZ e16<|ME<|cR e16<|J5<|Cj Y Y<|⟨congrArg (Value.int .i64) (by omega),H2⟩
theorem kO (v:Vm) (D:Dk) (W:Wl) (b:Bo) (bad:Nat→Prop) (w0:World) (H0:Hp w0 w0 (bl (Ar v D W)) (Ar v D W)) (h:Wj w0 v D W b bad) (NB:Nat) (hg:rU b NB) (hN:NB≤900000000000) (hv:∀ x∈bl (Ar v D W),bad x):Aj 14 #[Ah v.gx] w0 (fun r w'=>∃ cs,r=.agg cs.toArray∧Sj w' (fun x=>w0.heap.size≤x∧x∉bl (Ar v D W)) cs b∧U8 cs∧Hp w0 w' (bl (Ar v D W)) (Ar v D W)):=by
 refine zE Tryz.func14 Tryz.ntmps14 Y<|cR e11 ?_
 have H:=H0
 obtain⟨A1,k1,A2,k2,A3,k3,hcs,hb1,hb2,hb3⟩:=id h.bo
 refine Rq<|OA xH H<|fun w1 g2 H1 hg2=>Xr e11<|J1<|Rq<|Xm Y<|Jt (yE U23 Y) (by simp)<|Xr e11<|J4 Y<|J6<|Rq<|Xm Y<|Xc Y<|Xf iS Y<|OV (EN xH Y (vs:=Az A1 b k1 A2 k2 A3 k3) Y (H1.Ak (i:=6) Y (by rw[fN,hcs];rfl)))<|Ae e11 ?_
 have hk:∀ x,¬bad x→x < w0.heap.size→x∉bl (Ar v D W)∧(¬bad x∧x < w0.heap.size):=fun x hx hl=>⟨fun hb=>hx (hv x hb),hx,hl⟩
 have hnb:=Hp.fresh H1
 have hszj:=H1.size
 refine OQ (EC gf46 Y) (FT b A1 k1 A2 k2 A3 k3 NB _ _ (hb1.toS H1 hk) (hb2.toR H1 hk) (hb3.toM H1 hk) hg hN) ?_
 rintro _ w2 ⟨_,rfl,⟨E1,e1,E2,e2,E3,e3,rfl,hE1,hE2,hE3⟩,hcap,Hd⟩
 have HC:=H1.Ap Hd
 have H2:=HC.here
 have kk:∀ x,w1.heap.size≤x→x < w2.heap.size→x∉bl _∧(w0.heap.size≤x∧x∉bl (Ar v D W)):=fun x hx _=>⟨hnb x hx,Ci hszj hx,fun hb=>hnb x hx (by rw[vS];exact Bj.2 (.inl hb))⟩
 refine OS xH H2 7 Y Y Y Y Y (by first|exact NL Y|simp[zG]) Y<|fun w3 H3=>Xr e11<|J5<|uO Y xH (cs:=Az E1 b e1 E2 e2 E3 e3) Y Y (H3.Ak (i:=7) Y Y)<|⟨_,Y,⟨E1,e1,E2,e2,E3,e3,Y,hE1.toS H3 kk,hE2.toR H3 kk,hE3.toM H3 kk⟩,hcap,(HC.all H3).pick [0,1,2,3,4,5,6] (by decide)⟩
set_option maxHeartbeats 16000000
theorem wU {w:World} {ok:Nat→Prop}:Rl w ok Tt Sv.none:=⟨none,0,none,0,none,0,rfl,Sl.none _ _ _ _,Bs.none _ _,Sl.none _ _ _ _⟩
theorem J0 (w0:World):Aj 29 #[] w0 (fun r w'=>∃ cs,r=.agg cs.toArray∧Sj w' (fun x=>w0.heap.size≤x) cs Bo.empty∧Hp w0 w' [] []):=by
 refine zE Tryz.func29 Tryz.ntmps29 Y<|cR e3 ?_
 have H:=Hp.refl w0
 refine Rq<|OA xH H<|fun w1 g1 H1 hg1=>Xr e3<|Rq<|eE Ub xY H1 (n:=8) (c:=8) Y Y (Ai _) (by decide) (by decide)<|fun w2 ge H2 _=>OV (EB xH TD Y Y)<|OS xH H2 0 (vs:=Qc (hd (some ge))) Y Y Y Y Y (Ai 3) Y<|fun w3 H3=>Xr e3<|J5<|uO Y xH (cs:=Qc (hd (some ge))) Y Y (H3.Ak (i:=0) Y Y) ?_
 have HZ:Hp w0 w3 [] [((some g1,41,Qc (hd (some ge))):Ent),((some ge,97,(List.replicate 8 Tt).flatten++[]):Ent)]:=by rw[Dt];exact H3
 refine⟨_,Y,⟨hd (some ge),8,none,0,none,0,Y,Sl.row HZ (i:=1) Y (fun p hp=>by rw[(List.mem_replicate.1 hp).2];rfl) (by decide) ?_ (fun b hb=>?_),Sl.none _ _ _ _,Sl.none _ _ _ _⟩,H3.Ag⟩
 exact⟨wU,wU,wU,wU,wU,wU,wU,wU,trivial⟩
 rcases HZ.place (i:=1) (g:=b) (by cases hb;rfl)with h | h
 cases h
 exact h
theorem J9 (w0:World):Aj 15 #[] w0 (fun r w'=>∃ cs,r=.agg cs.toArray∧Sj w' (fun x=>w0.heap.size≤x) cs Bo.empty∧Hp w0 w' [] []):=by
 refine zE Tryz.func15 Tryz.ntmps15 Y<|cR e3 ?_
 have H:=Hp.refl w0
 refine Rq<|OA xH H<|fun w1 g1 H1 hg1=>Xr e3<|Rq<|eE Ub xY H1 (n:=8) (c:=8) Y Y (Ai _) (by decide) (by decide)<|fun w2 ge H2 _=>OV (EB xH TD Y Y)<|OS xH H2 0 (vs:=Qc (hd (some ge))) Y Y Y Y Y (Ai 3) Y<|fun w3 H3=>Xr e3<|J5<|uO Y xH (cs:=Qc (hd (some ge))) Y Y (H3.Ak (i:=0) Y Y) ?_
 have HZ:Hp w0 w3 [] [((some g1,41,Qc (hd (some ge))):Ent),((some ge,97,(List.replicate 8 Tt).flatten++[]):Ent)]:=by rw[Dt];exact H3
 refine⟨_,Y,⟨hd (some ge),8,none,0,none,0,Y,Sl.row HZ (i:=1) Y (fun p hp=>by rw[(List.mem_replicate.1 hp).2];rfl) (by decide) ?_ (fun b hb=>?_),Sl.none _ _ _ _,Sl.none _ _ _ _⟩,H3.Ag⟩
 exact⟨wU,wU,wU,wU,wU,wU,wU,wU,trivial⟩
 rcases HZ.place (i:=1) (g:=b) (by cases hb;rfl)with h | h
 cases h
 exact h
theorem NZ (A:Option Addr) (k:Nat) (l:List Nt) (Ov:Nat→Prop) (w0:World) (hl:Sl (NtR w0 Ov) 16 w0 Ov A l) (hn:l.length≤840000000000):Aj 33 #[Ac A l.length k] w0 (fun r w'=>∃ cs e b,r=.tuple #[.agg cs.toArray,Aa e]∧Sj w' (fun x=>w0.heap.size≤x) cs b∧Rep l b e∧Hp w0 w' [] []):=by
 refine zE Tryz.func33 Tryz.ntmps33 Y<|cR e20 ?_
 have H:=Hp.refl w0
 obtain⟨ps,hp,hr,ha,h2⟩:=id hl
 have hlen:=h2.len
 refine Rq<|OA xH H<|fun w1 gr H1 hgr=>Xa Y<|Xr e20<|Rq ?_
 have Zp:=Hp.fresh H1
 have hszr:=H1.size
 refine OQ (EC gf29 Y) (J0 _) ?_
 rintro _ w2 ⟨cse,rfl,hbe,Hd⟩
 have H2:=H1.Ap Hd
 have hcl:∃ a b c d e f,cse=[Ac a 8 b,Ac c 0 d,Ac e 0 f]:=by
  obtain⟨_,_,_,_,_,_,rfl,_⟩:=hbe
  exact⟨_,_,_,_,_,_,Y⟩
 obtain⟨z1,y1,z2,y2,z3,y3,rfl⟩:=hcl
 have HB0:=H2
 have HL0:=HB0.here
 refine OA xH HL0<|fun w3 gb H3 hgb=>OS xH H3 1 Y Y Y Y Y (by first|exact NL Y|simp[zG]) Y<|fun w4 H4=>Xr e20<|J1<|Rq<|Xm Y<|OV (ES Ns Y)<|Xm Y<|Xr e20<|J7<|zU (fun nQ lQ w=>∃ (i:Nat) (y:Int) (b:Bo) (cs:List Value),l.length - i=nQ∧xO (Ik [(2,Ah gr),(4,Ah gb),(8,Ac A l.length k),(9,Aa (l.length:Int)),(10,Aa y)] 0 20) lQ∧y=(i:Int)∧i≤l.length∧xZ Bo.empty (l.take i)=some b∧rU b i∧Sj w (fun x=>w0.heap.size≤x∧x≠gr∧x≠gb) cs b∧Hp w0 w [] [((some gr,41,[Dj,Dj,Dj]):Ent),(some gb,41,cs)]) (l.length) ?_ ?_
 exact⟨0,_,Bo.empty,_,rfl,(Qr rfl rfl rfl rfl rfl rfl),rfl,Am _,rfl,rU.empty,hbe.to H4 (fun x hx hl=>⟨Zp x hx,by omega,fun e=>by subst e;have h1:=H4.lt (i:=0) rfl;have h2:=Zp _ hx;exact h2 (by simp[bl]),by omega⟩),(HB0.all H4).pick [0,1] (by decide)⟩
 rintro nQ lQ w5 ⟨i,y,b,cs,rfl,hfit,rfl,hi,hrep,hgood,Zx,H5⟩
 obtain⟨j,rfl⟩:=hfit.open
 refine cR e20 ?_
 clear hfit
 have HB:=H5
 replace H5:=HB.here
 obtain⟨X1,x1,X2,x2,X3,x3,rfl,hx1,hx2,hx3⟩:=Zx
 refine Rq<|OT (zR Y Y) (fun hp11=>?_) (fun hp11=>?_)
 have hil:i < l.length:=by omega
 obtain⟨nt,hx⟩:=yM hil
 obtain⟨p1,hp1,hR⟩:=h2.get hx
 obtain⟨B1,j1,B2,j2,rfl,hbv,Rj⟩:=hR
 obtain⟨a1,ha1⟩:=hr.some_ (by omega)
 subst ha1
 refine Xr e20<|J1<|J3 Y<|J6<|J1<|J7<|Rq<|OV (EI Ns xT Y Y Y hil Y)<|OV (EN xT Y (vs:=Dv nt B1 j1 B2 j2) Y ((hr.to0 (HB.all H5)).elem hp hp1))<|OA xT H5<|fun w6 g6 H6 hg6=>OS xT H6 2 Y Y Y Y Y (by first|exact NL Y|simp[zG]) Y<|fun w7 H7=>Xr e20<|Rq<|OV (EN xT Y (vs:=Dv nt B1 j1 B2 j2) Y (H7.Ak (i:=2) Y Y)) ?_
 have HP:=H7
 have hkb:∀ x,(fun x=>w0.heap.size≤x∧x≠gr∧x≠gb) x→x∉bl [((some gr,0,[]):Ent),(some gb,0,[])]∧(fun x=>w0.heap.size≤x∧x≠gr∧x≠gb) x:=fun x hx=>⟨fun hb=>by
  have:x=gr∨x=gb:=by simpa[bl]using hb
  rcases this with h | h
  · exact hx.2.1 h
  exact hx.2.2 h,hx⟩
 have hkl:∀ x,Ov x→x < w0.heap.size→x∉([]:List Nat)∧(Ov x∧x < w0.heap.size):=fun x hx hl=>⟨by simp,hx,hl⟩
 have hgr0:=HB.place (i:=0) rfl
 have hgb0:=HB.place (i:=1) rfl
 have hnp:=Hp.fresh H7
 have Y0:=(HB.all H7).size
 refine OQ (EC UE rfl) (CQ none gb b X1 x1 X2 x2 X3 x3 nt B1 j1 B2 j2 (fun x=>Ov x∧x < w0.heap.size) i _ (H7.at (i:=1) rfl) (fun x=>w0.heap.size≤x∧x≠gr∧x≠gb) (fun hh=>hh.2.2 rfl) (hx1.toS H7 fun x hx _=>hkb x hx) (hx2.toR H7 fun x hx _=>hkb x hx) (hx3.toM H7 fun x hx _=>hkb x hx) (fun hh=>by rcases hgb0 with h | h;cases h;have:=hh.2;omega) (hbv.to (HB.all H7) hkl) (Rj.to (HB.all H7) hkl) hgood (by omega)) ?_
 rintro r w8 ⟨hyes,hno⟩
 have htk:=qA hrep hx
 cases hin:b.into nt
 obtain⟨rfl,Hd⟩:=hno hin
 have ZT:=(HP.Dq [1] rfl Hd).pick [0] (by decide)
 refine Xn Y<|Xr e20<|J3 Y<|Rq<|OV (EB xH TD Y Y)<|OS xH ZT 0 Y Y Y Y Y (by decide) Y<|fun w9 H9=>Xa Y<|Xr e20<|J5<|BR<|yN<|BR<|xN Y xH (cs:=[Dj,Dj,Dj]) Y Y Y (H9.Ak (i:=0) Y Y)<|⟨_,_,Bo.zero,Y,Sj.zero _ _,.inr ⟨kY (htk.trans hin),Y,Y⟩,(HB.all H9).Ag⟩
 obtain⟨rfl,cs',Hd,hB'⟩:=hyes _ hin
 have ZT:=(HP.Dq [1] rfl Hd).pick [0,3] (by decide)
 refine Xn Y<|Xr e20<|J4 Y<|J6<|zA (zD ?_)
 refine J2<|OV (zL Y Y (Ad _ (by omega)))<|Xm Y<|Xr e20<|zA (zH ?_)
 refine⟨l.length - (i+1),by omega,i+1,_,_,cs',Y,(Qr Y Y Y Y Y Y),by omega,by omega,htk.trans hin,hgood.into hin,hB'.to (Hp.refl _) (fun x hx hl=>⟨by simp,?_⟩),(HB.all ZT).pick [0,1] (by decide)⟩
 rcases hx with hx | hx
 exact hx
 exact⟨by omega,fun e=>by subst e;have:=HP.lt (i:=0) rfl;omega,fun e=>by subst e;have:=HP.lt (i:=1) rfl;omega⟩
 obtain rfl:i=l.length:=by omega
 refine Xr e20<|J1<|J4 Y<|J8<|zT<|zS<|Rq<|OV (EN xH Y (vs:=Az X1 b x1 X2 x2 X3 x3) Y (H5.Ak (i:=1) Y Y))<|OS xH H5 0 Y Y Y Y Y (Ai 3) Y<|fun w6 H6=>Xa Y<|Xr e20<|J5<|xN Y xH (cs:=Az X1 b x1 X2 x2 X3 x3) Y Y Y (H6.Ak (i:=0) Y Y) ?_
 rw[Cc]at hrep
 refine⟨_,_,b,Y,Sj.to (ok:=(fun x=>w0.heap.size≤x∧x≠gr∧x≠gb)) ⟨X1,x1,X2,x2,X3,x3,Y,hx1,hx2,hx3⟩ H6 (fun x hx hl=>⟨fun hb=>?_,hx.1⟩),.inl ⟨hrep,Y,hgood⟩,(HB.all H6).Ag⟩
 have:x=gr∨x=gb:=by simpa[bl]using hb
 rcases this with h | h
 exact hx.2.1 h
 exact hx.2.2 h
end Go.Proofs.YtjoeklkmnfaabaaGreat
namespace Go.Proofs.YtjoeklkmnfaabaaGreat
set_option maxRecDepth 100000
set_option maxHeartbeats 4000000
open Go Go.RowKit
set_option linter.unusedVariables false
attribute [local irreducible] yT Ops zO Cd
theorem pl69 :wW Tryz.prog 69=some [(0,1),(1,3)]:=by kernel_rfl
namespace Rn
attribute [local irreducible] Cd
theorem Yh (gd gk:Nat) (gw:Option Nat) (cw:Nat) (sp:List Value) (D:Dk) (w0:World) (H0:Hp w0 w0 (bl (Bv gd gk gw cw sp D)) (Bv gd gk gw cw sp D)) (hD:Qq D gw cw sp) (hup:D.down=false) (hwt:D.wait.length≤1000000000) (W:Wl) (s:Nat) (Xo:Lg D.show D.kept.length W s) (ht:W.told=W.recs.length) (htu:W.turn≤2^50) (hfi:W.first≤2^50) (L:List Nt) (hL:W.recs=L.map xM) (hNt:∀ n∈L,NtB n∧Nc n=0) (b:Bo) (hrep:xZ Bo.empty L=some b) (hn:L.length≤100000):rV Tryz.prog 7 #[Ah gd] w0 (fun r w'=>∃ (v:Vm) (W':Wl),r=.tuple #[Ah v.gx,Aa 0]∧v.m.gd=gd∧v.m.gk=gk∧W'.recs=W.recs∧W'.first=W.first∧W'.turn=W.turn∧W'.told=W'.recs.length∧W'.dead=false∧Lg D.show D.kept.length W' s∧Wj w' v D W' b (fun x=>x < w0.heap.size∨x∈bl (Ar v D W'))∧Hp w0 w' (bl (Bv gd gk gw cw sp D)) (Ar v D W')) (fun _ _=>False):=by
 refine zE Tryz.func7 Tryz.ntmps7 Y ?_
 change Run _ _ _ _ [Ah gd,undef,undef,undef,undef,undef,undef,undef,undef,undef,undef,undef,undef,undef,undef,undef,undef,undef,undef,undef,undef,undef,undef,undef,undef,undef,undef,undef,undef,undef,undef,undef,undef,undef,undef,undef,undef,undef,undef,undef,undef,undef,undef] _
 have H:=H0
 refine zN<|zI Y (fun _ _ h=>h)<|OA gB H<|fun w1 g2 H1 hg2=>OA oA H1<|fun w2 g3 H2 hg3=>OE ?_
 change Run _ _ _ _ [_,_,_,_,_,_,_,_,_,_,_,_,_,_,_,_,_,_,_,_,_,_,_,_,_,_,_,_,_,_,_,_,_,_,_,_,_,_,_,_,_,_,_] _
 refine zN<|zI Y (fun _ _ h=>h)<|Xm Y<|OQ (EC gf28 Y) (GV gd gk gw cw sp D _ (H2.pick [0,1,2] (by decide)).here hD hup hwt W s Xo ht htu hfi) ?_
 have hszo:=H2.size
 have hg2o:=H2.lt (i:=3) rfl
 have hg3o:=H2.lt (i:=4) rfl
 rintro _ w3 ⟨m,W1,rfl,e1,e2,hxs,hok,Hd,f1,f2,f3,f4,f5,hlg1⟩
 have H3:=(H2.Dq [0,1,2] rfl Hd).pick [5,6,7,8,9,10,3,4] (by decide)
 have hls1:=Xi.new hxs hok
 have hb8:∀ x∈bl (Ba m D W1++[((some g2,23,[.pointer none]):Ent),(some g3,24,[Aa (0:Int)])]),x < w2.heap.size∨x∈bl (Ba m D W1)∨w3.heap.size≤x:=fun x hx=>by
  rw[vS]at hx
  rcases Bj.1 hx with hx | hx
  · exact .inr (.inl hx)
  have h1:x=g2∨x=g3:=by simpa[bl]using hx
  rcases h1 with rfl | rfl
  · exact .inl hg2o
  exact .inl hg3o
 refine Xm Y<|Xe Y Y<|Ae e43<|Xe Y Y<|Xa Y<|Xa Y<|OE ?_
 change Run _ _ _ _ [_,_,_,_,_,_,_,_,_,_,_,_,_,_,_,_,_,_,_,_,_,_,_,_,_,_,_,_,_,_,_,_,_,_,_,_,_,_,_,_,_,_,_] _
 refine zN<|zN<|zI Y (fun _ _ h=>h)<|Xm Y<|Jt (yR Y Y) (by decide)<|OE ?_
 change Run _ _ _ _ [_,_,_,_,_,_,_,_,_,_,_,_,_,_,_,_,_,_,_,_,_,_,_,_,_,_,_,_,_,_,_,_,_,_,_,_,_,_,_,_,_,_,_] _
 refine zX Y<|xI<|zN<|zI Y (fun _ _ h=>h)<|Xm Y ?_
 have HE:=H3
 obtain⟨z0,hz0⟩:∃ z,z=w3.heap.size:=⟨_,rfl⟩
 refine OQ (EC gf29 Y) (J0 _) ?_
 rintro _ w4 ⟨_,rfl,⟨E1,e1',E2,e2',E3,e3',rfl,hE1,hE2,hE3⟩,Hd0⟩
 have H4:=H3.Ap Hd0
 have HW:=H4
 replace H4:=HW.here
 refine OV (EB ty69 pl69 Y Y)<|zW Y Y H4<|fun w5 gx H5 hgx=>Ae e43<|OA gB H5<|fun w6 g6 H6 hg6=>OW gB H6 9 Y Y Y Y (by decide) Y<|fun w7 H7=>OE ?_
 change Run _ _ _ _ [_,_,_,_,_,_,_,_,_,_,_,_,_,_,_,_,_,_,_,_,_,_,_,_,_,_,_,_,_,_,_,_,_,_,_,_,_,_,_,_,_,_,_] _
 refine zN<|zN<|zI Y (fun _ _ h=>h)<|Xm Y<|OQ (EC gf30 Y) (U7 (Ah m.gv) _ Y) ?_
 rintro r wS ⟨gb,hr,Hc⟩
 rw[hr]
 have HSx:=H7.call0 Hc
 refine OE ?_
 change Run _ _ _ _ [_,_,_,_,_,_,_,_,_,_,_,_,_,_,_,_,_,_,_,_,_,_,_,_,_,_,_,_,_,_,_,_,_,_,_,_,_,_,_,_,_,_,_] _
 refine wF ?_
 have HS:=HW.all HSx
 have hszS:=HS.size
 have hszE:=HE.size
 have hz6:=Hd0.size
 rw[← hz0]at hz6
 have hS8:∀ x∈bl (Ba m D W1++[((some g2,23,[.pointer none]):Ent),(some g3,24,[Aa (0:Int)])]),x < z0:=fun x hx=>by rw[hz0];exact pZ HE hx
 have hgx0:=lY HSx 8 rfl (fun p hp=>by simp only[hd,Hy,Option.some.injEq]at hp;subst hp;exact Fg HSx (i:=8) rfl (is:=[0,1,2,3,4,5,6,7]) (by decide)) ⟨gx,0,none⟩ rfl
 have hg60:=lY HSx 9 rfl (fun p hp=>by simp only[hd,Hy,Option.some.injEq]at hp;subst hp;exact Fg HSx (i:=9) rfl (is:=[0,1,2,3,4,5,6,7]) (by decide)) ⟨g6,0,none⟩ rfl
 simp only at hgx0 hg60
 have hgxl:=HS.lt (i:=8) rfl
 have hg6l:=HS.lt (i:=9) rfl
 have hgbl:=HS.lt (i:=10) rfl
 have hgvl:=HS.lt (i:=3) rfl
 have hne1:gx≠gb:=HS.ne (i:=8) (j:=10) rfl rfl (by decide)
 have hne2:g6≠gb:=HS.ne (i:=9) (j:=10) rfl rfl (by decide)
 have hne3:gx≠m.gv:=HS.ne (i:=8) (j:=3) rfl rfl (by decide)
 have hne4:g6≠m.gv:=HS.ne (i:=9) (j:=3) rfl rfl (by decide)
 have hrcE:∀ x∈Xv m.xs,x < z0:=fun x hx=>by rw[hz0];exact N0 hok.lst x hx
 have hkE:∀ x,z0≤x→x < w4.heap.size→x∉bl (Ba m D W1++[((some g2,23,[.pointer none]):Ent),(some g3,24,[Aa (0:Int)])])∧(z0≤x∧x∉[gx,g6]):=fun x hx hl=>⟨fun hb=>by have:=hS8 x hb;omega,hx,fun hm=>by
  simp only[Cm,Lu,or_false]at hm
  omega⟩
 have hlsS:=(hls1.keep Hd0 (fun _ hb=>by cases hb) (fun _ hb _=>hb)).keep HSx (fun x hx=>hb8 x hx) (fun _ hb _=>hb)
 have hokS:Lr wS m D W1:={ hok with lst:=hlsS.lsw (fun x hx=> .inr (.inl hx)) }
 have HS89:Hp wS wS [gx,g6] [((some gx,69,Ah m.gv::[Ac E1 Bo.empty.groups.length e1',Ac E2 Bo.empty.rights.length e2',Ac E3 Bo.empty.last.length e3']):Ent),(some g6,23,[Ah gx])]:=(HS.pick [8,9] (by decide)).here
 rw[← hz0]at hE1 hE2 hE3
 have hbE:Sj wS (fun x=>(z0≤x∧x∉[gx,g6])∧isC wS x) [Ac E1 Bo.empty.groups.length e1',Ac E2 Bo.empty.rights.length e2',Ac E3 Bo.empty.last.length e3'] Bo.empty:=⟨E1,e1',E2,e2',E3,e3',rfl,(hE1.toS HSx hkE).Vq (by decide) fun _ _ h=>h.Vq,(hE2.toR HSx hkE).Vq (by decide) fun _ _ h=>h,(hE3.toM HSx hkE).Vq (by decide) fun _ _ h=>h⟩
 refine AO (ps:=[25,26]) (gf:=60) (lb:=[Ah gb]) (N:=W1.recs.length) (B:=(gb::m.gv::Xv m.xs)) Tryz.func7 Y gf60
  (It:=WI wS.heap.size W1)
  (fun w1 Hw1=>RN gb m D W1 w1 ((HS.Ap Hw1).pick [0,1,2,3,4,5] (by decide)).here (hokS.keep0 Hw1) ((HS.Ap Hw1).cell (i:=10) (o:=0) rfl rfl) wS.heap.size Hw1.size)
  (fun x hx=>by
   simp only[Cm]at hx
   rcases hx with rfl | rfl | hx
   · exact hgbl
   · exact hgvl
   have:=hrcE x hx;omega)
  (fun k W2 O=>∃ (cs:List Value) (bk:Bo),O=[gx,g6]∧xZ Bo.empty (L.take k)=some bk∧Sj W2 (fun x=>(z0≤x∧x∉[gx,g6])∧isC W2 x) cs bk∧Hp wS W2 [gx,g6] [((some gx,69,Ah m.gv::cs):Ent),(some g6,23,[Ah gx])])
  (fun _ _=>False) (fun _ _=>False)
  [gx,g6]
  (fun x hx=>by
   simp only[Cm,Lu,or_false]at hx
   rcases hx with rfl | rfl
   · exact FV hne1 hne3 (fun h9=>by have:=hrcE _ h9;omega)
   exact FV hne2 hne4 (fun h9=>by have:=hrcE _ h9;omega))
  (fun l args=>((l.set 25 (args.getD 0 undef)).set 26 (args.getD 1 undef)).set 8 (args.getD 1 undef))
  (fun k W2 O hJ x hx=>by
   obtain⟨cs,bk,rfl,_,_,HJ⟩:=hJ
   exact sJ HJ x hx)
  (fun k W2 O W3 L' hJ hL' HL hnl=>by
   obtain⟨cs,bk,rfl,h1,h2,HJ⟩:=hJ
   refine⟨cs,bk,Y,h1,h2.to HL (fun x hx _=>?_),HJ.loop HL hnl hL'⟩
   have hxL:x∉[L']:=fun hm=>by
    obtain⟨arr,T,z,hz⟩:=hx.2
    rw[Bc.1 hm]at hz
    exact hnl _ _ _ hz
   exact⟨hxL,hx.1,hx.2.to HL hxL⟩)
  (fun _ _ _ _ hx=>hx.elim)
  (fun k W2 args G hI=>by
   obtain⟨bb,g,cap,sp',i1,rfl,i2,i3,i4,rfl,i5,i6⟩:=hI
   refine⟨Y,sJ i5,fun W3 L' HL hL' hnl=>⟨bb,g,cap,sp',i1,Y,i2,i3,i4,Y,?_,i6⟩⟩
   exact(((i5.widen (S':=bl [((g,5,u8s bb++sp'):Ent)]++[L']) (fun x hx=>Bj.2 (.inl hx))).past HL (fun x hx=> .inl (Bj.2 (.inr hx))) (fun x hx hx2=>by
    obtain⟨arr,T,z,hz⟩:=sJ i5 x hx
    rw[Bc.1 hx2]at hz
    exact hnl _ _ _ hz))).here)
  ⟨_,Bo.empty,rfl,rfl,hbE,HS89⟩ ?_ ?_ ?_ (fun _ _ _ hx=>hx.elim) (fun _ _ _ hx=>hx.elim)
 rintro k W2 args G L' ⟨bb,gn,cn,sn,_,rfl,_⟩
 change Run _ _ _ _ [_,_,_,_,_,_,_,_,_,_,_,_,_,_,_,_,_,_,_,_,_,_,_,_,_,_,_,_,_,_,_,_,_,_,_,_,_,_,_,_,_,_,_] _
 refine zI Y (fun _ _ h=>(by cases h.1))<|Xa Y<|OE ?_
 change Run _ _ _ _ [_,_,_,_,_,_,_,_,_,_,_,_,_,_,_,_,_,_,_,_,_,_,_,_,_,_,_,_,_,_,_,_,_,_,_,_,_,_,_,_,_,_,_] _
 refine zA<|⟨Y,Y,Y,Y⟩
 rintro k W2 O args G L' hk ⟨cs,bk,rfl,hrk,hbo,HJ⟩ ⟨bb,gn,cn,sn,hbk,rfl,i2,i3,i4,rfl,i5,i6⟩ hGO
 obtain⟨X1,x1,X2,x2,X3,x3,rfl,hx1,hx2,hx3⟩:=id hbo
 have hkL:k < L.length:=by rw[f1,hL,Bl]at hk;exact hk
 obtain⟨nt,hx⟩:=yM hkL
 obtain rfl:xM nt=bb:=by
  rw[f1,hL,Oy,hx]at hbk
  exact Option.some.inj hbk
 have hnt:=hNt nt (mem_of hx)
 obtain⟨hr0,hgot⟩:=TM hnt.1 hnt.2
 obtain⟨b3,hin⟩:∃ b3,bk.into nt=some b3:=by
  obtain⟨c,hc⟩:=eZ (k+1) hrep
  exact⟨c,(qA hrk hx).symm.trans hc⟩
 have hgood:rU bk k:=by
  have h9:=rU.Yv rU.empty hrk
  rw[Au,Aw,Ii (by omega)]at h9
  exact h9
 have hszJ:=HJ.size
 have HB:=HJ.here
 change Run _ _ _ _ [_,_,_,_,_,_,_,_,_,_,_,_,_,_,_,_,_,_,_,_,_,_,_,_,_,_,_,_,_,_,_,_,_,_,_,_,_,_,_,_,_,_,_] _
 refine wF<|zN<|zI Y (fun _ _ h=>h)<|Xm Y<|CG (EC gf31 Y) (TL (hd gn) (xM nt) cn _ (i5.rd (i:=0) (o:=gn) (xs:=u8s (xM nt)) (sp:=sn) Y (yV _) (by decide)) (by have:=jF nt;omega))<|fun w8 cr hM Hd=>?_
 rw[hgot]at hM
 rw[hr0]
 have hvl:=LQ hnt.2
 have hnr:=M_nt hM hvl.1 hvl.2
 obtain⟨B1,j1,B2,j2,rfl,hbv,hbe⟩:=hnr
 have HR1:=HB.Ap Hd
 have H8:=HR1.here
 refine Xm Y<|Xe Y Y<|Ae e43<|Xe Y Y<|OA xT H8<|fun w9 g9 H9 hg9=>OS xT H9 2 Y Y Y Y Y (Ai 16) Y<|fun Nu Eh=>Xa Y<|OE ?_
 change Run _ _ _ _ [_,_,_,_,_,_,_,_,_,_,_,_,_,_,_,_,_,_,_,_,_,_,_,_,_,_,_,_,_,_,_,_,_,_,_,_,_,_,_,_,_,_,_] _
 refine zN<|zQ 9 [(true,0),(true,1),(true,2),(true,3),(true,4),(true,5),(true,6),(false,7),(true,8),(false,9)] Eh [1,2] yF (by decide) (by kernel_rfl) Y ?_
 rintro w10 Ql
 have Df:=Hp.drew Eh;rw[← Ql]at Df
 refine Zm Y Y<|MP Y<|iM (fun wz hz=>yR Y Y) (by decide)<|Zm Y Y<|MP Y<|MY Y<|MV (fun wz hz=>EL gB Y (hz.cell (i:=0) Y Y))<|cZ e43<|MP Y<|MY Y<|MV (fun wz hz=>yH Y)<|MP Y<|MY Y<|MV (fun wz hz=>EF iS Y)<|MP Y<|MY Y<|MV (fun wz hz=>EN xT Y (vs:=Dv nt B1 j1 B2 j2) Y (hz.Ak (i:=1) Y Y))<|MO Y<|OY Y ?_
 have hHg:=Df
 have hszg:=Df.size
 have hszR:=HR1.size
 have hkX:∀ x,((z0≤x∧x∉[gx,g6])∧isC W2 x)→x < W2.heap.size→x∉[gx,g6]∧(z0≤x∧x∉[gx,g6]):=fun x hx _=>⟨hx.1.2,hx.1⟩
 have hkn:∀ x,W2.heap.size≤x→x∉[gx,g6]∧W2.heap.size≤x:=fun x hx=>⟨fun hm=>by
  have h1:=HJ.lt (i:=0) rfl
  have h2:=HJ.lt (i:=1) rfl
  simp only[Cm,Lu,or_false]at hm
  omega,hx⟩
 have HX:=HR1.all Df
 refine OQ (EC UE Y) (CQ (some (Ah m.gv)) gx bk X1 x1 X2 x2 X3 x3 nt B1 j1 B2 j2 (fun x=>W2.heap.size≤x) k _ (Df.at (i:=0) Y) (fun x=>z0≤x∧x∉[gx,g6]) (fun hh=>hh.2 (by simp)) (hx1.toS HX hkX) (hx2.toR HX hkX) (hx3.toM HX hkX) (fun hh=>by have:=HJ.lt (i:=0) Y;omega) (hbv.to Df fun x hx _=>hkn x hx.1) (hbe.to Df fun x hx _=>hkn x hx.1) hgood (by omega)) ?_
 rintro r w12 ⟨hyes,_⟩
 obtain⟨rfl,cs',Hd2,hB'⟩:=hyes _ hin
 have Gi:=(hHg.Dq [0] rfl Hd2).pick [3,1,2] (by decide)
 refine OE ?_
 refine⟨fun hne=>Gi.pick [1,2] (by decide),?_⟩
 refine cZ e43<|MP Y<|MY Y<|MV (fun wz hz=>aF Y)<|MO Y<|Xu Y Y<|OE<|⟨fun hne=>absurd Y hne,?_⟩
 refine cZ e43<|ME ?_
 change Run _ _ _ _ [_,_,_,_,_,_,_,_,_,_,_,_,_,_,_,_,_,_,_,_,_,_,_,_,_,_,_,_,_,_,_,_,_,_,_,_,_,_,_,_,_,_,_] _
 refine zX Y<|xI<|zA (zD ?_)
 refine zA ?_
 have HZ:=Gi.pick [0,1] (by decide)
 have hHz:=HR1.all HZ
 have hszz:=hHz.size
 refine⟨Y,hHz.Ag.widen (fun x hx=>Bj.2 (.inl hx)),_,fun x hx=> .inl (Bj.2 (.inl hx)),cs',b3,Y,(qA hrk hx).trans hin,?_,HJ.all hHz⟩
 refine(hB'.Vq).to (Hp.refl _) (fun x hx _=>⟨by simp,⟨?_,?_⟩,hx.2⟩)
 rcases hx.1 with h1 | h1
 exact h1.1
 omega
 rcases hx.1 with h1 | h1
 exact h1.2
 intro hm
 have h2:=HJ.lt (i:=0) rfl
 have h3:=HJ.lt (i:=1) rfl
 simp only[Cm,Lu,or_false]at hm
 omega
 rintro Dm W2 O ⟨cs,bk,rfl,hrk,hbo,HJ⟩ hDm hDl
 have hNl:W1.recs.length=L.length:=by rw[f1,hL,Bl]
 rw[hNl,Cc,hrep]at hrk
 obtain rfl:b=bk:=Option.some.inj hrk
 have HF:=(HS.Dq [8,9] rfl HJ).pick [0,1,2,3,4,5,6,7,11,12] (by decide)
 have HFh:=HF.here
 refine zA (zD ?_)
 refine zN<|zI Y (fun _ _ h=>h)<|OV (EL gB Y (HFh.cell (i:=9) Y Y))<|OW gB HFh 6 Y Y Y Y (by simp) Y<|fun w8 H8=>OW oA H8 7 Y Y Y Y (by simp) Y<|fun w9 H9=>OE ?_
 change Run _ _ _ _ [_,_,_,_,_,_,_,_,_,_,_,_,_,_,_,_,_,_,_,_,_,_,_,_,_,_,_,_,_,_,_,_,_,_,_,_,_,_,_,_,_,_,_] _
 refine wD ?_
 have ZP:=keepD hDm H9 (fun x hx=>sJ HF x hx)
 have H8:=(HF.all H9).loop (Hp.Yw (.deferred none) ZP) (O4 ZP) (by omega)
 refine⟨Dm,_,Y,run_takeDeferred ZP,_,jU Y gB oA Y Y (H8.cell (i:=6) (o:=0) Y Y) (H8.cell (i:=7) (o:=0) Y Y),⟨m,gx,cs⟩,W1,Y,e1,e2,f1,f2,f3,by rw[f4,f1],f5,hlg1,?_,H8.pick [0,1,2,3,4,5,8] (by decide)⟩
 have hdn:∀ arr T z,w9.heap[Dm]?≠some (.cells arr T z):=O4 ZP
 have hrF:∀ x,x∈bl ((Ba m D W1++[((some g2,23,[.pointer none]):Ent),(some g3,24,[Aa (0:Int)])])++[((some gx,69,Ah m.gv::cs):Ent),(some g6,23,[Ah gx])])→x < z0∨x=gx∨x=g6:=fun x hx=>by
  rw[vS]at hx
  rcases Bj.1 hx with hx | hx
  · exact .inl (hS8 x hx)
  have h1:x=gx∨x=g6:=by simpa[bl]using hx
  exact .inr h1
 have hbF:∀ x,x∈bl ((Ba m D W1++[((some g2,23,[.pointer none]):Ent),(some g3,24,[Aa (0:Int)])])++[((some gx,69,Ah m.gv::cs):Ent),(some g6,23,[Ah gx])])→x < w2.heap.size∨x∈bl (Ba m D W1)∨w3.heap.size≤x:=fun x hx=>by
  rw[vS]at hx
  rcases Bj.1 hx with hx | hx
  · exact hb8 x hx
  have h1:x=gx∨x=g6:=by simpa[bl]using hx
  right;right;omega
 have hls:=((hlsS.keep HJ (fun x hx=> .inr (.inr (by simp only[Cm,Lu,or_false]at hx;omega))) (fun x hx _=>hx)).keep H9 (fun x hx=>hbF x hx) (fun x hx _=>hx)).loop (Hp.Yw (.deferred none) ZP) hdn
 have hbo2:=(hbo.to H9 (ok':=fun x=>(z0≤x∧x∉[gx,g6])∧isC w9 x) (fun x hx _=>by
  have h1:x∉bl _:=fun hb=>by
   rcases hrF x hb with h2 | h2
   · have:=hx.1.1;omega
   exact hx.1.2 (by simpa using h2)
  exact⟨h1,hx.1,hx.2.to H9 h1⟩)).to (Hp.Yw (.deferred none) ZP) (ok':=fun x=>¬(x < w0.heap.size∨x∈bl (Ar ⟨m,gx,cs⟩ D W1))) (fun x hx _=>⟨fun hm=>by
  obtain⟨arr,T,z,hz⟩:=hx.2
  rw[Bc.1 hm]at hz
  exact hdn _ _ _ hz,fun hb=>by
  rcases hb with hb | hb
  · have:=hx.1.1;omega
  rw[vS]at hb
  rcases Bj.1 hb with hb | hb
  · have:=hS8 x (Fp hb);have:=hx.1.1;omega
  have h1:x=gx:=by simpa[bl]using hb
  exact hx.1.2 (by simp[h1])⟩)
 have hls2:Xi (w9.putObj Dm (.deferred none)) (fun x=>x < w0.heap.size∨x∈bl (Ar ⟨m,gx,cs⟩ D W1)) m.xs W1.recs:=hls.keep (Hp.refl _) (fun _ hb=>by cases hb) (fun x hb _=>by
  rcases hb with hb | hb
  · left;omega
  rw[vS]at hb
  rcases Bj.1 hb with hb | hb
  · exact .inr (.inl hb)
  have h1:x=gx:=by simpa[bl]using hb
  right;right;omega)
 exact⟨{ hok with lst:=hls2.lsw fun x hx=> .inr (Fp hx) },hls2,hbo2⟩
end Rn
end Go.Proofs.YtjoeklkmnfaabaaGreat
namespace Go.Proofs.YtjoeklkmnfaabaaGreat
open Go Go.RowKit
set_option linter.unusedVariables false
set_option linter.unusedSimpArgs false
theorem Vt.ext_iff' {a b:Vt}:a=b↔a.slot=b.slot∧(a.b.r=b.b.r∧a.b.n=b.b.n)∧a.val=b.val:=by
 rcases a with ⟨_,⟨_,_⟩,_⟩;rcases b with ⟨_,⟨_,_⟩,_⟩;simp
theorem En.ext_iff' {a b:En}:a=b↔a.slot=b.slot∧a.val=b.val:=by cases a;cases b;simp
theorem Mk.ext_iff' {a b:Mk}:a=b↔a.client=b.client∧a.seq=b.seq:=by cases a;cases b;simp
theorem Sv.ext_iff' {a b:Sv}:a=b↔(a.p.r=b.p.r∧a.p.n=b.p.n)∧a.Bd=b.Bd∧a.index=b.index∧a.image=b.image∧a.entries=b.entries:=by
 rcases a with ⟨⟨_,_⟩,_,_,_,_⟩;rcases b with ⟨⟨_,_⟩,_,_,_,_⟩;simp
theorem Bo.ext_iff' {a b:Bo}:a=b↔a.groups=b.groups∧a.rights=b.rights∧a.last=b.last:=by cases a;cases b;simp
instance:DecidableEq Vt:=fun _ _=>decidable_of_iff _ Vt.ext_iff'.symm
instance:DecidableEq En:=fun _ _=>decidable_of_iff _ En.ext_iff'.symm
instance:DecidableEq Mk:=fun _ _=>decidable_of_iff _ Mk.ext_iff'.symm
instance:DecidableEq Sv:=fun _ _=>decidable_of_iff _ Sv.ext_iff'.symm
instance:DecidableEq Bo:=fun _ _=>decidable_of_iff _ Bo.ext_iff'.symm
section
variable {l:List Value} {w:World} {ty t t':TypeId} {x y:Operand}
theorem G9 {r q:Rt} (hx:ev l x=some (.agg (Nz r).toArray)) (hy:ev l y=some (.agg (Nz q).toArray)):Ex Tryz.prog l (.binOp .neq 35 x y t') ty w (.value (.bool (decide (r≠q)))) w:=by
 have h:=eT (ty:=ty) (t':=t') (w:=w) (op:=.neq) (P:=Tryz.prog) (t:=35) (by kernel_rfl) (fun w=>QW r q w 9998) hx hy (.inr rfl)
 rw[decide_not]
 exact h
theorem X7 (m q:Mk) (w:World) (n:Nat):(Op.equalIn (n+3) 110 (.agg (Uo m).toArray) (.agg (Uo q).toArray)).run Tryz.prog w=.ok (decide (m=q)) w:=by
 have u3:=Tryz.underlying3
 have a3:=Tryz.isAgg3
 have z3:=Tryz.sizeOf3
 have u4:=Tryz.underlying4
 have a4:=Tryz.isAgg4
 have z4:=Tryz.sizeOf4
 have a5:=Tryz.isAgg108
 have z5:=Tryz.sizeOf108
 have e5:=fun w=>eq_an w n
 have hS:Tryz.prog.underlying 110=some (.struct (Tryz.prog.fieldsOf 110)):=by kernel_rfl
 have hp:Tryz.prog.stoodInHeld 110=false:=by kernel_rfl
 rw[show(n+3:Nat)=(n+2)+1 from rfl,run_equalIn_agg w (n+2) 110 _ _ hS hp]
 simp only[Program.fieldsOf,Tryz.underlying110,Uo]
 simp only[List.toArray]at e5 ⊢
 rw[show decide (m=q)=decide (m.client=q.client∧m.seq=q.seq) from decide_eq_decide.2 Mk.ext_iff']
 go_simp
 by_cases h1:m.client=q.client <;>by_cases h2:m.seq=q.seq <;>simp[h1,h2]
theorem HK {m q:Mk} (hx:ev l x=some (.agg (Uo m).toArray)) (hy:ev l y=some (.agg (Uo q).toArray)):Ex Tryz.prog l (.binOp .neq 110 x y t') ty w (.value (.bool (decide (m≠q)))) w:=by
 have h:=eT (ty:=ty) (t':=t') (w:=w) (op:=.neq) (P:=Tryz.prog) (t:=110) (by kernel_rfl) (fun w=>X7 m q w 9997) hx hy (.inr rfl)
 rw[decide_not]
 exact h
end
theorem pI {X:Type} {l m:List X} {i:Nat} {x y:X} (h:l.take i=m.take i) (hx:l[i]? =some x) (hy:m[i]? =some y) (he:x=y):l.take (i+1)=m.take (i+1):=by
 rw[xE hx,xE hy,h,he]
theorem kX {X:Type} {l m:List X} {i:Nat} {x y:X} (hx:l[i]? =some x) (hy:m[i]? =some y) (he:¬x=y):¬l=m:=fun h=>by
 subst h
 rw[hx]at hy
 exact he (Option.some.inj hy)
theorem nE {X:Type} {l m:List X} (h:l.take l.length=m.take l.length) (hl:l.length=m.length):l=m:=by
 rw[Cc,hl,Cc]at h
 exact h
section
variable {w0 w w':World} {S S':List Nat} {es es':List Ent} {n0 n1 m:Nat} {gi g:Option Nat} {b:Blk} {p:List Value} {n:Nt}
theorem RF {T:TypeId} {cs:List Value} {k:Nat} (h:k∈bl [((g,T,cs):Ent)]):g=some k:=by
 obtain⟨e,he,hg⟩:=Fb.1 h
 rw[Bc.1 he]at hg;exact hg
theorem YC (H:Hp w0 w [] es) {k:Nat} (h:k∈bl es):w0.heap.size≤k:=by
 obtain⟨⟨g,T,cs⟩,he,hg⟩:=Fb.1 h
 obtain⟨i,hi⟩:=Dh he
 simp only at hg
 subst hg
 rcases H.place hi with h | h
 · cases h
 exact h
section
variable {wI wB:World} {SS:List Nat} {R:List Ent} {u:Option Nat} {cs0 cs:List Value} {qs:List (List Value)} {l:List Nt}
end
end
theorem Rep.size {l:List Nt} {b:Bo} {e:Int} (h:Rep l b e) (hn:l.length≤840000000000):b.groups.length≤1000000000000000000∧b.rights.length≤1000000000000000000∧b.last.length≤1000000000000000000∧∀ x∈b.groups,x.Bd.length≤1000000000000000000∧x.entries.length≤1000000000000000000:=by
 rcases h with ⟨_,_,h⟩ | ⟨_,rfl,_⟩
 · have h1:=h.eight
   have h2:=h.few
   have h3:=mF h.Yk
   exact⟨by omega,by omega,by omega,h.fews⟩
 exact⟨by decide,by decide,by decide,fun x hx=>by cases hx⟩
end Go.Proofs.YtjoeklkmnfaabaaGreat
