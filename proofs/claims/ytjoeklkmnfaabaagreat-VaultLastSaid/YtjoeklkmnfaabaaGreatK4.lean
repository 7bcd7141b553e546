/-
  Parts of the walk, one behind the other.
-/
import Derived.Test.YtjoeklkmnfaabaaGreatK3
namespace Go.Proofs.YtjoeklkmnfaabaaGreat
set_option maxRecDepth 100000
set_option maxHeartbeats 4000000
open Go Go.RowKit
set_option linter.unusedVariables false
attribute [local irreducible] yT Ops zP Cd
theorem VI (A:Option Addr) (c:Nat) (ps:List (List Value)) (n k gc:Nat) (hn:ps.length=n) (pr:List Value→Bool) (w0:World) (hp:Pl 4 ps) (hr:Rd w0 A ps.length 4 ps.flatten) (hl:ps.length≤4611686018427387904) (hk:Vx Tryz.prog k gc pr ps w0):zP Tryz.prog 213 #[.slice A n c,.func (.func k) #[] #[.pointer (some ⟨gc,0,none⟩)]] w0 (fun r w'=>∃ y:Int,r=.int .i64 y∧WE ps pr y∧Hp w0 w' [] []):=by
 refine zE Tryz.func213 Tryz.ntmps213 Y<|cR e19 ?_
 subst hn
 have H:=Hp.refl w0
 refine Rq<|Xa Y<|Xr e19<|J1<|Rq<|Xm Y<|OV (ES Tryz.underlying94 Y)<|Xm Y<|Xr e19<|J7<|zU (fun nQ lQ w=>∃ (jj:Nat) (y:Int),ps.length - jj=nQ∧xN (Dj [(0,.slice A ps.length c),(1,.func (.func k) #[] #[.pointer (some ⟨gc,0,none⟩)]),(7,.int .i64 (ps.length:Int)),(8,.int .i64 y)] 0 19) lQ∧y=(jj:Int)∧jj≤ps.length∧(∀ q∈ps.take jj,pr q=false)∧Hp w0 w [] []) (ps.length) ?_ ?_
 exact⟨0,_,Y,(Dv Y Y Y Y Y),Y,Nat.zero_le _,fun q hq=>by simp at hq,H⟩
 rintro nQ lQ w1 ⟨jj,y,rfl,hfit,rfl,hj,hno,H1⟩
 obtain⟨j,rfl⟩:=hfit.open
 refine cR e19 ?_
 clear hfit
 refine Rq<|OT (zQ Y Y) (fun hp9=>?_) (fun hp9=>?_)
 have hjl:jj < ps.length:=by omega
 obtain⟨p1,hp1⟩:=yM hjl
 obtain⟨a1,ha1⟩:=hr.some_ (by omega)
 subst ha1
 refine Xr e19<|J1<|J3 Y<|J6<|J1<|J7<|Rq<|Xm Y<|Xa Y<|Xr e19<|Rq<|Xm Y<|Xm Y<|Xm Y<|OV (EI Tryz.underlying94 yZ Y Y Y hjl Y)<|Aa e19<|OV (EN yZ Y (vs:=p1) (hp.at hp1) ((hr.to0 H1).elem hp hp1))<|OC (xI hk.1 Y Y) (hk.2.2 w1 (H1.frame gc hk.2.1 (by simp)) p1 (mem_of hp1))<|fun w2 Hd=>have H2:=H1.Af Hd;Xr e19<|wU Y (fun hb16=>?_) (fun hb16=>?_)
 refine Rq<|Xm Y<|Xa Y<|Xr e19<|J5<|BR<|yR<|BR<|Ak Y Y<|⟨_,Y,.inr ⟨jj,p1,Y,hp1,hb16,hno⟩,H2.Ac⟩
 refine J6<|zA (zB ?_)
 refine J2<|OV (zL Y Y (IntWalk.i64_in _ (by omega)))<|Xm Y<|Xr e19<|zA (zI ?_)
 exact⟨ps.length - (jj+1),by omega,jj+1,_,Y,(Dv Y Y Y Y Y),by omega,by omega,oG hno hp1 hb16,H2⟩
 obtain rfl:jj=ps.length:=by omega
 refine Xr e19<|J1<|J4 Y<|J8<|zT<|zS<|Rq<|Xa Y<|Xr e19<|J5<|Ak Y Y<|⟨_,Y,.inl ⟨Y,by rw[List.take_length]at hno;exact hno⟩,H1.Ac⟩
theorem SZ (g:Option Nat) (cap n:Nat) (ps:List (List Value)) (hn:ps.length=n) (sp:List Value) (k gc:Nat) (pr:List Value→Bool) (w0:World) (H0:Hp w0 w0 (bl [((g,77,ps.flatten++sp):Ent)]) [((g,77,ps.flatten++sp):Ent)]) (hp:Pl 4 ps) (ho:∀ p∈ps,p.all (·.oneCell')=true) (hl:ps.length≤cap) (hl2:ps.length≤4611686018427387903) (hcz:cap*4≤(ps.flatten++sp).length) (hk:Vx Tryz.prog k gc pr ps w0) (hgc:gc∉bl [((g,77,ps.flatten++sp):Ent)]):zP Tryz.prog 194 #[.slice (hd g) n cap,.func (.func k) #[] #[.pointer (some ⟨gc,0,none⟩)]] w0 (fun r w'=>∃ sp',r=.slice (hd g) (ps.filter fun p=>!pr p).length cap∧((ps.filter fun p=>!pr p).flatten++sp').length=(ps.flatten++sp).length∧Hp w0 w' (bl [((g,77,ps.flatten++sp):Ent)]) [((g,77,(ps.filter fun p=>!pr p).flatten++sp'):Ent)]):=by
 refine zE Tryz.func194 Tryz.ntmps194 Y<|cR e42 ?_
 subst hn
 have H:=H0
 refine Rq<|Xa Y<|Xr e42<|Rq<|Xm Y<|Xm Y<|OQ (EC gf213 Y) (VI (hd g) cap ps _ k gc Y pr _ hp (H.rd (i:=0) Y hp.len (by decide)) (by omega) hk) ?_
 rintro r w1 ⟨y,rfl,hix,Hd⟩
 have H1:=H.Af Hd
 refine Xa Y<|Xr e42<|J1<|Rq<|Xm Y<|OT (xP Y Y) (fun Ib=>?_) (fun Ib=>?_)
 have hnone:∀ p∈ps,pr p=false:=by
  rcases hix with ⟨_,h⟩ | ⟨jj,p,h,_⟩
  · exact h
  · omega
 refine Xr e42<|J3 Y<|Rq<|Xm Y<|Xa Y<|Xr e42<|J5<|Ak Y Y<|⟨sp,by rw[vT hnone],by rw[vT hnone],by rw[vT hnone];exact H1⟩
 obtain⟨j0,p0,rfl,hj0,ht0,hn0⟩:∃ (jj:Nat) (p:List Value),y=(jj:Int)∧ps[jj]? =some p∧pr p=true∧∀ q∈ps.take jj,pr q=false:=by
  rcases hix with ⟨h,_⟩ | h
  · omega
  · exact h
 have ZR:=lt_of_get hj0
 obtain⟨gx,rfl⟩:=vK H1 (i:=0) rfl (by rw[List.length_append,hp.len];have:0 < ps.length*4:=Nat.mul_pos (by omega) (by decide);omega)
 clear hix
 refine Xr e42<|J4 Y<|J6<|J1<|Rq<|Xm Y<|OV (zL Y Y (IntWalk.i64_in _ (by omega)))<|Xa Y<|Xr e42<|J7<|zU (fun nQ lQ w=>∃ (i jj:Nat) (y z:Int) (qs:List (List Value)),ps.length - jj=nQ∧xN (Dj [(0,.slice (hd (some gx)) ps.length cap),(1,.func (.func k) #[] #[.pointer (some ⟨gc,0,none⟩)]),(5,.int .i64 y),(6,.int .i64 z)] 0 42) lQ∧y=(i:Int)∧z=(jj:Int)∧Del ps qs pr i jj 4∧Hp w0 w (bl [((some gx,77,ps.flatten++sp):Ent)]) [((some gx,77,qs.flatten++sp):Ent)]) (ps.length - (j0+1)) ?_ ?_
 exact⟨j0,j0+1,_,_,ps,Y,(Dv Y Y Y Y Y),Y,by omega,Del.start hp hj0 ht0 hn0,H1⟩
 rintro nQ lQ w2 ⟨i,jj,y,z,qs,rfl,hfit,rfl,rfl,hdel,H2⟩
 obtain⟨j,rfl⟩:=hfit.open
 refine cR e42 ?_
 clear hfit
 have hdl:=hdel.lt
 have hde:=hdel.le
 have Hq:=hdel.len
 refine J1<|Rq<|Xm Y<|Xm Y<|OV (ES Tryz.underlying94 Y)<|OT (zQ Y Y) (fun hp19=>?_) (fun hp19=>?_)
 have hjl:jj < ps.length:=by omega
 obtain⟨p1,hp1⟩:=yM hjl
 have hq1:qs[jj]? =some p1:=hdel.at.trans hp1
 refine Xr e42<|J3 Y<|J6<|J1<|J7<|Rq<|Xm Y<|Xm Y<|OV (EI Tryz.underlying94 yZ Y Y Y hjl Y)<|OV (EN yZ Y (vs:=p1) (hp.at hp1) (H2.elem (k:=0) Y hdel.pl hq1))<|Aa e42<|OA yZ H2<|fun w3 g3 H3 hg3=>OS yZ H3 1 Y Y Y Y (hp.at hp1) (by rw[hp.at hp1];decide) (ho p1 (mem_of hp1))<|fun w4 H4=>?_
 rw[qC (by rw[hp.at hp1];rfl)]at H4
 refine Xr e42<|Rq<|Xm Y<|OV (EN yZ Y (vs:=p1) (hp.at hp1) (H4.Ad (i:=1) Y (by rw[List.drop_zero,List.take_length])))<|OC (xI hk.1 Y Y) (hk.2.2 w4 (H4.frame gc hk.2.1 hgc) p1 (mem_of hp1))<|fun w5 Hd=>have H5:=H4.Af Hd;Xn Y<|Xr e42<|wU Y (fun Jq=>?_) (fun Jq=>?_)
 refine Rq<|Xm Y<|Xm Y<|OV (EN yZ Y (vs:=p1) (hp.at hp1) (H5.Ad (i:=1) Y (by rw[List.drop_zero,List.take_length])))<|OV (uR Tryz.underlying94 yZ Y Y Y (by omega))<|Aa e42<|OS yZ H5 0 Y Y Y Y (hp.at hp1) (by rw[hp.at hp1,List.length_append,hdel.pl.len,Nat.zero_add];have:(i+1)*4≤qs.length*4:=Nat.mul_le_mul_right _ (by omega);omega) (ho p1 (mem_of hp1))<|fun w6 H6=>?_
 rw[Nat.zero_add,nR (by rw[hp.at hp1,hdel.pl.len];have:(i+1)*4≤qs.length*4:=Nat.mul_le_mul_right _ (by omega);omega),hdel.pl.Vb (by omega) (hp.at hp1)]at H6
 refine Xr e42<|J2<|Xm Y<|OV (zL Y Y (IntWalk.i64_in _ (by omega)))<|Xa Y<|Xr e42<|zA (zB ?_)
 refine J2<|Xm Y<|OV (zL Y Y (IntWalk.i64_in _ (by omega)))<|Xa Y<|Xr e42<|zA (zI ?_)
 exact⟨ps.length - (jj+1),by omega,i+1,jj+1,_,_,qs.set i p1,Y,(Dv Y Y Y Y Y),by omega,by omega,hdel.keep hp1 (by simpa using Jq) (hp.at hp1),H6.pick [0] (by decide)⟩
 refine J6<|zA (zB ?_)
 refine J2<|Xm Y<|OV (zL Y Y (IntWalk.i64_in _ (by omega)))<|Xa Y<|Xr e42<|zA (zI ?_)
 exact⟨ps.length - (jj+1),by omega,i,jj+1,_,_,qs,Y,(Dv Y Y Y Y Y),Y,by omega,hdel.skip hp1 (by simpa using Jq),H5.pick [0] (by decide)⟩
 obtain rfl:jj=ps.length:=by omega
 refine Xr e42<|J4 Y<|J8<|zT<|zS<|Rq<|Xm Y<|Xm Y ?_
 have hdn:=hdel.done
 refine OV (tO Tryz.underlying94 yZ Y Y Y (by omega) (by omega)) ?_
 rw[Dn]
 have hfit:0+i*4+(ps.length - i)*4≤(qs.flatten++sp).length:=by
  rw[List.length_append,hdel.pl.len,Hq,Nat.zero_add,← Nat.add_mul,show i+(ps.length - i)=ps.length by omega];omega
 refine fG Tryz.underlying94 yZ H2 0 Y Y hfit Y<|fun w3 H3=>Xr e42<|Rq<|Xm Y<|Xm Y<|OV (iY Tryz.underlying94 yZ Y Y Y (by omega))<|Xa Y<|Xr e42<|J5<|Ak Y Y ?_
 have hpl:=vH (cs:=qs.flatten++sp) (vs:=initL [.int .i64 0,.int .i64 0,.int .i64 0,.slice none 0 0] (ps.length - i)) (o:=0+i*4) (by rw[wQ];exact hfit)
 rw[hdel.cells rfl]at hpl
 have HZ:=H3
 change Hp _ _ _ [((some gx,77,zH (qs.flatten++sp) (0+i*4) _):Ent)]at HZ
 rw[hdel.cells rfl]at HZ
 refine⟨_,by rw[hdn.2],?_,HZ⟩
 rw[hpl,List.length_append,List.length_append,hdel.pl.len,hp.len,Hq]
theorem VK (A:Option Addr) (c:Nat) (ps:List (List Value)) (n k gc:Nat) (hn:ps.length=n) (pr:List Value→Bool) (w0:World) (hp:Pl 2 ps) (hr:Rd w0 A ps.length 2 ps.flatten) (hl:ps.length≤4611686018427387904) (hk:Vx Tryz.prog k gc pr ps w0):zP Tryz.prog 196 #[.slice A n c,.func (.func k) #[] #[.pointer (some ⟨gc,0,none⟩)]] w0 (fun r w'=>∃ y:Int,r=.int .i64 y∧WE ps pr y∧Hp w0 w' [] []):=by
 refine zE Tryz.func196 Tryz.ntmps196 Y<|cR e19 ?_
 subst hn
 have H:=Hp.refl w0
 refine Rq<|Xa Y<|Xr e19<|J1<|Rq<|Xm Y<|OV (ES Tryz.underlying95 Y)<|Xm Y<|Xr e19<|J7<|zU (fun nQ lQ w=>∃ (jj:Nat) (y:Int),ps.length - jj=nQ∧xN (Dj [(0,.slice A ps.length c),(1,.func (.func k) #[] #[.pointer (some ⟨gc,0,none⟩)]),(7,.int .i64 (ps.length:Int)),(8,.int .i64 y)] 0 19) lQ∧y=(jj:Int)∧jj≤ps.length∧(∀ q∈ps.take jj,pr q=false)∧Hp w0 w [] []) (ps.length) ?_ ?_
 exact⟨0,_,Y,(Dv Y Y Y Y Y),Y,Nat.zero_le _,fun q hq=>by simp at hq,H⟩
 rintro nQ lQ w1 ⟨jj,y,rfl,hfit,rfl,hj,hno,H1⟩
 obtain⟨j,rfl⟩:=hfit.open
 refine cR e19 ?_
 clear hfit
 refine Rq<|OT (zQ Y Y) (fun hp9=>?_) (fun hp9=>?_)
 have hjl:jj < ps.length:=by omega
 obtain⟨p1,hp1⟩:=yM hjl
 obtain⟨a1,ha1⟩:=hr.some_ (by omega)
 subst ha1
 refine Xr e19<|J1<|J3 Y<|J6<|J1<|J7<|Rq<|Xm Y<|Xa Y<|Xr e19<|Rq<|Xm Y<|Xm Y<|Xm Y<|OV (EI Tryz.underlying95 wD Y Y Y hjl Y)<|Aa e19<|OV (EN wD Y (vs:=p1) (hp.at hp1) ((hr.to0 H1).elem hp hp1))<|OC (xI hk.1 Y Y) (hk.2.2 w1 (H1.frame gc hk.2.1 (by simp)) p1 (mem_of hp1))<|fun w2 Hd=>have H2:=H1.Af Hd;Xr e19<|wU Y (fun hb16=>?_) (fun hb16=>?_)
 refine Rq<|Xm Y<|Xa Y<|Xr e19<|J5<|BR<|yR<|BR<|Ak Y Y<|⟨_,Y,.inr ⟨jj,p1,Y,hp1,hb16,hno⟩,H2.Ac⟩
 refine J6<|zA (zB ?_)
 refine J2<|OV (zL Y Y (IntWalk.i64_in _ (by omega)))<|Xm Y<|Xr e19<|zA (zI ?_)
 exact⟨ps.length - (jj+1),by omega,jj+1,_,Y,(Dv Y Y Y Y Y),by omega,by omega,oG hno hp1 hb16,H2⟩
 obtain rfl:jj=ps.length:=by omega
 refine Xr e19<|J1<|J4 Y<|J8<|zT<|zS<|Rq<|Xa Y<|Xr e19<|J5<|Ak Y Y<|⟨_,Y,.inl ⟨Y,by rw[List.take_length]at hno;exact hno⟩,H1.Ac⟩
theorem S0 (g:Option Nat) (cap n:Nat) (ps:List (List Value)) (hn:ps.length=n) (sp:List Value) (k gc:Nat) (pr:List Value→Bool) (w0:World) (H0:Hp w0 w0 (bl [((g,79,ps.flatten++sp):Ent)]) [((g,79,ps.flatten++sp):Ent)]) (hp:Pl 2 ps) (ho:∀ p∈ps,p.all (·.oneCell')=true) (hl:ps.length≤cap) (hl2:ps.length≤4611686018427387903) (hcz:cap*2≤(ps.flatten++sp).length) (hk:Vx Tryz.prog k gc pr ps w0) (hgc:gc∉bl [((g,79,ps.flatten++sp):Ent)]):zP Tryz.prog 168 #[.slice (hd g) n cap,.func (.func k) #[] #[.pointer (some ⟨gc,0,none⟩)]] w0 (fun r w'=>∃ sp',r=.slice (hd g) (ps.filter fun p=>!pr p).length cap∧((ps.filter fun p=>!pr p).flatten++sp').length=(ps.flatten++sp).length∧Hp w0 w' (bl [((g,79,ps.flatten++sp):Ent)]) [((g,79,(ps.filter fun p=>!pr p).flatten++sp'):Ent)]):=by
 refine zE Tryz.func168 Tryz.ntmps168 Y<|cR e42 ?_
 subst hn
 have H:=H0
 refine Rq<|Xa Y<|Xr e42<|Rq<|Xm Y<|Xm Y<|OQ (EC gf196 Y) (VK (hd g) cap ps _ k gc Y pr _ hp (H.rd (i:=0) Y hp.len (by decide)) (by omega) hk) ?_
 rintro r w1 ⟨y,rfl,hix,Hd⟩
 have H1:=H.Af Hd
 refine Xa Y<|Xr e42<|J1<|Rq<|Xm Y<|OT (xP Y Y) (fun Ib=>?_) (fun Ib=>?_)
 have hnone:∀ p∈ps,pr p=false:=by
  rcases hix with ⟨_,h⟩ | ⟨jj,p,h,_⟩
  · exact h
  · omega
 refine Xr e42<|J3 Y<|Rq<|Xm Y<|Xa Y<|Xr e42<|J5<|Ak Y Y<|⟨sp,by rw[vT hnone],by rw[vT hnone],by rw[vT hnone];exact H1⟩
 obtain⟨j0,p0,rfl,hj0,ht0,hn0⟩:∃ (jj:Nat) (p:List Value),y=(jj:Int)∧ps[jj]? =some p∧pr p=true∧∀ q∈ps.take jj,pr q=false:=by
  rcases hix with ⟨h,_⟩ | h
  · omega
  · exact h
 have ZR:=lt_of_get hj0
 obtain⟨gx,rfl⟩:=vK H1 (i:=0) rfl (by rw[List.length_append,hp.len];have:0 < ps.length*2:=Nat.mul_pos (by omega) (by decide);omega)
 clear hix
 refine Xr e42<|J4 Y<|J6<|J1<|Rq<|Xm Y<|OV (zL Y Y (IntWalk.i64_in _ (by omega)))<|Xa Y<|Xr e42<|J7<|zU (fun nQ lQ w=>∃ (i jj:Nat) (y z:Int) (qs:List (List Value)),ps.length - jj=nQ∧xN (Dj [(0,.slice (hd (some gx)) ps.length cap),(1,.func (.func k) #[] #[.pointer (some ⟨gc,0,none⟩)]),(5,.int .i64 y),(6,.int .i64 z)] 0 42) lQ∧y=(i:Int)∧z=(jj:Int)∧Del ps qs pr i jj 2∧Hp w0 w (bl [((some gx,79,ps.flatten++sp):Ent)]) [((some gx,79,qs.flatten++sp):Ent)]) (ps.length - (j0+1)) ?_ ?_
 exact⟨j0,j0+1,_,_,ps,Y,(Dv Y Y Y Y Y),Y,by omega,Del.start hp hj0 ht0 hn0,H1⟩
 rintro nQ lQ w2 ⟨i,jj,y,z,qs,rfl,hfit,rfl,rfl,hdel,H2⟩
 obtain⟨j,rfl⟩:=hfit.open
 refine cR e42 ?_
 clear hfit
 have hdl:=hdel.lt
 have hde:=hdel.le
 have Hq:=hdel.len
 refine J1<|Rq<|Xm Y<|Xm Y<|OV (ES Tryz.underlying95 Y)<|OT (zQ Y Y) (fun hp19=>?_) (fun hp19=>?_)
 have hjl:jj < ps.length:=by omega
 obtain⟨p1,hp1⟩:=yM hjl
 have hq1:qs[jj]? =some p1:=hdel.at.trans hp1
 refine Xr e42<|J3 Y<|J6<|J1<|J7<|Rq<|Xm Y<|Xm Y<|OV (EI Tryz.underlying95 wD Y Y Y hjl Y)<|OV (EN wD Y (vs:=p1) (hp.at hp1) (H2.elem (k:=0) Y hdel.pl hq1))<|Aa e42<|OA wD H2<|fun w3 g3 H3 hg3=>OS wD H3 1 Y Y Y Y (hp.at hp1) (by rw[hp.at hp1];decide) (ho p1 (mem_of hp1))<|fun w4 H4=>?_
 rw[qC (by rw[hp.at hp1];rfl)]at H4
 refine Xr e42<|Rq<|Xm Y<|OV (EN wD Y (vs:=p1) (hp.at hp1) (H4.Ad (i:=1) Y (by rw[List.drop_zero,List.take_length])))<|OC (xI hk.1 Y Y) (hk.2.2 w4 (H4.frame gc hk.2.1 hgc) p1 (mem_of hp1))<|fun w5 Hd=>have H5:=H4.Af Hd;Xn Y<|Xr e42<|wU Y (fun Jq=>?_) (fun Jq=>?_)
 refine Rq<|Xm Y<|Xm Y<|OV (EN wD Y (vs:=p1) (hp.at hp1) (H5.Ad (i:=1) Y (by rw[List.drop_zero,List.take_length])))<|OV (uR Tryz.underlying95 wD Y Y Y (by omega))<|Aa e42<|OS wD H5 0 Y Y Y Y (hp.at hp1) (by rw[hp.at hp1,List.length_append,hdel.pl.len,Nat.zero_add];have:(i+1)*2≤qs.length*2:=Nat.mul_le_mul_right _ (by omega);omega) (ho p1 (mem_of hp1))<|fun w6 H6=>?_
 rw[Nat.zero_add,nR (by rw[hp.at hp1,hdel.pl.len];have:(i+1)*2≤qs.length*2:=Nat.mul_le_mul_right _ (by omega);omega),hdel.pl.Vb (by omega) (hp.at hp1)]at H6
 refine Xr e42<|J2<|Xm Y<|OV (zL Y Y (IntWalk.i64_in _ (by omega)))<|Xa Y<|Xr e42<|zA (zB ?_)
 refine J2<|Xm Y<|OV (zL Y Y (IntWalk.i64_in _ (by omega)))<|Xa Y<|Xr e42<|zA (zI ?_)
 exact⟨ps.length - (jj+1),by omega,i+1,jj+1,_,_,qs.set i p1,Y,(Dv Y Y Y Y Y),by omega,by omega,hdel.keep hp1 (by simpa using Jq) (hp.at hp1),H6.pick [0] (by decide)⟩
 refine J6<|zA (zB ?_)
 refine J2<|Xm Y<|OV (zL Y Y (IntWalk.i64_in _ (by omega)))<|Xa Y<|Xr e42<|zA (zI ?_)
 exact⟨ps.length - (jj+1),by omega,i,jj+1,_,_,qs,Y,(Dv Y Y Y Y Y),Y,by omega,hdel.skip hp1 (by simpa using Jq),H5.pick [0] (by decide)⟩
 obtain rfl:jj=ps.length:=by omega
 refine Xr e42<|J4 Y<|J8<|zT<|zS<|Rq<|Xm Y<|Xm Y ?_
 have hdn:=hdel.done
 refine OV (tO Tryz.underlying95 wD Y Y Y (by omega) (by omega)) ?_
 rw[Dn]
 have hfit:0+i*2+(ps.length - i)*2≤(qs.flatten++sp).length:=by
  rw[List.length_append,hdel.pl.len,Hq,Nat.zero_add,← Nat.add_mul,show i+(ps.length - i)=ps.length by omega];omega
 refine fG Tryz.underlying95 wD H2 0 Y Y hfit Y<|fun w3 H3=>Xr e42<|Rq<|Xm Y<|Xm Y<|OV (iY Tryz.underlying95 wD Y Y Y (by omega))<|Xa Y<|Xr e42<|J5<|Ak Y Y ?_
 have hpl:=vH (cs:=qs.flatten++sp) (vs:=initL [.int .i64 0,.slice none 0 0] (ps.length - i)) (o:=0+i*2) (by rw[wQ];exact hfit)
 rw[hdel.cells rfl]at hpl
 have HZ:=H3
 change Hp _ _ _ [((some gx,79,zH (qs.flatten++sp) (0+i*2) _):Ent)]at HZ
 rw[hdel.cells rfl]at HZ
 refine⟨_,by rw[hdn.2],?_,HZ⟩
 rw[hpl,List.length_append,List.length_append,hdel.pl.len,hp.len,Hq]
theorem VJ (A:Option Addr) (c:Nat) (ps:List (List Value)) (n k gc:Nat) (hn:ps.length=n) (pr:List Value→Bool) (w0:World) (hp:Pl 7 ps) (hr:Rd w0 A ps.length 7 ps.flatten) (hl:ps.length≤4611686018427387904) (hk:Vx Tryz.prog k gc pr ps w0):zP Tryz.prog 159 #[.slice A n c,.func (.func k) #[] #[.pointer (some ⟨gc,0,none⟩)]] w0 (fun r w'=>∃ y:Int,r=.int .i64 y∧WE ps pr y∧Hp w0 w' [] []):=by
 refine zE Tryz.func159 Tryz.ntmps159 Y<|cR e19 ?_
 subst hn
 have H:=Hp.refl w0
 refine Rq<|Xa Y<|Xr e19<|J1<|Rq<|Xm Y<|OV (ES Tryz.underlying39 Y)<|Xm Y<|Xr e19<|J7<|zU (fun nQ lQ w=>∃ (jj:Nat) (y:Int),ps.length - jj=nQ∧xN (Dj [(0,.slice A ps.length c),(1,.func (.func k) #[] #[.pointer (some ⟨gc,0,none⟩)]),(7,.int .i64 (ps.length:Int)),(8,.int .i64 y)] 0 19) lQ∧y=(jj:Int)∧jj≤ps.length∧(∀ q∈ps.take jj,pr q=false)∧Hp w0 w [] []) (ps.length) ?_ ?_
 exact⟨0,_,Y,(Dv Y Y Y Y Y),Y,Nat.zero_le _,fun q hq=>by simp at hq,H⟩
 rintro nQ lQ w1 ⟨jj,y,rfl,hfit,rfl,hj,hno,H1⟩
 obtain⟨j,rfl⟩:=hfit.open
 refine cR e19 ?_
 clear hfit
 refine Rq<|OT (zQ Y Y) (fun hp9=>?_) (fun hp9=>?_)
 have hjl:jj < ps.length:=by omega
 obtain⟨p1,hp1⟩:=yM hjl
 obtain⟨a1,ha1⟩:=hr.some_ (by omega)
 subst ha1
 refine Xr e19<|J1<|J3 Y<|J6<|J1<|J7<|Rq<|Xm Y<|Xa Y<|Xr e19<|Rq<|Xm Y<|Xm Y<|Xm Y<|OV (EI Tryz.underlying39 yP Y Y Y hjl Y)<|Aa e19<|OV (EN yP Y (vs:=p1) (hp.at hp1) ((hr.to0 H1).elem hp hp1))<|OC (xI hk.1 Y Y) (hk.2.2 w1 (H1.frame gc hk.2.1 (by simp)) p1 (mem_of hp1))<|fun w2 Hd=>have H2:=H1.Af Hd;Xr e19<|wU Y (fun hb16=>?_) (fun hb16=>?_)
 refine Rq<|Xm Y<|Xa Y<|Xr e19<|J5<|BR<|yR<|BR<|Ak Y Y<|⟨_,Y,.inr ⟨jj,p1,Y,hp1,hb16,hno⟩,H2.Ac⟩
 refine J6<|zA (zB ?_)
 refine J2<|OV (zL Y Y (IntWalk.i64_in _ (by omega)))<|Xm Y<|Xr e19<|zA (zI ?_)
 exact⟨ps.length - (jj+1),by omega,jj+1,_,Y,(Dv Y Y Y Y Y),by omega,by omega,oG hno hp1 hb16,H2⟩
 obtain rfl:jj=ps.length:=by omega
 refine Xr e19<|J1<|J4 Y<|J8<|zT<|zS<|Rq<|Xa Y<|Xr e19<|J5<|Ak Y Y<|⟨_,Y,.inl ⟨Y,by rw[List.take_length]at hno;exact hno⟩,H1.Ac⟩
theorem IZ (g:Option Nat) (cap n:Nat) (ps:List (List Value)) (hn:ps.length=n) (sp:List Value) (k gc:Nat) (pr:List Value→Bool) (w0:World) (H0:Hp w0 w0 (bl [((g,110,ps.flatten++sp):Ent)]) [((g,110,ps.flatten++sp):Ent)]) (hp:Pl 7 ps) (ho:∀ p∈ps,p.all (·.oneCell')=true) (hl:ps.length≤cap) (hl2:ps.length≤4611686018427387903) (hcz:cap*7≤(ps.flatten++sp).length) (hk:Vx Tryz.prog k gc pr ps w0) (hgc:gc∉bl [((g,110,ps.flatten++sp):Ent)]):zP Tryz.prog 113 #[.slice (hd g) n cap,.func (.func k) #[] #[.pointer (some ⟨gc,0,none⟩)]] w0 (fun r w'=>∃ sp',r=.slice (hd g) (ps.filter fun p=>!pr p).length cap∧((ps.filter fun p=>!pr p).flatten++sp').length=(ps.flatten++sp).length∧Hp w0 w' (bl [((g,110,ps.flatten++sp):Ent)]) [((g,110,(ps.filter fun p=>!pr p).flatten++sp'):Ent)]):=by
 refine zE Tryz.func113 Tryz.ntmps113 Y<|cR e42 ?_
 subst hn
 have H:=H0
 refine Rq<|Xa Y<|Xr e42<|Rq<|Xm Y<|Xm Y<|OQ (EC gf159 Y) (VJ (hd g) cap ps _ k gc Y pr _ hp (H.rd (i:=0) Y hp.len (by decide)) (by omega) hk) ?_
 rintro r w1 ⟨y,rfl,hix,Hd⟩
 have H1:=H.Af Hd
 refine Xa Y<|Xr e42<|J1<|Rq<|Xm Y<|OT (xP Y Y) (fun Ib=>?_) (fun Ib=>?_)
 have hnone:∀ p∈ps,pr p=false:=by
  rcases hix with ⟨_,h⟩ | ⟨jj,p,h,_⟩
  · exact h
  · omega
 refine Xr e42<|J3 Y<|Rq<|Xm Y<|Xa Y<|Xr e42<|J5<|Ak Y Y<|⟨sp,by rw[vT hnone],by rw[vT hnone],by rw[vT hnone];exact H1⟩
 obtain⟨j0,p0,rfl,hj0,ht0,hn0⟩:∃ (jj:Nat) (p:List Value),y=(jj:Int)∧ps[jj]? =some p∧pr p=true∧∀ q∈ps.take jj,pr q=false:=by
  rcases hix with ⟨h,_⟩ | h
  · omega
  · exact h
 have ZR:=lt_of_get hj0
 obtain⟨gx,rfl⟩:=vK H1 (i:=0) rfl (by rw[List.length_append,hp.len];have:0 < ps.length*7:=Nat.mul_pos (by omega) (by decide);omega)
 clear hix
 refine Xr e42<|J4 Y<|J6<|J1<|Rq<|Xm Y<|OV (zL Y Y (IntWalk.i64_in _ (by omega)))<|Xa Y<|Xr e42<|J7<|zU (fun nQ lQ w=>∃ (i jj:Nat) (y z:Int) (qs:List (List Value)),ps.length - jj=nQ∧xN (Dj [(0,.slice (hd (some gx)) ps.length cap),(1,.func (.func k) #[] #[.pointer (some ⟨gc,0,none⟩)]),(5,.int .i64 y),(6,.int .i64 z)] 0 42) lQ∧y=(i:Int)∧z=(jj:Int)∧Del ps qs pr i jj 7∧Hp w0 w (bl [((some gx,110,ps.flatten++sp):Ent)]) [((some gx,110,qs.flatten++sp):Ent)]) (ps.length - (j0+1)) ?_ ?_
 exact⟨j0,j0+1,_,_,ps,Y,(Dv Y Y Y Y Y),Y,by omega,Del.start hp hj0 ht0 hn0,H1⟩
 rintro nQ lQ w2 ⟨i,jj,y,z,qs,rfl,hfit,rfl,rfl,hdel,H2⟩
 obtain⟨j,rfl⟩:=hfit.open
 refine cR e42 ?_
 clear hfit
 have hdl:=hdel.lt
 have hde:=hdel.le
 have Hq:=hdel.len
 refine J1<|Rq<|Xm Y<|Xm Y<|OV (ES Tryz.underlying39 Y)<|OT (zQ Y Y) (fun hp19=>?_) (fun hp19=>?_)
 have hjl:jj < ps.length:=by omega
 obtain⟨p1,hp1⟩:=yM hjl
 have hq1:qs[jj]? =some p1:=hdel.at.trans hp1
 refine Xr e42<|J3 Y<|J6<|J1<|J7<|Rq<|Xm Y<|Xm Y<|OV (EI Tryz.underlying39 yP Y Y Y hjl Y)<|OV (EN yP Y (vs:=p1) (hp.at hp1) (H2.elem (k:=0) Y hdel.pl hq1))<|Aa e42<|OA yP H2<|fun w3 g3 H3 hg3=>OS yP H3 1 Y Y Y Y (hp.at hp1) (by rw[hp.at hp1];decide) (ho p1 (mem_of hp1))<|fun w4 H4=>?_
 rw[qC (by rw[hp.at hp1];rfl)]at H4
 refine Xr e42<|Rq<|Xm Y<|OV (EN yP Y (vs:=p1) (hp.at hp1) (H4.Ad (i:=1) Y (by rw[List.drop_zero,List.take_length])))<|OC (xI hk.1 Y Y) (hk.2.2 w4 (H4.frame gc hk.2.1 hgc) p1 (mem_of hp1))<|fun w5 Hd=>have H5:=H4.Af Hd;Xn Y<|Xr e42<|wU Y (fun Jq=>?_) (fun Jq=>?_)
 refine Rq<|Xm Y<|Xm Y<|OV (EN yP Y (vs:=p1) (hp.at hp1) (H5.Ad (i:=1) Y (by rw[List.drop_zero,List.take_length])))<|OV (uR Tryz.underlying39 yP Y Y Y (by omega))<|Aa e42<|OS yP H5 0 Y Y Y Y (hp.at hp1) (by rw[hp.at hp1,List.length_append,hdel.pl.len,Nat.zero_add];have:(i+1)*7≤qs.length*7:=Nat.mul_le_mul_right _ (by omega);omega) (ho p1 (mem_of hp1))<|fun w6 H6=>?_
 rw[Nat.zero_add,nR (by rw[hp.at hp1,hdel.pl.len];have:(i+1)*7≤qs.length*7:=Nat.mul_le_mul_right _ (by omega);omega),hdel.pl.Vb (by omega) (hp.at hp1)]at H6
 refine Xr e42<|J2<|Xm Y<|OV (zL Y Y (IntWalk.i64_in _ (by omega)))<|Xa Y<|Xr e42<|zA (zB ?_)
 refine J2<|Xm Y<|OV (zL Y Y (IntWalk.i64_in _ (by omega)))<|Xa Y<|Xr e42<|zA (zI ?_)
 exact⟨ps.length - (jj+1),by omega,i+1,jj+1,_,_,qs.set i p1,Y,(Dv Y Y Y Y Y),by omega,by omega,hdel.keep hp1 (by simpa using Jq) (hp.at hp1),H6.pick [0] (by decide)⟩
 refine J6<|zA (zB ?_)
 refine J2<|Xm Y<|OV (zL Y Y (IntWalk.i64_in _ (by omega)))<|Xa Y<|Xr e42<|zA (zI ?_)
 exact⟨ps.length - (jj+1),by omega,i,jj+1,_,_,qs,Y,(Dv Y Y Y Y Y),Y,by omega,hdel.skip hp1 (by simpa using Jq),H5.pick [0] (by decide)⟩
 obtain rfl:jj=ps.length:=by omega
 refine Xr e42<|J4 Y<|J8<|zT<|zS<|Rq<|Xm Y<|Xm Y ?_
 have hdn:=hdel.done
 refine OV (tO Tryz.underlying39 yP Y Y Y (by omega) (by omega)) ?_
 rw[Dn]
 have hfit:0+i*7+(ps.length - i)*7≤(qs.flatten++sp).length:=by
  rw[List.length_append,hdel.pl.len,Hq,Nat.zero_add,← Nat.add_mul,show i+(ps.length - i)=ps.length by omega];omega
 refine fG Tryz.underlying39 yP H2 0 Y Y hfit Y<|fun w3 H3=>Xr e42<|Rq<|Xm Y<|Xm Y<|OV (iY Tryz.underlying39 yP Y Y Y (by omega))<|Xa Y<|Xr e42<|J5<|Ak Y Y ?_
 have hpl:=vH (cs:=qs.flatten++sp) (vs:=initL [.int .i64 0,.int .i64 0,.bool false,.int .i64 0,.int .i64 0,.int .i64 0,.int .i64 0] (ps.length - i)) (o:=0+i*7) (by rw[wQ];exact hfit)
 rw[hdel.cells rfl]at hpl
 have HZ:=H3
 change Hp _ _ _ [((some gx,110,zH (qs.flatten++sp) (0+i*7) _):Ent)]at HZ
 rw[hdel.cells rfl]at HZ
 refine⟨_,by rw[hdn.2],?_,HZ⟩
 rw[hpl,List.length_append,List.length_append,hdel.pl.len,hp.len,Hq]
end Go.Proofs.YtjoeklkmnfaabaaGreat
namespace Go.Proofs.YtjoeklkmnfaabaaGreat
set_option maxRecDepth 100000
set_option maxHeartbeats 4000000
open Go Go.RowKit
set_option linter.unusedVariables false
attribute [local irreducible] yT Ops zP Cd
theorem PR (A:Option Addr) (c:Nat) (ps:List (List Value)) (n:Nat) (hn:ps.length=n) (k:FuncId) (tn:Int) (cf:List Value→Int) (w0:World) (hp:Pl 4 ps) (hr:Rd w0 A ps.length 4 ps.flatten) (hl:ps.length≤4611686018427387903) (hC:Cmp Tryz.prog k (.int .i64 tn) cf ps):zP Tryz.prog 164 #[.slice A n c,.int .i64 tn,.func (.func k) #[] #[]] w0 (fun r w'=>∃ (i:Nat) (f:Bool),r=.tuple #[.int .i64 (i:Int),.bool f]∧AP ps cf i f∧Hp w0 w' [] []):=by
 refine zE Tryz.func164 Tryz.ntmps164 Y<|cR e49 ?_
 subst hn
 have H:=Hp.refl w0
 have hn:=hr.len
 refine Rq<|Xa Y<|Xa Y<|Xr e49<|Rq<|Xm Y<|OV (ES Tryz.underlying94 Y)<|Xa Y<|Xr e49<|Rq<|Xm Y<|Xa Y<|Xa Y<|Xr e49<|J1<|J7<|zU (fun nQ lQ w=>∃ (i m:Nat) (y z:Int),m - i=nQ∧xN (Dj [(0,.slice A ps.length c),(1,.int .i64 tn),(2,.func (.func k) #[] #[]),(8,.int .i64 (ps.length:Int)),(9,.int .i64 y),(10,.int .i64 z)] 0 49) lQ∧y=(i:Int)∧z=(m:Int)∧i≤m∧m≤ps.length∧(∀ (k:Nat) (p:List Value),k < i→ps[k]? =some p→cf p < 0)∧(∀ (k:Nat) (p:List Value),m≤k→ps[k]? =some p→0≤cf p)∧Hp w0 w [] []) (ps.length - 0) ?_ ?_
 exact⟨0,ps.length,_,_,Y,(Pg Y Y Y Y Y Y Y),Y,Y,Nat.zero_le _,Nat.le_refl _,fun k p hk=>by omega,fun k p hk hkp=>by have:=lt_of_get hkp;omega,H⟩
 rintro nQ lQ w1 ⟨i,m,y,z,rfl,hfit,rfl,rfl,him,hmn,hlo,hhi,H1⟩
 obtain⟨j,rfl⟩:=hfit.open
 refine cR e49 ?_
 clear hfit
 refine J1<|Rq<|Xm Y<|Xm Y<|OT (zQ Y Y) (fun hp17=>?_) (fun hp17=>?_)
 obtain⟨p1,hp1⟩:=yM (l:=ps) (j:=(i+m) / 2) (by omega)
 have Cb:=lt_of_get hp1
 obtain⟨a1,ha1⟩:=hr.some_ (by omega)
 subst ha1
 refine Xr e49<|J3 Y<|J6<|J7<|Rq<|Xm Y<|Xm Y<|OV (zL Y Y ((IntWalk.i64_in _ (by omega)).trans (show(i:Int)+(m:Int)=((i+m:Nat):Int) by omega)))<|OV (xJ Tryz.underlying144 Tryz.underlying3 Y ((show IntKind.u64.wrap ((i+m:Nat):Int)=((i+m:Nat):Int) by rw[IntKind.wrap_u64];omega)))<|Aa e49<|OV (oQ Y Y (by omega) (show(((i+m:Nat):Int)).fdiv (2^(min (1:Int).toNat IntKind.u64.bits))=(((i+m) / 2:Nat):Int) from qS (i+m) 1 64))<|OV (xJ Tryz.underlying3 Tryz.underlying144 Y (IntWalk.i64_in _ (by omega)))<|Xa Y<|Xr e49<|Rq<|Xm Y<|Xm Y<|Xm Y<|OV (EI Tryz.underlying94 yZ Y Y Y Cb Y)<|Aa e49<|OV (EN yZ Y (vs:=p1) (hp.at hp1) ((hr.to0 H1).elem hp hp1))<|Xm Y<|OC (xI hC.go Y Y) (hC.does w1 p1 (mem_of hp1))<|fun w2 Hd=>have H2:=H1.Af Hd;OT (zQ Y Y) (fun Ep=>?_) (fun Ep=>?_)
 refine Xr e49<|J3 Y<|J2<|Xm Y<|OV (zL Y Y (IntWalk.i64_in _ (by omega)))<|Xa Y<|Xr e49<|zA (zB ?_)
 refine zA (zI ?_)
 exact⟨m - ((i+m) / 2+1),by omega,(i+m) / 2+1,m,_,_,Y,(Pg Y Y Y Y Y Y Y),by omega,Y,by omega,by omega,fun k p hk hkp=>hC.mono k _ p p1 (by omega) hkp hp1 Ep,hhi,H2⟩
 refine Xr e49<|J4 Y<|J2<|Xm Y<|Xa Y<|Xr e49<|zA (zB ?_)
 refine zA (zI ?_)
 exact⟨(i+m) / 2 - i,by omega,i,(i+m) / 2,_,_,Y,(Pg Y Y Y Y Y Y Y),Y,Y,by omega,by omega,hlo,fun k p hk hkp=>by
  rcases Int.lt_or_le (cf p) 0 with h | h
  · exact absurd (hC.mono _ k p1 p (by omega) hp1 hkp h) Ep
  · exact h,H2⟩
 obtain rfl:i=m:=by omega
 refine Xr e49<|J4 Y<|J8<|zT<|zS<|Rq<|Xm Y<|Xm Y<|Xm Y<|OT (zQ Y Y) (fun hp38=>?_) (fun hp38=>?_)
 obtain⟨p1,hp1⟩:=yM (l:=ps) (j:=i) (by omega)
 have Cb:=lt_of_get hp1
 obtain⟨a1,ha1⟩:=hr.some_ (by omega)
 subst ha1
 refine Xm Y<|Aa e49<|OY Y<|Xm Y<|OY Y<|Xm Y<|Aa e49<|OY Y<|Xm Y<|OY Y<|OV (EI Tryz.underlying94 yZ Y Y Y Cb Y)<|Aa e49<|OY Y<|OV (EN yZ Y (vs:=p1) (hp.at hp1) ((hr.to0 H1).elem hp hp1))<|OY Y<|Xm Y<|Aa e49<|OY Y<|OC (xI hC.go Y Y) (hC.does w1 p1 (mem_of hp1))<|fun w2 Hd=>have H2:=H1.Af Hd;OY Y<|OT (xP Y Y) (fun Gf=>?_) (fun Gf=>?_)
 refine Xt Y Y<|Xa Y<|Xa Y<|Xr e49<|J5<|Ea Y Y Y<|⟨i,true,Y,⟨by omega,hlo,hhi,fun _=>⟨p1,hp1,Gf⟩,fun h=>by cases h⟩,H2.Ac⟩
 refine Xt Y Y<|Xa Y<|Xa Y<|Xr e49<|J5<|Ea Y Y Y ?_
 exact⟨i,false,Y,⟨by omega,hlo,hhi,(fun h=>by cases h),fun _ p h2=>by
  rw[hp1]at h2
  cases h2
  exact Gf⟩,H2.Ac⟩
 refine Xm Y<|Aa e49<|Oz 8 Y<|Aa e49<|Xu Y Y<|Xa Y<|Aa e49<|Xa Y<|Xr e49<|J5<|Ea Y Y Y<|⟨i,false,Y,⟨by omega,hlo,hhi,(fun h=>by cases h),fun _ p h2=>by have:=lt_of_get h2;omega⟩,H1.Ac⟩
theorem PU (A:Option Addr) (c:Nat) (ps:List (List Value)) (n:Nat) (hn:ps.length=n) (k:FuncId) (tn:Int) (cf:List Value→Int) (w0:World) (hp:Pl 7 ps) (hr:Rd w0 A ps.length 7 ps.flatten) (hl:ps.length≤4611686018427387903) (hC:Cmp Tryz.prog k (.int .i64 tn) cf ps):zP Tryz.prog 189 #[.slice A n c,.int .i64 tn,.func (.func k) #[] #[]] w0 (fun r w'=>∃ (i:Nat) (f:Bool),r=.tuple #[.int .i64 (i:Int),.bool f]∧AP ps cf i f∧Hp w0 w' [] []):=by
 refine zE Tryz.func189 Tryz.ntmps189 Y<|cR e49 ?_
 subst hn
 have H:=Hp.refl w0
 have hn:=hr.len
 refine Rq<|Xa Y<|Xa Y<|Xr e49<|Rq<|Xm Y<|OV (ES Tryz.underlying39 Y)<|Xa Y<|Xr e49<|Rq<|Xm Y<|Xa Y<|Xa Y<|Xr e49<|J1<|J7<|zU (fun nQ lQ w=>∃ (i m:Nat) (y z:Int),m - i=nQ∧xN (Dj [(0,.slice A ps.length c),(1,.int .i64 tn),(2,.func (.func k) #[] #[]),(8,.int .i64 (ps.length:Int)),(9,.int .i64 y),(10,.int .i64 z)] 0 49) lQ∧y=(i:Int)∧z=(m:Int)∧i≤m∧m≤ps.length∧(∀ (k:Nat) (p:List Value),k < i→ps[k]? =some p→cf p < 0)∧(∀ (k:Nat) (p:List Value),m≤k→ps[k]? =some p→0≤cf p)∧Hp w0 w [] []) (ps.length - 0) ?_ ?_
 exact⟨0,ps.length,_,_,Y,(Pg Y Y Y Y Y Y Y),Y,Y,Nat.zero_le _,Nat.le_refl _,fun k p hk=>by omega,fun k p hk hkp=>by have:=lt_of_get hkp;omega,H⟩
 rintro nQ lQ w1 ⟨i,m,y,z,rfl,hfit,rfl,rfl,him,hmn,hlo,hhi,H1⟩
 obtain⟨j,rfl⟩:=hfit.open
 refine cR e49 ?_
 clear hfit
 refine J1<|Rq<|Xm Y<|Xm Y<|OT (zQ Y Y) (fun hp17=>?_) (fun hp17=>?_)
 obtain⟨p1,hp1⟩:=yM (l:=ps) (j:=(i+m) / 2) (by omega)
 have Cb:=lt_of_get hp1
 obtain⟨a1,ha1⟩:=hr.some_ (by omega)
 subst ha1
 refine Xr e49<|J3 Y<|J6<|J7<|Rq<|Xm Y<|Xm Y<|OV (zL Y Y ((IntWalk.i64_in _ (by omega)).trans (show(i:Int)+(m:Int)=((i+m:Nat):Int) by omega)))<|OV (xJ Tryz.underlying144 Tryz.underlying3 Y ((show IntKind.u64.wrap ((i+m:Nat):Int)=((i+m:Nat):Int) by rw[IntKind.wrap_u64];omega)))<|Aa e49<|OV (oQ Y Y (by omega) (show(((i+m:Nat):Int)).fdiv (2^(min (1:Int).toNat IntKind.u64.bits))=(((i+m) / 2:Nat):Int) from qS (i+m) 1 64))<|OV (xJ Tryz.underlying3 Tryz.underlying144 Y (IntWalk.i64_in _ (by omega)))<|Xa Y<|Xr e49<|Rq<|Xm Y<|Xm Y<|Xm Y<|OV (EI Tryz.underlying39 yP Y Y Y Cb Y)<|Aa e49<|OV (EN yP Y (vs:=p1) (hp.at hp1) ((hr.to0 H1).elem hp hp1))<|Xm Y<|OC (xI hC.go Y Y) (hC.does w1 p1 (mem_of hp1))<|fun w2 Hd=>have H2:=H1.Af Hd;OT (zQ Y Y) (fun Ep=>?_) (fun Ep=>?_)
 refine Xr e49<|J3 Y<|J2<|Xm Y<|OV (zL Y Y (IntWalk.i64_in _ (by omega)))<|Xa Y<|Xr e49<|zA (zB ?_)
 refine zA (zI ?_)
 exact⟨m - ((i+m) / 2+1),by omega,(i+m) / 2+1,m,_,_,Y,(Pg Y Y Y Y Y Y Y),by omega,Y,by omega,by omega,fun k p hk hkp=>hC.mono k _ p p1 (by omega) hkp hp1 Ep,hhi,H2⟩
 refine Xr e49<|J4 Y<|J2<|Xm Y<|Xa Y<|Xr e49<|zA (zB ?_)
 refine zA (zI ?_)
 exact⟨(i+m) / 2 - i,by omega,i,(i+m) / 2,_,_,Y,(Pg Y Y Y Y Y Y Y),Y,Y,by omega,by omega,hlo,fun k p hk hkp=>by
  rcases Int.lt_or_le (cf p) 0 with h | h
  · exact absurd (hC.mono _ k p1 p (by omega) hp1 hkp h) Ep
  · exact h,H2⟩
 obtain rfl:i=m:=by omega
 refine Xr e49<|J4 Y<|J8<|zT<|zS<|Rq<|Xm Y<|Xm Y<|Xm Y<|OT (zQ Y Y) (fun hp38=>?_) (fun hp38=>?_)
 obtain⟨p1,hp1⟩:=yM (l:=ps) (j:=i) (by omega)
 have Cb:=lt_of_get hp1
 obtain⟨a1,ha1⟩:=hr.some_ (by omega)
 subst ha1
 refine Xm Y<|Aa e49<|OY Y<|Xm Y<|OY Y<|Xm Y<|Aa e49<|OY Y<|Xm Y<|OY Y<|OV (EI Tryz.underlying39 yP Y Y Y Cb Y)<|Aa e49<|OY Y<|OV (EN yP Y (vs:=p1) (hp.at hp1) ((hr.to0 H1).elem hp hp1))<|OY Y<|Xm Y<|Aa e49<|OY Y<|OC (xI hC.go Y Y) (hC.does w1 p1 (mem_of hp1))<|fun w2 Hd=>have H2:=H1.Af Hd;OY Y<|OT (xP Y Y) (fun Gf=>?_) (fun Gf=>?_)
 refine Xt Y Y<|Xa Y<|Xa Y<|Xr e49<|J5<|Ea Y Y Y<|⟨i,true,Y,⟨by omega,hlo,hhi,fun _=>⟨p1,hp1,Gf⟩,fun h=>by cases h⟩,H2.Ac⟩
 refine Xt Y Y<|Xa Y<|Xa Y<|Xr e49<|J5<|Ea Y Y Y ?_
 exact⟨i,false,Y,⟨by omega,hlo,hhi,(fun h=>by cases h),fun _ p h2=>by
  rw[hp1]at h2
  cases h2
  exact Gf⟩,H2.Ac⟩
 refine Xm Y<|Aa e49<|Oz 8 Y<|Aa e49<|Xu Y Y<|Xa Y<|Aa e49<|Xa Y<|Xr e49<|J5<|Ea Y Y Y<|⟨i,false,Y,⟨by omega,hlo,hhi,(fun h=>by cases h),fun _ p h2=>by have:=lt_of_get h2;omega⟩,H1.Ac⟩
theorem PS (A:Option Addr) (c:Nat) (ps:List (List Value)) (n:Nat) (hn:ps.length=n) (k:FuncId) (tc:List Value) (htc:tc.length=4) (cf:List Value→Int) (w0:World) (hp:Pl 4 ps) (hr:Rd w0 A ps.length 4 ps.flatten) (hl:ps.length≤4611686018427387903) (hC:Cmp Tryz.prog k (.agg tc.toArray) cf ps):zP Tryz.prog 154 #[.slice A n c,.agg tc.toArray,.func (.func k) #[] #[]] w0 (fun r w'=>∃ (i:Nat) (f:Bool),r=.tuple #[.int .i64 (i:Int),.bool f]∧AP ps cf i f∧Hp w0 w' [] []):=by
 refine zE Tryz.func154 Tryz.ntmps154 Y<|cR e49 ?_
 subst hn
 have H:=Hp.refl w0
 have hn:=hr.len
 refine Rq<|yA Y Y H<|fun w1 g4 H1 hg4=>Xa Y<|Xa Y<|Xr e49<|Rq<|Xm Y<|OV (ES Tryz.underlying38 Y)<|Xa Y<|Xr e49<|Rq<|Xm Y<|Xa Y<|Xa Y<|Xr e49<|J1<|J7<|zU (fun nQ lQ w=>∃ (i m:Nat) (y z:Int) (g4:Nat),m - i=nQ∧xN (Dj [(0,.slice A ps.length c),(2,.func (.func k) #[] #[]),(4,.pointer (some ⟨g4,0,none⟩)),(8,.int .i64 (ps.length:Int)),(9,.int .i64 y),(10,.int .i64 z)] 0 49) lQ∧y=(i:Int)∧z=(m:Int)∧i≤m∧m≤ps.length∧(∀ (k:Nat) (p:List Value),k < i→ps[k]? =some p→cf p < 0)∧(∀ (k:Nat) (p:List Value),m≤k→ps[k]? =some p→0≤cf p)∧Hp w0 w [] [((some g4,35,tc):Ent)]) (ps.length - 0) ?_ ?_
 exact⟨0,ps.length,_,_,_,Y,(Pg Y Y Y Y Y Y Y),Y,Y,Nat.zero_le _,Nat.le_refl _,fun k p hk=>by omega,fun k p hk hkp=>by have:=lt_of_get hkp;omega,H1⟩
 rintro nQ lQ w2 ⟨i,m,y,z,g4,rfl,hfit,rfl,rfl,him,hmn,hlo,hhi,H2⟩
 obtain⟨j,rfl⟩:=hfit.open
 refine cR e49 ?_
 clear hfit
 refine J1<|Rq<|Xm Y<|Xm Y<|OT (zQ Y Y) (fun hp17=>?_) (fun hp17=>?_)
 obtain⟨p1,hp1⟩:=yM (l:=ps) (j:=(i+m) / 2) (by omega)
 have Cb:=lt_of_get hp1
 obtain⟨a1,ha1⟩:=hr.some_ (by omega)
 subst ha1
 refine Xr e49<|J3 Y<|J6<|J7<|Rq<|Xm Y<|Xm Y<|OV (zL Y Y ((IntWalk.i64_in _ (by omega)).trans (show(i:Int)+(m:Int)=((i+m:Nat):Int) by omega)))<|OV (xJ Tryz.underlying144 Tryz.underlying3 Y ((show IntKind.u64.wrap ((i+m:Nat):Int)=((i+m:Nat):Int) by rw[IntKind.wrap_u64];omega)))<|Aa e49<|OV (oQ Y Y (by omega) (show(((i+m:Nat):Int)).fdiv (2^(min (1:Int).toNat IntKind.u64.bits))=(((i+m) / 2:Nat):Int) from qS (i+m) 1 64))<|OV (xJ Tryz.underlying3 Tryz.underlying144 Y (IntWalk.i64_in _ (by omega)))<|Xa Y<|Xr e49<|J1<|zR 7 [(true,0),(true,1),(true,2),(true,3),(true,4),(true,5),(false,6),(false,7)] H2 [0] yG (by decide) (by kernel_rfl) ?_
 rintro w3 hw3
 have H3:=Hp.drew H2;rw[← hw3]at H3
 refine Zm Y Y<|Zm Y Y<|Zm Y Y<|MP Y<|MV (fun wz hz=>EI Tryz.underlying38 xR Y Y Y Cb Y)<|cZ e49<|MP Y<|MV (fun wz hz=>EN xR Y (vs:=p1) (hp.at hp1) ((hr.to0 hz).elem hp hp1))<|MP Y<|MV (fun wz hz=>EN xR Y (vs:=tc) htc (hz.Ad (i:=0) Y (by rw[List.drop_zero,List.take_length])))<|MO Y<|OC (xI hC.go Y Y) (hC.does w3 p1 (mem_of hp1))<|fun w4 Hd=>have H4:=H3.Af Hd;OE<|⟨fun hne=>H4.pick [0] (by decide),?_⟩
 refine cZ e49<|MO Y<|OT (zQ Y Y) (fun Ep=>?_) (fun Ep=>?_)
 refine OE ?_
 refine⟨fun hne=>absurd Y hne,?_⟩
 refine ME<|cR e49<|J3 Y<|J2<|Xm Y<|OV (zL Y Y (IntWalk.i64_in _ (by omega)))<|Xa Y<|Xr e49<|zA (zB ?_)
 refine zA (zI ?_)
 exact⟨m - ((i+m) / 2+1),by omega,(i+m) / 2+1,m,_,_,_,Y,(Pg Y Y Y Y Y Y Y),by omega,Y,by omega,by omega,fun k p hk hkp=>hC.mono k _ p p1 (by omega) hkp hp1 Ep,hhi,H4⟩
 refine OE ?_
 refine⟨fun hne=>absurd Y hne,?_⟩
 refine ME<|cR e49<|J4 Y<|J2<|Xm Y<|Xa Y<|Xr e49<|zA (zB ?_)
 refine zA (zI ?_)
 exact⟨(i+m) / 2 - i,by omega,i,(i+m) / 2,_,_,_,Y,(Pg Y Y Y Y Y Y Y),Y,Y,by omega,by omega,hlo,fun k p hk hkp=>by
  rcases Int.lt_or_le (cf p) 0 with h | h
  · exact absurd (hC.mono _ k p1 p (by omega) hp1 hkp h) Ep
  · exact h,H4⟩
 obtain rfl:i=m:=by omega
 refine Xr e49<|J4 Y<|J8<|zT<|zS<|J1<|zR 15 [(true,0),(true,1),(true,2),(true,3),(true,4),(true,5),(true,6),(true,7),(true,8),(true,9),(true,10),(false,11),(true,12),(true,13),(true,14),(false,15)] H2 [0] yG (by decide) (by kernel_rfl) ?_
 rintro w3 hw3
 have H3:=Hp.drew H2;rw[← hw3]at H3
 refine Zm Y Y<|Zm Y Y<|Zm Y Y<|MP Y<|vU (fun wz hz=>zQ Y Y) (fun hp38=>?_) (fun hp38=>?_)
 obtain⟨p1,hp1⟩:=yM (l:=ps) (j:=i) (by omega)
 have Cb:=lt_of_get hp1
 obtain⟨a1,ha1⟩:=hr.some_ (by omega)
 subst ha1
 refine Zm Y Y<|cZ e49<|MP Y<|MY Y<|MV (fun wz hz=>zK Y)<|MP Y<|MY Y<|MV (fun wz hz=>zK Y)<|MP Y<|MY Y<|MV (fun wz hz=>zK Y)<|MP Y<|MY Y<|MV (fun wz hz=>EI Tryz.underlying38 xR Y Y Y Cb Y)<|cZ e49<|MP Y<|MY Y<|MV (fun wz hz=>EN xR Y (vs:=p1) (hp.at hp1) ((hr.to0 hz).elem hp hp1))<|MP Y<|MY Y<|MV (fun wz hz=>EN xR Y (vs:=tc) htc (hz.Ad (i:=0) Y (by rw[List.drop_zero,List.take_length])))<|MO Y<|OY Y<|OC (xI hC.go Y Y) (hC.does w3 p1 (mem_of hp1))<|fun w4 Hd=>have H4:=H3.Af Hd;OE<|⟨fun hne=>H4.pick [0] (by decide),?_⟩
 refine cZ e49<|MP Y<|MY Y<|vU (fun wz hz=>xP Y Y) (fun Gf=>?_) (fun Gf=>?_)
 refine MP Y<|MV (fun wz hz=>xS Y Y)<|MP Y<|MV (fun wz hz=>zO Y)<|MO Y<|Xa Y<|OE<|⟨fun hne=>absurd Y hne,?_⟩
 refine cZ e49<|ME<|cR e49<|J5<|Ea Y Y Y<|⟨i,true,Y,⟨by omega,hlo,hhi,fun _=>⟨p1,hp1,Gf⟩,fun h=>by cases h⟩,H4.Ac⟩
 refine MP Y<|MV (fun wz hz=>xS Y Y)<|MP Y<|MV (fun wz hz=>zO Y)<|MO Y<|Xa Y<|OE<|⟨fun hne=>absurd Y hne,?_⟩
 refine cZ e49<|ME<|cR e49<|J5<|Ea Y Y Y ?_
 exact⟨i,false,Y,⟨by omega,hlo,hhi,(fun h=>by cases h),fun _ p h2=>by
  rw[hp1]at h2
  cases h2
  exact Gf⟩,H4.Ac⟩
 refine Zm Y Y<|cZ e49<|MP Y<|MZ Y<|MP Y<|MZ Y<|cZ e49<|MP Y<|MZ Y<|MP Y<|MZ Y<|cZ e49<|MP Y<|MZ Y<|MP Y<|MZ Y<|cZ e49<|MO Y<|OZ Y<|OE<|⟨fun hne=>H3.pick [0] (by decide),?_⟩
 refine MP Y<|MZ Y<|cZ e49<|MP Y<|MV (fun wz hz=>wT Y Y)<|MP Y<|MV (fun wz hz=>zO Y)<|MO Y<|Xa Y<|OE<|⟨fun hne=>absurd Y hne,?_⟩
 refine cZ e49<|ME<|cR e49<|J5<|Ea Y Y Y<|⟨i,false,Y,⟨by omega,hlo,hhi,(fun h=>by cases h),fun _ p h2=>by have:=lt_of_get h2;omega⟩,H3.Ac⟩
end Go.Proofs.YtjoeklkmnfaabaaGreat
namespace Go.Proofs.YtjoeklkmnfaabaaGreat
set_option maxRecDepth 100000
set_option maxHeartbeats 16000000
open Go Go.RowKit
set_option linter.unusedVariables false
attribute [local irreducible] yT Ops zP Cd
theorem SI (g:Option Nat) (cap i gv n:Nat) (ps:List (List Value)) (hn:ps.length=n) (vs sp:List Value) (w0:World) (H0:Hp w0 w0 (bl [((g,77,ps.flatten++sp):Ent)]) [((g,77,ps.flatten++sp):Ent)]) (hp:Pl 4 ps) (ho:∀ p∈ps,p.all (·.oneCell')=true) (hl:ps.length≤cap) (hcz:cap*4≤(ps.flatten++sp).length) (hg0:g=none→cap=0) (hi:i≤ps.length) (hv:w0.heap[gv]? =some (.cells vs.toArray 77 (0,0))) (hvl:vs.length=4) (Rx:vs.all (·.oneCell')=true) (hgv:gv∉bl [((g,77,ps.flatten++sp):Ent)]) (hb:(ps.length+1)*48≤211106232532992):zP Tryz.prog 166 #[.slice (hd g) n cap,.int .i64 (i:Int),.slice (some ⟨gv,0,none⟩) 1 1] w0 (fun r w'=>∃ g' cap' sp',r=.slice (hd g') (ps.length+1) cap'∧ps.length+1≤cap'∧cap'*4≤((ps.take i++vs::ps.drop i).flatten++sp').length∧(g'=none→cap'=0)∧Hp w0 w' (bl [((g,77,ps.flatten++sp):Ent)]) [((g',77,(ps.take i++vs::ps.drop i).flatten++sp'):Ent)]):=by
 refine zE Tryz.func166 Tryz.ntmps166 Y<|cR Dc ?_
 subst hn
 have H:=H0
 have hrd:=H.rd (i:=0) rfl hp.len (by decide)
 have Fe:=xF ho
 refine Rq<|Xa Y<|Xr Dc<|Rq<|Xm Y<|Xm Y<|OV (vA Tryz.underlying94 yZ Y Y ⟨by omega,by omega⟩)<|Xr Dc<|Rq<|Xm Y<|OV (ES Tryz.underlying94 Y)<|Xa Y<|Xr Dc<|J1<|Rq<|Xm Y<|Dy (xP Y Y) (by decide)<|Xr Dc<|J4 Y<|J6<|Rq<|Xm Y<|OV (ES Tryz.underlying94 Y)<|Xa Y<|Xr Dc<|J1<|Rq<|Xm Y<|Xm Y ?_
 refine OT (xP Y Y) (fun Jm=>?_) (fun Jm=>?_)
 obtain rfl:i=ps.length:=by omega
 refine Xr Dc<|J3 Y<|Rq<|Xm Y<|Xm Y ?_
 have Nh:=(⟨by rw[hvl],fun a ha jx u hu=>by cases ha;rw[Dn,Nat.zero_add];exact(by simp[World.cell?,H.keep hv hgv,hu]),fun h=>by cases h⟩:Rd w0 (some ⟨gv,0,none⟩) 1 4 vs)
 refine yX Tryz.underlying94 yZ (by decide) H 0 (g:=g) (xs:=ps.flatten) (sp:=sp) Y Y hp.len hcz hl hg0 Y Nh Rx (by omega) (by omega) (by decide)<|fun w1 g2 cap2 sp2 H1 hcz2 hl2 hg2=>Xa Y<|Xr Dc<|J5<|Ak Y Y ?_
 have e1:(ps.take ps.length++vs::ps.drop ps.length).flatten=ps.flatten++vs:=by rw[List.take_length,List.drop_length];simp
 refine⟨g2,cap2,sp2,Y,hl2,by rw[e1];exact hcz2,hg2,?_⟩
 rw[e1]
 exact H1
 have hil:i < ps.length:=by omega
 obtain⟨gx,rfl⟩:=vK H (i:=0) rfl (by rw[List.length_append,hp.len];have:0 < ps.length*4:=Nat.mul_pos (by omega) (by decide);omega)
 refine Xr Dc<|J4 Y<|J6<|J1<|Rq<|Xm Y<|Xm Y<|OV (zL Y Y (IntWalk.i64_in _ (by omega)))<|Xm Y<|Aa Dc<|OV (mH Tryz.underlying94 Y)<|OT (yO Y Y) (fun Ep=>?_) (fun Ep=>?_)
 refine Xr Dc<|J3 Y<|Rq<|Xm Y<|Xm Y<|OV (iY Tryz.underlying94 yZ Y Y Y (by omega))<|Xm Y<|Aa Dc<|Xm Y<|OV (zL Y Y (IntWalk.i64_in _ (by omega)))<|Xm Y<|OV (uW Y Y ((IntWalk.i64_in _ (by omega)).trans (show((ps.length:Int)+1 - (i:Int))=((ps.length+1 - i:Nat):Int) by omega)))<|Aa Dc<|lB Tryz.underlying94 Tryz.underlying3 yZ (by decide) H Y (hrd.Uc (by omega) (fun h=>by cases h)) Y (by omega) (by omega) (by omega) (by omega) (by decide)<|fun w1 g2 cap2 sp2 H1 hcz2 hl2=>Xa Y<|Xr Dc<|Rq<|Xm Y<|Xm Y ?_
 have hie:i+(ps.length+1 - i)=ps.length+1:=by omega
 have hrow2:(ps.flatten.take (i*4)++initL [.int .i64 0,.int .i64 0,.int .i64 0,.slice none 0 0] (ps.length+1 - i)).length=(ps.length+1)*4:=by
  rw[List.length_append,List.length_take,hp.len,wQ,Nat.min_eq_left (Nat.mul_le_mul_right _ (by omega))]
  show i*4+(ps.length+1 - i)*4=_
  rw[← Nat.add_mul,hie]
 have hlv:(i+1)*4≤(ps.length+1)*4:=Nat.mul_le_mul_right _ (by omega)
 have Nh:=(⟨by rw[hvl],fun a ha jx u hu=>by cases ha;rw[Dn,Nat.zero_add];exact(by simp[World.cell?,H1.keep hv hgv,hu]),fun h=>by cases h⟩:Rd w1 (some ⟨gv,0,none⟩) 1 4 vs)
 refine OV (tO Tryz.underlying94 yZ Y Y Y (by omega) (by omega))<|Xm Y<|Aa Dc<|uH Tryz.underlying94 yZ H1 1 (o:=0+i*4) (vs:=vs) (by first | rfl | (rw[← Dn];rfl)) Y Y (by rw[hvl];show 4=Nat.min 1 (i+(ps.length+1 - i) - i)*4;rw[iO];omega) (fun jx u hu=>Nh.cells _ Y jx u hu) (by rw[List.length_append,hrow2,hvl];omega) Rx<|fun w2 H2=>Xr Dc<|J1<|zR 8 [(true,0),(true,1),(true,2),(true,3),(true,4),(true,5),(true,6),(true,7),(false,8)] H2 [0,1] yG (by decide) (by kernel_rfl) ?_
 rintro w3 hw3
 have H3:=Hp.drew H2;rw[← hw3]at H3
 refine Zm Y Y<|Zm Y Y<|Zm Y Y<|MP Y<|MV (fun wz hz=>zL Y Y (IntWalk.i64_in _ (by omega)))<|cZ Dc<|MP Y<|MV (fun wz hz=>tO Tryz.underlying94 yZ Y Y (i:=i+1) (by omega) (by omega) (by omega))<|Zm Y Y<|Zm Y Y<|MP Y<|MV (fun wz hz=>tO Tryz.underlying94 yZ Y Y Y (by omega) (by omega))<|cZ Dc<|MO Y ?_
 have hdl:(ps.flatten.drop (i*4)).length=(ps.length - i)*4:=by rw[List.length_drop,hp.len,← Nat.sub_mul]
 refine uH Tryz.underlying94 yZ H3 1 (o:=0+(i+1)*4) (vs:=ps.flatten.drop (i*4)) (by first | rfl | (rw[← Dn];rfl)) Y Y (by rw[hdl];show _=Nat.min (ps.length - i) (i+(ps.length+1 - i) - (i+1))*4;rw[iO];omega) (fun jx u hu=>by
  rw[tQ,Dn,Nat.zero_add]
  exact H3.cell (i:=0) Y (by rw[List.getElem?_append_left (by have:=lt_of_get hu;rw[List.length_drop]at this;omega)];rwa [List.getElem?_drop]at hu)) (by rw[vH (by rw[List.length_append,hrow2,hvl];omega),List.length_append,hrow2,hdl,Nat.zero_add,← Nat.add_mul,show i+1+(ps.length - i)=ps.length+1 by omega];omega) (by rw[List.all_eq_true]at Fe ⊢;exact fun x hx=>Fe x (List.mem_of_mem_drop hx)) ?_
 intro w4 H4
 refine OE ?_
 refine⟨fun hne=>absurd Y hne,?_⟩
 refine cZ Dc<|ME<|cR Dc<|Rq<|Xm Y<|Xa Y<|Xr Dc<|J5<|Ak Y Y ?_
 have HZ:=H4.pick [1] (by decide)
 change Hp _ _ _ [((some g2,77,zH (zH _ (0+i*4) _) (0+(i+1)*4) _):Ent)]at HZ
 rw[Nat.zero_add,Nat.zero_add,BT (sp:=sp2) hp rfl (by omega) hvl (by rw[wQ];rfl) rfl]at HZ
 refine⟨some g2,cap2,sp2,by rw[hie],by omega,?_,(fun h=>by cases h),HZ⟩
 rw[List.length_append]at hcz2 ⊢
 rw[hrow2]at hcz2
 have hp2:Pl 4 (ps.take i++vs::ps.drop i):=(hp.sub fun x hx=>List.mem_of_mem_take hx).app fun x hx=>by
  rcases List.mem_cons.1 hx with rfl | hx
  · exact hvl
  · exact hp x (List.mem_of_mem_drop hx)
 rw[hp2.len]
 have:(ps.take i++vs::ps.drop i).length=ps.length+1:=by rw[List.length_append,List.length_cons,List.length_take,List.length_drop];omega
 rw[this];exact hcz2
 refine Xr Dc<|J4 Y<|J6<|Rq<|Xm Y<|Xm Y<|Xm Y<|OV (zL Y Y (IntWalk.i64_in _ (by omega)))<|Aa Dc ?_
 have Si:4≤sp.length:=by
  rw[List.length_append,hp.len]at hcz
  have:(ps.length+1)*4≤cap*4:=Nat.mul_le_mul_right _ (by omega)
  omega
 refine OV (iY Tryz.underlying94 yZ Y Y (i:=ps.length+1) (by omega) (by omega))<|Xa Y<|Xr Dc<|J1<|Rq<|Xm Y<|Xm Y<|Xm Y<|Xm Y<|Aa Dc<|OV (zL Y Y (IntWalk.i64_in _ (by omega)))<|OV (tO Tryz.underlying94 yZ Y Y (i:=i+1) (by omega) (by omega) (by omega)) ?_
 have Jp:=H.keep hv hgv
 have Tt:=H.at (i:=0) rfl
 have hne:gv≠gx:=fun h=>hgv (by rw[h];simp[bl])
 refine nT (fn:=(Tryz.prog.funcs[192]?).get!) (e:=Extern.SlicesOverlaps.overlaps #[94,94] #[4]) (v:=.bool false) (by kernel_rfl) (by kernel_rfl) (by kernel_rfl) (by kernel_rfl) (by kernel_rfl) Y (Lib.run_overlaps_apart w0 94 4 77 Tryz.underlying94 4 (fun w=>vF yZ) ⟨gv,0,none⟩ _ 1 1 _ _ (by rw[Dn];exact hne) 77 77 4 _ (by simp[World.shape?,Jp];exact hvl) (by rw[Dn];simp only[World.shape?,Tt];rfl) (by simp only[List.size_toArray,List.length_append];omega) (by simp[World.frozen?,Jp]) (by simp[World.frozen?,Jp]))<|Xn Y<|Xr Dc<|J3 Y<|J1<|zR 8 [(true,0),(true,1),(true,2),(true,3),(true,4),(true,5),(true,6),(true,7),(false,8)] H [0] yG (by decide) (by kernel_rfl) ?_
 rintro w1 hw1
 have H1:=Hp.drew H;rw[← hw1]at H1
 refine Zm Y Y<|Zm Y Y<|Zm Y Y<|MP Y<|MV (fun wz hz=>zL Y Y (IntWalk.i64_in _ (by omega)))<|cZ Dc<|MP Y<|MV (fun wz hz=>tO Tryz.underlying94 yZ Y Y (i:=i+1) (by omega) (by omega) (by omega))<|Zm Y Y<|Zm Y Y<|MP Y<|MV (fun wz hz=>tO Tryz.underlying94 yZ Y Y Y (by omega) (by omega))<|cZ Dc<|MO Y ?_
 have hdl:(ps.flatten.drop (i*4)).length=(ps.length - i)*4:=by rw[List.length_drop,hp.len,← Nat.sub_mul]
 have hlv:(i+1)*4+(ps.length - i)*4=(ps.length+1)*4:=by rw[← Nat.add_mul,show i+1+(ps.length - i)=ps.length+1 by omega]
 have hlw:(ps.length+1)*4=ps.length*4+4:=by omega
 refine uH Tryz.underlying94 yZ H1 0 (o:=0+(i+1)*4) (vs:=ps.flatten.drop (i*4)) (by first | rfl | (rw[← Dn];rfl)) Y Y (by rw[hdl];show _=Nat.min (ps.length+1 - i) (ps.length+1 - (i+1))*4;rw[show Nat.min (ps.length+1 - i) (ps.length+1 - (i+1))=ps.length - i from(by show min _ _=_;omega)]) (fun jx u hu=>by
  rw[tQ,Dn,Nat.zero_add]
  exact H1.cell (i:=0) Y (by rw[List.getElem?_append_left (by have:=lt_of_get hu;rw[List.length_drop]at this;omega)];rwa [List.getElem?_drop]at hu)) (by rw[List.length_append,hp.len,hdl];omega) (by rw[List.all_eq_true]at Fe ⊢;exact fun x hx=>Fe x (List.mem_of_mem_drop hx)) ?_
 intro w2 H2
 refine OE ?_
 refine⟨fun hne=>absurd Y hne,?_⟩
 refine cZ Dc<|ME<|cR Dc<|Rq<|Xm Y<|Xm Y<|OV (tO Tryz.underlying94 yZ Y Y Y (by omega) (by omega))<|Xm Y<|Aa Dc ?_
 have Nh:=(⟨by rw[hvl],fun a ha jx u hu=>by cases ha;rw[Dn,Nat.zero_add];exact(by simp[World.cell?,H2.keep hv hgv,hu]),fun h=>by cases h⟩:Rd w2 (some ⟨gv,0,none⟩) 1 4 vs)
 refine uH Tryz.underlying94 yZ H2 0 (o:=0+i*4) (vs:=vs) (by first | rfl | (rw[← Dn];rfl)) Y Y (by rw[hvl];show 4=Nat.min 1 (ps.length+1 - i)*4;rw[iO];omega) (fun jx u hu=>Nh.cells _ Y jx u hu) (by rw[vH (by rw[List.length_append,hp.len,hdl];omega),List.length_append,hp.len,hvl];have:i*4≤ps.length*4:=Nat.mul_le_mul_right _ (by omega);omega) Rx<|fun w3 H3=>Xr Dc<|Rq<|Xm Y<|Xa Y<|Xr Dc<|J5<|Ak Y Y ?_
 have HZ:=H3
 change Hp _ _ _ [((some gx,77,zH (zH _ (0+(i+1)*4) _) (0+i*4) _):Ent)]at HZ
 rw[Nat.zero_add,Nat.zero_add,FX hp rfl (by omega) hvl Si]at HZ
 have hp2:Pl 4 (ps.take i++vs::ps.drop i):=(hp.sub fun x hx=>List.mem_of_mem_take hx).app fun x hx=>by
  rcases List.mem_cons.1 hx with rfl | hx
  · exact hvl
  · exact hp x (List.mem_of_mem_drop hx)
 have hl3:(ps.take i++vs::ps.drop i).length=ps.length+1:=by rw[List.length_append,List.length_cons,List.length_take,List.length_drop];omega
 refine⟨some gx,cap,sp.drop 4,Y,by omega,?_,(fun h=>by cases h),HZ⟩
 rw[List.length_append,hp.len]at hcz
 rw[List.length_append,hp2.len,hl3,List.length_drop]
 omega
theorem SJ (g:Option Nat) (cap i gv n:Nat) (ps:List (List Value)) (hn:ps.length=n) (vs sp:List Value) (w0:World) (H0:Hp w0 w0 (bl [((g,35,ps.flatten++sp):Ent)]) [((g,35,ps.flatten++sp):Ent)]) (hp:Pl 4 ps) (ho:∀ p∈ps,p.all (·.oneCell')=true) (hl:ps.length≤cap) (hcz:cap*4≤(ps.flatten++sp).length) (hg0:g=none→cap=0) (hi:i≤ps.length) (hv:w0.heap[gv]? =some (.cells vs.toArray 35 (0,0))) (hvl:vs.length=4) (Rx:vs.all (·.oneCell')=true) (hgv:gv∉bl [((g,35,ps.flatten++sp):Ent)]) (hb:(ps.length+1)*40≤211106232532992):zP Tryz.prog 156 #[.slice (hd g) n cap,.int .i64 (i:Int),.slice (some ⟨gv,0,none⟩) 1 1] w0 (fun r w'=>∃ g' cap' sp',r=.slice (hd g') (ps.length+1) cap'∧ps.length+1≤cap'∧cap'*4≤((ps.take i++vs::ps.drop i).flatten++sp').length∧(g'=none→cap'=0)∧Hp w0 w' (bl [((g,35,ps.flatten++sp):Ent)]) [((g',35,(ps.take i++vs::ps.drop i).flatten++sp'):Ent)]):=by
 refine zE Tryz.func156 Tryz.ntmps156 Y<|cR Dc ?_
 subst hn
 have H:=H0
 have hrd:=H.rd (i:=0) rfl hp.len (by decide)
 have Fe:=xF ho
 refine Rq<|Xa Y<|Xr Dc<|Rq<|Xm Y<|Xm Y<|OV (vA Tryz.underlying38 xR Y Y ⟨by omega,by omega⟩)<|Xr Dc<|Rq<|Xm Y<|OV (ES Tryz.underlying38 Y)<|Xa Y<|Xr Dc<|J1<|Rq<|Xm Y<|Dy (xP Y Y) (by decide)<|Xr Dc<|J4 Y<|J6<|Rq<|Xm Y<|OV (ES Tryz.underlying38 Y)<|Xa Y<|Xr Dc<|J1<|Rq<|Xm Y<|Xm Y ?_
 refine OT (xP Y Y) (fun Jm=>?_) (fun Jm=>?_)
 obtain rfl:i=ps.length:=by omega
 refine Xr Dc<|J3 Y<|Rq<|Xm Y<|Xm Y ?_
 have Nh:=(⟨by rw[hvl],fun a ha jx u hu=>by cases ha;rw[Dn,Nat.zero_add];exact(by simp[World.cell?,H.keep hv hgv,hu]),fun h=>by cases h⟩:Rd w0 (some ⟨gv,0,none⟩) 1 4 vs)
 refine yX Tryz.underlying38 xR (by decide) H 0 (g:=g) (xs:=ps.flatten) (sp:=sp) Y Y hp.len hcz hl hg0 Y Nh Rx (by omega) (by omega) (by decide)<|fun w1 g2 cap2 sp2 H1 hcz2 hl2 hg2=>Xa Y<|Xr Dc<|J5<|Ak Y Y ?_
 have e1:(ps.take ps.length++vs::ps.drop ps.length).flatten=ps.flatten++vs:=by rw[List.take_length,List.drop_length];simp
 refine⟨g2,cap2,sp2,Y,hl2,by rw[e1];exact hcz2,hg2,?_⟩
 rw[e1]
 exact H1
 have hil:i < ps.length:=by omega
 obtain⟨gx,rfl⟩:=vK H (i:=0) rfl (by rw[List.length_append,hp.len];have:0 < ps.length*4:=Nat.mul_pos (by omega) (by decide);omega)
 refine Xr Dc<|J4 Y<|J6<|J1<|Rq<|Xm Y<|Xm Y<|OV (zL Y Y (IntWalk.i64_in _ (by omega)))<|Xm Y<|Aa Dc<|OV (mH Tryz.underlying38 Y)<|OT (yO Y Y) (fun Ep=>?_) (fun Ep=>?_)
 refine Xr Dc<|J3 Y<|Rq<|Xm Y<|Xm Y<|OV (iY Tryz.underlying38 xR Y Y Y (by omega))<|Xm Y<|Aa Dc<|Xm Y<|OV (zL Y Y (IntWalk.i64_in _ (by omega)))<|Xm Y<|OV (uW Y Y ((IntWalk.i64_in _ (by omega)).trans (show((ps.length:Int)+1 - (i:Int))=((ps.length+1 - i:Nat):Int) by omega)))<|Aa Dc<|lB Tryz.underlying38 Tryz.underlying3 xR (by decide) H Y (hrd.Uc (by omega) (fun h=>by cases h)) Y (by omega) (by omega) (by omega) (by omega) (by decide)<|fun w1 g2 cap2 sp2 H1 hcz2 hl2=>Xa Y<|Xr Dc<|Rq<|Xm Y<|Xm Y ?_
 have hie:i+(ps.length+1 - i)=ps.length+1:=by omega
 have hrow2:(ps.flatten.take (i*4)++initL [.int .i64 0,.string .empty,.int .i64 0,.int .i64 0] (ps.length+1 - i)).length=(ps.length+1)*4:=by
  rw[List.length_append,List.length_take,hp.len,wQ,Nat.min_eq_left (Nat.mul_le_mul_right _ (by omega))]
  show i*4+(ps.length+1 - i)*4=_
  rw[← Nat.add_mul,hie]
 have hlv:(i+1)*4≤(ps.length+1)*4:=Nat.mul_le_mul_right _ (by omega)
 have Nh:=(⟨by rw[hvl],fun a ha jx u hu=>by cases ha;rw[Dn,Nat.zero_add];exact(by simp[World.cell?,H1.keep hv hgv,hu]),fun h=>by cases h⟩:Rd w1 (some ⟨gv,0,none⟩) 1 4 vs)
 refine OV (tO Tryz.underlying38 xR Y Y Y (by omega) (by omega))<|Xm Y<|Aa Dc<|uH Tryz.underlying38 xR H1 1 (o:=0+i*4) (vs:=vs) (by first | rfl | (rw[← Dn];rfl)) Y Y (by rw[hvl];show 4=Nat.min 1 (i+(ps.length+1 - i) - i)*4;rw[iO];omega) (fun jx u hu=>Nh.cells _ Y jx u hu) (by rw[List.length_append,hrow2,hvl];omega) Rx<|fun w2 H2=>Xr Dc<|J1<|zR 8 [(true,0),(true,1),(true,2),(true,3),(true,4),(true,5),(true,6),(true,7),(false,8)] H2 [0,1] yG (by decide) (by kernel_rfl) ?_
 rintro w3 hw3
 have H3:=Hp.drew H2;rw[← hw3]at H3
 refine Zm Y Y<|Zm Y Y<|Zm Y Y<|MP Y<|MV (fun wz hz=>zL Y Y (IntWalk.i64_in _ (by omega)))<|cZ Dc<|MP Y<|MV (fun wz hz=>tO Tryz.underlying38 xR Y Y (i:=i+1) (by omega) (by omega) (by omega))<|Zm Y Y<|Zm Y Y<|MP Y<|MV (fun wz hz=>tO Tryz.underlying38 xR Y Y Y (by omega) (by omega))<|cZ Dc<|MO Y ?_
 have hdl:(ps.flatten.drop (i*4)).length=(ps.length - i)*4:=by rw[List.length_drop,hp.len,← Nat.sub_mul]
 refine uH Tryz.underlying38 xR H3 1 (o:=0+(i+1)*4) (vs:=ps.flatten.drop (i*4)) (by first | rfl | (rw[← Dn];rfl)) Y Y (by rw[hdl];show _=Nat.min (ps.length - i) (i+(ps.length+1 - i) - (i+1))*4;rw[iO];omega) (fun jx u hu=>by
  rw[tQ,Dn,Nat.zero_add]
  exact H3.cell (i:=0) Y (by rw[List.getElem?_append_left (by have:=lt_of_get hu;rw[List.length_drop]at this;omega)];rwa [List.getElem?_drop]at hu)) (by rw[vH (by rw[List.length_append,hrow2,hvl];omega),List.length_append,hrow2,hdl,Nat.zero_add,← Nat.add_mul,show i+1+(ps.length - i)=ps.length+1 by omega];omega) (by rw[List.all_eq_true]at Fe ⊢;exact fun x hx=>Fe x (List.mem_of_mem_drop hx)) ?_
 intro w4 H4
 refine OE ?_
 refine⟨fun hne=>absurd Y hne,?_⟩
 refine cZ Dc<|ME<|cR Dc<|Rq<|Xm Y<|Xa Y<|Xr Dc<|J5<|Ak Y Y ?_
 have HZ:=H4.pick [1] (by decide)
 change Hp _ _ _ [((some g2,35,zH (zH _ (0+i*4) _) (0+(i+1)*4) _):Ent)]at HZ
 rw[Nat.zero_add,Nat.zero_add,BT (sp:=sp2) hp rfl (by omega) hvl (by rw[wQ];rfl) rfl]at HZ
 refine⟨some g2,cap2,sp2,by rw[hie],by omega,?_,(fun h=>by cases h),HZ⟩
 rw[List.length_append]at hcz2 ⊢
 rw[hrow2]at hcz2
 have hp2:Pl 4 (ps.take i++vs::ps.drop i):=(hp.sub fun x hx=>List.mem_of_mem_take hx).app fun x hx=>by
  rcases List.mem_cons.1 hx with rfl | hx
  · exact hvl
  · exact hp x (List.mem_of_mem_drop hx)
 rw[hp2.len]
 have:(ps.take i++vs::ps.drop i).length=ps.length+1:=by rw[List.length_append,List.length_cons,List.length_take,List.length_drop];omega
 rw[this];exact hcz2
 refine Xr Dc<|J4 Y<|J6<|Rq<|Xm Y<|Xm Y<|Xm Y<|OV (zL Y Y (IntWalk.i64_in _ (by omega)))<|Aa Dc ?_
 have Si:4≤sp.length:=by
  rw[List.length_append,hp.len]at hcz
  have:(ps.length+1)*4≤cap*4:=Nat.mul_le_mul_right _ (by omega)
  omega
 refine OV (iY Tryz.underlying38 xR Y Y (i:=ps.length+1) (by omega) (by omega))<|Xa Y<|Xr Dc<|J1<|Rq<|Xm Y<|Xm Y<|Xm Y<|Xm Y<|Aa Dc<|OV (zL Y Y (IntWalk.i64_in _ (by omega)))<|OV (tO Tryz.underlying38 xR Y Y (i:=i+1) (by omega) (by omega) (by omega)) ?_
 have Jp:=H.keep hv hgv
 have Tt:=H.at (i:=0) rfl
 have hne:gv≠gx:=fun h=>hgv (by rw[h];simp[bl])
 refine nT (fn:=(Tryz.prog.funcs[187]?).get!) (e:=Extern.SlicesOverlaps.overlaps #[38,38] #[4]) (v:=.bool false) (by kernel_rfl) (by kernel_rfl) (by kernel_rfl) (by kernel_rfl) (by kernel_rfl) Y (Lib.run_overlaps_apart w0 38 4 35 Tryz.underlying38 4 (fun w=>vF xR) ⟨gv,0,none⟩ _ 1 1 _ _ (by rw[Dn];exact hne) 35 35 4 _ (by simp[World.shape?,Jp];exact hvl) (by rw[Dn];simp only[World.shape?,Tt];rfl) (by simp only[List.size_toArray,List.length_append];omega) (by simp[World.frozen?,Jp]) (by simp[World.frozen?,Jp]))<|Xn Y<|Xr Dc<|J3 Y<|J1<|zR 8 [(true,0),(true,1),(true,2),(true,3),(true,4),(true,5),(true,6),(true,7),(false,8)] H [0] yG (by decide) (by kernel_rfl) ?_
 rintro w1 hw1
 have H1:=Hp.drew H;rw[← hw1]at H1
 refine Zm Y Y<|Zm Y Y<|Zm Y Y<|MP Y<|MV (fun wz hz=>zL Y Y (IntWalk.i64_in _ (by omega)))<|cZ Dc<|MP Y<|MV (fun wz hz=>tO Tryz.underlying38 xR Y Y (i:=i+1) (by omega) (by omega) (by omega))<|Zm Y Y<|Zm Y Y<|MP Y<|MV (fun wz hz=>tO Tryz.underlying38 xR Y Y Y (by omega) (by omega))<|cZ Dc<|MO Y ?_
 have hdl:(ps.flatten.drop (i*4)).length=(ps.length - i)*4:=by rw[List.length_drop,hp.len,← Nat.sub_mul]
 have hlv:(i+1)*4+(ps.length - i)*4=(ps.length+1)*4:=by rw[← Nat.add_mul,show i+1+(ps.length - i)=ps.length+1 by omega]
 have hlw:(ps.length+1)*4=ps.length*4+4:=by omega
 refine uH Tryz.underlying38 xR H1 0 (o:=0+(i+1)*4) (vs:=ps.flatten.drop (i*4)) (by first | rfl | (rw[← Dn];rfl)) Y Y (by rw[hdl];show _=Nat.min (ps.length+1 - i) (ps.length+1 - (i+1))*4;rw[show Nat.min (ps.length+1 - i) (ps.length+1 - (i+1))=ps.length - i from(by show min _ _=_;omega)]) (fun jx u hu=>by
  rw[tQ,Dn,Nat.zero_add]
  exact H1.cell (i:=0) Y (by rw[List.getElem?_append_left (by have:=lt_of_get hu;rw[List.length_drop]at this;omega)];rwa [List.getElem?_drop]at hu)) (by rw[List.length_append,hp.len,hdl];omega) (by rw[List.all_eq_true]at Fe ⊢;exact fun x hx=>Fe x (List.mem_of_mem_drop hx)) ?_
 intro w2 H2
 refine OE ?_
 refine⟨fun hne=>absurd Y hne,?_⟩
 refine cZ Dc<|ME<|cR Dc<|Rq<|Xm Y<|Xm Y<|OV (tO Tryz.underlying38 xR Y Y Y (by omega) (by omega))<|Xm Y<|Aa Dc ?_
 have Nh:=(⟨by rw[hvl],fun a ha jx u hu=>by cases ha;rw[Dn,Nat.zero_add];exact(by simp[World.cell?,H2.keep hv hgv,hu]),fun h=>by cases h⟩:Rd w2 (some ⟨gv,0,none⟩) 1 4 vs)
 refine uH Tryz.underlying38 xR H2 0 (o:=0+i*4) (vs:=vs) (by first | rfl | (rw[← Dn];rfl)) Y Y (by rw[hvl];show 4=Nat.min 1 (ps.length+1 - i)*4;rw[iO];omega) (fun jx u hu=>Nh.cells _ Y jx u hu) (by rw[vH (by rw[List.length_append,hp.len,hdl];omega),List.length_append,hp.len,hvl];have:i*4≤ps.length*4:=Nat.mul_le_mul_right _ (by omega);omega) Rx<|fun w3 H3=>Xr Dc<|Rq<|Xm Y<|Xa Y<|Xr Dc<|J5<|Ak Y Y ?_
 have HZ:=H3
 change Hp _ _ _ [((some gx,35,zH (zH _ (0+(i+1)*4) _) (0+i*4) _):Ent)]at HZ
 rw[Nat.zero_add,Nat.zero_add,FX hp rfl (by omega) hvl Si]at HZ
 have hp2:Pl 4 (ps.take i++vs::ps.drop i):=(hp.sub fun x hx=>List.mem_of_mem_take hx).app fun x hx=>by
  rcases List.mem_cons.1 hx with rfl | hx
  · exact hvl
  · exact hp x (List.mem_of_mem_drop hx)
 have hl3:(ps.take i++vs::ps.drop i).length=ps.length+1:=by rw[List.length_append,List.length_cons,List.length_take,List.length_drop];omega
 refine⟨some gx,cap,sp.drop 4,Y,by omega,?_,(fun h=>by cases h),HZ⟩
 rw[List.length_append,hp.len]at hcz
 rw[List.length_append,hp2.len,hl3,List.length_drop]
 omega
theorem eT (g:Option Nat) (cap i gv n:Nat) (ps:List (List Value)) (hn:ps.length=n) (vs sp:List Value) (w0:World) (H0:Hp w0 w0 (bl [((g,110,ps.flatten++sp):Ent)]) [((g,110,ps.flatten++sp):Ent)]) (hp:Pl 7 ps) (ho:∀ p∈ps,p.all (·.oneCell')=true) (hl:ps.length≤cap) (hcz:cap*7≤(ps.flatten++sp).length) (hg0:g=none→cap=0) (hi:i≤ps.length) (hv:w0.heap[gv]? =some (.cells vs.toArray 110 (0,0))) (hvl:vs.length=7) (Rx:vs.all (·.oneCell')=true) (hgv:gv∉bl [((g,110,ps.flatten++sp):Ent)]) (hb:(ps.length+1)*56≤211106232532992):zP Tryz.prog 115 #[.slice (hd g) n cap,.int .i64 (i:Int),.slice (some ⟨gv,0,none⟩) 1 1] w0 (fun r w'=>∃ g' cap' sp',r=.slice (hd g') (ps.length+1) cap'∧ps.length+1≤cap'∧cap'*7≤((ps.take i++vs::ps.drop i).flatten++sp').length∧(g'=none→cap'=0)∧Hp w0 w' (bl [((g,110,ps.flatten++sp):Ent)]) [((g',110,(ps.take i++vs::ps.drop i).flatten++sp'):Ent)]):=by
 refine zE Tryz.func115 Tryz.ntmps115 Y<|cR Dc ?_
 subst hn
 have H:=H0
 have hrd:=H.rd (i:=0) rfl hp.len (by decide)
 have Fe:=xF ho
 refine Rq<|Xa Y<|Xr Dc<|Rq<|Xm Y<|Xm Y<|OV (vA Tryz.underlying39 yP Y Y ⟨by omega,by omega⟩)<|Xr Dc<|Rq<|Xm Y<|OV (ES Tryz.underlying39 Y)<|Xa Y<|Xr Dc<|J1<|Rq<|Xm Y<|Dy (xP Y Y) (by decide)<|Xr Dc<|J4 Y<|J6<|Rq<|Xm Y<|OV (ES Tryz.underlying39 Y)<|Xa Y<|Xr Dc<|J1<|Rq<|Xm Y<|Xm Y ?_
 refine OT (xP Y Y) (fun Jm=>?_) (fun Jm=>?_)
 obtain rfl:i=ps.length:=by omega
 refine Xr Dc<|J3 Y<|Rq<|Xm Y<|Xm Y ?_
 have Nh:=(⟨by rw[hvl],fun a ha jx u hu=>by cases ha;rw[Dn,Nat.zero_add];exact(by simp[World.cell?,H.keep hv hgv,hu]),fun h=>by cases h⟩:Rd w0 (some ⟨gv,0,none⟩) 1 7 vs)
 refine yX Tryz.underlying39 yP (by decide) H 0 (g:=g) (xs:=ps.flatten) (sp:=sp) Y Y hp.len hcz hl hg0 Y Nh Rx (by omega) (by omega) (by decide)<|fun w1 g2 cap2 sp2 H1 hcz2 hl2 hg2=>Xa Y<|Xr Dc<|J5<|Ak Y Y ?_
 have e1:(ps.take ps.length++vs::ps.drop ps.length).flatten=ps.flatten++vs:=by rw[List.take_length,List.drop_length];simp
 refine⟨g2,cap2,sp2,Y,hl2,by rw[e1];exact hcz2,hg2,?_⟩
 rw[e1]
 exact H1
 have hil:i < ps.length:=by omega
 obtain⟨gx,rfl⟩:=vK H (i:=0) rfl (by rw[List.length_append,hp.len];have:0 < ps.length*7:=Nat.mul_pos (by omega) (by decide);omega)
 refine Xr Dc<|J4 Y<|J6<|J1<|Rq<|Xm Y<|Xm Y<|OV (zL Y Y (IntWalk.i64_in _ (by omega)))<|Xm Y<|Aa Dc<|OV (mH Tryz.underlying39 Y)<|OT (yO Y Y) (fun Ep=>?_) (fun Ep=>?_)
 refine Xr Dc<|J3 Y<|Rq<|Xm Y<|Xm Y<|OV (iY Tryz.underlying39 yP Y Y Y (by omega))<|Xm Y<|Aa Dc<|Xm Y<|OV (zL Y Y (IntWalk.i64_in _ (by omega)))<|Xm Y<|OV (uW Y Y ((IntWalk.i64_in _ (by omega)).trans (show((ps.length:Int)+1 - (i:Int))=((ps.length+1 - i:Nat):Int) by omega)))<|Aa Dc<|lB Tryz.underlying39 Tryz.underlying3 yP (by decide) H Y (hrd.Uc (by omega) (fun h=>by cases h)) Y (by omega) (by omega) (by omega) (by omega) (by decide)<|fun w1 g2 cap2 sp2 H1 hcz2 hl2=>Xa Y<|Xr Dc<|Rq<|Xm Y<|Xm Y ?_
 have hie:i+(ps.length+1 - i)=ps.length+1:=by omega
 have hrow2:(ps.flatten.take (i*7)++initL [.int .i64 0,.int .i64 0,.bool false,.int .i64 0,.int .i64 0,.int .i64 0,.int .i64 0] (ps.length+1 - i)).length=(ps.length+1)*7:=by
  rw[List.length_append,List.length_take,hp.len,wQ,Nat.min_eq_left (Nat.mul_le_mul_right _ (by omega))]
  show i*7+(ps.length+1 - i)*7=_
  rw[← Nat.add_mul,hie]
 have hlv:(i+1)*7≤(ps.length+1)*7:=Nat.mul_le_mul_right _ (by omega)
 have Nh:=(⟨by rw[hvl],fun a ha jx u hu=>by cases ha;rw[Dn,Nat.zero_add];exact(by simp[World.cell?,H1.keep hv hgv,hu]),fun h=>by cases h⟩:Rd w1 (some ⟨gv,0,none⟩) 1 7 vs)
 refine OV (tO Tryz.underlying39 yP Y Y Y (by omega) (by omega))<|Xm Y<|Aa Dc<|uH Tryz.underlying39 yP H1 1 (o:=0+i*7) (vs:=vs) (by first | rfl | (rw[← Dn];rfl)) Y Y (by rw[hvl];show 7=Nat.min 1 (i+(ps.length+1 - i) - i)*7;rw[iO];omega) (fun jx u hu=>Nh.cells _ Y jx u hu) (by rw[List.length_append,hrow2,hvl];omega) Rx<|fun w2 H2=>Xr Dc<|J1<|zR 8 [(true,0),(true,1),(true,2),(true,3),(true,4),(true,5),(true,6),(true,7),(false,8)] H2 [0,1] yG (by decide) (by kernel_rfl) ?_
 rintro w3 hw3
 have H3:=Hp.drew H2;rw[← hw3]at H3
 refine Zm Y Y<|Zm Y Y<|Zm Y Y<|MP Y<|MV (fun wz hz=>zL Y Y (IntWalk.i64_in _ (by omega)))<|cZ Dc<|MP Y<|MV (fun wz hz=>tO Tryz.underlying39 yP Y Y (i:=i+1) (by omega) (by omega) (by omega))<|Zm Y Y<|Zm Y Y<|MP Y<|MV (fun wz hz=>tO Tryz.underlying39 yP Y Y Y (by omega) (by omega))<|cZ Dc<|MO Y ?_
 have hdl:(ps.flatten.drop (i*7)).length=(ps.length - i)*7:=by rw[List.length_drop,hp.len,← Nat.sub_mul]
 refine uH Tryz.underlying39 yP H3 1 (o:=0+(i+1)*7) (vs:=ps.flatten.drop (i*7)) (by first | rfl | (rw[← Dn];rfl)) Y Y (by rw[hdl];show _=Nat.min (ps.length - i) (i+(ps.length+1 - i) - (i+1))*7;rw[iO];omega) (fun jx u hu=>by
  rw[tQ,Dn,Nat.zero_add]
  exact H3.cell (i:=0) Y (by rw[List.getElem?_append_left (by have:=lt_of_get hu;rw[List.length_drop]at this;omega)];rwa [List.getElem?_drop]at hu)) (by rw[vH (by rw[List.length_append,hrow2,hvl];omega),List.length_append,hrow2,hdl,Nat.zero_add,← Nat.add_mul,show i+1+(ps.length - i)=ps.length+1 by omega];omega) (by rw[List.all_eq_true]at Fe ⊢;exact fun x hx=>Fe x (List.mem_of_mem_drop hx)) ?_
 intro w4 H4
 refine OE ?_
 refine⟨fun hne=>absurd Y hne,?_⟩
 refine cZ Dc<|ME<|cR Dc<|Rq<|Xm Y<|Xa Y<|Xr Dc<|J5<|Ak Y Y ?_
 have HZ:=H4.pick [1] (by decide)
 change Hp _ _ _ [((some g2,110,zH (zH _ (0+i*7) _) (0+(i+1)*7) _):Ent)]at HZ
 rw[Nat.zero_add,Nat.zero_add,BT (sp:=sp2) hp rfl (by omega) hvl (by rw[wQ];rfl) rfl]at HZ
 refine⟨some g2,cap2,sp2,by rw[hie],by omega,?_,(fun h=>by cases h),HZ⟩
 rw[List.length_append]at hcz2 ⊢
 rw[hrow2]at hcz2
 have hp2:Pl 7 (ps.take i++vs::ps.drop i):=(hp.sub fun x hx=>List.mem_of_mem_take hx).app fun x hx=>by
  rcases List.mem_cons.1 hx with rfl | hx
  · exact hvl
  · exact hp x (List.mem_of_mem_drop hx)
 rw[hp2.len]
 have:(ps.take i++vs::ps.drop i).length=ps.length+1:=by rw[List.length_append,List.length_cons,List.length_take,List.length_drop];omega
 rw[this];exact hcz2
 refine Xr Dc<|J4 Y<|J6<|Rq<|Xm Y<|Xm Y<|Xm Y<|OV (zL Y Y (IntWalk.i64_in _ (by omega)))<|Aa Dc ?_
 have Si:7≤sp.length:=by
  rw[List.length_append,hp.len]at hcz
  have:(ps.length+1)*7≤cap*7:=Nat.mul_le_mul_right _ (by omega)
  omega
 refine OV (iY Tryz.underlying39 yP Y Y (i:=ps.length+1) (by omega) (by omega))<|Xa Y<|Xr Dc<|J1<|Rq<|Xm Y<|Xm Y<|Xm Y<|Xm Y<|Aa Dc<|OV (zL Y Y (IntWalk.i64_in _ (by omega)))<|OV (tO Tryz.underlying39 yP Y Y (i:=i+1) (by omega) (by omega) (by omega)) ?_
 have Jp:=H.keep hv hgv
 have Tt:=H.at (i:=0) rfl
 have hne:gv≠gx:=fun h=>hgv (by rw[h];simp[bl])
 refine nT (fn:=(Tryz.prog.funcs[160]?).get!) (e:=Extern.SlicesOverlaps.overlaps #[39,39] #[4]) (v:=.bool false) (by kernel_rfl) (by kernel_rfl) (by kernel_rfl) (by kernel_rfl) (by kernel_rfl) Y (Lib.run_overlaps_apart w0 39 4 110 Tryz.underlying39 7 (fun w=>vF yP) ⟨gv,0,none⟩ _ 1 1 _ _ (by rw[Dn];exact hne) 110 110 7 _ (by simp[World.shape?,Jp];exact hvl) (by rw[Dn];simp only[World.shape?,Tt];rfl) (by simp only[List.size_toArray,List.length_append];omega) (by simp[World.frozen?,Jp]) (by simp[World.frozen?,Jp]))<|Xn Y<|Xr Dc<|J3 Y<|J1<|zR 8 [(true,0),(true,1),(true,2),(true,3),(true,4),(true,5),(true,6),(true,7),(false,8)] H [0] yG (by decide) (by kernel_rfl) ?_
 rintro w1 hw1
 have H1:=Hp.drew H;rw[← hw1]at H1
 refine Zm Y Y<|Zm Y Y<|Zm Y Y<|MP Y<|MV (fun wz hz=>zL Y Y (IntWalk.i64_in _ (by omega)))<|cZ Dc<|MP Y<|MV (fun wz hz=>tO Tryz.underlying39 yP Y Y (i:=i+1) (by omega) (by omega) (by omega))<|Zm Y Y<|Zm Y Y<|MP Y<|MV (fun wz hz=>tO Tryz.underlying39 yP Y Y Y (by omega) (by omega))<|cZ Dc<|MO Y ?_
 have hdl:(ps.flatten.drop (i*7)).length=(ps.length - i)*7:=by rw[List.length_drop,hp.len,← Nat.sub_mul]
 have hlv:(i+1)*7+(ps.length - i)*7=(ps.length+1)*7:=by rw[← Nat.add_mul,show i+1+(ps.length - i)=ps.length+1 by omega]
 have hlw:(ps.length+1)*7=ps.length*7+7:=by omega
 refine uH Tryz.underlying39 yP H1 0 (o:=0+(i+1)*7) (vs:=ps.flatten.drop (i*7)) (by first | rfl | (rw[← Dn];rfl)) Y Y (by rw[hdl];show _=Nat.min (ps.length+1 - i) (ps.length+1 - (i+1))*7;rw[show Nat.min (ps.length+1 - i) (ps.length+1 - (i+1))=ps.length - i from(by show min _ _=_;omega)]) (fun jx u hu=>by
  rw[tQ,Dn,Nat.zero_add]
  exact H1.cell (i:=0) Y (by rw[List.getElem?_append_left (by have:=lt_of_get hu;rw[List.length_drop]at this;omega)];rwa [List.getElem?_drop]at hu)) (by rw[List.length_append,hp.len,hdl];omega) (by rw[List.all_eq_true]at Fe ⊢;exact fun x hx=>Fe x (List.mem_of_mem_drop hx)) ?_
 intro w2 H2
 refine OE ?_
 refine⟨fun hne=>absurd Y hne,?_⟩
 refine cZ Dc<|ME<|cR Dc<|Rq<|Xm Y<|Xm Y<|OV (tO Tryz.underlying39 yP Y Y Y (by omega) (by omega))<|Xm Y<|Aa Dc ?_
 have Nh:=(⟨by rw[hvl],fun a ha jx u hu=>by cases ha;rw[Dn,Nat.zero_add];exact(by simp[World.cell?,H2.keep hv hgv,hu]),fun h=>by cases h⟩:Rd w2 (some ⟨gv,0,none⟩) 1 7 vs)
 refine uH Tryz.underlying39 yP H2 0 (o:=0+i*7) (vs:=vs) (by first | rfl | (rw[← Dn];rfl)) Y Y (by rw[hvl];show 7=Nat.min 1 (ps.length+1 - i)*7;rw[iO];omega) (fun jx u hu=>Nh.cells _ Y jx u hu) (by rw[vH (by rw[List.length_append,hp.len,hdl];omega),List.length_append,hp.len,hvl];have:i*7≤ps.length*7:=Nat.mul_le_mul_right _ (by omega);omega) Rx<|fun w3 H3=>Xr Dc<|Rq<|Xm Y<|Xa Y<|Xr Dc<|J5<|Ak Y Y ?_
 have HZ:=H3
 change Hp _ _ _ [((some gx,110,zH (zH _ (0+(i+1)*7) _) (0+i*7) _):Ent)]at HZ
 rw[Nat.zero_add,Nat.zero_add,FX hp rfl (by omega) hvl Si]at HZ
 have hp2:Pl 7 (ps.take i++vs::ps.drop i):=(hp.sub fun x hx=>List.mem_of_mem_take hx).app fun x hx=>by
  rcases List.mem_cons.1 hx with rfl | hx
  · exact hvl
  · exact hp x (List.mem_of_mem_drop hx)
 have hl3:(ps.take i++vs::ps.drop i).length=ps.length+1:=by rw[List.length_append,List.length_cons,List.length_take,List.length_drop];omega
 refine⟨some gx,cap,sp.drop 7,Y,by omega,?_,(fun h=>by cases h),HZ⟩
 rw[List.length_append,hp.len]at hcz
 rw[List.length_append,hp2.len,hl3,List.length_drop]
 omega
end Go.Proofs.YtjoeklkmnfaabaaGreat
namespace Go.Proofs.YtjoeklkmnfaabaaGreat
set_option maxRecDepth 100000
set_option maxHeartbeats 4000000
open Go Go.RowKit
set_option linter.unusedVariables false
attribute [local irreducible] yT Ops zP Cd
theorem Ya (s n:Int) (c1 c2 c3:Value) (w0:World):zP Tryz.prog 165 #[.agg [.int .i64 s,c1,c2,c3].toArray,.int .i64 n] w0 (fun r w'=>r=.int .i64 (sC s n)∧Hp w0 w' [] []):=by
 refine zE Tryz.func165 Tryz.ntmps165 Y<|cR e15 ?_
 have H:=Hp.refl w0
 refine Rq<|yA Y Y H<|fun w1 g1 H1 hg1=>Xa Y<|Xr e15<|J1<|J7<|Rq<|Xf vB Y<|OV (EL ty3 Y (H1.cell (i:=0) Y Y))<|Xm Y<|OT (zQ Y Y) (fun hp9=>?_) (fun hp9=>?_)
 refine Xa Y<|Xr e15<|J3 Y<|Rq<|Xa Y<|Xr e15<|J5<|BR<|Ak Y Y<|⟨by unfold sC;rw[if_pos (by omega)],H1.Ac⟩
 refine Xa Y<|Xr e15<|J4 Y<|Rq<|Xf vB Y<|OV (EL ty3 Y (H1.cell (i:=0) Y Y))<|Xm Y<|OT (yO Y Y) (fun hp14=>?_) (fun hp14=>?_)
 refine Xa Y<|Xr e15<|J3 Y<|Rq<|Xa Y<|Xr e15<|J5<|BR<|Ak Y Y<|⟨by unfold sC;rw[if_neg (by omega),if_pos (by omega)],H1.Ac⟩
 refine Xa Y<|Xr e15<|J4 Y<|J6<|zA (zB ?_)
 refine Rq<|Xa Y<|Xr e15<|J5<|Ak Y Y<|⟨by unfold sC;rw[if_neg (by omega),if_neg (by omega)],H1.Ac⟩
theorem U3 (s n:Int) (c1 c2 c3 c4 c5 c6:Value) (w0:World):zP Tryz.prog 190 #[.agg [.int .i64 s,c1,c2,c3,c4,c5,c6].toArray,.int .i64 n] w0 (fun r w'=>r=.int .i64 (sC s n)∧Hp w0 w' [] []):=by
 refine zE Tryz.func190 Tryz.ntmps190 Y<|cR e15 ?_
 have H:=Hp.refl w0
 refine Rq<|yA Y Y H<|fun w1 g1 H1 hg1=>Xa Y<|Xr e15<|J1<|J7<|Rq<|Xf tN Y<|OV (EL ty3 Y (H1.cell (i:=0) Y Y))<|Xm Y<|OT (zQ Y Y) (fun hp9=>?_) (fun hp9=>?_)
 refine Xa Y<|Xr e15<|J3 Y<|Rq<|Xa Y<|Xr e15<|J5<|BR<|Ak Y Y<|⟨by unfold sC;rw[if_pos (by omega)],H1.Ac⟩
 refine Xa Y<|Xr e15<|J4 Y<|Rq<|Xf tN Y<|OV (EL ty3 Y (H1.cell (i:=0) Y Y))<|Xm Y<|OT (yO Y Y) (fun hp14=>?_) (fun hp14=>?_)
 refine Xa Y<|Xr e15<|J3 Y<|Rq<|Xa Y<|Xr e15<|J5<|BR<|Ak Y Y<|⟨by unfold sC;rw[if_neg (by omega),if_pos (by omega)],H1.Ac⟩
 refine Xa Y<|Xr e15<|J4 Y<|J6<|zA (zB ?_)
 refine Rq<|Xa Y<|Xr e15<|J5<|Ak Y Y<|⟨by unfold sC;rw[if_neg (by omega),if_neg (by omega)],H1.Ac⟩
theorem S8 (s n:Int) (c1 c2 c3:Value) (w0:World) (gc:Nat) (Kv:List Value) (Tc:TypeId) (hgc:w0.heap[gc]? =some (.cells Kv.toArray Tc (0,0))) (hv:Kv[0]? =some (.int .i64 n)):zP Tryz.prog 195 #[.agg [.int .i64 s,c1,c2,c3].toArray,.pointer (some ⟨gc,0,none⟩)] w0 (fun r w'=>r=.bool (decide (s≤n))∧Hp w0 w' [] []):=by
 refine zE Tryz.func195 Tryz.ntmps195 Y<|cR e8 ?_
 have H:=Hp.refl w0
 refine Rq<|yA Y Y H<|fun w1 g1 H1 hg1=>Xa Y<|Xr e8<|Rq<|Xf vB Y<|OV (EL ty3 Y (H1.cell (i:=0) Y Y))<|OV (EL ty3 Y (gD (H1.keep hgc (by simp)) hv))<|OT (tB Y Y) (fun Kz=>?_) (fun Kz=>?_)
 refine Xa Y<|Xr e8<|J5<|Ak Y Y<|⟨bt (by omega),H1.Ac⟩
 refine Xa Y<|Xr e8<|J5<|Ak Y Y<|⟨bf (by omega),H1.Ac⟩
theorem VL (s n:Int) (c1:Value) (w0:World) (gc:Nat) (Kv:List Value) (Tc:TypeId) (hgc:w0.heap[gc]? =some (.cells Kv.toArray Tc (0,0))) (hv:Kv[0]? =some (.int .i64 n)):zP Tryz.prog 169 #[.agg [.int .i64 s,c1].toArray,.pointer (some ⟨gc,0,none⟩)] w0 (fun r w'=>r=.bool (decide (s≤n))∧Hp w0 w' [] []):=by
 refine zE Tryz.func169 Tryz.ntmps169 Y<|cR e9 ?_
 have H:=Hp.refl w0
 refine Rq<|yA Y Y H<|fun w1 g1 H1 hg1=>Xa Y<|Xr e9<|Rq<|Xf wE Y<|OV (EL ty3 Y (H1.cell (i:=0) Y Y))<|Xf wE Y<|OV (EL ty3 Y (gD (H1.keep hgc (by simp)) hv))<|Aa e9<|OT (tB Y Y) (fun hp8=>?_) (fun hp8=>?_)
 refine Xa Y<|Xr e9<|J5<|Ak Y Y<|⟨bt (by omega),H1.Ac⟩
 refine Xa Y<|Xr e9<|J5<|Ak Y Y<|⟨bf (by omega),H1.Ac⟩
theorem UX (s n:Int) (c1 c2 c3 c4 c5 c6:Value) (w0:World) (gc:Nat) (Kv:List Value) (Tc:TypeId) (hgc:w0.heap[gc]? =some (.cells Kv.toArray Tc (0,0))) (hv:Kv[14]? =some (.int .i64 n)):zP Tryz.prog 114 #[.agg [.int .i64 s,c1,c2,c3,c4,c5,c6].toArray,.pointer (some ⟨gc,0,none⟩)] w0 (fun r w'=>r=.bool (decide (s=n))∧Hp w0 w' [] []):=by
 refine zE Tryz.func114 Tryz.ntmps114 Y<|cR e9 ?_
 have H:=Hp.refl w0
 refine Rq<|yA Y Y H<|fun w1 g1 H1 hg1=>Xa Y<|Xr e9<|Rq<|Xf tN Y<|OV (EL ty3 Y (H1.cell (i:=0) Y Y))<|Xf tA Y<|OV (EL ty3 Y (gD (H1.keep hgc (by simp)) hv))<|Aa e9<|OT (xP Y Y) (fun hp8=>?_) (fun hp8=>?_)
 refine Xa Y<|Xr e9<|J5<|Ak Y Y<|⟨bt (by omega),H1.Ac⟩
 refine Xa Y<|Xr e9<|J5<|Ak Y Y<|⟨bf (by omega),H1.Ac⟩
theorem V8 (a b:Blk) (w0:World):zP Tryz.prog 209 #[yC a,yC b] w0 (fun r w'=>r=.int .i64 (Lib.compareBytes a b)∧Hp w0 w' [] []):=by
 refine zE Tryz.func209 Tryz.ntmps209 Y<|cR e8 ?_
 have H:=Hp.refl w0
 refine Rq<|Xa Y<|Xr e8<|Rq<|Xm Y<|Xm Y<|nT (fn:=(Tryz.prog.funcs[218]?).get!) (e:=Extern.BytealgCompare.compare) (v:=.int .i64 (Lib.compareBytes a b)) (by kernel_rfl) (by kernel_rfl) (by kernel_rfl) (by kernel_rfl) (by kernel_rfl) Y (Lib.run_compareString ⟨a.toArray⟩ ⟨b.toArray⟩ _)<|Xa Y<|Xr e8<|J5<|Ak Y Y<|⟨Y,H⟩
theorem UW (a b:Blk) (w0:World):zP Tryz.prog 186 #[yC a,yC b] w0 (fun r w'=>r=.int .i64 (Lib.compareBytes a b)∧Hp w0 w' [] []):=by
 refine zE Tryz.func186 Tryz.ntmps186 Y<|cR e8 ?_
 have H:=Hp.refl w0
 refine Rq<|Xa Y<|Xr e8<|Rq<|Xm Y<|Xm Y<|OC (EC gf209 Y) (V8 _ _ _)<|fun w1 Hd=>have H1:=H.Af Hd;Xa Y<|Xr e8<|J5<|Ak Y Y<|⟨Y,H1⟩
theorem M5 (a b:Rt) (w0:World):zP Tryz.prog 155 #[.agg [.int .i64 a.g,yC a.key,.int .i64 a.Ai,.int .i64 a.net].toArray,.agg [.int .i64 b.g,yC b.key,.int .i64 b.Ai,.int .i64 b.net].toArray] w0 (fun r w'=>r=.int .i64 (nA a b)∧Hp w0 w' [] []):=by
 refine zE Tryz.func155 Tryz.ntmps155 Y<|cR e20 ?_
 have H:=Hp.refl w0
 refine Rq<|yA Y Y H<|fun w1 g1 H1 hg1=>yA Y Y H1<|fun w2 g2 H2 hg2=>Xa Y<|Xr e20<|J1<|Rq<|Xf qE Y<|OV (EL ty3 Y (H2.cell (i:=0) Y Y))<|Xf qE Y<|OV (EL ty3 Y (H2.cell (i:=1) Y Y))<|Aa e20<|OT (yS Y Y) (fun hp9=>?_) (fun hp9=>?_)
 refine Xr e20<|J3 Y<|J1<|Rq<|Xf qE Y<|OV (EL ty3 Y (H2.cell (i:=0) Y Y))<|Xf qE Y<|OV (EL ty3 Y (H2.cell (i:=1) Y Y))<|Aa e20<|OT (zQ Y Y) (fun hp14=>?_) (fun hp14=>?_)
 refine Xr e20<|J3 Y<|Rq<|Xa Y<|Xr e20<|J5<|Ak Y Y<|⟨by unfold nA;rw[if_pos (by omega),if_pos (by omega)],H2.Ac⟩
 refine Xr e20<|J4 Y<|J6<|Rq<|Xa Y<|Xr e20<|J5<|Ak Y Y<|⟨by unfold nA;rw[if_pos (by omega),if_neg (by omega)],H2.Ac⟩
 refine Xr e20<|J4 Y<|J6<|Rq<|Xf oP Y<|OV (EL ty9 Y (H2.cell (i:=0) Y Y))<|Xf oP Y<|OV (EL ty9 Y (H2.cell (i:=1) Y Y))<|Aa e20<|OC (EC gf186 Y) (UW _ _ _)<|fun w3 Hd=>have H3:=H2.Af Hd;Xa Y<|Xr e20<|J5<|Ak Y Y<|⟨by unfold nA;rw[if_neg (by omega)],H3.Ac⟩
theorem PN {w:World} {ok:Nat→Prop} {n:Int} {ps:List (List Value)} {l:List Vt} (h2:wC (Et w ok) ps l) (hr:eL (fun x:Vt=>sC x.slot n) l):Cmp Tryz.prog 165 (.int .i64 n) (UT n) ps:=
 ⟨gf165,fun w1 p hp=>by
  obtain⟨i,hi⟩:=List.getElem?_of_mem hp
  obtain⟨x,_,hR⟩:=h2.getL hi
  obtain⟨A,k,rfl,_⟩:=hR
  exact Ya x.slot n _ _ _ w1,hr.mono h2 fun p x h=>AW h⟩
theorem PO {n:Int} {ps:List (List Value)} {l:List Mk} (h2:wC Fp ps l) (hr:eL (fun x:Mk=>sC x.client n) l):Cmp Tryz.prog 190 (.int .i64 n) (NM n) ps:=
 ⟨gf190,fun w1 p hp=>by
  obtain⟨i,hi⟩:=List.getElem?_of_mem hp
  obtain⟨x,_,hR⟩:=h2.getL hi
  unfold Fp at hR
  subst hR
  exact U3 x.client n _ _ _ _ _ _ w1,hr.mono h2 fun p x h=>iQ h⟩
theorem K6 {r:Rt} {ps:List (List Value)} {l:List Rt} (h2:wC Fb ps l) (hr:eL (fun x:Rt=>nA x r) l):Cmp Tryz.prog 155 (.agg (Eu r).toArray) (RC r) ps:=
 ⟨TZ,fun w1 p hp=>by
  obtain⟨i,hi⟩:=List.getElem?_of_mem hp
  obtain⟨x,_,hR⟩:=h2.getL hi
  have e:=eQ (r:=r) hR
  unfold Fb at hR
  subst hR
  rw[e]
  exact M5 x r w1,hr.mono h2 fun p x h=>eQ h⟩
theorem Og {w w0:World} {ok:Nat→Prop} {n:Int} {gc:Nat} {Kv:List Value} {Tc:TypeId} {ps:List (List Value)} {l:List Vt} (h2:wC (Et w ok) ps l) (hgc:w0.heap[gc]? =some (.cells Kv.toArray Tc (0,0))) (hv:Kv[0]? =some (.int .i64 n)):Vx Tryz.prog 195 gc (Dw n) ps w0:=
 ⟨gf195,(Array.getElem?_eq_some_iff.1 hgc).1,fun w1 h1 p hp=>by
  obtain⟨i,hi⟩:=List.getElem?_of_mem hp
  obtain⟨x,_,hR⟩:=h2.getL hi
  obtain⟨A,k,rfl,_⟩:=hR
  exact S8 x.slot n _ _ _ w1 gc Kv Tc (h1.trans hgc) hv⟩
theorem Qj {w w0:World} {ok:Nat→Prop} {n:Int} {gc:Nat} {Kv:List Value} {Tc:TypeId} {ps:List (List Value)} {l:List En} (h2:wC (Gs w ok) ps l) (hgc:w0.heap[gc]? =some (.cells Kv.toArray Tc (0,0))) (hv:Kv[0]? =some (.int .i64 n)):Vx Tryz.prog 169 gc (Dw n) ps w0:=
 ⟨gf169,(Array.getElem?_eq_some_iff.1 hgc).1,fun w1 h1 p hp=>by
  obtain⟨i,hi⟩:=List.getElem?_of_mem hp
  obtain⟨x,_,hR⟩:=h2.getL hi
  obtain⟨A,k,rfl,_⟩:=hR
  exact VL x.slot n _ w1 gc Kv Tc (h1.trans hgc) hv⟩
theorem Kq {w0:World} {n:Int} {gc:Nat} {Kv:List Value} {Tc:TypeId} {ps:List (List Value)} {l:List Mk} (h2:wC Fp ps l) (hgc:w0.heap[gc]? =some (.cells Kv.toArray Tc (0,0))) (hv:Kv[14]? =some (.int .i64 n)):Vx Tryz.prog 114 gc (Dq n) ps w0:=
 ⟨gf114,(Array.getElem?_eq_some_iff.1 hgc).1,fun w1 h1 p hp=>by
  obtain⟨i,hi⟩:=List.getElem?_of_mem hp
  obtain⟨x,_,hR⟩:=h2.getL hi
  unfold Fp at hR
  subst hR
  exact UX x.client n _ _ _ _ _ _ w1 gc Kv Tc (h1.trans hgc) hv⟩
end Go.Proofs.YtjoeklkmnfaabaaGreat
namespace Go.Proofs.YtjoeklkmnfaabaaGreat
set_option maxRecDepth 100000
set_option maxHeartbeats 4000000
open Go Go.RowKit
set_option linter.unusedVariables false
attribute [local irreducible] yT Ops zP Cd
theorem BG :wY Tryz.prog 75=some [(0,1),(1,1)]:=by kernel_rfl
theorem Yi :wY Tryz.prog 77=some [(0,1),(1,2),(3,1)]:=by kernel_rfl
theorem RW :wY Tryz.prog 79=some [(0,1),(1,1)]:=by kernel_rfl
theorem eE :wY Tryz.prog 110=some [(0,1),(1,1),(2,1),(3,4)]:=by kernel_rfl
theorem RX :wY Tryz.prog 41=some [(0,1),(1,1),(2,1)]:=by kernel_rfl
theorem pS :wY Tryz.prog 81=some [(0,1),(1,1),(2,2),(4,4),(8,2),(10,4),(14,1),(15,1)]:=by kernel_rfl
theorem TN :wY Tryz.prog 263=some [(0,2),(2,1),(3,1)]:=by kernel_rfl
theorem TO :wY Tryz.prog 245=some [(0,2),(2,1),(3,1)]:=by kernel_rfl
theorem SC (n:Int) (w0:World):zP Tryz.prog 197 #[.int .i64 n] w0 (fun r w'=>r=.bool (decide (1≤n∧n≤5))∧Hp w0 w' [] []):=by
 refine zE Tryz.func197 Tryz.ntmps197 Y<|cR e9 ?_
 have H:=Hp.refl w0
 refine Rq<|Xa Y<|Xr e9<|Rq<|Xm Y<|OT (wL Y Y) (fun hp4=>?_) (fun hp4=>?_)
 refine Xm Y<|Aa e9<|OY Y<|Xm Y<|OY Y<|OT (tB Y Y) (fun Kz=>?_) (fun Kz=>?_)
 refine Xt Y Y<|Xa Y<|Xr e9<|J5<|Ak Y Y<|⟨bt (by omega),H.Ac⟩
 refine Xt Y Y<|Xa Y<|Xr e9<|J5<|Ak Y Y<|⟨bf (by omega),H.Ac⟩
 refine Xm Y<|Aa e9<|Oz 2 Y<|Xu Y Y<|Xa Y<|Xr e9<|J5<|Ak Y Y<|⟨bf (by omega),H.Ac⟩
theorem VA (n:Int) (w0:World):zP Tryz.prog 175 #[.int .i64 n] w0 (fun r w'=>r=.bool (decide (1≤n∧n≤5))∧Hp w0 w' [] []):=by
 refine zE Tryz.func175 Tryz.ntmps175 Y<|cR e9 ?_
 have H:=Hp.refl w0
 refine Rq<|Xa Y<|Xr e9<|Rq<|Xm Y<|OT (wL Y Y) (fun hp4=>?_) (fun hp4=>?_)
 refine Xm Y<|Aa e9<|OY Y<|Xm Y<|OY Y<|OT (tB Y Y) (fun Kz=>?_) (fun Kz=>?_)
 refine Xt Y Y<|Xa Y<|Xr e9<|J5<|Ak Y Y<|⟨bt (by omega),H.Ac⟩
 refine Xt Y Y<|Xa Y<|Xr e9<|J5<|Ak Y Y<|⟨bf (by omega),H.Ac⟩
 refine Xm Y<|Aa e9<|Oz 2 Y<|Xu Y Y<|Xa Y<|Xr e9<|J5<|Ak Y Y<|⟨bf (by omega),H.Ac⟩
theorem EO (n:Int) (w0:World):zP Tryz.prog 92 #[.int .i64 n] w0 (fun r w'=>r=.bool (decide (1≤n∧n≤8))∧Hp w0 w' [] []):=by
 refine zE Tryz.func92 Tryz.ntmps92 Y<|cR e9 ?_
 have H:=Hp.refl w0
 refine Rq<|Xa Y<|Xr e9<|Rq<|Xm Y<|OT (wL Y Y) (fun hp4=>?_) (fun hp4=>?_)
 refine Xm Y<|Aa e9<|OY Y<|Xm Y<|OY Y<|OT (tB Y Y) (fun Kz=>?_) (fun Kz=>?_)
 refine Xt Y Y<|Xa Y<|Xr e9<|J5<|Ak Y Y<|⟨bt (by omega),H.Ac⟩
 refine Xt Y Y<|Xa Y<|Xr e9<|J5<|Ak Y Y<|⟨bf (by omega),H.Ac⟩
 refine Xm Y<|Aa e9<|Oz 2 Y<|Xu Y Y<|Xa Y<|Xr e9<|J5<|Ak Y Y<|⟨bf (by omega),H.Ac⟩
theorem TM (n:Int) (w0:World):zP Tryz.prog 93 #[.int .i64 n] w0 (fun r w'=>r=.bool (decide (1≤n∧n≤4611686018427387904))∧Hp w0 w' [] []):=by
 refine zE Tryz.func93 Tryz.ntmps93 Y<|cR e9 ?_
 have H:=Hp.refl w0
 refine Rq<|Xa Y<|Xr e9<|Rq<|Xm Y<|OT (wL Y Y) (fun hp4=>?_) (fun hp4=>?_)
 refine Xm Y<|Aa e9<|OY Y<|Xm Y<|OY Y<|OT (tB Y Y) (fun Kz=>?_) (fun Kz=>?_)
 refine Xt Y Y<|Xa Y<|Xr e9<|J5<|Ak Y Y<|⟨bt (by omega),H.Ac⟩
 refine Xt Y Y<|Xa Y<|Xr e9<|J5<|Ak Y Y<|⟨bf (by omega),H.Ac⟩
 refine Xm Y<|Aa e9<|Oz 2 Y<|Xu Y Y<|Xa Y<|Xr e9<|J5<|Ak Y Y<|⟨bf (by omega),H.Ac⟩
theorem SM (n:Int) (w0:World):zP Tryz.prog 172 #[.int .i64 n] w0 (fun r w'=>r=.bool (decide (1≤n∧n < 8))∧Hp w0 w' [] []):=by
 refine zE Tryz.func172 Tryz.ntmps172 Y<|cR e9 ?_
 have H:=Hp.refl w0
 refine Rq<|Xa Y<|Xr e9<|Rq<|Xm Y<|OT (wL Y Y) (fun hp4=>?_) (fun hp4=>?_)
 refine Xm Y<|Aa e9<|OY Y<|Xm Y<|OY Y<|OT (zQ Y Y) (fun Kz=>?_) (fun Kz=>?_)
 refine Xt Y Y<|Xa Y<|Xr e9<|J5<|Ak Y Y<|⟨bt (by omega),H.Ac⟩
 refine Xt Y Y<|Xa Y<|Xr e9<|J5<|Ak Y Y<|⟨bf (by omega),H.Ac⟩
 refine Xm Y<|Aa e9<|Oz 2 Y<|Xu Y Y<|Xa Y<|Xr e9<|J5<|Ak Y Y<|⟨bf (by omega),H.Ac⟩
theorem SL (n:Int) (w0:World):zP Tryz.prog 185 #[.int .i64 n] w0 (fun r w'=>r=.bool (decide (1≤n∧n < 8))∧Hp w0 w' [] []):=by
 refine zE Tryz.func185 Tryz.ntmps185 Y<|cR e9 ?_
 have H:=Hp.refl w0
 refine Rq<|Xa Y<|Xr e9<|Rq<|Xm Y<|OT (wL Y Y) (fun hp4=>?_) (fun hp4=>?_)
 refine Xm Y<|Aa e9<|OY Y<|Xm Y<|OY Y<|OT (zQ Y Y) (fun Kz=>?_) (fun Kz=>?_)
 refine Xt Y Y<|Xa Y<|Xr e9<|J5<|Ak Y Y<|⟨bt (by omega),H.Ac⟩
 refine Xt Y Y<|Xa Y<|Xr e9<|J5<|Ak Y Y<|⟨bf (by omega),H.Ac⟩
 refine Xm Y<|Aa e9<|Oz 2 Y<|Xu Y Y<|Xa Y<|Xr e9<|J5<|Ak Y Y<|⟨bf (by omega),H.Ac⟩
theorem FV (a b:Bal) (w0:World):zP Tryz.prog 162 #[.agg [.int .i64 a.r,.int .i64 a.n].toArray,.agg [.int .i64 b.r,.int .i64 b.n].toArray] w0 (fun r w'=>r=.bool (decide (Bal.lt a b))∧Hp w0 w' [] []):=by
 refine zE Tryz.func162 Tryz.ntmps162 Y<|cR e24 ?_
 have H:=Hp.refl w0
 refine Rq<|yA Y Y H<|fun w1 g1 H1 hg1=>yA Y Y H1<|fun w2 g2 H2 hg2=>Xa Y<|Xr e24<|Rq<|Xf sT Y<|OV (EL ty3 Y (H2.cell (i:=0) Y Y))<|Xf sT Y<|OV (EL ty3 Y (H2.cell (i:=1) Y Y))<|Aa e24<|OT (zQ Y Y) (fun hp9=>?_) (fun hp9=>?_)
 refine Xm Y<|Oz 12 Y<|Aa e24<|Xt Y Y<|Xa Y<|Xr e24<|J5<|Ak Y Y<|⟨bt (by omega),H2.Ac⟩
 refine Xm Y<|OY Y<|Xf sT Y<|Aa e24<|OY Y<|OV (EL ty3 Y (H2.cell (i:=0) Y Y))<|OY Y<|Xf sT Y<|Aa e24<|OY Y<|OV (EL ty3 Y (H2.cell (i:=1) Y Y))<|OY Y<|OT (xP Y Y) (fun Gj=>?_) (fun Gj=>?_)
 refine OY Y<|Xm Y<|Aa e24<|OY Y<|Xf qD Y<|OY Y<|OV (EL ty3 Y (H2.cell (i:=0) Y Y))<|Aa e24<|OY Y<|Xf qD Y<|OY Y<|OV (EL ty3 Y (H2.cell (i:=1) Y Y))<|Aa e24<|OY Y<|OT (zQ Y Y) (fun hp21=>?_) (fun hp21=>?_)
 refine OY Y<|Xt Y Y<|Xu Y Y<|Xa Y<|Xr e24<|J5<|Ak Y Y<|⟨bt (by omega),H2.Ac⟩
 refine OY Y<|Xt Y Y<|Xu Y Y<|Xa Y<|Xr e24<|J5<|Ak Y Y<|⟨bf (by omega),H2.Ac⟩
 refine OY Y<|Xm Y<|Aa e24<|Oz 5 Y<|Aa e24<|OY Y<|Xu Y Y<|Xu Y Y<|Xa Y<|Xr e24<|J5<|Ak Y Y<|⟨bf (by omega),H2.Ac⟩
theorem NS (a b:Bal) (w0:World):zP Tryz.prog 174 #[.agg [.int .i64 a.r,.int .i64 a.n].toArray,.agg [.int .i64 b.r,.int .i64 b.n].toArray] w0 (fun r w'=>r=.bool (decide (Bal.lt a b))∧Hp w0 w' [] []):=by
 refine zE Tryz.func174 Tryz.ntmps174 Y<|cR e20 ?_
 have H:=Hp.refl w0
 refine Rq<|yA Y Y H<|fun w1 g1 H1 hg1=>yA Y Y H1<|fun w2 g2 H2 hg2=>Xa Y<|Xr e20<|J1<|Rq<|Xf sT Y<|OV (EL ty3 Y (H2.cell (i:=0) Y Y))<|Xf sT Y<|OV (EL ty3 Y (H2.cell (i:=1) Y Y))<|Aa e20<|OT (yS Y Y) (fun hp9=>?_) (fun hp9=>?_)
 refine Xr e20<|J3 Y<|Rq<|Xf sT Y<|OV (EL ty3 Y (H2.cell (i:=0) Y Y))<|Xf sT Y<|OV (EL ty3 Y (H2.cell (i:=1) Y Y))<|Aa e20<|OT (zQ Y Y) (fun hp14=>?_) (fun hp14=>?_)
 refine Xa Y<|Xr e20<|J5<|Ak Y Y<|⟨bt (by omega),H2.Ac⟩
 refine Xa Y<|Xr e20<|J5<|Ak Y Y<|⟨bf (by omega),H2.Ac⟩
 refine Xr e20<|J4 Y<|J6<|Rq<|Xf qD Y<|OV (EL ty3 Y (H2.cell (i:=0) Y Y))<|Xf qD Y<|OV (EL ty3 Y (H2.cell (i:=1) Y Y))<|Aa e20<|OT (zQ Y Y) (fun hp19=>?_) (fun hp19=>?_)
 refine Xa Y<|Xr e20<|J5<|Ak Y Y<|⟨bt (by omega),H2.Ac⟩
 refine Xa Y<|Xr e20<|J5<|Ak Y Y<|⟨bf (by omega),H2.Ac⟩
theorem Yu (a:Bal) (n:Int) (w0:World):zP Tryz.prog 170 #[.agg [.int .i64 a.r,.int .i64 a.n].toArray,.int .i64 n] w0 (fun r w'=>r=.bool (decide (1≤n∧n≤5∧1≤a.r∧1≤a.n∧a.n≤n))∧Hp w0 w' [] []):=by
 refine zE Tryz.func170 Tryz.ntmps170 Y<|cR e23 ?_
 have H:=Hp.refl w0
 refine Rq<|yA Y Y H<|fun w1 g1 H1 hg1=>Xa Y<|Xr e23<|Rq<|Xm Y<|OX (EC gf197 Y) (SC _ _) (fun ZK w2 Hd=>?_) (fun ZK w2 Hd=>?_)
 have H2:=H1.Af Hd
 refine Xm Y<|Aa e23<|OY Y<|Xf sT Y<|OY Y<|OV (EL ty3 Y (H2.cell (i:=0) Y Y))<|Aa e23<|OY Y<|OT (wL Y Y) (fun hp10=>?_) (fun hp10=>?_)
 refine Xt Y Y<|Xm Y<|Aa e23<|OY Y<|Xf qD Y<|OY Y<|OV (EL ty3 Y (H2.cell (i:=0) Y Y))<|Aa e23<|OY Y<|OT (wL Y Y) (fun Gj=>?_) (fun Gj=>?_)
 refine Xt Y Y<|Xm Y<|Aa e23<|OY Y<|Xf qD Y<|OY Y<|OV (EL ty3 Y (H2.cell (i:=0) Y Y))<|Aa e23<|OY Y<|Xm Y<|OY Y<|OT (tB Y Y) (fun hp21=>?_) (fun hp21=>?_)
 refine Xt Y Y<|Xa Y<|Xr e23<|J5<|Ak Y Y<|⟨bt (by omega),H2.Ac⟩
 refine Xt Y Y<|Xa Y<|Xr e23<|J5<|Ak Y Y<|⟨bf (by omega),H2.Ac⟩
 refine Xt Y Y ?_
 have m1:=()
 rotate_left 1
 refine Xt Y Y<|Xm Y<|Aa e23<|Oz 3 Y<|Aa e23<|Xu Y Y ?_
 have m1:=()
 rotate_left 1
 have H2:=H1.Af Hd
 refine Xm Y<|Aa e23<|Oz 3 Y<|Aa e23<|Xu Y Y<|Xm Y<|Aa e23<|Oz 3 Y<|Aa e23<|Xu Y Y ?_
 have m1:=()
 rotate_left 1
 any_goals
  clear m1
  refine Xm Y<|Aa e23<|Oz 4 Y<|Aa e23<|Xu Y Y<|Xa Y<|Xr e23<|J5<|Ak Y Y<|⟨bf (by omega),H2.Ac⟩
theorem may9 (a:Bal) (n:Int) (w0:World):zP Tryz.prog 139 #[.agg [.int .i64 a.r,.int .i64 a.n].toArray,.int .i64 n] w0 (fun r w'=>r=.bool (decide (1≤n∧n≤5∧1≤a.r∧1≤a.n∧a.n≤n))∧Hp w0 w' [] []):=by
 refine zE Tryz.func139 Tryz.ntmps139 Y<|cR e23 ?_
 have H:=Hp.refl w0
 refine Rq<|yA Y Y H<|fun w1 g1 H1 hg1=>Xa Y<|Xr e23<|Rq<|Xm Y<|OX (EC gf175 Y) (VA _ _) (fun ZK w2 Hd=>?_) (fun ZK w2 Hd=>?_)
 have H2:=H1.Af Hd
 refine Xm Y<|Aa e23<|OY Y<|Xf qD Y<|OY Y<|OV (EL ty3 Y (H2.cell (i:=0) Y Y))<|Aa e23<|OY Y<|OT (wL Y Y) (fun hp10=>?_) (fun hp10=>?_)
 refine Xt Y Y<|Xm Y<|Aa e23<|OY Y<|Xf qD Y<|OY Y<|OV (EL ty3 Y (H2.cell (i:=0) Y Y))<|Aa e23<|OY Y<|Xm Y<|OY Y<|OT (tB Y Y) (fun hp16=>?_) (fun hp16=>?_)
 refine Xt Y Y<|Xm Y<|Aa e23<|OY Y<|Xf sT Y<|OY Y<|OV (EL ty3 Y (H2.cell (i:=0) Y Y))<|Aa e23<|OY Y<|OT (wL Y Y) (fun hp21=>?_) (fun hp21=>?_)
 refine Xt Y Y<|Xa Y<|Xr e23<|J5<|Ak Y Y<|⟨bt (by omega),H2.Ac⟩
 refine Xt Y Y<|Xa Y<|Xr e23<|J5<|Ak Y Y<|⟨bf (by omega),H2.Ac⟩
 refine Xt Y Y ?_
 have m1:=()
 rotate_left 1
 refine Xt Y Y<|Xm Y<|Aa e23<|Oz 4 Y<|Aa e23<|Xu Y Y ?_
 have m1:=()
 rotate_left 1
 have H2:=H1.Af Hd
 refine Xm Y<|Aa e23<|Oz 3 Y<|Aa e23<|Xu Y Y<|Xm Y<|Aa e23<|Oz 4 Y<|Aa e23<|Xu Y Y ?_
 have m1:=()
 rotate_left 1
 any_goals
  clear m1
  refine Xm Y<|Aa e23<|Oz 3 Y<|Aa e23<|Xu Y Y<|Xa Y<|Xr e23<|J5<|Ak Y Y<|⟨bf (by omega),H2.Ac⟩
theorem FL (a:Bal) (w0:World):zP Tryz.prog 198 #[.agg [.int .i64 a.r,.int .i64 a.n].toArray] w0 (fun r w'=>r=.bool (decide (1≤a.r∧1≤a.n))∧Hp w0 w' [] []):=by
 refine zE Tryz.func198 Tryz.ntmps198 Y<|cR e11 ?_
 have H:=Hp.refl w0
 refine Rq<|yA Y Y H<|fun w1 g1 H1 hg1=>Xa Y<|Xr e11<|Rq<|Xf sT Y<|OV (EL ty3 Y (H1.cell (i:=0) Y Y))<|OT (wL Y Y) (fun hp5=>?_) (fun hp5=>?_)
 refine Xm Y<|Aa e11<|OY Y<|Xf qD Y<|OY Y<|OV (EL ty3 Y (H1.cell (i:=0) Y Y))<|Aa e11<|OY Y<|OT (wL Y Y) (fun hp9=>?_) (fun hp9=>?_)
 refine Xt Y Y<|Xa Y<|Xr e11<|J5<|Ak Y Y<|⟨bt (by omega),H1.Ac⟩
 refine Xt Y Y<|Xa Y<|Xr e11<|J5<|Ak Y Y<|⟨bf (by omega),H1.Ac⟩
 refine Xm Y<|Aa e11<|Oz 3 Y<|Aa e11<|Xu Y Y<|Xa Y<|Xr e11<|J5<|Ak Y Y<|⟨bf (by omega),H1.Ac⟩
theorem FB (a:Bal) (w0:World):zP Tryz.prog 176 #[.agg [.int .i64 a.r,.int .i64 a.n].toArray] w0 (fun r w'=>r=.bool (decide (1≤a.r∧1≤a.n))∧Hp w0 w' [] []):=by
 refine zE Tryz.func176 Tryz.ntmps176 Y<|cR e11 ?_
 have H:=Hp.refl w0
 refine Rq<|yA Y Y H<|fun w1 g1 H1 hg1=>Xa Y<|Xr e11<|Rq<|Xf sT Y<|OV (EL ty3 Y (H1.cell (i:=0) Y Y))<|OT (wL Y Y) (fun hp5=>?_) (fun hp5=>?_)
 refine Xm Y<|Aa e11<|OY Y<|Xf qD Y<|OY Y<|OV (EL ty3 Y (H1.cell (i:=0) Y Y))<|Aa e11<|OY Y<|OT (wL Y Y) (fun hp9=>?_) (fun hp9=>?_)
 refine Xt Y Y<|Xa Y<|Xr e11<|J5<|Ak Y Y<|⟨bt (by omega),H1.Ac⟩
 refine Xt Y Y<|Xa Y<|Xr e11<|J5<|Ak Y Y<|⟨bf (by omega),H1.Ac⟩
 refine Xm Y<|Aa e11<|Oz 3 Y<|Aa e11<|Xu Y Y<|Xa Y<|Xr e11<|J5<|Ak Y Y<|⟨bf (by omega),H1.Ac⟩
theorem Yv (s:Blk) (w0:World):zP Tryz.prog 173 #[yC s] w0 (fun r w'=>r=.bool (decide (1≤s.length∧s.length≤16))∧Hp w0 w' [] []):=by
 refine zE Tryz.func173 Tryz.ntmps173 Y<|cR e11 ?_
 have H:=Hp.refl w0
 refine Rq<|Xa Y<|Xr e11<|Rq<|Xm Y<|OV (oB Tryz.underlying9 Y)<|OT (wL Y Y) (fun hp5=>?_) (fun hp5=>?_)
 refine Xm Y<|Aa e11<|OY Y<|Xm Y<|OY Y<|OV (oB Tryz.underlying9 Y)<|Aa e11<|OY Y<|OT (tB Y Y) (fun hp9=>?_) (fun hp9=>?_)
 refine Xt Y Y<|Xa Y<|Xr e11<|J5<|Ak Y Y<|⟨bt (by omega),H.Ac⟩
 refine Xt Y Y<|Xa Y<|Xr e11<|J5<|Ak Y Y<|⟨bf (by omega),H.Ac⟩
 refine Xm Y<|Aa e11<|Oz 3 Y<|Aa e11<|Xu Y Y<|Xa Y<|Xr e11<|J5<|Ak Y Y<|⟨bf (by omega),H.Ac⟩
theorem TR (a:Rt) (w0:World):zP Tryz.prog 153 #[.agg [.int .i64 a.g,yC a.key,.int .i64 a.Ai,.int .i64 a.net].toArray] w0 (fun r w'=>r=.bool (decide (nW a))∧Hp w0 w' [] []):=by
 refine zE Tryz.func153 Tryz.ntmps153 Y<|cR e23 ?_
 have H:=Hp.refl w0
 refine Rq<|yA Y Y H<|fun w1 g1 H1 hg1=>Xa Y<|Xr e23<|Rq<|Xf qE Y<|OV (EL ty3 Y (H1.cell (i:=0) Y Y))<|OX (EC gf185 Y) (SL _ _) (fun hp5 w2 Hd=>?_) (fun hp5 w2 Hd=>?_)
 have H2:=H1.Af Hd
 refine Xm Y<|Aa e23<|OY Y<|Xf oP Y<|OY Y<|OV (EL ty9 Y (H2.cell (i:=0) Y Y))<|Aa e23<|OY Y<|OV (oB Tryz.underlying9 Y)<|OY Y<|OT (wL Y Y) (fun hp10=>?_) (fun hp10=>?_)
 refine Xt Y Y<|Xm Y<|Aa e23<|OY Y<|Xf oP Y<|OY Y<|OV (EL ty9 Y (H2.cell (i:=0) Y Y))<|Aa e23<|OY Y<|OV (oB Tryz.underlying9 Y)<|OY Y<|OT (tB Y Y) (fun hp16=>?_) (fun hp16=>?_)
 refine Xt Y Y<|Xm Y<|Aa e23<|OY Y<|Xf cX Y<|OY Y<|OV (EL ty3 Y (H2.cell (i:=0) Y Y))<|Aa e23<|OY Y<|OT (wL Y Y) (fun hp21=>?_) (fun hp21=>?_)
 refine Xt Y Y<|Xa Y<|Xr e23<|J5<|Ak Y Y<|⟨bt (by omega),H2.Ac⟩
 refine Xt Y Y<|Xa Y<|Xr e23<|J5<|Ak Y Y<|⟨bf (by omega),H2.Ac⟩
 refine Xt Y Y ?_
 have m1:=()
 rotate_left 1
 refine Xt Y Y<|Xm Y<|Aa e23<|Oz 4 Y<|Aa e23<|Xu Y Y ?_
 have m1:=()
 rotate_left 1
 have H2:=H1.Af Hd
 refine Xm Y<|Aa e23<|Oz 4 Y<|Aa e23<|Xu Y Y<|Xm Y<|Aa e23<|Oz 4 Y<|Aa e23<|Xu Y Y ?_
 have m1:=()
 rotate_left 1
 any_goals
  clear m1
  refine Xm Y<|Aa e23<|Oz 3 Y<|Aa e23<|Xu Y Y<|Xa Y<|Xr e23<|J5<|Ak Y Y<|⟨bf (by omega),H2.Ac⟩
theorem TS (a:Rt) (w0:World):zP Tryz.prog 132 #[.agg [.int .i64 a.g,yC a.key,.int .i64 a.Ai,.int .i64 a.net].toArray] w0 (fun r w'=>r=.bool (decide (nW a))∧Hp w0 w' [] []):=by
 refine zE Tryz.func132 Tryz.ntmps132 Y<|cR e16 ?_
 have H:=Hp.refl w0
 refine Rq<|yA Y Y H<|fun w1 g1 H1 hg1=>Xa Y<|Xr e16<|Rq<|Xf qE Y<|OV (EL ty3 Y (H1.cell (i:=0) Y Y))<|OX (EC gf172 Y) (SM _ _) (fun hp5 w2 Hd=>?_) (fun hp5 w2 Hd=>?_)
 have H2:=H1.Af Hd
 refine Xm Y<|Aa e16<|OY Y<|Xf oP Y<|OY Y<|OV (EL ty9 Y (H2.cell (i:=0) Y Y))<|Aa e16<|OY Y<|OX (EC gf173 Y) (Yv _ _) (fun hp9 w3 Hd=>?_) (fun hp9 w3 Hd=>?_)
 have H3:=H2.Af Hd
 refine Xt Y Y<|Xm Y<|Aa e16<|OY Y<|Xf cX Y<|OY Y<|OV (EL ty3 Y (H3.cell (i:=0) Y Y))<|Aa e16<|OY Y<|OT (wL Y Y) (fun hp14=>?_) (fun hp14=>?_)
 refine Xt Y Y<|Xa Y<|Xr e16<|J5<|Ak Y Y<|⟨bt (by omega),H3.Ac⟩
 refine Xt Y Y<|Xa Y<|Xr e16<|J5<|Ak Y Y<|⟨bf (by omega),H3.Ac⟩
 have H3:=H2.Af Hd
 refine Xt Y Y<|Xm Y<|Aa e16<|Oz 3 Y<|Aa e16<|Xu Y Y<|Xa Y<|Xr e16<|J5<|Ak Y Y<|⟨bf (by omega),H3.Ac⟩
 have H2:=H1.Af Hd
 refine Xm Y<|Aa e16<|Oz 3 Y<|Aa e16<|Xu Y Y<|Xm Y<|Aa e16<|Oz 3 Y<|Aa e16<|Xu Y Y<|Xa Y<|Xr e16<|J5<|Ak Y Y<|⟨bf (by omega),H2.Ac⟩
theorem dD (a b:Rt) (w0:World):zP Tryz.prog 133 #[.agg [.int .i64 a.g,yC a.key,.int .i64 a.Ai,.int .i64 a.net].toArray,.agg [.int .i64 b.g,yC b.key,.int .i64 b.Ai,.int .i64 b.net].toArray] w0 (fun r w'=>r=.bool (decide (Gp a b=true))∧Hp w0 w' [] []):=by
 refine zE Tryz.func133 Tryz.ntmps133 Y<|cR e24 ?_
 have H:=Hp.refl w0
 refine Rq<|yA Y Y H<|fun w1 g1 H1 hg1=>yA Y Y H1<|fun w2 g2 H2 hg2=>Xa Y<|Xr e24<|Rq<|Xf qE Y<|OV (EL ty3 Y (H2.cell (i:=0) Y Y))<|Xf qE Y<|OV (EL ty3 Y (H2.cell (i:=1) Y Y))<|Aa e24<|OT (zQ Y Y) (fun hp9=>?_) (fun hp9=>?_)
 refine Xm Y<|Oz 12 Y<|Aa e24<|Xt Y Y<|Xa Y<|Xr e24<|J5<|Ak Y Y<|⟨bt (by simp_all [Gp]),H2.Ac⟩
 refine Xm Y<|OY Y<|Xf qE Y<|Aa e24<|OY Y<|OV (EL ty3 Y (H2.cell (i:=0) Y Y))<|OY Y<|Xf qE Y<|Aa e24<|OY Y<|OV (EL ty3 Y (H2.cell (i:=1) Y Y))<|OY Y<|OT (xP Y Y) (fun Gj=>?_) (fun Gj=>?_)
 refine OY Y<|Xm Y<|Aa e24<|OY Y<|Xf oP Y<|OY Y<|OV (EL ty9 Y (H2.cell (i:=0) Y Y))<|Aa e24<|OY Y<|Xf oP Y<|OY Y<|OV (EL ty9 Y (H2.cell (i:=1) Y Y))<|Aa e24<|OY Y<|OT (F5 Y Y) (fun hp21=>?_) (fun hp21=>?_)
 refine OY Y<|Xt Y Y<|Xu Y Y<|Xa Y<|Xr e24<|J5<|Ak Y Y<|⟨bt (by simp_all [Gp]),H2.Ac⟩
 refine OY Y<|Xt Y Y<|Xu Y Y<|Xa Y<|Xr e24<|J5<|Ak Y Y<|⟨bf (by simp_all [Gp]),H2.Ac⟩
 refine OY Y<|Xm Y<|Aa e24<|Oz 5 Y<|Aa e24<|OY Y<|Xu Y Y<|Xu Y Y<|Xa Y<|Xr e24<|J5<|Ak Y Y<|⟨bf (by simp_all [Gp]),H2.Ac⟩
end Go.Proofs.YtjoeklkmnfaabaaGreat
namespace Go.Proofs.YtjoeklkmnfaabaaGreat
set_option maxRecDepth 100000
set_option maxHeartbeats 16000000
open Go Go.RowKit
set_option linter.unusedVariables false
attribute [local irreducible] yT Ops zP Cd
theorem NU (gs:Nat) (c0 c1 c2 c4:Value) (x:Int) (A3:Option Addr) (m k3:Nat) (w0:World) (hrow:w0.heap[gs]? =some (.cells [c0,c1,c2,.int .i64 x,c4,.slice A3 m k3].toArray 97 (0,0))) (hx:-1000000000000000000≤x∧x≤1000000000000000000) (hm:m≤1000000000000000000):zP Tryz.prog 163 #[.pointer (some ⟨gs,0,none⟩)] w0 (fun r w'=>r=.int .i64 (x+m)∧Hp w0 w' [] []):=by
 refine zE Tryz.func163 Tryz.ntmps163 Y<|cR e13 ?_
 have H:=Hp.refl w0
 refine Rq<|Xa Y<|Xr e13<|J1<|zR 10 [(true,0),(true,1),(true,2),(true,3),(true,4),(true,5),(true,6),(true,7),(true,8),(true,9),(false,10)] H [] yG (by decide) (by kernel_rfl) ?_
 rintro w1 hw1
 have H1:=Hp.drew H;rw[← hw1]at H1
 refine Zm Y Y<|Zc Y Y<|Zf Y wR Y<|MP Y<|MV (fun wz hz=>EL ty3 Y (gD (hz.keep hrow (by simp)) Y))<|cZ e13<|Zm Y Y<|Zc Y Y<|Zf Y xZ Y<|MP Y<|MV (fun wz hz=>EL uZ Y (gD (hz.keep hrow (by simp)) Y))<|cZ e13<|MP Y<|MV (fun wz hz=>ES Tryz.underlying95 Y)<|MP Y<|MV (fun wz hz=>zL Y Y (IntWalk.i64_in _ (by omega)))<|MO Y<|Xa Y<|OE<|⟨fun hne=>absurd Y hne,?_⟩
 refine cZ e13<|ME<|cR e13<|J5<|Ak Y Y<|⟨Y,H1.Ac⟩
theorem fC (gs:Nat) (p:Bal) (c2 c3 c4 c5:Value) (n:Nt) (B1:Option Addr) (j1:Nat) (B2:Option Addr) (j2:Nat) (w0:World) (hrow:w0.heap[gs]? =some (.cells [.int .i64 p.r,.int .i64 p.n,c2,c3,c4,c5].toArray 97 (0,0))):zP Tryz.prog 116 #[.pointer (some ⟨gs,0,none⟩),.agg [.int .i64 n.kind,.int .i64 n.group,.int .i64 n.b.r,.int .i64 n.b.n,.int .i64 n.Ag.slot,.int .i64 n.Ag.b.r,.int .i64 n.Ag.b.n,.slice B1 n.Ag.val.length j1,.int .i64 n.entry.slot,.slice B2 n.entry.val.length j2,.int .i64 n.right.g,yC n.right.key,.int .i64 n.right.Ai,.int .i64 n.right.net,.int .i64 n.client,.int .i64 n.seq].toArray] w0 (fun _ w'=>Hp w0 w' [gs] [((some gs,97,[.int .i64 (rz p n.b).r,.int .i64 (rz p n.b).n,c2,c3,c4,c5]):Ent)]):=by
 refine zE Tryz.func116 Tryz.ntmps116 Y<|cR e16 ?_
 have H:=Hp.old hrow
 refine Rq<|yA Y Y H<|fun w1 g1 H1 hg1=>Xr e16<|J1<|zR 6 [(true,0),(true,1),(true,2),(true,3),(true,4),(true,5),(false,6)] H1 [0,1] yG (by decide) (by kernel_rfl) ?_
 rintro w2 hw2
 have H2:=Hp.drew H1;rw[← hw2]at H2
 refine Zm Y Y<|Zc Y Y<|Zf Y vW Y<|MP Y<|MV (fun wz hz=>EN wX Y (vs:=[.int .i64 p.r,.int .i64 p.n]) Y (hz.Ad (i:=0) Y Y))<|cZ e16<|Zf Y jX Y<|MP Y<|MV (fun wz hz=>EN wX Y (vs:=[.int .i64 n.b.r,.int .i64 n.b.n]) Y (hz.Ad (i:=1) Y Y))<|MO Y<|OX (EC OI Y) (FV _ _ _) (fun hp10 w3 Hd=>?_) (fun hp10 w3 Hd=>?_)
 have H3:=H2.Af Hd
 refine OE ?_
 refine⟨fun hne=>absurd Y hne,?_⟩
 refine ME<|cR e16<|J3 Y<|J2<|Xm Y<|Xf jX Y<|OV (EN wX Y (vs:=[.int .i64 n.b.r,.int .i64 n.b.n]) Y (H3.Ad (i:=1) Y Y))<|Xc Y<|Aa e16<|Xf vW Y<|OS wX H3 0 Y Y Y Y Y (by first|exact NL Y|simp[zH]) Y<|fun w4 H4=>Xr e16<|zA<|yN Y ?_
 unfold rz
 rw[if_pos hp10]
 exact H4.pick [0] (by decide)
 have H3:=H2.Af Hd
 refine OE ?_
 refine⟨fun hne=>absurd Y hne,?_⟩
 refine ME<|cR e16<|J4 Y<|J6<|zA<|yN Y ?_
 unfold rz
 rw[if_neg hp10]
 exact H3.pick [0] (by decide)
theorem gE (A:Option Addr) (k:Nat) (l:List Vt) (n:Int) (ok:Nat→Prop) (w0:World) (hl:Sl (Et w0 ok) 4 w0 ok A l) (hn:l.length≤1099511627776):zP Tryz.prog 167 #[.slice A l.length k,.int .i64 n] w0 (fun r w'=>∃ A' k',r=.slice A' (vP l n).length k'∧Sl (Et w' (up ok w0.heap.size)) 4 w' (up ok w0.heap.size) A' (vP l n)∧Hp w0 w' [] []):=by
 refine zE Tryz.func167 Tryz.ntmps167 Y<|cR e9 ?_
 have H:=Hp.refl w0
 obtain⟨ps,hp,hr,ha,h2⟩:=hl
 have hlen:=h2.len
 have hon:=h2.ones fun _ _ h=>h.ones
 refine Rq<|yA Y Y H<|fun w1 gc H1 hgc=>Xa Y<|Xr e9<|Rq<|Xm Y<|OQ (EC VQ Y) (F8 A l.length k ps.flatten _ (hr.to0 H1) (xF hon) (by omega)) ?_
 rintro _ w2 ⟨g,cap,sp,rfl,hgn,hcz,hg0,Hc⟩
 have hgf:=wO (ok:=ok) Hc (i:=0) rfl (fun _ h=>by cases h)
 have hsz1:=H1.size
 have H2:=H1.call0 Hc
 refine OV (wK Y Y) ?_
 have hgcx:=H2.at (i:=0) rfl
 refine OQ (EC gf194 Y) (SZ g cap l.length ps hlen sp 195 gc (Dw n) _ (H2.pick [1] (by decide)).here hp hon (by omega) (by omega) hcz (Og h2 hgcx Y) (Bh H2 (i:=0) (is:=[1]) Y (by decide))) ?_
 rintro _ w3 ⟨sp2,rfl,hl2,Hd⟩
 have H3:=H2.Am [1] rfl Hd
 refine Aa e9<|Xa Y<|Xr e9<|J5<|Ak Y Y ?_
 have hf:=h2.filter (f:=fun p=>!Dw n p) (g:=fun x=>!decide (x.slot≤n)) fun p x h=>by rw[GN h]
 rw[LC]at hf
 rw[hf.len]
 refine⟨_,cap,Y,Sl.row H3 (i:=2) Y (hp.sub fun x hx=>(List.mem_filter.1 hx).1) (by decide) (hf.imp fun p x h=>h.to H3 vC) (fun b hb=>?_),H3.Ac⟩
 rcases hgf b hb with h | h
 exact .inl h
 exact .inr (by omega)
theorem UU (gs:Nat) (s:Sv) (A1:Option Addr) (k1:Nat) (A2:Option Addr) (k2:Nat) (A3:Option Addr) (k3:Nat) (n:Nt) (B1:Option Addr) (j1:Nat) (B2:Option Addr) (j2:Nat) (Jh:Nat→Prop) (w0:World) (hrow:w0.heap[gs]? =some (.cells [.int .i64 s.p.r,.int .i64 s.p.n,.slice A1 s.Ae.length k1,.int .i64 s.index,.slice A2 s.image.length k2,.slice A3 s.entries.length k3].toArray 97 (0,0))) (ok:Nat→Prop) (hok:¬ok gs) (hv1:Sl (Et w0 ok) 4 w0 ok A1 s.Ae) (hv2:Bs w0 ok A2 s.image) (hv3:Sl (Gs w0 ok) 2 w0 ok A3 s.entries) (Ou:¬Jh gs) (hb:Bs w0 Jh B1 n.Ag.val) (hrise:eL (fun x:Vt=>sC x.slot n.Ag.slot) s.Ae) (hvl:s.Ae.length≤1000) (hi:0≤s.index∧s.index≤1099511627776) (he:s.entries.length≤1099511627776):zP Tryz.prog 117 #[.pointer (some ⟨gs,0,none⟩),.agg [.int .i64 n.kind,.int .i64 n.group,.int .i64 n.b.r,.int .i64 n.b.n,.int .i64 n.Ag.slot,.int .i64 n.Ag.b.r,.int .i64 n.Ag.b.n,.slice B1 n.Ag.val.length j1,.int .i64 n.entry.slot,.slice B2 n.entry.val.length j2,.int .i64 n.right.g,yC n.right.key,.int .i64 n.right.Ai,.int .i64 n.right.net,.int .i64 n.client,.int .i64 n.seq].toArray] w0 (fun _ w'=>∃ cs',Hp w0 w' [gs] [((some gs,97,cs'):Ent)]∧Gz w' (up ok w0.heap.size) cs' (if n.Ag.slot≤s.last then s else({ s with Ae:=Ed s.Ae n.Ag }:Sv).raise n.Ag.b)):=by
 refine zE Tryz.func117 Tryz.ntmps117 Y<|cR e53 ?_
 have H:=Hp.old hrow
 have hks:=JM (n:=w0.heap.size) (ok:=ok) (S:=[gs]) fun x hx hg=>hok (by rw[← List.mem_singleton.1 hg];exact hx)
 have hkn:∀ x,Jh x→x < w0.heap.size→x∉[gs]∧Jh x:=fun x hx _=>⟨fun hg=>Ou (by rw[← List.mem_singleton.1 hg];exact hx),hx⟩
 obtain⟨ps,hp,hr,ha,h2⟩:=id hv1
 have hlen:=h2.len
 have hon:=h2.ones fun _ _ h=>h.ones
 refine Rq<|yA Y Y H<|fun w1 g1 H1 hg1=>Xr e53<|Rq<|Xf oN Y<|OV (EN yZ Y (vs:=[.int .i64 n.Ag.slot,.int .i64 n.Ag.b.r,.int .i64 n.Ag.b.n,.slice B1 n.Ag.val.length j1]) Y (H1.Ad (i:=1) Y Y))<|OA yZ H1<|fun w2 g2 H2 hg2=>OS yZ H2 2 Y Y Y Y Y (by first|exact NL Y|simp[zH]) Y<|fun w3 H3=>Xr e53<|J1<|J1<|zR 4 [(true,0),(true,1),(true,2),(false,3),(false,4)] H3 [0,1,2] yG (by decide) (by kernel_rfl) ?_
 rintro w4 hw4
 have H4:=Hp.drew H3;rw[← hw4]at H4
 refine Zf Y vB Y<|MP Y<|MV (fun wz hz=>EL ty3 Y (hz.cell (i:=2) Y Y))<|Zm Y Y<|MO Y<|OC (EC TY Y) (NU gs _ _ _ _ s.index A3 s.entries.length k3 _ (H4.at (i:=0) Y) ⟨by omega,by omega⟩ (by omega))<|fun w5 Hd=>have H5:=H4.Af Hd;OE<|⟨fun hne=>H5.pick [0,1,2] (by decide),?_⟩
 refine cZ e53<|MO Y<|OT (tB Y Y) (fun hp14=>?_) (fun hp14=>?_)
 refine OE ?_
 refine⟨fun hne=>absurd Y hne,?_⟩
 refine ME<|cR e53<|J3 Y<|J5<|rQ Y ?_
 rw[if_pos (by unfold Sv.last;exact hp14)]
 exact⟨_,H5.pick [0] (by decide),A1,k1,A2,k2,A3,k3,Y,hv1.Gi H5 hks,hv2.to H5 hks,hv3.Hu H5 hks⟩
 refine OE ?_
 refine⟨fun hne=>absurd Y hne,?_⟩
 refine ME<|cR e53<|J4 Y<|J6<|Rq<|Xf sS Y<|OV (EL xK Y (H5.cell (i:=2) Y Y))<|yW (EC kZ Y) (vI B1 n.Ag.val j1 _ (hb.to H5 hkn).1 (by have:=hb.2.2;omega))<|fun w6 gb cb sb hmb hcb hgb Hc=>have H6:=H5.call0 Hc;Xf sS Y<|Aa e53<|OW xK H6 2 Y Y Y Y (by first|exact NL Y|simp[zH]) Y<|fun w7 H7=>Xr e53<|J1<|zR 11 [(true,0),(true,1),(true,2),(true,3),(true,4),(true,5),(false,6),(true,7),(true,8),(true,9),(true,10),(false,11)] H7 [0,1,2,3] yG (by decide) (by kernel_rfl) ?_
 rintro w8 hw8
 have H8:=Hp.drew H7;rw[← hw8]at H8
 refine Zm Y Y<|Zc Y Y<|Zf Y xV Y<|MP Y<|MV (fun wz hz=>EL uP Y (hz.cell (i:=0) Y Y))<|cZ e53<|Zf Y vB Y<|MP Y<|MV (fun wz hz=>EL ty3 Y (hz.cell (i:=2) Y Y))<|MO Y<|OQ (EC gf164 Y) (PR A1 k1 ps s.Ae.length hlen 165 n.Ag.slot (UT n.Ag.slot) _ hp (by rw[hlen];exact(hr.move (by decide) ha H8 hks).1) (by omega) (PN h2 hrise)) ?_
 rintro _ w9 ⟨i,f,rfl,hfd,Hd⟩
 have H9:=H8.Af Hd
 refine OE ?_
 refine⟨fun hne=>H9.pick [0,1,2,3] (by decide),?_⟩
 refine cZ e53<|Zm Y Y<|MP Y<|MV (fun wz hz=>xA Y Y)<|MP Y<|MV (fun wz hz=>xA Y Y)<|MP Y<|MV (fun wz hz=>zO Y)<|cZ e53<|MO Y<|Xa Y<|OE<|⟨fun hne=>absurd Y hne,?_⟩
 refine cZ e53<|ME<|cR e53<|Rq<|Xm Y<|Xc Y<|Xf xV Y<|OV (EL uP Y (H9.cell (i:=0) Y Y))<|Aa e53<|OQ (EC VQ Y) (F8 A1 s.Ae.length k1 ps.flatten _ (hr.move (by decide) ha H9 hks).1 (xF hon) (by omega)) ?_
 rintro _ w10 ⟨gv,cv,sv,rfl,hmv,hcv,Ie,Hc⟩
 have Ar:=H9.call0 Hc
 refine Xa Y<|Xr e53<|J1<|Rq<|Xm Y<|Xr e53<|wU Y (fun Vq=>?_) (fun Vq=>?_)
 obtain⟨pi,hpi,_⟩:=hfd.yes Vq
 have hil:=lt_of_get hpi
 obtain⟨gw,rfl⟩:=vK Ar (i:=4) rfl (by rw[List.length_append,hp.len];omega)
 subst Vq
 refine J2<|Xm Y<|Xm Y<|OV (EN yZ Y (vs:=[.int .i64 n.Ag.slot,.int .i64 n.Ag.b.r,.int .i64 n.Ag.b.n,.slice (hd gb) n.Ag.val.length cb]) Y (Ar.Ad (i:=2) Y Y))<|OV (uR Tryz.underlying94 yZ Y Y Y (by omega))<|Aa e53<|OS yZ Ar 4 Y Y Y Y Y (by rw[List.length_append,hp.len];show 0+i*4+4≤_;omega) Y<|fun Gm Bd=>?_
 rw[nL (sz:=4) (vs:=[.int .i64 n.Ag.slot,.int .i64 n.Ag.b.r,.int .i64 n.Ag.b.n,.slice (hd gb) n.Ag.val.length cb]) hp hil rfl]at Bd
 replace Bd:=Bd.pick [0,1,2,3,4] (by decide)
 refine Xr e53<|Rq<|Xm Y<|Xm Y<|Xc Y<|Xf xV Y<|Aa e53<|OW uP Bd 0 Y Y Y Y (by simp) Y<|fun w12 Bc=>Xr e53<|J2<|Xm Y<|Xf tZ Y<|OV (EN wX Y (vs:=[.int .i64 n.Ag.b.r,.int .i64 n.Ag.b.n]) Y (Bc.Ad (i:=2) Y Y))<|OV (EB xE pS Y Y)<|Aa e53<|OQ (EC OJ Y) (fC gs s.p _ _ _ _ ⟨0,0,n.Ag.b,⟨0,⟨0,0⟩,[]⟩,⟨0,[]⟩,⟨0,[],0,0⟩,0,0⟩ none 0 none 0 _ (Bc.at (i:=0) Y)) ?_
 rintro r Io Hd
 have Ce:=(Bc.Am [0] rfl Hd).pick [5,1,2,3,4] (by decide)
 refine Xr e53<|zA<|yN Y ?_
 rw[if_neg (by unfold Sv.last;exact hp14)]
 have HZ:=Ce
 have Ht:=wO (ok:=ok) HZ (i:=3) rfl (fun b hb=>by rw[List.mem_singleton.1 hb];exact fun e=>HZ.ne (i:=3) (j:=0) (g:=gs) (by rw[e];rfl) rfl (by decide) rfl)
 have Xb:=wO (ok:=ok) HZ (i:=4) rfl (fun b hb=>by rw[List.mem_singleton.1 hb];exact fun e=>HZ.ne (i:=4) (j:=0) (g:=gs) (by rw[e];rfl) rfl (by decide) rfl)
 have hnew:Et Io (up ok w0.heap.size) [.int .i64 n.Ag.slot,.int .i64 n.Ag.b.r,.int .i64 n.Ag.b.n,.slice (hd gb) n.Ag.val.length cb] n.Ag:=⟨hd gb,cb,rfl,Bs.row HZ (i:=3) rfl hb.2.2 Ht⟩
 have hold:=h2.imp (R':=Et Io (up ok w0.heap.size)) fun p x h=>h.to HZ hks
 have hput:=hfd.put (v:=n.Ag) h2 (fun p x h=>AW h) hrise
 rw[← C4]at hput
 rw[oX,hput]
 rw[if_pos rfl]
 have hset:=hold.set i hnew
 refine⟨_,HZ.pick [0] (by decide),hd (some gw),cv,A2,k2,A3,k3,by rw[List.length_set],?_,hv2.to HZ hks,hv3.Hu HZ hks⟩
 exact Sl.row HZ (i:=4) Y (hp.Hy Y) (by decide) hset Xb
 subst Vq
 refine J2<|Xm Y<|Xm Y<|OV (EN yZ Y (vs:=[.int .i64 n.Ag.slot,.int .i64 n.Ag.b.r,.int .i64 n.Ag.b.n,.slice (hd gb) n.Ag.val.length cb]) Y (Ar.Ad (i:=2) Y Y))<|zG Tryz.underlying94 yZ Ar Y (by decide) Y<|fun Gm g11 Bd Ua=>Aa e53<|OQ (EC gf166 Y) (SI gv cv i _ s.Ae.length ps hlen [.int .i64 n.Ag.slot,.int .i64 n.Ag.b.r,.int .i64 n.Ag.b.n,.slice (hd gb) n.Ag.val.length cb] sv _ (Bd.pick [4] (by decide)).here hp hon (by omega) hcv Ie hfd.le (Bd.at (i:=5) Y) Y Y (Bh Bd (i:=5) (is:=[4]) Y (by decide)) (by omega)) ?_
 rintro _ w12 ⟨gw,cw,sw,rfl,hnw,hcw,hgw,Hd⟩
 rw[hlen]
 have Bc:=(Bd.Am [4] rfl Hd).pick [0,1,2,3,6] (by decide)
 refine Xa Y<|Xr e53<|Rq<|Xm Y<|Xm Y<|Xc Y<|Xf xV Y<|Aa e53<|OW uP Bc 0 Y Y Y Y (by simp) Y<|fun Io Ce=>Xr e53<|J2<|Xm Y<|Xf tZ Y<|OV (EN wX Y (vs:=[.int .i64 n.Ag.b.r,.int .i64 n.Ag.b.n]) Y (Ce.Ad (i:=2) Y Y))<|OV (EB xE pS Y Y)<|Aa e53<|OQ (EC OJ Y) (fC gs s.p _ _ _ _ ⟨0,0,n.Ag.b,⟨0,⟨0,0⟩,[]⟩,⟨0,[]⟩,⟨0,[],0,0⟩,0,0⟩ none 0 none 0 _ (Ce.at (i:=0) Y)) ?_
 rintro r Md Hd
 have Ei:=(Ce.Am [0] rfl Hd).pick [5,1,2,3,4] (by decide)
 refine Xr e53<|zA<|yN Y ?_
 rw[if_neg (by unfold Sv.last;exact hp14)]
 have HZ:=Ei
 have Ht:=wO (ok:=ok) HZ (i:=3) rfl (fun b hb=>by rw[List.mem_singleton.1 hb];exact fun e=>HZ.ne (i:=3) (j:=0) (g:=gs) (by rw[e];rfl) rfl (by decide) rfl)
 have Xb:=wO (ok:=ok) HZ (i:=4) rfl (fun b hb=>by rw[List.mem_singleton.1 hb];exact fun e=>HZ.ne (i:=4) (j:=0) (g:=gs) (by rw[e];rfl) rfl (by decide) rfl)
 have hnew:Et Md (up ok w0.heap.size) [.int .i64 n.Ag.slot,.int .i64 n.Ag.b.r,.int .i64 n.Ag.b.n,.slice (hd gb) n.Ag.val.length cb] n.Ag:=⟨hd gb,cb,rfl,Bs.row HZ (i:=3) rfl hb.2.2 Ht⟩
 have hold:=h2.imp (R':=Et Md (up ok w0.heap.size)) fun p x h=>h.to HZ hks
 have hput:=hfd.put (v:=n.Ag) h2 (fun p x h=>AW h) hrise
 rw[← C4]at hput
 rw[oX,hput]
 rw[if_neg (by decide)]
 have hle:=hfd.le
 have X8:(s.Ae.take i++n.Ag::s.Ae.drop i).length=s.Ae.length+1:=by rw[List.length_append,List.length_cons,List.length_take,List.length_drop];omega
 refine⟨_,HZ.pick [0] (by decide),hd gw,cw,A2,k2,A3,k3,by rw[X8],?_,hv2.to HZ hks,hv3.Hu HZ hks⟩
 exact Sl.row HZ (i:=4) Y ((hp.sub fun x hx=>List.mem_of_mem_take hx).app fun x hx=>by
  rcases List.mem_cons.1 hx with rfl | hx
  · rfl
  · exact hp x (List.mem_of_mem_drop hx)) (by decide) ((hold.take i).app ⟨hnew,hold.drop i⟩) Xb
end Go.Proofs.YtjoeklkmnfaabaaGreat
namespace Go.Proofs.YtjoeklkmnfaabaaGreat
set_option maxRecDepth 100000
set_option maxHeartbeats 16000000
open Go Go.RowKit
set_option linter.unusedVariables false
attribute [local irreducible] yT Ops zP Cd
theorem SW (gs:Nat) (s:Sv) (A1:Option Addr) (k1:Nat) (A2:Option Addr) (k2:Nat) (A3:Option Addr) (k3:Nat) (n:Nt) (B1:Option Addr) (j1:Nat) (B2:Option Addr) (j2:Nat) (Jh:Nat→Prop) (w0:World) (hrow:w0.heap[gs]? =some (.cells [.int .i64 s.p.r,.int .i64 s.p.n,.slice A1 s.Ae.length k1,.int .i64 s.index,.slice A2 s.image.length k2,.slice A3 s.entries.length k3].toArray 97 (0,0))) (ok:Nat→Prop) (hok:¬ok gs) (hv1:Sl (Et w0 ok) 4 w0 ok A1 s.Ae) (hv2:Bs w0 ok A2 s.image) (hv3:Sl (Gs w0 ok) 2 w0 ok A3 s.entries) (Ou:¬Jh gs) (hb:Bs w0 Jh B2 n.entry.val) (hvl:s.Ae.length≤1000) (hi:0≤s.index∧s.index≤1099511627776) (he:s.entries.length≤1099511627776):zP Tryz.prog 118 #[.pointer (some ⟨gs,0,none⟩),.agg [.int .i64 n.kind,.int .i64 n.group,.int .i64 n.b.r,.int .i64 n.b.n,.int .i64 n.Ag.slot,.int .i64 n.Ag.b.r,.int .i64 n.Ag.b.n,.slice B1 n.Ag.val.length j1,.int .i64 n.entry.slot,.slice B2 n.entry.val.length j2,.int .i64 n.right.g,yC n.right.key,.int .i64 n.right.Ai,.int .i64 n.right.net,.int .i64 n.client,.int .i64 n.seq].toArray] w0 (fun _ w'=>∃ cs',Hp w0 w' [gs] [((some gs,97,cs'):Ent)]∧Gz w' (up ok w0.heap.size) cs' (if n.entry.slot=s.last+1 then { s with entries:=s.entries++[n.entry],Ae:=vP s.Ae n.entry.slot } else s)):=by
 refine zE Tryz.func118 Tryz.ntmps118 Y<|cR e38 ?_
 have H:=Hp.old hrow
 have hks:=JM (n:=w0.heap.size) (ok:=ok) (S:=[gs]) fun x hx hg=>hok (by rw[← List.mem_singleton.1 hg];exact hx)
 have hkn:∀ x,Jh x→x < w0.heap.size→x∉[gs]∧Jh x:=fun x hx _=>⟨fun hg=>Ou (by rw[← List.mem_singleton.1 hg];exact hx),hx⟩
 obtain⟨pe,hpe,hre,hae,he2⟩:=id hv3
 have hel:=he2.len
 have hon:=he2.ones fun _ _ h=>h.ones
 have hkB:∀ x,ok x→x < w0.heap.size→x∉[gs]∧(ok x∧x < w0.heap.size):=fun x hx hl=>⟨(hks x hx hl).1,hx,hl⟩
 refine Rq<|yA Y Y H<|fun w1 g1 H1 hg1=>Xr e38<|Rq<|Xf uE Y<|OV (EN wD Y (vs:=[.int .i64 n.entry.slot,.slice B2 n.entry.val.length j2]) Y (H1.Ad (i:=1) Y Y))<|OA wD H1<|fun w2 g2 H2 hg2=>OS wD H2 2 Y Y Y Y Y (by first|exact NL Y|simp[zH]) Y<|fun w3 H3=>Xr e38<|J1<|J1<|zR 5 [(true,0),(true,1),(true,2),(false,3),(true,4),(false,5)] H3 [0,1,2] yG (by decide) (by kernel_rfl) ?_
 rintro w4 hw4
 have H4:=Hp.drew H3;rw[← hw4]at H4
 refine Zf Y wE Y<|MP Y<|MV (fun wz hz=>EL ty3 Y (hz.cell (i:=2) Y Y))<|Zm Y Y<|MO Y<|OC (EC TY Y) (NU gs _ _ _ _ s.index A3 s.entries.length k3 _ (H4.at (i:=0) Y) ⟨by omega,by omega⟩ (by omega))<|fun w5 Hd=>have H5:=H4.Af Hd;OE<|⟨fun hne=>H5.pick [0,1,2] (by decide),?_⟩
 refine cZ e38<|MP Y<|MV (fun wz hz=>zL Y Y (IntWalk.i64_in _ (by omega)))<|MO Y<|OT (yS Y Y) (fun Ib=>?_) (fun Ib=>?_)
 refine OE ?_
 refine⟨fun hne=>absurd Y hne,?_⟩
 refine ME<|cR e38<|J3 Y<|J5<|rQ Y ?_
 rw[if_neg (by unfold Sv.last;exact Ib)]
 exact⟨_,H5.pick [0] (by decide),A1,k1,A2,k2,A3,k3,Y,hv1.Gi H5 hks,hv2.to H5 hks,hv3.Hu H5 hks⟩
 refine OE ?_
 refine⟨fun hne=>absurd Y hne,?_⟩
 refine ME<|cR e38<|J4 Y<|J6<|Rq<|Xf uV Y<|OV (EL xK Y (H5.cell (i:=2) Y Y))<|yW (EC kZ Y) (vI B2 n.entry.val j2 _ (hb.to H5 hkn).1 (by have:=hb.2.2;omega))<|fun w6 gb cb sb hmb hcb hgb Hc=>have H6:=H5.call0 Hc;Xf uV Y<|Aa e38<|OW xK H6 2 Y Y Y Y (by first|exact NL Y|simp[zH]) Y<|fun w7 H7=>Xr e38<|J1<|qI 11 (.p 0 (.p 1 (.p 2 (.p 3 (.p 4 (.p 6 (.two 5 (.o 7 (.o 8 (.p 9 (.p 10 (.o 11 .nil))))) 7 (.o 5 (.o 8 (.p 9 (.p 10 (.o 11 .nil)))))))))))) H7 [0,1,2,3] yG (by decide) (by kernel_rfl) ?_
 rintro w8 hw8
 have H8:=Hp.drew H7;rw[← hw8]at H8
 refine Tm Y Y<|Tm Y Y<|TP Y<|MV (fun wz hz=>yI Y)<|Tf Y xZ Y<|cT e38<|TP Y<|MV (fun wz hz=>EL uZ Y (hz.cell (i:=0) Y Y))<|TP Y<|MV (fun wz hz=>EN wD Y (vs:=[.int .i64 n.entry.slot,.slice (hd gb) n.entry.val.length cb]) Y (hz.Ad (i:=2) Y Y))<|pO ?_ ?_
 refine TQ Y<|OQ (EC SN Y) (B9 A3 s.entries.length k3 pe.flatten _ (hre.move (by decide) hae H8 hks).1 (xF hon) (by omega)) ?_
 rintro _ w9 ⟨ge,ce,se,rfl,hme,hce,Xj,Hc⟩
 have H9:=H8.call0 Hc
 refine OE ?_
 refine⟨fun hne=>H9.pick [0,1,2,3] (by decide),?_⟩
 refine cT e38<|TQ Y<|zG Tryz.underlying95 wD H9 Y (by decide) Y<|fun w10 g10 Ar hg10=>have m1:=();?_
 rotate_left 1
 refine TQ Y<|zG Tryz.underlying95 wD H8 Y (by decide) Y<|fun w9 g9 H9 WQ=>OE<|⟨fun hne=>H9.pick [0,1,2,3] (by decide),?_⟩
 refine cT e38<|TQ Y<|OQ (EC SN Y) (B9 A3 s.entries.length k3 pe.flatten _ (hre.move (by decide) hae H9 hks).1 (xF hon) (by omega)) ?_
 rintro _ w10 ⟨ge,ce,se,rfl,hme,hce,Xj,Hc⟩
 have Ar:=(H9.call0 Hc).pick [0,1,2,3,5,4] (by decide)
 have m1:=()
 rotate_left 1
 any_goals
  clear m1
  refine OE ?_
  refine⟨fun hne=>Ar.pick [0,1,2,3] (by decide),?_⟩
  refine cT e38<|TQ Y<|yX Tryz.underlying95 wD (by decide) Ar 4 (g:=ge) (n:=s.entries.length) (xs:=pe.flatten) (sp:=se) Y Y (by rw[hpe.len,hel]) hce hme Xj Y (Ar.rd (i:=5) (o:=some _) (xs:=([.int .i64 n.entry.slot,.slice (hd gb) n.entry.val.length cb]:List Value)) (sp:=[]) Y Y (by decide)) Y (by omega) (by omega) (by decide)<|fun Gm gw cw sw Bd hcw hmw hgw=>OE<|⟨fun hne=>Bd.pick [0,1,2,3] (by decide),?_⟩
  refine cT e38<|TP Y<|MV (fun wz hz=>yI Y)<|Tf Y xZ Y<|TQ Y<|OW uZ Bd 0 Y Y Y Y (by first|exact NL Y|simp[zH]) Y<|fun w12 Bc=>OE<|⟨fun hne=>absurd Y hne,?_⟩
  refine cT e38<|sZ<|cR e38<|zR 10 [(true,0),(true,1),(true,2),(true,3),(true,4),(true,5),(true,6),(false,7),(true,8),(true,9),(false,10)] Bc [0,1,2,3,4,5] yG (by decide) (by kernel_rfl) ?_
  rintro Io Oh
  have Ce:=Hp.drew Bc;rw[← Oh]at Ce
  refine Zm Y Y<|Zm Y Y<|Zc Y Y<|Zf Y xV Y<|cZ e38<|MP Y<|MV (fun wz hz=>EL uP Y (hz.cell (i:=0) Y Y))<|Zf Y wE Y<|MP Y<|MV (fun wz hz=>EL ty3 Y (hz.cell (i:=2) Y Y))<|MO Y<|OQ (EC II Y) (gE A1 k1 s.Ae n.entry.slot (fun x=>ok x∧x < w0.heap.size) _ (hv1.Gi Ce hkB) (by omega)) ?_
  rintro _ Md ⟨A9,k9,rfl,Oj,Hd⟩
  have Qm:=Ce.size
  have Ov:=fun x hx=>oE Ce (b:=x) hx
  have Ei:=Ce.Af Hd
  have Om:=bl_place Ei
  refine OE ?_
  refine⟨fun hne=>Ei.pick [0,1,2,3,4,5] (by decide),?_⟩
  refine cZ e38<|Zc Y Y<|Zf Y xV Y<|MO Y ?_
  have HB:=Ei
  have HL:=HB.here
  refine OW uP HL 0 Y Y Y Y (by first | (simp;done) | simp[zH]) Y<|fun Mc Fa=>have HW:=HB.all Fa;?_
  have Oj:=Oj.Gi (ok':=up ok w0.heap.size) Fa (fun x hx hl=>?_)
  rotate_left
  rcases hx with hx | hx
  refine⟨fun hb=>?_,.inl hx.1⟩
  rcases Om x hb with h | h
  exact(hks x hx.1 hx.2).1 h
  have:=hx.2;omega
  exact⟨fun hb=>by have:=Ov x hb;omega,.inr (by omega)⟩
  refine OE ?_
  refine⟨fun hne=>absurd Y hne,?_⟩
  refine cZ e38<|ME<|cR e38<|zA<|yN Y ?_
  rw[if_pos (by unfold Sv.last;omega)]
  have Ht:=wO (ok:=ok) HW (i:=3) rfl (fun b hb=>by rw[List.mem_singleton.1 hb];exact fun e=>HW.ne (i:=3) (j:=0) (g:=gs) (by rw[e];rfl) rfl (by decide) rfl)
  have hgw2:=wO (ok:=ok) HW (i:=4) rfl (fun b hb=>by rw[List.mem_singleton.1 hb];exact fun e=>HW.ne (i:=4) (j:=0) (g:=gs) (by rw[e];rfl) rfl (by decide) rfl)
  have hnew:Gs Mc (up ok w0.heap.size) ([.int .i64 n.entry.slot,.slice (hd gb) n.entry.val.length cb]:List Value) n.entry:=⟨hd gb,cb,rfl,Bs.row HW (i:=3) rfl hb.2.2 Ht⟩
  have hold:=he2.imp (R':=Gs Mc (up ok w0.heap.size)) fun p x h=>h.to HW hks
  have hfl:pe.flatten++([.int .i64 n.entry.slot,.slice (hd gb) n.entry.val.length cb]:List Value)=(pe++[([.int .i64 n.entry.slot,.slice (hd gb) n.entry.val.length cb]:List Value)]).flatten:=by rw[List.flatten_append];simp
  refine⟨_,HW.pick [0] (by decide),A9,k9,A2,k2,hd gw,cw,by rw[List.length_append];rfl,Oj,hv2.to HW hks,?_⟩
  exact Sl.row HW (i:=4) (by rw[← hfl];rfl) (hpe.app (Pl.one Y)) (by decide) (hold.app (wC.one hnew)) hgw2
theorem SK (gs:Nat) (s:Sv) (A1:Option Addr) (k1:Nat) (A2:Option Addr) (k2:Nat) (A3:Option Addr) (k3:Nat) (n:Nt) (B1:Option Addr) (j1:Nat) (B2:Option Addr) (j2:Nat) (Jh:Nat→Prop) (w0:World) (hrow:w0.heap[gs]? =some (.cells [.int .i64 s.p.r,.int .i64 s.p.n,.slice A1 s.Ae.length k1,.int .i64 s.index,.slice A2 s.image.length k2,.slice A3 s.entries.length k3].toArray 97 (0,0))) (ok:Nat→Prop) (hok:¬ok gs) (hv1:Sl (Et w0 ok) 4 w0 ok A1 s.Ae) (hv2:Bs w0 ok A2 s.image) (hv3:Sl (Gs w0 ok) 2 w0 ok A3 s.entries) (Ou:¬Jh gs) (hb:Bs w0 Jh B2 n.entry.val) (hvl:s.Ae.length≤1000) (hes:∀ x∈s.entries,x.slot≤1099511627776) (hi:0≤s.index∧s.index≤1099511627776) (he:s.entries.length≤1099511627776):zP Tryz.prog 119 #[.pointer (some ⟨gs,0,none⟩),.agg [.int .i64 n.kind,.int .i64 n.group,.int .i64 n.b.r,.int .i64 n.b.n,.int .i64 n.Ag.slot,.int .i64 n.Ag.b.r,.int .i64 n.Ag.b.n,.slice B1 n.Ag.val.length j1,.int .i64 n.entry.slot,.slice B2 n.entry.val.length j2,.int .i64 n.right.g,yC n.right.key,.int .i64 n.right.Ai,.int .i64 n.right.net,.int .i64 n.client,.int .i64 n.seq].toArray] w0 (fun _ w'=>∃ cs',Hp w0 w' [gs] [((some gs,97,cs'):Ent)]∧Gz w' (up ok w0.heap.size) cs' (if n.entry.slot≤s.index then s else { s with index:=n.entry.slot,image:=n.entry.val,entries:=rF s.entries n.entry.slot,Ae:=vP s.Ae n.entry.slot })):=by
 refine zE Tryz.func119 Tryz.ntmps119 Y<|cR Em ?_
 have H:=Hp.old hrow
 have hks:=JM (n:=w0.heap.size) (ok:=ok) (S:=[gs]) fun x hx hg=>hok (by rw[← List.mem_singleton.1 hg];exact hx)
 have hkn:∀ x,Jh x→x < w0.heap.size→x∉[gs]∧Jh x:=fun x hx _=>⟨fun hg=>Ou (by rw[← List.mem_singleton.1 hg];exact hx),hx⟩
 obtain⟨pe,hpe,hre,hae,he2⟩:=id hv3
 have hel:=he2.len
 have hon:=he2.ones fun _ _ h=>h.ones
 have hkB:∀ x,ok x→x < w0.heap.size→x∉[gs]∧(ok x∧x < w0.heap.size):=fun x hx hl=>⟨(hks x hx hl).1,hx,hl⟩
 refine Rq<|yA Y Y H<|fun w1 g1 H1 hg1=>Xr Em<|Rq<|Xf uE Y<|OV (EN wD Y (vs:=[.int .i64 n.entry.slot,.slice B2 n.entry.val.length j2]) Y (H1.Ad (i:=1) Y Y))<|OA wD H1<|fun w2 g2 H2 hg2=>OS wD H2 2 Y Y Y Y Y (by first|exact NL Y|simp[zH]) Y<|fun w3 H3=>Xr Em<|J1<|J1<|zR 6 [(true,0),(true,1),(true,2),(true,3),(true,4),(true,5),(false,6)] H3 [0,1,2] yG (by decide) (by kernel_rfl) ?_
 rintro w4 hw4
 have H4:=Hp.drew H3;rw[← hw4]at H4
 refine Zf Y wE Y<|MP Y<|MV (fun wz hz=>EL ty3 Y (hz.cell (i:=2) Y Y))<|Zm Y Y<|Zc Y Y<|cZ Em<|Zf Y wR Y<|MP Y<|MV (fun wz hz=>EL ty3 Y (hz.cell (i:=0) Y Y))<|MO Y<|OT (tB Y Y) (fun Gh=>?_) (fun Gh=>?_)
 refine OE ?_
 refine⟨fun hne=>absurd Y hne,?_⟩
 refine ME<|cR Em<|J3 Y<|J5<|rQ Y ?_
 rw[if_pos Gh]
 exact⟨_,H4.pick [0] (by decide),A1,k1,A2,k2,A3,k3,Y,hv1.Gi H4 hks,hv2.to H4 hks,hv3.Hu H4 hks⟩
 refine OE ?_
 refine⟨fun hne=>absurd Y hne,?_⟩
 refine ME<|cR Em<|J4 Y<|J6<|Rq<|Xm Y<|Xm Y<|Xc Y<|Xf xZ Y<|Aa Em<|OV (EL uZ Y (H4.cell (i:=0) Y Y))<|OQ (EC SN Y) (B9 A3 s.entries.length k3 pe.flatten _ (hre.move (by decide) hae H4 hks).1 (xF hon) (by omega)) ?_
 rintro _ w5 ⟨ge,ce,se,rfl,hme,hce,Xj,Hc⟩
 have H5:=H4.call0 Hc
 refine OV (wK Y Y)<|OQ (EC gf168 Y) (S0 ge ce s.entries.length pe hel se 169 _ (Dw n.entry.slot) _ (H5.pick [3] (by decide)).here hpe hon (by omega) (by omega) hce (Qj he2 (H5.at (i:=2) Y) Y) (Bh H5 (i:=2) (is:=[3]) Y (by decide))) ?_
 rintro _ w6 ⟨se2,rfl,hl2,Hd⟩
 have H6:=(H5.Am [3] rfl Hd).pick [0,1,2,4] (by decide)
 have HI:=H6
 have hef:=he2.filter (f:=fun p=>!Dw n.entry.slot p) (g:=fun x=>decide (n.entry.slot < x.slot)) (fun p x h=>by
  rw[IX h]
  by_cases hx:x.slot≤n.entry.slot
  · rw[decide_eq_true hx,decide_eq_false (by omega)];rfl
  · rw[decide_eq_false hx,decide_eq_true (by omega)];rfl)
 have Vp:=hef.len
 have hpf:Pl 2 (pe.filter fun p=>!Dw n.entry.slot p):=hpe.sub fun x hx=>(List.mem_filter.1 hx).1
 refine Aa Em<|Xc Y<|Xf xZ Y<|OW uZ H6 0 Y Y Y Y (by first | (simp;done) | simp[zH]) Y<|fun w7 H7=>Xr Em<|J1<|J1<|zR 18 [(true,0),(true,1),(true,2),(true,3),(true,4),(true,5),(true,6),(true,7),(true,8),(true,9),(true,10),(true,11),(true,12),(true,13),(true,14),(true,15),(true,16),(true,17),(false,18)] H7 [0,1,2,3] yG (by decide) (by kernel_rfl) ?_
 rintro w8 hw8
 have H8:=Hp.drew H7;rw[← hw8]at H8
 refine Zm Y Y<|Zc Y Y<|Zf Y xZ Y<|MP Y<|MV (fun wz hz=>EL uZ Y (hz.cell (i:=0) Y Y))<|cZ Em<|MP Y<|MV (fun wz hz=>ES Tryz.underlying95 Y)<|MP Y<|vU (fun wz hz=>yO Y Y) (fun XT=>?_) (fun XT=>?_)
 obtain⟨p0,hp0⟩:=yM (l:=(pe.filter fun p=>!Dw n.entry.slot p)) (j:=0) (by omega)
 obtain⟨e0,he0,hR0⟩:=hef.getL hp0
 have hmem0:=(List.mem_filter.1 (List.mem_of_getElem? he0))
 have hsl0:=hes e0 hmem0.1
 have hgt0:n.entry.slot < e0.slot:=by simpa using hmem0.2
 obtain⟨Aq,kq,hpq,_⟩:=hR0
 subst hpq
 have hc0:((pe.filter fun p=>!Dw n.entry.slot p).flatten++se2)[0+0*2+0]? =some (.int .i64 e0.slot):=by
  have h1:=hpf.get hp0 (j:=0) (u:=.int .i64 e0.slot) rfl
  rw[List.getElem?_append_left (lt_of_get h1)];exact h1
 obtain⟨gx,rfl⟩:=vK HI (i:=3) rfl (lt_of_get hc0)
 refine Zm Y Y<|MP Y<|MY Y<|MV (fun wz hz=>zK Y)<|MP Y<|MY Y<|MV (fun wz hz=>yI Y)<|cZ Em<|MP Y<|MY Y<|MV (fun wz hz=>EF xZ Y)<|MP Y<|MY Y<|MV (fun wz hz=>EL uZ Y (hz.cell (i:=0) Y Y))<|MP Y<|MY Y<|MV (fun wz hz=>uR Tryz.underlying95 wD Y Y (i:=0) Y (by omega))<|MP Y<|MY Y<|MV (fun wz hz=>EF wE Y)<|cZ Em<|MP Y<|MY Y<|MV (fun wz hz=>EL ty3 Y (hz.cell (i:=3) Y hc0))<|MP Y<|MY Y<|MV (fun wz hz=>EF wE Y)<|MP Y<|MY Y<|MV (fun wz hz=>EL ty3 Y (hz.cell (i:=2) Y Y))<|MP Y<|MY Y<|MV (fun wz hz=>zL Y Y (IntWalk.i64_in _ (by omega)))<|cZ Em<|MP Y<|MY Y<|vU (fun wz hz=>yS Y Y) (fun hp41=>?_) (fun hp41=>?_)
 · refine MO Y<|Xt Y Y<|OE<|⟨fun hne=>absurd Y hne,?_⟩
   refine cZ Em<|ME<|cR Em<|J3 Y<|J2<|Xm Y<|Xc Y<|Xf xZ Y<|OW uZ H8 0 Y Y Y Y (by first | (simp;done) | simp[zH]) Y<|fun w9 H9=>Xr Em<|J1<|zR 12 [(true,0),(true,1),(true,2),(true,3),(true,4),(true,5),(false,6),(true,7),(true,8),(false,9),(true,10),(true,11),(false,12)] H9 [1,2,3] yG (by decide) (by kernel_rfl) ?_
   rintro w10 Oi
   have Ar:=Hp.drew H9;rw[← Oi]at Ar
   refine Zm Y Y<|Zm Y Y<|Zf Y wE Y<|MP Y<|MV (fun wz hz=>EL ty3 Y (hz.cell (i:=1) Y Y))<|cZ Em<|Zf Y uV Y<|MP Y<|MV (fun wz hz=>EL xK Y (hz.cell (i:=1) Y Y))<|MO Y<|yW (EC kZ Y) (vI B2 n.entry.val j2 _ (hb.to Ar hkn).1 (by have:=hb.2.2;omega))<|fun Gm gb cb sb hmb hcb hgb Hc=>have Bd:=Ar.call0 Hc;OE<|⟨fun hne=>Bd.pick [1,2,3] (by decide),?_⟩
   refine cZ Em<|Zc Y Y<|Zf Y wR Y<|MO Y<|OW ty3 Bd 0 Y Y Y Y (by first|exact NL Y|simp[zH]) Y<|fun w12 Bc=>OE<|⟨fun hne=>Bc.pick [1,2,3] (by decide),?_⟩
   refine cZ Em<|Zc Y Y<|Zf Y uU Y<|MO Y<|OW xK Bc 0 Y Y Y Y (by first|exact NL Y|simp[zH]) Y<|fun Io Ce=>OE<|⟨fun hne=>absurd Y hne,?_⟩
   refine cZ Em<|ME<|cR Em<|zR 10 [(true,0),(true,1),(true,2),(true,3),(true,4),(true,5),(true,6),(false,7),(true,8),(true,9),(false,10)] Ce [0,1,2,3,4] yG (by decide) (by kernel_rfl) ?_
   rintro Md Wp
   have Ei:=Hp.drew Ce;rw[← Wp]at Ei
   refine Zm Y Y<|Zm Y Y<|Zc Y Y<|Zf Y xV Y<|cZ Em<|MP Y<|MV (fun wz hz=>EL uP Y (hz.cell (i:=0) Y Y))<|Zf Y wE Y<|MP Y<|MV (fun wz hz=>EL ty3 Y (hz.cell (i:=2) Y Y))<|MO Y<|OQ (EC II Y) (gE A1 k1 s.Ae n.entry.slot (fun x=>ok x∧x < w0.heap.size) _ (hv1.Gi Ei hkB) (by omega)) ?_
   rintro _ Mc ⟨A9,k9,rfl,Oj,Hd⟩
   have Qm:=Ei.size
   have Ov:=fun x hx=>oE Ei (b:=x) hx
   have Fa:=Ei.Af Hd
   have Om:=bl_place Fa
   refine OE ?_
   refine⟨fun hne=>Fa.pick [0,1,2,3,4] (by decide),?_⟩
   refine cZ Em<|Zc Y Y<|Zf Y xV Y<|MO Y ?_
   have HB:=Fa
   have HL:=HB.here
   refine OW uP HL 0 Y Y Y Y (by first | (simp;done) | simp[zH]) Y<|fun w16 Jf=>have HW:=HB.all Jf;?_
   have Oj:=Oj.Gi (ok':=up ok w0.heap.size) Jf (fun x hx hl=>?_)
   rotate_left
   rcases hx with hx | hx
   refine⟨fun hb=>?_,.inl hx.1⟩
   rcases Om x hb with h | h
   exact(hks x hx.1 hx.2).1 h
   have:=hx.2;omega
   exact⟨fun hb=>by have:=Ov x hb;omega,.inr (by omega)⟩
   refine OE ?_
   refine⟨fun hne=>absurd Y hne,?_⟩
   refine cZ Em<|ME<|cR Em<|zA<|yN Y ?_
   rw[if_neg Gh]
   have Ht:=wO (ok:=ok) HW (i:=4) rfl (fun b hb=>by rw[List.mem_singleton.1 hb];exact fun e=>HW.ne (i:=4) (j:=0) (g:=gs) (by rw[e];rfl) rfl (by decide) rfl)
   have Vk:=wO (ok:=ok) HW (i:=3) rfl (fun b hb=>by rw[List.mem_singleton.1 hb];exact fun e=>HW.ne (i:=3) (j:=0) (g:=gs) (by rw[e];rfl) rfl (by decide) rfl)
   have hold:=hef.imp (R':=Gs w16 (up ok w0.heap.size)) fun p x h=>h.to HW hks
   have h0:rF s.entries n.entry.slot=[]:=by
    unfold rF
    cases hq:(s.entries.filter fun x=>decide (n.entry.slot < x.slot))with
    | nil=>rfl
    | cons a r=>
     rw[hq]at he0
     cases he0
     exact if_neg hp41
   rw[h0]
   refine⟨_,HW.pick [0] (by decide),A9,k9,hd gb,cb,none,0,Y,Oj,Bs.row HW (i:=4) Y hb.2.2 Ht,Sl.none _ _ _ _⟩
 · refine MO Y<|Xt Y Y<|OE<|⟨fun hne=>absurd Y hne,?_⟩
   refine cZ Em<|ME<|cR Em<|J4 Y<|J6<|J1<|zR 12 [(true,0),(true,1),(true,2),(true,3),(true,4),(true,5),(false,6),(true,7),(true,8),(false,9),(true,10),(true,11),(false,12)] H8 [1,2,3] yG (by decide) (by kernel_rfl) ?_
   rintro w9 Qx
   have H9:=Hp.drew H8;rw[← Qx]at H9
   refine Zm Y Y<|Zm Y Y<|Zf Y wE Y<|MP Y<|MV (fun wz hz=>EL ty3 Y (hz.cell (i:=1) Y Y))<|cZ Em<|Zf Y uV Y<|MP Y<|MV (fun wz hz=>EL xK Y (hz.cell (i:=1) Y Y))<|MO Y<|yW (EC kZ Y) (vI B2 n.entry.val j2 _ (hb.to H9 hkn).1 (by have:=hb.2.2;omega))<|fun w10 gb cb sb hmb hcb hgb Hc=>have Ar:=H9.call0 Hc;OE<|⟨fun hne=>Ar.pick [1,2,3] (by decide),?_⟩
   refine cZ Em<|Zc Y Y<|Zf Y wR Y<|MO Y<|OW ty3 Ar 0 Y Y Y Y (by first|exact NL Y|simp[zH]) Y<|fun Gm Bd=>OE<|⟨fun hne=>Bd.pick [1,2,3] (by decide),?_⟩
   refine cZ Em<|Zc Y Y<|Zf Y uU Y<|MO Y<|OW xK Bd 0 Y Y Y Y (by first|exact NL Y|simp[zH]) Y<|fun w12 Bc=>OE<|⟨fun hne=>absurd Y hne,?_⟩
   refine cZ Em<|ME<|cR Em<|zR 10 [(true,0),(true,1),(true,2),(true,3),(true,4),(true,5),(true,6),(false,7),(true,8),(true,9),(false,10)] Bc [0,1,2,3,4] yG (by decide) (by kernel_rfl) ?_
   rintro Io Oh
   have Ce:=Hp.drew Bc;rw[← Oh]at Ce
   refine Zm Y Y<|Zm Y Y<|Zc Y Y<|Zf Y xV Y<|cZ Em<|MP Y<|MV (fun wz hz=>EL uP Y (hz.cell (i:=0) Y Y))<|Zf Y wE Y<|MP Y<|MV (fun wz hz=>EL ty3 Y (hz.cell (i:=2) Y Y))<|MO Y<|OQ (EC II Y) (gE A1 k1 s.Ae n.entry.slot (fun x=>ok x∧x < w0.heap.size) _ (hv1.Gi Ce hkB) (by omega)) ?_
   rintro _ Md ⟨A9,k9,rfl,Oj,Hd⟩
   have Qm:=Ce.size
   have Ov:=fun x hx=>oE Ce (b:=x) hx
   have Ei:=Ce.Af Hd
   have Om:=bl_place Ei
   refine OE ?_
   refine⟨fun hne=>Ei.pick [0,1,2,3,4] (by decide),?_⟩
   refine cZ Em<|Zc Y Y<|Zf Y xV Y<|MO Y ?_
   have HB:=Ei
   have HL:=HB.here
   refine OW uP HL 0 Y Y Y Y (by first | (simp;done) | simp[zH]) Y<|fun Mc Fa=>have HW:=HB.all Fa;?_
   have Oj:=Oj.Gi (ok':=up ok w0.heap.size) Fa (fun x hx hl=>?_)
   rotate_left
   rcases hx with hx | hx
   refine⟨fun hb=>?_,.inl hx.1⟩
   rcases Om x hb with h | h
   exact(hks x hx.1 hx.2).1 h
   have:=hx.2;omega
   exact⟨fun hb=>by have:=Ov x hb;omega,.inr (by omega)⟩
   refine OE ?_
   refine⟨fun hne=>absurd Y hne,?_⟩
   refine cZ Em<|ME<|cR Em<|zA<|yN Y ?_
   rw[if_neg Gh]
   have Ht:=wO (ok:=ok) HW (i:=4) rfl (fun b hb=>by rw[List.mem_singleton.1 hb];exact fun e=>HW.ne (i:=4) (j:=0) (g:=gs) (by rw[e];rfl) rfl (by decide) rfl)
   have Vk:=wO (ok:=ok) HW (i:=3) rfl (fun b hb=>by rw[List.mem_singleton.1 hb];exact fun e=>HW.ne (i:=3) (j:=0) (g:=gs) (by rw[e];rfl) rfl (by decide) rfl)
   have hold:=hef.imp (R':=Gs Mc (up ok w0.heap.size)) fun p x h=>h.to HW hks
   have h0:rF s.entries n.entry.slot=(s.entries.filter fun x=>decide (n.entry.slot < x.slot)):=by
    unfold rF
    cases hq:(s.entries.filter fun x=>decide (n.entry.slot < x.slot))with
    | nil=>simp[hq]at he0
    | cons a r=>
     rw[hq]at he0
     cases he0
     exact if_pos (by omega)
   rw[h0]
   refine⟨_,HW.pick [0] (by decide),A9,k9,hd gb,cb,hd (some gx),ce,by rw[← Vp];rfl,Oj,Bs.row HW (i:=4) Y hb.2.2 Ht,Sl.row HW (i:=3) Y hpf (by decide) hold Vk⟩
 · refine Zm Y Y<|MP Y<|MZ Y<|cZ Em<|MP Y<|MZ Y<|MP Y<|MZ Y<|cZ Em<|MP Y<|MZ Y<|MP Y<|MZ Y<|cZ Em<|MP Y<|MZ Y<|MP Y<|MZ Y<|cZ Em<|MP Y<|MZ Y<|MP Y<|MZ Y<|cZ Em<|MP Y<|MZ Y<|MP Y<|MZ Y<|cZ Em<|MO Y<|Xu Y Y<|OE<|⟨fun hne=>absurd Y hne,?_⟩
   refine cZ Em<|ME<|cR Em<|J4 Y<|J6<|J1<|zR 12 [(true,0),(true,1),(true,2),(true,3),(true,4),(true,5),(false,6),(true,7),(true,8),(false,9),(true,10),(true,11),(false,12)] H8 [1,2,3] yG (by decide) (by kernel_rfl) ?_
   rintro w9 Qx
   have H9:=Hp.drew H8;rw[← Qx]at H9
   refine Zm Y Y<|Zm Y Y<|Zf Y wE Y<|MP Y<|MV (fun wz hz=>EL ty3 Y (hz.cell (i:=1) Y Y))<|cZ Em<|Zf Y uV Y<|MP Y<|MV (fun wz hz=>EL xK Y (hz.cell (i:=1) Y Y))<|MO Y<|yW (EC kZ Y) (vI B2 n.entry.val j2 _ (hb.to H9 hkn).1 (by have:=hb.2.2;omega))<|fun w10 gb cb sb hmb hcb hgb Hc=>have Ar:=H9.call0 Hc;OE<|⟨fun hne=>Ar.pick [1,2,3] (by decide),?_⟩
   refine cZ Em<|Zc Y Y<|Zf Y wR Y<|MO Y<|OW ty3 Ar 0 Y Y Y Y (by first|exact NL Y|simp[zH]) Y<|fun Gm Bd=>OE<|⟨fun hne=>Bd.pick [1,2,3] (by decide),?_⟩
   refine cZ Em<|Zc Y Y<|Zf Y uU Y<|MO Y<|OW xK Bd 0 Y Y Y Y (by first|exact NL Y|simp[zH]) Y<|fun w12 Bc=>OE<|⟨fun hne=>absurd Y hne,?_⟩
   refine cZ Em<|ME<|cR Em<|zR 10 [(true,0),(true,1),(true,2),(true,3),(true,4),(true,5),(true,6),(false,7),(true,8),(true,9),(false,10)] Bc [0,1,2,3,4] yG (by decide) (by kernel_rfl) ?_
   rintro Io Oh
   have Ce:=Hp.drew Bc;rw[← Oh]at Ce
   refine Zm Y Y<|Zm Y Y<|Zc Y Y<|Zf Y xV Y<|cZ Em<|MP Y<|MV (fun wz hz=>EL uP Y (hz.cell (i:=0) Y Y))<|Zf Y wE Y<|MP Y<|MV (fun wz hz=>EL ty3 Y (hz.cell (i:=2) Y Y))<|MO Y<|OQ (EC II Y) (gE A1 k1 s.Ae n.entry.slot (fun x=>ok x∧x < w0.heap.size) _ (hv1.Gi Ce hkB) (by omega)) ?_
   rintro _ Md ⟨A9,k9,rfl,Oj,Hd⟩
   have Qm:=Ce.size
   have Ov:=fun x hx=>oE Ce (b:=x) hx
   have Ei:=Ce.Af Hd
   have Om:=bl_place Ei
   refine OE ?_
   refine⟨fun hne=>Ei.pick [0,1,2,3,4] (by decide),?_⟩
   refine cZ Em<|Zc Y Y<|Zf Y xV Y<|MO Y ?_
   have HB:=Ei
   have HL:=HB.here
   refine OW uP HL 0 Y Y Y Y (by first | (simp;done) | simp[zH]) Y<|fun Mc Fa=>have HW:=HB.all Fa;?_
   have Oj:=Oj.Gi (ok':=up ok w0.heap.size) Fa (fun x hx hl=>?_)
   rotate_left
   rcases hx with hx | hx
   refine⟨fun hb=>?_,.inl hx.1⟩
   rcases Om x hb with h | h
   exact(hks x hx.1 hx.2).1 h
   have:=hx.2;omega
   exact⟨fun hb=>by have:=Ov x hb;omega,.inr (by omega)⟩
   refine OE ?_
   refine⟨fun hne=>absurd Y hne,?_⟩
   refine cZ Em<|ME<|cR Em<|zA<|yN Y ?_
   rw[if_neg Gh]
   have Ht:=wO (ok:=ok) HW (i:=4) rfl (fun b hb=>by rw[List.mem_singleton.1 hb];exact fun e=>HW.ne (i:=4) (j:=0) (g:=gs) (by rw[e];rfl) rfl (by decide) rfl)
   have Vk:=wO (ok:=ok) HW (i:=3) rfl (fun b hb=>by rw[List.mem_singleton.1 hb];exact fun e=>HW.ne (i:=3) (j:=0) (g:=gs) (by rw[e];rfl) rfl (by decide) rfl)
   have hold:=hef.imp (R':=Gs Mc (up ok w0.heap.size)) fun p x h=>h.to HW hks
   have h0:rF s.entries n.entry.slot=(s.entries.filter fun x=>decide (n.entry.slot < x.slot)):=by
    unfold rF
    have:(s.entries.filter fun x=>decide (n.entry.slot < x.slot))=[]:=List.eq_nil_of_length_eq_zero (by omega)
    rw[this]
   rw[h0]
   refine⟨_,HW.pick [0] (by decide),A9,k9,hd gb,cb,hd ge,ce,by rw[← Vp];rfl,Oj,Bs.row HW (i:=4) Y hb.2.2 Ht,Sl.row HW (i:=3) Y hpf (by decide) hold Vk⟩
end Go.Proofs.YtjoeklkmnfaabaaGreat
namespace Go.Proofs.YtjoeklkmnfaabaaGreat
set_option maxRecDepth 100000
set_option maxHeartbeats 16000000
open Go Go.RowKit
set_option linter.unusedVariables false
attribute [local irreducible] yT Ops zP Cd
theorem EK (x:Vt) (Ax:Option Addr) (kx:Nat) (ok:Nat→Prop) (w0:World) (hb:Bs w0 ok Ax x.val):zP Tryz.prog 199 #[.agg [.int .i64 x.slot,.int .i64 x.b.r,.int .i64 x.b.n,.slice Ax x.val.length kx].toArray] w0 (fun _ w'=>Hp w0 w' [] []):=by
 refine zE Tryz.func199 Tryz.ntmps199 Y<|cR e8 ?_
 have H:=Hp.refl w0
 refine Rq<|yA Y Y H<|fun w1 g1 H1 hg1=>OA yZ H1<|fun w2 g2 H2 hg2=>Xr e8<|Rq<|Xf sS Y<|OV (EL xK Y (H2.cell (i:=0) Y Y))<|yW (EC kZ Y) (vI Ax x.val kx _ (hb.1.to0 H2) (by have:=hb.2.2;omega))<|fun w3 gb cb sb hmb hcb hgb Hc=>have H3:=H2.call0 Hc;Xf sS Y<|Aa e8<|OW xK H3 0 Y Y Y Y (by first|exact NL Y|simp[zH]) Y<|fun w4 H4=>Xr e8<|Rq<|OV (EN yZ Y (vs:=[.int .i64 x.slot,.int .i64 x.b.r,.int .i64 x.b.n,.slice (hd gb) x.val.length cb]) Y (H4.Ad (i:=0) Y Y))<|OS yZ H4 1 Y Y Y Y Y (by first|exact NL Y|simp[zH]) Y<|fun w5 H5=>Xr e8<|J5<|uM Y yZ (cs:=[.int .i64 x.slot,.int .i64 x.b.r,.int .i64 x.b.n,.slice (hd gb) x.val.length cb]) Y Y (H5.Ad (i:=1) Y Y)<|H5.Ac
theorem NR (p:Bal) (first:Int) (A:Option Addr) (k:Nat) (l:List Vt) (ok:Nat→Prop) (w0:World) (hl:Sl (Et w0 ok) 4 w0 ok A l) (hn:l.length≤1000000000000000000):zP Tryz.prog 171 #[.agg [.int .i64 p.r,.int .i64 p.n].toArray,.int .i64 first,.slice A l.length k] w0 (fun r w'=>∃ (v:Value) (e:Int),r=.tuple #[v,.int .i64 e]∧Ans (oL p first l) e∧Hp w0 w' [] []):=by
 refine zE Tryz.func171 Tryz.ntmps171 Y<|cR Bz ?_
 have H:=Hp.refl w0
 obtain⟨ps,hp,hr,ha,h2⟩:=hl
 have hlen:=h2.len
 refine Rq<|yA Y Y H<|fun w1 gp H1 _=>Xa Y<|Xa Y<|Xr Bz<|J1<|Rq<|Xm Y<|OT (zQ Y Y) (fun Gh=>?_) (fun Gh=>?_)
 refine Xm Y<|Aa Bz<|Oz 2 Y<|Xt Y Y ?_
 have m3:=()
 rotate_left 1
 refine Xm Y<|Aa Bz<|OY Y<|Xm Y<|OY Y<|OT (yO Y Y) (fun hp16=>?_) (fun hp16=>?_)
 refine Xu Y Y ?_
 have m3:=()
 rotate_left 1
 refine Xu Y Y<|Xm Y<|Aa Bz<|OY Y<|OV (EN wX Y (vs:=[.int .i64 p.r,.int .i64 p.n]) Y (H1.Ad (i:=0) Y Y))<|OY Y<|OV (EB wX BG Y Y)<|Aa Bz<|OY Y<|OT (sB Y Y) (fun hp21=>?_) (fun hp21=>?_)
 refine OY Y<|Xm Y<|OY Y<|OV (EN wX Y (vs:=[.int .i64 p.r,.int .i64 p.n]) Y (H1.Ad (i:=0) Y Y))<|Aa Bz<|OY Y<|OX (EC OB Y) (FL _ _) (fun hp24 w2 Hd=>?_) (fun hp24 w2 Hd=>?_)
 have H2:=H1.Af Hd
 refine OY Y<|Xn Y<|OY Y<|Xt Y Y<|Xu Y Y<|Xr Bz<|J4 Y<|J6<|Rq<|OV (EN wX Y (vs:=[.int .i64 p.r,.int .i64 p.n]) Y (H2.Ad (i:=0) Y Y))<|Xm Y<|eF H2<|fun w3 gm H3 hgm hgm0=>have Lj:=mK.new hgm;?_
 have Xg:w0.heap.size≤gm:=by have:=H2.size;omega
 refine OV (EB TH TN Y Y)<|Aa Bz ?_
 have HB:=H3
 have H3:=HB.here
 refine yA Y Y H3<|fun w4 ga H4 _=>?_
 have Lj:=Lj.to H4 (fun hb=>by obtain⟨arr,T,z,hh⟩:=sE HB gm hb;exact Lj.not _ _ _ hh)
 replace H4:=HB.all H4
 refine Xa Y<|Xr Bz<|Rq<|Xm Y<|Xa Y<|Xr Bz<|J1<|Rq<|Xm Y<|OV (ES Tryz.underlying94 Y)<|Xm Y<|Xr Bz<|J7<|zU (fun nQ lQ w=>∃ (i:Nat) (y m:Int),l.length - i=nQ∧xN (Dj [(0,.agg [.int .i64 p.r,.int .i64 p.n].toArray),(1,.int .i64 first),(3,.pointer (some ⟨gp,0,none⟩)),(8,.pointer (some ⟨ga,0,none⟩)),(9,.int .i64 m),(34,.slice A l.length k),(35,.int .i64 (l.length:Int)),(36,.int .i64 y)] 0 82) lQ∧y=(i:Int)∧i≤l.length∧uB p first first l=uB p first m (l.drop i)∧first≤m∧mK w gm∧Hp w0 w [] [((some gp,75,[.int .i64 p.r,.int .i64 p.n]):Ent),(some ga,263,[.int .i64 p.r,.int .i64 p.n,.int .i64 first,.map (some gm)])]) (l.length) ?_ ?_
 exact⟨0,_,first,Y,(ft8 Y Y Y Y Y Y Y Y Y),Y,Nat.zero_le _,Y,Int.le_refl _,Lj,H4⟩
 rintro nQ lQ w5 ⟨i,y,m,rfl,hfit,rfl,hi,hinv,hfm,Lj,H5⟩
 obtain⟨j,rfl⟩:=hfit.open
 refine cR Bz ?_
 clear hfit
 have HB:=H5
 replace H5:=HB.here
 have Xh:gm∉bl _:=fun hb=>by obtain⟨arr,T,z,hh⟩:=sE HB gm hb;exact Lj.not _ _ _ hh
 refine Rq<|OT (zQ Y Y) (fun XR=>?_) (fun XR=>?_)
 have hil:i < l.length:=by omega
 obtain⟨x,hx⟩:=yM hil
 obtain⟨p1,hp1,hR⟩:=h2.get hx
 obtain⟨Ax,kx,rfl,hbx⟩:=hR
 obtain⟨a1,ha1⟩:=hr.some_ (by omega)
 subst ha1
 refine Xr Bz<|J1<|J3 Y<|J6<|J1<|J7<|Rq<|OV (EI Tryz.underlying94 yZ Y Y Y hil Y)<|OV (EN yZ Y (vs:=[.int .i64 x.slot,.int .i64 x.b.r,.int .i64 x.b.n,.slice Ax x.val.length kx]) Y ((hr.to0 (HB.all H5)).elem hp hp1))<|OA yZ H5<|fun w6 g6 H6 Vo=>OS yZ H6 2 Y Y Y Y Y (by first|exact NL Y|simp[zH]) Y<|fun w7 H7=>Xr Bz<|J1<|Rq<|Xf vB Y<|OV (EL ty3 Y (H7.cell (i:=2) Y Y))<|Xm Y<|OT (zQ Y Y) (fun Td=>?_) (fun Td=>?_)
 refine Xm Y<|Aa Bz<|Oz 5 Y<|Aa Bz<|Xt Y Y ?_
 have m1:=()
 rotate_left 1
 refine Xm Y<|Aa Bz<|OY Y<|Xf vB Y<|OY Y<|OV (EL ty3 Y (H7.cell (i:=2) Y Y))<|Aa Bz<|OY Y<|Xm Y<|OY Y<|OV (zL Y Y (IntWalk.i64_in _ (by omega)))<|Aa Bz<|OY Y<|OT (wL Y Y) (fun XM=>?_) (fun XM=>?_)
 refine Xu Y Y ?_
 have m1:=()
 rotate_left 1
 refine Xu Y Y<|Xm Y<|Aa Bz<|OY Y<|Xf tZ Y<|OY Y<|OV (EN wX Y (vs:=[.int .i64 x.b.r,.int .i64 x.b.n]) Y (H7.Ad (i:=2) Y Y))<|Aa Bz<|OY Y<|OX (EC OB Y) (FL _ _) (fun Gt w8 Hd=>?_) (fun Gt w8 Hd=>?_)
 have H8:=H7.Af Hd
 refine OY Y<|Xn Y<|Xu Y Y<|Xm Y<|Aa Bz<|OY Y<|OV (EN wX Y (vs:=[.int .i64 p.r,.int .i64 p.n]) Y (H8.Ad (i:=0) Y Y))<|OY Y<|Xf tZ Y<|Aa Bz<|OY Y<|OV (EN wX Y (vs:=[.int .i64 x.b.r,.int .i64 x.b.n]) Y (H8.Ad (i:=2) Y Y))<|OY Y<|OX (EC OI Y) (FV _ _ _) (fun Ld w9 Hd=>?_) (fun Ld w9 Hd=>?_)
 have H9:=H8.Af Hd
 refine Xu Y Y<|Xm Y<|Aa Bz<|Oz 4 Y<|Aa Bz<|Xt Y Y<|Xr Bz<|J3 Y<|Rq<|Xa Y<|Xa Y<|Xr Bz<|J5<|BR<|yR<|BR<|Ea Y Y Y<|⟨_,_,Y,Ans.no (by rw[nB (by omega) (by omega),hinv];exact sO hx fun hh=>hh.2.2.2.2.1 Ld),(HB.all H9).Ac⟩
 have H9:=H8.Af Hd
 refine Xu Y Y<|Xm Y<|Aa Bz<|OY Y<|Xf sS Y<|OY Y<|OV (EL xK Y (H9.cell (i:=2) Y Y))<|Aa Bz<|OY Y<|OV (ES Tryz.underlying73 Y)<|OY Y<|OT (yO Y Y) (fun La=>?_) (fun La=>?_)
 refine Xu Y Y<|Xr Bz<|J3 Y<|Rq<|Xa Y<|Xa Y<|Xr Bz<|J5<|BR<|yR<|BR<|Ea Y Y Y<|⟨_,_,Y,Ans.no (by rw[nB (by omega) (by omega),hinv];exact sO hx fun hh=>by omega),(HB.all H9).Ac⟩
 refine Xu Y Y<|Xr Bz<|J4 Y<|J6<|J1<|zR 8 [(true,0),(true,1),(true,2),(true,3),(true,4),(true,5),(true,6),(false,7),(false,8)] H9 [0,1,2] yG (by decide) (by kernel_rfl) ?_
 rintro w10 Oi
 have Ar:=Hp.drew H9;rw[← Oi]at Ar
 refine Zm Y Y<|Zc Y Y<|Zf Y IOa Y<|MP Y<|MV (fun wz hz=>EL TI Y (hz.cell (i:=1) Y Y))<|cZ Bz<|Zf Y vB Y<|MP Y<|MV (fun wz hz=>EL ty3 Y (hz.cell (i:=2) Y Y))<|MP Y<|MV (fun wz hz=>EN yZ Y (vs:=[.int .i64 x.slot,.int .i64 x.b.r,.int .i64 x.b.n,.slice Ax x.val.length kx]) Y (hz.Ad (i:=2) Y Y))<|MO Y<|OQ (EC TW Y) (EK x Ax kx (fun _=>True) _ (hbx.to (HB.all Ar) (fun _ _ _=>⟨by simp,trivial⟩)))<|fun r Gm Hd=>have Bd:=Ar.Af Hd;OE<|⟨fun hne=>Bd.pick [0,1,2] (by decide),?_⟩
 refine cZ Bz<|MO Y ?_
 have HW:=HB.all Bd
 refine jC Tryz.underlying261 Tryz.underlying3 HW Y Y Y (Lj.to Bd Xh) Xg<|fun w12 Bc Lj _=>?_
 have hgo:=AU (p:=p) (first:=first) (m:=m) hx ⟨by omega,by omega,Gt.1,Gt.2,Ld,by omega⟩
 refine OE ?_
 refine⟨fun hne=>absurd Y hne,?_⟩
 refine cZ Bz<|ME<|cR Bz<|J2<|Xf vB Y<|OV (EL ty3 Y (Bc.cell (i:=2) Y Y))<|OV (zL Y Y (IntWalk.i64_in _ (by omega)))<|Xa Y<|Xr Bz<|zA (zB ?_)
 refine J2<|OV (zL Y Y (IntWalk.i64_in _ (by omega)))<|Xm Y<|Xr Bz<|zA (zI ?_)
 exact⟨l.length - (i+1),by omega,i+1,_,x.slot+1,Y,(ft8 Y Y Y Y Y Y Y Y Y),by omega,by omega,by rw[hinv,hgo],by omega,Lj,Bc.pick [0,1] (by decide)⟩
 have H8:=H7.Af Hd
 refine OY Y<|Xn Y<|Xu Y Y<|Xm Y<|Aa Bz<|Oz 4 Y<|Aa Bz<|Xt Y Y<|Xm Y<|Aa Bz<|Oz 4 Y<|Aa Bz<|Xt Y Y<|Xr Bz<|J3 Y<|Rq<|Xa Y<|Xa Y<|Xr Bz<|J5<|BR<|yR<|BR<|Ea Y Y Y<|⟨_,_,Y,Ans.no (by rw[nB (by omega) (by omega),hinv];exact sO hx fun hh=>Gt ⟨hh.2.2.1,hh.2.2.2.1⟩),(HB.all H8).Ac⟩
 obtain rfl:i=l.length:=by omega
 refine Xr Bz<|J1<|J4 Y<|J8<|zT<|zS<|Rq<|Xm Y<|Xa Y<|Xa Y<|Xr Bz<|J5<|Ea Y Y Y<|⟨_,_,Y,Ans.ok (by rw[nB (by omega) (by omega),hinv];exact eN),(HB.all H5).Ac⟩
 have H2:=H1.Af Hd
 refine OY Y<|Xn Y<|OY Y<|Xt Y Y<|Xu Y Y<|Xr Bz<|J3 Y<|Rq<|Xa Y<|Xa Y<|Xr Bz<|J5<|Ea Y Y Y<|⟨_,_,Y,Ans.no (TT (by omega)),H2.Ac⟩
 refine OY Y<|Xm Y<|Oz 3 Y<|Aa Bz<|OY Y<|Xu Y Y<|Xu Y Y<|Xr Bz<|J4 Y<|J6<|Rq<|OV (EN wX Y (vs:=[.int .i64 p.r,.int .i64 p.n]) Y (H1.Ad (i:=0) Y Y))<|Xm Y<|eF H1<|fun w2 gm H2 hgm hgm0=>have Lj:=mK.new hgm;?_
 have Xg:w0.heap.size≤gm:=by have:=H1.size;omega
 refine OV (EB TH TN Y Y)<|Aa Bz ?_
 have HB:=H2
 have H2:=HB.here
 refine yA Y Y H2<|fun w3 ga H3 _=>?_
 have Lj:=Lj.to H3 (fun hb=>by obtain⟨arr,T,z,hh⟩:=sE HB gm hb;exact Lj.not _ _ _ hh)
 replace H3:=HB.all H3
 refine Xa Y<|Xr Bz<|Rq<|Xm Y<|Xa Y<|Xr Bz<|J1<|Rq<|Xm Y<|OV (ES Tryz.underlying94 Y)<|Xm Y<|Xr Bz<|J7<|zU (fun nQ lQ w=>∃ (i:Nat) (y m:Int),l.length - i=nQ∧xN (Dj [(0,.agg [.int .i64 p.r,.int .i64 p.n].toArray),(1,.int .i64 first),(3,.pointer (some ⟨gp,0,none⟩)),(8,.pointer (some ⟨ga,0,none⟩)),(9,.int .i64 m),(34,.slice A l.length k),(35,.int .i64 (l.length:Int)),(36,.int .i64 y)] 0 82) lQ∧y=(i:Int)∧i≤l.length∧uB p first first l=uB p first m (l.drop i)∧first≤m∧mK w gm∧Hp w0 w [] [((some gp,75,[.int .i64 p.r,.int .i64 p.n]):Ent),(some ga,263,[.int .i64 p.r,.int .i64 p.n,.int .i64 first,.map (some gm)])]) (l.length) ?_ ?_
 exact⟨0,_,first,Y,(ft8 Y Y Y Y Y Y Y Y Y),Y,Nat.zero_le _,Y,Int.le_refl _,Lj,H3⟩
 rintro nQ lQ w4 ⟨i,y,m,rfl,hfit,rfl,hi,hinv,hfm,Lj,H4⟩
 obtain⟨j,rfl⟩:=hfit.open
 refine cR Bz ?_
 clear hfit
 have HB:=H4
 replace H4:=HB.here
 have Xh:gm∉bl _:=fun hb=>by obtain⟨arr,T,z,hh⟩:=sE HB gm hb;exact Lj.not _ _ _ hh
 refine Rq<|OT (zQ Y Y) (fun XR=>?_) (fun XR=>?_)
 have hil:i < l.length:=by omega
 obtain⟨x,hx⟩:=yM hil
 obtain⟨p1,hp1,hR⟩:=h2.get hx
 obtain⟨Ax,kx,rfl,hbx⟩:=hR
 obtain⟨a1,ha1⟩:=hr.some_ (by omega)
 subst ha1
 refine Xr Bz<|J1<|J3 Y<|J6<|J1<|J7<|Rq<|OV (EI Tryz.underlying94 yZ Y Y Y hil Y)<|OV (EN yZ Y (vs:=[.int .i64 x.slot,.int .i64 x.b.r,.int .i64 x.b.n,.slice Ax x.val.length kx]) Y ((hr.to0 (HB.all H4)).elem hp hp1))<|OA yZ H4<|fun w5 g5 H5 hg5=>OS yZ H5 2 Y Y Y Y Y (by first|exact NL Y|simp[zH]) Y<|fun w6 H6=>Xr Bz<|J1<|Rq<|Xf vB Y<|OV (EL ty3 Y (H6.cell (i:=2) Y Y))<|Xm Y<|OT (zQ Y Y) (fun Td=>?_) (fun Td=>?_)
 refine Xm Y<|Aa Bz<|Oz 5 Y<|Aa Bz<|Xt Y Y ?_
 have m2:=()
 rotate_left 1
 refine Xm Y<|Aa Bz<|OY Y<|Xf vB Y<|OY Y<|OV (EL ty3 Y (H6.cell (i:=2) Y Y))<|Aa Bz<|OY Y<|Xm Y<|OY Y<|OV (zL Y Y (IntWalk.i64_in _ (by omega)))<|Aa Bz<|OY Y<|OT (wL Y Y) (fun XM=>?_) (fun XM=>?_)
 refine Xu Y Y ?_
 have m2:=()
 rotate_left 1
 refine Xu Y Y<|Xm Y<|Aa Bz<|OY Y<|Xf tZ Y<|OY Y<|OV (EN wX Y (vs:=[.int .i64 x.b.r,.int .i64 x.b.n]) Y (H6.Ad (i:=2) Y Y))<|Aa Bz<|OY Y<|OX (EC OB Y) (FL _ _) (fun Gt w7 Hd=>?_) (fun Gt w7 Hd=>?_)
 have H7:=H6.Af Hd
 refine OY Y<|Xn Y<|Xu Y Y<|Xm Y<|Aa Bz<|OY Y<|OV (EN wX Y (vs:=[.int .i64 p.r,.int .i64 p.n]) Y (H7.Ad (i:=0) Y Y))<|OY Y<|Xf tZ Y<|Aa Bz<|OY Y<|OV (EN wX Y (vs:=[.int .i64 x.b.r,.int .i64 x.b.n]) Y (H7.Ad (i:=2) Y Y))<|OY Y<|OX (EC OI Y) (FV _ _ _) (fun Ld w8 Hd=>?_) (fun Ld w8 Hd=>?_)
 have H8:=H7.Af Hd
 refine Xu Y Y<|Xm Y<|Aa Bz<|Oz 4 Y<|Aa Bz<|Xt Y Y<|Xr Bz<|J3 Y<|Rq<|Xa Y<|Xa Y<|Xr Bz<|J5<|BR<|yR<|BR<|Ea Y Y Y<|⟨_,_,Y,Ans.no (by rw[nB (by omega) (by omega),hinv];exact sO hx fun hh=>hh.2.2.2.2.1 Ld),(HB.all H8).Ac⟩
 have H8:=H7.Af Hd
 refine Xu Y Y<|Xm Y<|Aa Bz<|OY Y<|Xf sS Y<|OY Y<|OV (EL xK Y (H8.cell (i:=2) Y Y))<|Aa Bz<|OY Y<|OV (ES Tryz.underlying73 Y)<|OY Y<|OT (yO Y Y) (fun La=>?_) (fun La=>?_)
 refine Xu Y Y<|Xr Bz<|J3 Y<|Rq<|Xa Y<|Xa Y<|Xr Bz<|J5<|BR<|yR<|BR<|Ea Y Y Y<|⟨_,_,Y,Ans.no (by rw[nB (by omega) (by omega),hinv];exact sO hx fun hh=>by omega),(HB.all H8).Ac⟩
 refine Xu Y Y<|Xr Bz<|J4 Y<|J6<|J1<|zR 8 [(true,0),(true,1),(true,2),(true,3),(true,4),(true,5),(true,6),(false,7),(false,8)] H8 [0,1,2] yG (by decide) (by kernel_rfl) ?_
 rintro w9 Qx
 have H9:=Hp.drew H8;rw[← Qx]at H9
 refine Zm Y Y<|Zc Y Y<|Zf Y IOa Y<|MP Y<|MV (fun wz hz=>EL TI Y (hz.cell (i:=1) Y Y))<|cZ Bz<|Zf Y vB Y<|MP Y<|MV (fun wz hz=>EL ty3 Y (hz.cell (i:=2) Y Y))<|MP Y<|MV (fun wz hz=>EN yZ Y (vs:=[.int .i64 x.slot,.int .i64 x.b.r,.int .i64 x.b.n,.slice Ax x.val.length kx]) Y (hz.Ad (i:=2) Y Y))<|MO Y<|OQ (EC TW Y) (EK x Ax kx (fun _=>True) _ (hbx.to (HB.all H9) (fun _ _ _=>⟨by simp,trivial⟩)))<|fun r w10 Hd=>have Ar:=H9.Af Hd;OE<|⟨fun hne=>Ar.pick [0,1,2] (by decide),?_⟩
 refine cZ Bz<|MO Y ?_
 have HW:=HB.all Ar
 refine jC Tryz.underlying261 Tryz.underlying3 HW Y Y Y (Lj.to Ar Xh) Xg<|fun Gm Bd Lj _=>?_
 have hgo:=AU (p:=p) (first:=first) (m:=m) hx ⟨by omega,by omega,Gt.1,Gt.2,Ld,by omega⟩
 refine OE ?_
 refine⟨fun hne=>absurd Y hne,?_⟩
 refine cZ Bz<|ME<|cR Bz<|J2<|Xf vB Y<|OV (EL ty3 Y (Bd.cell (i:=2) Y Y))<|OV (zL Y Y (IntWalk.i64_in _ (by omega)))<|Xa Y<|Xr Bz<|zA (zB ?_)
 refine J2<|OV (zL Y Y (IntWalk.i64_in _ (by omega)))<|Xm Y<|Xr Bz<|zA (zI ?_)
 exact⟨l.length - (i+1),by omega,i+1,_,x.slot+1,Y,(ft8 Y Y Y Y Y Y Y Y Y),by omega,by omega,by rw[hinv,hgo],by omega,Lj,Bd.pick [0,1] (by decide)⟩
 have H7:=H6.Af Hd
 refine OY Y<|Xn Y<|Xu Y Y<|Xm Y<|Aa Bz<|Oz 4 Y<|Aa Bz<|Xt Y Y<|Xm Y<|Aa Bz<|Oz 4 Y<|Aa Bz<|Xt Y Y<|Xr Bz<|J3 Y<|Rq<|Xa Y<|Xa Y<|Xr Bz<|J5<|BR<|yR<|BR<|Ea Y Y Y<|⟨_,_,Y,Ans.no (by rw[nB (by omega) (by omega),hinv];exact sO hx fun hh=>Gt ⟨hh.2.2.1,hh.2.2.2.1⟩),(HB.all H7).Ac⟩
 obtain rfl:i=l.length:=by omega
 refine Xr Bz<|J1<|J4 Y<|J8<|zT<|zS<|Rq<|Xm Y<|Xa Y<|Xa Y<|Xr Bz<|J5<|Ea Y Y Y<|⟨_,_,Y,Ans.ok (by rw[nB (by omega) (by omega),hinv];exact eN),(HB.all H4).Ac⟩
 any_goals
  clear m3
  refine Xm Y<|Aa Bz<|Oz 8 Y<|Aa Bz<|Xt Y Y<|Xr Bz<|J3 Y<|Rq<|Xa Y<|Xa Y<|Xr Bz<|J5<|Ea Y Y Y<|⟨_,_,Y,Ans.no (TU (by omega)),H1.Ac⟩
 any_goals
  clear m2
  refine Xm Y<|Aa Bz<|Oz 4 Y<|Aa Bz<|Xt Y Y<|Xm Y<|Aa Bz<|Oz 4 Y<|Aa Bz<|Xt Y Y<|Xm Y<|Aa Bz<|Oz 4 Y<|Aa Bz<|Xt Y Y<|Xr Bz<|J3 Y<|Rq<|Xa Y<|Xa Y<|Xr Bz<|J5<|BR<|yR<|BR<|Ea Y Y Y<|⟨_,_,Y,Ans.no (by rw[nB (by omega) (by omega),hinv];exact sO hx fun hh=>by omega),(HB.all H6).Ac⟩
 any_goals
  clear m1
  refine Xm Y<|Aa Bz<|Oz 4 Y<|Aa Bz<|Xt Y Y<|Xm Y<|Aa Bz<|Oz 4 Y<|Aa Bz<|Xt Y Y<|Xm Y<|Aa Bz<|Oz 4 Y<|Aa Bz<|Xt Y Y<|Xr Bz<|J3 Y<|Rq<|Xa Y<|Xa Y<|Xr Bz<|J5<|BR<|yR<|BR<|Ea Y Y Y<|⟨_,_,Y,Ans.no (by rw[nB (by omega) (by omega),hinv];exact sO hx fun hh=>by omega),(HB.all H7).Ac⟩
theorem VD (s:Sv) (A1:Option Addr) (k1:Nat) (A2:Option Addr) (k2:Nat) (A3:Option Addr) (k3:Nat) (ok:Nat→Prop) (w0:World) (hv1:Sl (Et w0 ok) 4 w0 ok A1 s.Ae) (hv2:Bs w0 ok A2 s.image) (hv3:Sl (Gs w0 ok) 2 w0 ok A3 s.entries) (hvl:s.Ae.length≤1000000000000000000) (Xp:s.entries.length≤1000000000000000000):zP Tryz.prog 120 #[.int .i64 1,.int .i64 5,.agg [.int .i64 s.p.r,.int .i64 s.p.n,.slice A1 s.Ae.length k1,.int .i64 s.index,.slice A2 s.image.length k2,.slice A3 s.entries.length k3].toArray] w0 (fun r w'=>∃ (v:Value) (e:Int),r=.tuple #[v,.int .i64 e]∧Ans (chk s) e∧Hp w0 w' [] []):=by
 refine zE Tryz.func120 Tryz.ntmps120 Y<|cR e115 ?_
 have H:=Hp.refl w0
 obtain⟨pe,hpe,hre,hae,he2⟩:=id hv3
 have hel:=he2.len
 refine Rq<|yA Y Y H<|fun w1 gs H1 _=>Xa Y<|Xa Y<|Xr e115<|J1<|Rq<|Xm Y<|Ij (yS Y Y) (by decide)<|Xm Y<|Aa e115<|OY Y<|Xm Y<|OY Y<|Ij (yS Y Y) (by decide)<|Xt Y Y<|Xm Y<|Aa e115<|OY Y<|Xm Y<|OY Y<|Dy (yS Y Y) (by decide)<|Xt Y Y<|Xm Y<|Aa e115<|OY Y<|Xm Y<|OY Y<|Dy (zQ Y Y) (by decide)<|Xu Y Y<|Xm Y<|Aa e115<|OY Y<|Xm Y<|OY Y<|Xm Y ?_
 refine Aa e115<|OY Y<|Dy (yO Y Y) (by decide)<|Xu Y Y<|Xr e115<|J4 Y<|J6<|J1<|Rq<|Xf vW Y<|OV (EN wX Y (vs:=[.int .i64 s.p.r,.int .i64 s.p.n]) Y (H1.Ad (i:=0) Y Y))<|OV (EB wX BG Y Y)<|OT (sB Y Y) (fun Le=>?_) (fun Le=>?_)
 refine Xm Y<|Aa e115<|OY Y<|Xf vW Y<|OY Y<|OV (EN wX Y (vs:=[.int .i64 s.p.r,.int .i64 s.p.n]) Y (H1.Ad (i:=0) Y Y))<|Aa e115<|OY Y<|Xm Y<|OY Y<|OX (EC gf170 Y) (Yu _ _ _) (fun Hr w2 Hd=>?_) (fun Hr w2 Hd=>?_)
 have H2:=H1.Af Hd
 refine OY Y<|Xn Y<|Xt Y Y<|Xm Y<|Aa e115<|OY Y<|Xf wR Y<|OY Y<|OV (EL ty3 Y (H2.cell (i:=0) Y Y))<|Aa e115<|OY Y<|OT (zQ Y Y) (fun hp45=>?_) (fun hp45=>?_)
 refine Xu Y Y<|Xm Y<|Aa e115<|Oz 3 Y<|Aa e115<|Xt Y Y ?_
 have m5:=()
 rotate_left 1
 refine Xu Y Y<|Xm Y<|Aa e115<|OY Y<|Xf wR Y<|OY Y<|OV (EL ty3 Y (H2.cell (i:=0) Y Y))<|Aa e115<|OY Y<|OT (yO Y Y) (fun Sr=>?_) (fun Sr=>?_)
 refine Xu Y Y ?_
 have m5:=()
 rotate_left 1
 refine Xu Y Y<|Xm Y<|Aa e115<|OY Y<|Xf wR Y<|OY Y<|OV (EL ty3 Y (H2.cell (i:=0) Y Y))<|Aa e115<|OY Y<|OT (xP Y Y) (fun XK=>?_) (fun XK=>?_)
 refine OY Y<|Xm Y<|OY Y<|Xf uU Y<|Aa e115<|OY Y<|OV (EL xK Y (H2.cell (i:=0) Y Y))<|OY Y<|OV (ES Tryz.underlying73 Y)<|Aa e115<|OY Y<|OT (yO Y Y) (fun XJ=>?_) (fun XJ=>?_)
 refine OY Y<|Xt Y Y<|Xu Y Y ?_
 have m3:=()
 rotate_left 1
 refine OY Y<|Xt Y Y ?_
 have m1:=()
 rotate_left 1
 refine OY Y<|Xm Y<|Oz 4 Y<|Aa e115<|OY Y<|Xu Y Y ?_
 have m1:=()
 rotate_left 1
 have H2:=H1.Af Hd
 refine OY Y<|Xn Y<|Xt Y Y<|Xm Y<|Aa e115<|Oz 3 Y<|Aa e115<|Xt Y Y<|Xm Y<|Aa e115<|Oz 3 Y<|Aa e115<|Xt Y Y<|Xm Y<|Aa e115<|Oz 9 Y<|Aa e115<|Xt Y Y<|Xm Y<|Aa e115<|Oz 4 Y<|Aa e115 ?_
 refine Xt Y Y<|Xr e115<|J3 Y<|Rq<|Xa Y<|Xa Y<|Xr e115<|J5<|Ea Y Y Y<|⟨_,_,Y,Ans.no (PQ (by omega)),H2.Ac⟩
 refine Xm Y<|Aa e115<|Oz 5 Y<|Aa e115<|Xu Y Y<|Xm Y<|Aa e115<|OY Y<|Xf wR Y<|OY Y<|OV (EL ty3 Y (H1.cell (i:=0) Y Y))<|Aa e115<|OY Y<|OT (zQ Y Y) (fun hp45=>?_) (fun hp45=>?_)
 refine Xu Y Y<|Xm Y<|Aa e115<|Oz 3 Y<|Aa e115<|Xt Y Y ?_
 have m6:=()
 rotate_left 1
 refine Xu Y Y<|Xm Y<|Aa e115<|OY Y<|Xf wR Y<|OY Y<|OV (EL ty3 Y (H1.cell (i:=0) Y Y))<|Aa e115<|OY Y<|OT (yO Y Y) (fun Sr=>?_) (fun Sr=>?_)
 refine Xu Y Y ?_
 have m6:=()
 rotate_left 1
 refine Xu Y Y<|Xm Y<|Aa e115<|OY Y<|Xf wR Y<|OY Y<|OV (EL ty3 Y (H1.cell (i:=0) Y Y))<|Aa e115<|OY Y<|OT (xP Y Y) (fun XK=>?_) (fun XK=>?_)
 refine OY Y<|Xm Y<|OY Y<|Xf uU Y<|Aa e115<|OY Y<|OV (EL xK Y (H1.cell (i:=0) Y Y))<|OY Y<|OV (ES Tryz.underlying73 Y)<|Aa e115<|OY Y<|OT (yO Y Y) (fun XJ=>?_) (fun XJ=>?_)
 refine OY Y<|Xt Y Y<|Xu Y Y ?_
 have m4:=()
 rotate_left 1
 refine OY Y<|Xt Y Y ?_
 have m2:=()
 rotate_left 1
 refine OY Y<|Xm Y<|Oz 4 Y<|Aa e115<|OY Y<|Xu Y Y ?_
 have m2:=()
 rotate_left 1
 any_goals
  clear m6
  refine Xm Y<|Aa e115<|Oz 9 Y<|Aa e115<|Xt Y Y ?_
  have m4:=()
  rotate_left 1
 any_goals
  clear m5
  refine Xm Y<|Aa e115<|Oz 9 Y<|Aa e115<|Xt Y Y ?_
  have m3:=()
  rotate_left 1
 any_goals
  clear m4
  refine Xm Y<|Aa e115<|Oz 4 Y<|Aa e115<|Xt Y Y<|Xr e115<|J3 Y<|Rq<|Xa Y<|Xa Y<|Xr e115<|J5<|Ea Y Y Y<|⟨_,_,Y,Ans.no (lS (by omega)),H1.Ac⟩
 any_goals
  clear m3
  refine Xm Y<|Aa e115<|Oz 4 Y<|Aa e115<|Xt Y Y<|Xr e115<|J3 Y<|Rq<|Xa Y<|Xa Y<|Xr e115<|J5<|Ea Y Y Y<|⟨_,_,Y,Ans.no (lS (by omega)),H2.Ac⟩
 any_goals
  clear m2
  refine Xu Y Y<|Xm Y<|Aa e115<|OY Y<|Xf uU Y<|OY Y<|OV (EL xK Y (H1.cell (i:=0) Y Y))<|Aa e115<|OY Y<|OV (ES Tryz.underlying73 Y)<|OY Y<|OT (yO Y Y) (fun La=>?_) (fun La=>?_)
  refine Xu Y Y<|Xr e115<|J3 Y<|Rq<|Xa Y<|Xa Y<|Xr e115<|J5<|Ea Y Y Y<|⟨_,_,Y,Ans.no (lS (by omega)),H1.Ac⟩
  refine Xu Y Y<|Xr e115<|J4 Y<|J6<|J1<|Rq<|Xf xZ Y<|OV (EL uZ Y (H1.cell (i:=0) Y Y))<|OV (ES Tryz.underlying95 Y)<|Xm Y<|Xr e115<|J7<|zU (fun nQ lQ w=>∃ (i:Nat) (y:Int),s.entries.length - i=nQ∧xN (Dj [(1,.int .i64 5),(5,.pointer (some ⟨gs,0,none⟩)),(70,.slice A3 s.entries.length k3),(71,.int .i64 (s.entries.length:Int)),(72,.int .i64 y)] 0 115) lQ∧y=(i:Int)∧i≤s.entries.length∧tH s.index s.entries=tH (s.index+i) (s.entries.drop i)∧Hp w0 w [] [((some gs,97,[.int .i64 s.p.r,.int .i64 s.p.n,.slice A1 s.Ae.length k1,.int .i64 s.index,.slice A2 s.image.length k2,.slice A3 s.entries.length k3]):Ent)]) (s.entries.length) ?_ ?_
  exact⟨0,_,Y,(Ez Y Y Y Y Y Y),Y,Nat.zero_le _,by simp,H1⟩
  rintro nQ lQ w2 ⟨i,y,rfl,hfit,rfl,hi,hinv,H2⟩
  obtain⟨j,rfl⟩:=hfit.open
  refine cR e115 ?_
  clear hfit
  refine Rq<|OT (zQ Y Y) (fun Oq=>?_) (fun Oq=>?_)
  have hil:i < s.entries.length:=by omega
  obtain⟨x,hx⟩:=yM hil
  obtain⟨p1,hp1,hR⟩:=he2.get hx
  obtain⟨Ax,kx,rfl,hbx⟩:=hR
  obtain⟨a1,ha1⟩:=hre.some_ (by omega)
  subst ha1
  refine Xr e115<|J1<|J3 Y<|J6<|J1<|J7<|Rq<|Xm Y<|OV (EI Tryz.underlying95 wD Y Y Y hil Y)<|OV (EN wD Y (vs:=[.int .i64 x.slot,.slice Ax x.val.length kx]) Y ((hre.to0 H2).elem hpe hp1))<|OA wD H2<|fun w3 g3 H3 hg3=>Aa e115<|Xa Y<|OS wD H3 1 Y Y Y Y Y (by first|exact NL Y|simp[zH]) Y<|fun w4 H4=>Xr e115<|Rq<|Xf wE Y<|OV (EL ty3 Y (H4.cell (i:=1) Y Y))<|Xf wR Y<|OV (EL ty3 Y (H4.cell (i:=0) Y Y))<|Aa e115<|OV (zL Y Y (IntWalk.i64_in _ (by omega)))<|Xm Y<|OV (zL Y Y (IntWalk.i64_in _ (by omega)))<|OT (yS Y Y) (fun XE=>?_) (fun XE=>?_)
  refine Xm Y<|Aa e115<|Oz 3 Y<|Aa e115<|Xt Y Y<|Xm Y<|Aa e115<|Oz 4 Y<|Aa e115<|Xt Y Y<|Xr e115<|J3 Y<|Rq<|Xa Y<|Xa Y<|Xr e115<|J5<|BR<|yR<|BR<|Ea Y Y Y<|⟨_,_,Y,Ans.no (qO (by rw[hinv];exact qN hx fun hh=>by omega)),H4.Ac⟩
  refine Xm Y<|Aa e115<|OY Y<|Xf wE Y<|OY Y<|OV (EL ty3 Y (H4.cell (i:=1) Y Y))<|Aa e115<|OY Y<|OT (yO Y Y) (fun XC=>?_) (fun XC=>?_)
  refine Xu Y Y<|Xm Y<|Aa e115<|Oz 4 Y<|Aa e115<|Xt Y Y<|Xr e115<|J3 Y<|Rq<|Xa Y<|Xa Y<|Xr e115<|J5<|BR<|yR<|BR<|Ea Y Y Y<|⟨_,_,Y,Ans.no (qO (by rw[hinv];exact qN hx fun hh=>by omega)),H4.Ac⟩
  refine Xu Y Y<|Xm Y<|Aa e115<|OY Y<|Xf uV Y<|OY Y<|OV (EL xK Y (H4.cell (i:=1) Y Y))<|Aa e115<|OY Y<|OV (ES Tryz.underlying73 Y)<|OY Y<|OT (yO Y Y) (fun Qn=>?_) (fun Qn=>?_)
  refine Xu Y Y<|Xr e115<|J3 Y<|Rq<|Xa Y<|Xa Y<|Xr e115<|J5<|BR<|yR<|BR<|Ea Y Y Y<|⟨_,_,Y,Ans.no (qO (by rw[hinv];exact qN hx fun hh=>by omega)),H4.Ac⟩
  refine Xu Y Y<|Xr e115<|J4 Y<|J6<|zA (zB ?_)
  refine J2<|OV (zL Y Y (IntWalk.i64_in _ (by omega)))<|Xm Y<|Xr e115<|zA (zI ?_)
  have hgo:=B7 (m:=s.index+i) hx ⟨by omega,by omega,by omega⟩
  exact⟨s.entries.length - (i+1),by omega,i+1,_,Y,(Ez Y Y Y Y Y Y),by omega,by omega,by rw[hinv,hgo];congr 1;omega,H4.pick [0] (by decide)⟩
  obtain rfl:i=s.entries.length:=by omega
  have hent:=hinv.trans dA
  refine Xr e115<|J1<|J4 Y<|J8<|zT<|zS<|Rq<|Xf vW Y<|OV (EN wX Y (vs:=[.int .i64 s.p.r,.int .i64 s.p.n]) Y (H2.Ad (i:=0) Y Y))<|Xf wR Y<|OV (EL ty3 Y (H2.cell (i:=0) Y Y))<|Aa e115<|Xf xZ Y<|OV (EL uZ Y (H2.cell (i:=0) Y Y))<|OV (ES Tryz.underlying95 Y)<|OV (zL Y Y (IntWalk.i64_in _ (by omega)))<|Aa e115<|OV (zL Y Y (IntWalk.i64_in _ (by omega)))<|Xf xV Y<|OV (EL uP Y (H2.cell (i:=0) Y Y))<|OQ (EC TX Y) (NR s.p (s.index+s.entries.length+1) A1 k1 s.Ae ok _ (hv1.Gi H2 k0) (by omega)) ?_
  rintro _ w3 ⟨v,e,rfl,hans,Hd⟩
  have H3:=H2.Af Hd
  rw[← CA (by omega) (by omega) hent]at hans
  refine Aa e115<|Xm Y<|Xe Y Y<|Xe Y Y<|Xa Y<|Aa e115<|Xa Y<|Xr e115<|J1<|Rq<|Xm Y<|OT (yS Y Y) (fun Nk=>?_) (fun Nk=>?_)
  refine Xr e115<|J3 rfl<|Rq<|Xa rfl<|Xa rfl<|Xr e115<|J5<|Ea rfl rfl rfl<|⟨_,_,rfl,Ans.no (by cases hc:chk s with | false=>rfl | true=>exact absurd (hans.1 hc) Nk),H3.Ac⟩
  refine Xr e115<|J4 rfl<|J6<|Rq<|Xm rfl<|Xa rfl<|Xa rfl<|Xr e115<|J5<|Ea rfl rfl rfl<|⟨_,_,rfl,Ans.ok (by cases hc:chk s with | true=>rfl | false=>have:=hans.2 hc;omega),H3.Ac⟩
 any_goals
  clear m1
  refine Xu Y Y<|Xm Y<|Aa e115<|OY Y<|Xf uU Y<|OY Y<|OV (EL xK Y (H2.cell (i:=0) Y Y))<|Aa e115<|OY Y<|OV (ES Tryz.underlying73 Y)<|OY Y<|OT (yO Y Y) (fun La=>?_) (fun La=>?_)
  refine Xu Y Y<|Xr e115<|J3 Y<|Rq<|Xa Y<|Xa Y<|Xr e115<|J5<|Ea Y Y Y<|⟨_,_,Y,Ans.no (lS (by omega)),H2.Ac⟩
  refine Xu Y Y<|Xr e115<|J4 Y<|J6<|J1<|Rq<|Xf xZ Y<|OV (EL uZ Y (H2.cell (i:=0) Y Y))<|OV (ES Tryz.underlying95 Y)<|Xm Y<|Xr e115<|J7<|zU (fun nQ lQ w=>∃ (i:Nat) (y:Int),s.entries.length - i=nQ∧xN (Dj [(1,.int .i64 5),(5,.pointer (some ⟨gs,0,none⟩)),(70,.slice A3 s.entries.length k3),(71,.int .i64 (s.entries.length:Int)),(72,.int .i64 y)] 0 115) lQ∧y=(i:Int)∧i≤s.entries.length∧tH s.index s.entries=tH (s.index+i) (s.entries.drop i)∧Hp w0 w [] [((some gs,97,[.int .i64 s.p.r,.int .i64 s.p.n,.slice A1 s.Ae.length k1,.int .i64 s.index,.slice A2 s.image.length k2,.slice A3 s.entries.length k3]):Ent)]) (s.entries.length) ?_ ?_
  exact⟨0,_,Y,(Ez Y Y Y Y Y Y),Y,Nat.zero_le _,by simp,H2⟩
  rintro nQ lQ w3 ⟨i,y,rfl,hfit,rfl,hi,hinv,H3⟩
  obtain⟨j,rfl⟩:=hfit.open
  refine cR e115 ?_
  clear hfit
  refine Rq<|OT (zQ Y Y) (fun Oq=>?_) (fun Oq=>?_)
  have hil:i < s.entries.length:=by omega
  obtain⟨x,hx⟩:=yM hil
  obtain⟨p1,hp1,hR⟩:=he2.get hx
  obtain⟨Ax,kx,rfl,hbx⟩:=hR
  obtain⟨a1,ha1⟩:=hre.some_ (by omega)
  subst ha1
  refine Xr e115<|J1<|J3 Y<|J6<|J1<|J7<|Rq<|Xm Y<|OV (EI Tryz.underlying95 wD Y Y Y hil Y)<|OV (EN wD Y (vs:=[.int .i64 x.slot,.slice Ax x.val.length kx]) Y ((hre.to0 H3).elem hpe hp1))<|OA wD H3<|fun w4 g4 H4 hg4=>Aa e115<|Xa Y<|OS wD H4 1 Y Y Y Y Y (by first|exact NL Y|simp[zH]) Y<|fun w5 H5=>Xr e115<|Rq<|Xf wE Y<|OV (EL ty3 Y (H5.cell (i:=1) Y Y))<|Xf wR Y<|OV (EL ty3 Y (H5.cell (i:=0) Y Y))<|Aa e115<|OV (zL Y Y (IntWalk.i64_in _ (by omega)))<|Xm Y<|OV (zL Y Y (IntWalk.i64_in _ (by omega)))<|OT (yS Y Y) (fun XE=>?_) (fun XE=>?_)
  refine Xm Y<|Aa e115<|Oz 3 Y<|Aa e115<|Xt Y Y<|Xm Y<|Aa e115<|Oz 4 Y<|Aa e115<|Xt Y Y<|Xr e115<|J3 Y<|Rq<|Xa Y<|Xa Y<|Xr e115<|J5<|BR<|yR<|BR<|Ea Y Y Y<|⟨_,_,Y,Ans.no (qO (by rw[hinv];exact qN hx fun hh=>by omega)),H5.Ac⟩
  refine Xm Y<|Aa e115<|OY Y<|Xf wE Y<|OY Y<|OV (EL ty3 Y (H5.cell (i:=1) Y Y))<|Aa e115<|OY Y<|OT (yO Y Y) (fun XC=>?_) (fun XC=>?_)
  refine Xu Y Y<|Xm Y<|Aa e115<|Oz 4 Y<|Aa e115<|Xt Y Y<|Xr e115<|J3 Y<|Rq<|Xa Y<|Xa Y<|Xr e115<|J5<|BR<|yR<|BR<|Ea Y Y Y<|⟨_,_,Y,Ans.no (qO (by rw[hinv];exact qN hx fun hh=>by omega)),H5.Ac⟩
  refine Xu Y Y<|Xm Y<|Aa e115<|OY Y<|Xf uV Y<|OY Y<|OV (EL xK Y (H5.cell (i:=1) Y Y))<|Aa e115<|OY Y<|OV (ES Tryz.underlying73 Y)<|OY Y<|OT (yO Y Y) (fun Qn=>?_) (fun Qn=>?_)
  refine Xu Y Y<|Xr e115<|J3 Y<|Rq<|Xa Y<|Xa Y<|Xr e115<|J5<|BR<|yR<|BR<|Ea Y Y Y<|⟨_,_,Y,Ans.no (qO (by rw[hinv];exact qN hx fun hh=>by omega)),H5.Ac⟩
  refine Xu Y Y<|Xr e115<|J4 Y<|J6<|zA (zB ?_)
  refine J2<|OV (zL Y Y (IntWalk.i64_in _ (by omega)))<|Xm Y<|Xr e115<|zA (zI ?_)
  have hgo:=B7 (m:=s.index+i) hx ⟨by omega,by omega,by omega⟩
  exact⟨s.entries.length - (i+1),by omega,i+1,_,Y,(Ez Y Y Y Y Y Y),by omega,by omega,by rw[hinv,hgo];congr 1;omega,H5.pick [0] (by decide)⟩
  obtain rfl:i=s.entries.length:=by omega
  have hent:=hinv.trans dA
  refine Xr e115<|J1<|J4 Y<|J8<|zT<|zS<|Rq<|Xf vW Y<|OV (EN wX Y (vs:=[.int .i64 s.p.r,.int .i64 s.p.n]) Y (H3.Ad (i:=0) Y Y))<|Xf wR Y<|OV (EL ty3 Y (H3.cell (i:=0) Y Y))<|Aa e115<|Xf xZ Y<|OV (EL uZ Y (H3.cell (i:=0) Y Y))<|OV (ES Tryz.underlying95 Y)<|OV (zL Y Y (IntWalk.i64_in _ (by omega)))<|Aa e115<|OV (zL Y Y (IntWalk.i64_in _ (by omega)))<|Xf xV Y<|OV (EL uP Y (H3.cell (i:=0) Y Y))<|OQ (EC TX Y) (NR s.p (s.index+s.entries.length+1) A1 k1 s.Ae ok _ (hv1.Gi H3 k0) (by omega)) ?_
  rintro _ w4 ⟨v,e,rfl,hans,Hd⟩
  have H4:=H3.Af Hd
  rw[← CA (by omega) (by omega) hent]at hans
  refine Aa e115<|Xm Y<|Xe Y Y<|Xe Y Y<|Xa Y<|Aa e115<|Xa Y<|Xr e115<|J1<|Rq<|Xm Y<|OT (yS Y Y) (fun Nk=>?_) (fun Nk=>?_)
  refine Xr e115<|J3 rfl<|Rq<|Xa rfl<|Xa rfl<|Xr e115<|J5<|Ea rfl rfl rfl<|⟨_,_,rfl,Ans.no (by cases hc:chk s with | false=>rfl | true=>exact absurd (hans.1 hc) Nk),H4.Ac⟩
  refine Xr e115<|J4 rfl<|J6<|Rq<|Xm rfl<|Xa rfl<|Xa rfl<|Xr e115<|J5<|Ea rfl rfl rfl<|⟨_,_,rfl,Ans.ok (by cases hc:chk s with | true=>rfl | false=>have:=hans.2 hc;omega),H4.Ac⟩
theorem S6 (s:Sv) (A1:Option Addr) (k1:Nat) (A2:Option Addr) (k2:Nat) (A3:Option Addr) (k3:Nat) (ok:Nat→Prop) (w0:World) (hv1:Sl (Et w0 ok) 4 w0 ok A1 s.Ae) (hv2:Bs w0 ok A2 s.image) (hv3:Sl (Gs w0 ok) 2 w0 ok A3 s.entries) (hvl:s.Ae.length≤1000000000000000000) (Xp:s.entries.length≤1000000000000000000):zP Tryz.prog 68 #[.int .i64 1,.int .i64 5,.agg [.int .i64 s.p.r,.int .i64 s.p.n,.slice A1 s.Ae.length k1,.int .i64 s.index,.slice A2 s.image.length k2,.slice A3 s.entries.length k3].toArray] w0 (fun r w'=>∃ e:Int,r=.int .i64 e∧Ans (chk s) e∧Hp w0 w' [] []):=by
 refine zE Tryz.func68 Tryz.ntmps68 Y<|cR e17 ?_
 have H:=Hp.refl w0
 refine Rq<|yA Y Y H<|fun w1 g1 H1 hg1=>Xa Y<|Xr e17<|Rq<|Xm Y<|Xm Y<|OV (EN xW Y (vs:=[.int .i64 s.p.r,.int .i64 s.p.n,.slice A1 s.Ae.length k1,.int .i64 s.index,.slice A2 s.image.length k2,.slice A3 s.entries.length k3]) Y (H1.Ad (i:=0) Y Y))<|OQ (EC gf120 Y) (VD s A1 k1 A2 k2 A3 k3 ok _ (hv1.Gi H1 k0) (hv2.to H1 k0) (hv3.Hu H1 k0) hvl Xp) ?_
 rintro _ w2 ⟨v,e,rfl,hans,Hd⟩
 have H2:=H1.Af Hd
 refine Aa e17<|Xm Y<|Xe Y Y<|Xe Y Y<|Xa Y<|Aa e17<|Xa Y<|Xr e17<|Rq<|Xm Y<|Xa Y<|Xr e17<|J5<|Ak Y Y<|⟨_,Y,hans,H2.Ac⟩
end Go.Proofs.YtjoeklkmnfaabaaGreat
namespace Go.Proofs.YtjoeklkmnfaabaaGreat
set_option maxRecDepth 100000
set_option maxHeartbeats 16000000
open Go Go.RowKit
set_option linter.unusedVariables false
attribute [local irreducible] yT Ops zP Cd
theorem S7 (A:Option Addr) (k:Nat) (l:List Rt) (ok:Nat→Prop) (w0:World) (hl:Sl Fb 4 w0 ok A l) (hn:l.length≤1000000000000) (hso:qJ l):zP Tryz.prog 152 #[.slice A l.length k] w0 (fun r w'=>r=.int .i64 0∧Hp w0 w' [] []):=by
 refine zE Tryz.func152 Tryz.ntmps152 Y<|cR e30 ?_
 have H:=Hp.refl w0
 obtain⟨ps,hp,hr,ha,h2⟩:=id hl
 have hlen:=h2.len
 obtain⟨Ku,hrise⟩:=sX hso
 refine Rq<|Xa Y<|Xr e30<|J1<|Rq<|Xm Y<|OV (ES Tryz.underlying38 Y)<|Xm Y<|Xr e30<|J7<|zU (fun nQ lQ w=>∃ (i:Nat) (y:Int),l.length - i=nQ∧xN (Dj [(0,.slice A l.length k),(5,.slice A l.length k),(6,.int .i64 (l.length:Int)),(7,.int .i64 y)] 0 30) lQ∧y=(i:Int)∧i≤l.length∧Hp w0 w [] []) (l.length) ?_ ?_
 exact⟨0,_,Y,(Dv Y Y Y Y Y),Y,Nat.zero_le _,H⟩
 rintro nQ lQ w1 ⟨i,y,rfl,hfit,rfl,hi,H1⟩
 obtain⟨j,rfl⟩:=hfit.open
 refine cR e30 ?_
 clear hfit
 refine Rq<|OT (zQ Y Y) (fun hp8=>?_) (fun hp8=>?_)
 have hil:i < l.length:=by omega
 obtain⟨x,hx⟩:=yM hil
 obtain⟨p1,hp1,hR⟩:=h2.get hx
 unfold Fb at hR
 subst hR
 obtain⟨a1,ha1⟩:=hr.some_ (by omega)
 subst ha1
 have hmay:=Ku x (mem_of hx)
 refine Xr e30<|J1<|J3 Y<|J6<|J1<|J7<|Rq<|Xm Y<|OV (EI Tryz.underlying38 xR Y Y Y hil Y)<|OV (EN xR Y (vs:=[.int .i64 x.g,yC x.key,.int .i64 x.Ai,.int .i64 x.net]) Y ((hr.to0 H1).elem hp hp1))<|OA xR H1<|fun w2 g2 H2 hg2=>Aa e30<|Xa Y<|OS xR H2 0 Y Y Y Y Y (by first|exact NL Y|simp[zH]) Y<|fun w3 H3=>Xr e30<|J1<|zR 16 [(true,0),(false,1),(true,2),(true,3),(true,4),(true,5),(true,6),(true,7),(true,8),(true,9),(true,10),(true,11),(true,12),(false,13),(true,14),(true,15),(false,16)] H3 [0] yG (by decide) (by kernel_rfl) ?_
 rintro w4 hw4
 have H4:=Hp.drew H3;rw[← hw4]at H4
 refine MP Y<|MV (fun wz hz=>EN xR Y (vs:=[.int .i64 x.g,yC x.key,.int .i64 x.Ai,.int .i64 x.net]) Y (hz.Ad (i:=0) Y Y))<|MO Y<|oJ (EC T0 Y) (TR _ _) (hmay)<|fun w5 Hd=>have H5:=H4.Af Hd;OE<|⟨fun hne=>H5.pick [0] (by decide),?_⟩
 refine cZ e30<|MP Y<|MV (fun wz hz=>iA Y)<|Zm Y Y<|MP Y<|MY Y<|MV (fun wz hz=>zK Y)<|MP Y<|MY Y<|vU (fun wz hz=>yO Y Y) (fun hp17=>?_) (fun hp17=>?_)
 obtain⟨y,hy⟩:=yM (l:=l) (j:=i - 1) (by omega)
 obtain⟨p2,hp2,hR2⟩:=h2.get hy
 unfold Fb at hR2
 subst hR2
 have hneg:nA y x < 0:=RZ.2 (hrise (i - 1) i y x (by omega) hy hx)
 refine MP Y<|MY Y<|MV (fun wz hz=>zK Y)<|cZ e30<|MP Y<|MY Y<|MV (fun wz hz=>zK Y)<|MP Y<|MY Y<|MV (fun wz hz=>zK Y)<|MP Y<|MY Y<|MV (fun wz hz=>uW Y Y (IntWalk.i64_in _ (by omega)))<|MP Y<|MY Y<|MV (fun wz hz=>EI Tryz.underlying38 xR Y Y (len:=l.length) (i:=i - 1) (by omega) (by omega) Y)<|cZ e30<|MP Y<|MY Y<|MV (fun wz hz=>EN xR Y (vs:=[.int .i64 y.g,yC y.key,.int .i64 y.Ai,.int .i64 y.net]) Y ((hr.to0 hz).elem hp hp2))<|MP Y<|MY Y<|MV (fun wz hz=>EN xR Y (vs:=[.int .i64 x.g,yC x.key,.int .i64 x.Ai,.int .i64 x.net]) Y (hz.Ad (i:=0) Y Y))<|MO Y<|OY Y<|OC (EC TZ Y) (M5 y x _)<|fun w6 Hd=>have H6:=H5.Af Hd;OE<|⟨fun hne=>H6.pick [0] (by decide),?_⟩
 refine cZ e30<|MP Y<|MY Y<|tW (fun wz hz=>wL Y Y) (by omega)<|MP Y<|MY Y<|MV (fun wz hz=>xS Y Y)<|MO Y<|Xu Y Y<|OE<|⟨fun hne=>absurd Y hne,?_⟩
 refine cZ e30<|ME<|cR e30<|J4 Y<|J6<|zA (zB ?_)
 refine J2<|OV (zL Y Y (IntWalk.i64_in _ (by omega)))<|Xm Y<|Xr e30<|zA (zI ?_)
 exact⟨l.length - (i+1),by omega,i+1,_,Y,(Dv Y Y Y Y Y),by omega,by omega,H6.Ac⟩
 refine MP Y<|MY Y<|MV (fun wz hz=>zK Y)<|cZ e30<|MP Y<|MZ Y<|MP Y<|MZ Y<|cZ e30<|MP Y<|MZ Y<|MP Y<|MZ Y<|cZ e30<|MP Y<|MZ Y<|MP Y<|MZ Y<|cZ e30<|MO Y<|OZ Y<|OE<|⟨fun hne=>H5.pick [0] (by decide),?_⟩
 refine MP Y<|MZ Y<|cZ e30<|MP Y<|MY Y<|MV (fun wz hz=>wT Y Y)<|MO Y<|Xu Y Y<|OE<|⟨fun hne=>absurd Y hne,?_⟩
 refine cZ e30<|ME<|cR e30<|J4 Y<|J6<|zA (zB ?_)
 refine J2<|OV (zL Y Y (IntWalk.i64_in _ (by omega)))<|Xm Y<|Xr e30<|zA (zI ?_)
 exact⟨l.length - (i+1),by omega,i+1,_,Y,(Dv Y Y Y Y Y),by omega,by omega,H5.Ac⟩
 refine Xr e30<|J1<|J4 Y<|J8<|zT<|zS<|Rq<|Xa Y<|Xr e30<|J5<|Ak Y Y<|⟨Y,H1.Ac⟩
theorem Yf (x:Rt) (A:Option Addr) (k:Nat) (l:List Rt) (ok:Nat→Prop) (w0:World) (hl:Sl Fb 4 w0 ok A l) (hn:l.length≤1000000000000) (hso:qJ l):zP Tryz.prog 111 #[.slice A l.length k,.agg [.int .i64 x.g,yC x.key,.int .i64 x.Ai,.int .i64 x.net].toArray] w0 (fun r w'=>(nW x→∃ A' k',r=.tuple #[.slice A' (Di l x).length k',.int .i64 0]∧Sl Fb 4 w' (fun b=>w0.heap.size≤b) A' (Di l x))∧(¬nW x→r=.tuple #[.slice none 0 0,.int .i64 1])∧Hp w0 w' [] []):=by
 refine zE Tryz.func111 Tryz.ntmps111 Y<|cR e34 ?_
 have H:=Hp.refl w0
 obtain⟨ps,hp,hr,ha,h2⟩:=id hl
 have hlen:=h2.len
 obtain⟨Ku,hrise⟩:=sX hso
 have hon:=h2.ones fun _ _ h=>h.ones
 refine Rq<|yA Y Y H<|fun w1 gx H1 _=>Xa Y<|Xa Y<|Xr e34<|J1<|Rq<|Xm Y<|OC (EC gf152 Y) (S7 A k l ok _ (hl.toR H1 k0) hn hso)<|fun w2 Hd=>have H2:=H1.Af Hd;Dy (yS Y Y) (by decide)<|Xr e34<|J4 Y<|J6<|J1<|Rq<|OV (EN xR Y (vs:=[.int .i64 x.g,yC x.key,.int .i64 x.Ai,.int .i64 x.net]) Y (H2.Ad (i:=0) Y Y))<|OX (EC T0 Y) (TR _ _) (fun Gh w3 Hd=>?_) (fun Gh w3 Hd=>?_)
 have H3:=H2.Af Hd
 refine Xn Y<|Xr e34<|J4 Y<|J6<|Rq<|Xm Y<|OQ (EC VY Y) (F9 A l.length k ps.flatten _ (hr.to0 H3) (xF hon) (by omega)) ?_
 rintro _ w4 ⟨gv,cv,sv,rfl,hmv,hcv,Ie,Hc⟩
 have hgf:=wO (ok:=fun _=>False) Hc (i:=0) rfl (fun _ h=>by cases h)
 have hsz1:=H3.size
 have H4:=H3.call0 Hc
 refine Xa Y<|Xr e34<|Rq<|Xm Y<|OV (EN xR Y (vs:=[.int .i64 x.g,yC x.key,.int .i64 x.Ai,.int .i64 x.net]) Y (H4.Ad (i:=0) Y Y)) ?_
 have hrs:=H4.rd (i:=1) (xs:=ps.flatten) (sp:=sv) rfl hp.len (by decide)
 refine OQ (EC gf154 Y) (PS (hd gv) cv ps l.length hlen 155 (Eu x) Y (RC x) _ hp hrs (by omega) (K6 h2 (BA hrise x))) ?_
 rintro _ w5 ⟨i,f,rfl,hfd,Hd⟩
 have H5:=H4.Af Hd
 refine Xm Y<|Aa e34<|Xe Y Y<|Xe Y Y<|Xa Y<|Xa Y<|Xr e34<|J1<|Rq<|Xm Y<|Xr e34<|wU Y (fun Vr=>?_) (fun Vr=>?_)
 obtain⟨pi,hpi,_⟩:=hfd.yes Vr
 have hil:=lt_of_get hpi
 obtain⟨gw,rfl⟩:=vK H5 (i:=1) rfl (by rw[List.length_append,hp.len];omega)
 subst Vr
 refine Rq<|Xm Y<|Xm Y<|OV (EN xR Y (vs:=[.int .i64 x.g,yC x.key,.int .i64 x.Ai,.int .i64 x.net]) Y (H5.Ad (i:=0) Y Y))<|OV (uR Tryz.underlying38 xR Y Y Y (by omega))<|Aa e34<|OS xR H5 1 Y Y Y Y Y (by rw[List.length_append,hp.len];show 0+i*4+4≤_;omega) Y<|fun w6 H6=>?_
 rw[nL (sz:=4) (vs:=Eu x) hp hil rfl]at H6
 replace H6:=H6.pick [0,1] (by decide)
 refine Xr e34<|Rq<|Xm Y<|Xa Y<|Xa Y<|Xr e34<|J5<|Ea Y Y Y ?_
 have hput:=hfd.put (v:=x) h2 (fun p x h=>eQ h) (BA hrise x)
 rw[← C5]at hput
 have HZ:=H6
 rw[if_pos rfl]at hput
 refine⟨fun _=>⟨hd (some gw),cv,by rw[hput,List.length_set],?_⟩,fun h=>absurd Gh h,H6.Ac⟩
 rw[hput]
 exact Sl.row HZ (i:=1) Y (hp.Hy Y) (by decide) (h2.set i Y) (fun b hb=>by
  rcases HZ.place (i:=1) (g:=b) (by cases hb;rfl)with h | h
  · cases h
  · exact h)
 subst Vr
 refine J6<|Rq<|Xm Y<|Xm Y<|OV (EN xR Y (vs:=[.int .i64 x.g,yC x.key,.int .i64 x.Ai,.int .i64 x.net]) Y (H5.Ad (i:=0) Y Y))<|zG Tryz.underlying38 xR H5 Y (by decide) Y<|fun w6 g6 H6 Vo=>Aa e34<|OQ (EC gf156 Y) (SJ gv cv i _ l.length ps hlen (Eu x) sv _ (H6.pick [1] (by decide)).here hp hon (by omega) hcv Ie hfd.le (H6.at (i:=2) Y) Y Y (Bh H6 (i:=2) (is:=[1]) Y (by decide)) (by omega)) ?_
 rintro _ w7 ⟨gw,cw,sw,rfl,hnw,hcw,hgw,Hd⟩
 rw[hlen]
 have H7:=(H6.Am [1] rfl Hd).pick [0,3] (by decide)
 refine Xa Y<|Xa Y<|Xr e34<|J5<|Ea Y Y Y ?_
 have hput:=hfd.put (v:=x) h2 (fun p x h=>eQ h) (BA hrise x)
 rw[← C5]at hput
 have HZ:=H7
 rw[if_neg (by decide)]at hput
 have hle:=hfd.le
 have X8:(l.take i++x::l.drop i).length=l.length+1:=by rw[List.length_append,List.length_cons,List.length_take,List.length_drop];omega
 refine⟨fun _=>⟨hd gw,cw,by rw[hput,X8],?_⟩,fun h=>absurd Gh h,H7.Ac⟩
 rw[hput]
 exact Sl.row HZ (i:=1) Y ((hp.sub fun x hx=>List.mem_of_mem_take hx).app fun x hx=>by
  rcases List.mem_cons.1 hx with rfl | hx
  · rfl
  · exact hp x (List.mem_of_mem_drop hx)) (by decide) ((h2.take i).app ⟨Y,h2.drop i⟩) (fun b hb=>by
  rcases HZ.place (i:=1) (g:=b) (by cases hb;rfl)with h | h
  · cases h
  · exact h)
 have H3:=H2.Af Hd
 refine Xn Y<|Xr e34<|J3 Y<|Rq<|Xa Y<|Xa Y<|Xr e34<|J5<|Ea Y Y Y<|⟨fun h=>absurd h Gh,fun _=>Y,H3.Ac⟩
theorem S4 (A:Option Addr) (k:Nat) (l:List Mk) (ok:Nat→Prop) (w0:World) (hl:Sl Fp 7 w0 ok A l) (hn:l.length≤1000000000000) (hso:tV 0 l):zP Tryz.prog 157 #[.slice A l.length k] w0 (fun r w'=>r=.int .i64 0∧Hp w0 w' [] []):=by
 refine zE Tryz.func157 Tryz.ntmps157 Y<|cR e49 ?_
 have H:=Hp.refl w0
 obtain⟨ps,hp,hr,ha,h2⟩:=id hl
 have hlen:=h2.len
 obtain⟨Ub,hrise⟩:=vV hso
 refine Rq<|Xa Y<|Xr e49<|Rq<|Xa Y<|Xr e49<|J1<|Rq<|Xm Y<|OV (ES Tryz.underlying39 Y)<|Xm Y<|Xr e49<|J7<|zU (fun nQ lQ w=>∃ (i:Nat) (y m:Int),l.length - i=nQ∧xN (Dj [(3,.int .i64 m),(6,.slice A l.length k),(7,.int .i64 (l.length:Int)),(8,.int .i64 y)] 0 49) lQ∧y=(i:Int)∧i≤l.length∧tV m (l.drop i)∧Hp w0 w [] []) (l.length) ?_ ?_
 exact⟨0,_,0,Y,(Dv Y Y Y Y Y),Y,Nat.zero_le _,hso,H⟩
 rintro nQ lQ w1 ⟨i,y,m,rfl,hfit,rfl,hi,hinv,H1⟩
 obtain⟨j,rfl⟩:=hfit.open
 refine cR e49 ?_
 clear hfit
 refine Rq<|OT (zQ Y Y) (fun hp9=>?_) (fun hp9=>?_)
 have hil:i < l.length:=by omega
 obtain⟨x,hx⟩:=yM hil
 obtain⟨p1,hp1,hR⟩:=h2.get hx
 unfold Fp at hR
 subst hR
 obtain⟨a1,ha1⟩:=hr.some_ (by omega)
 subst ha1
 rw[sJ hx]at hinv
 obtain⟨hm1,hm2,hm3,hm4,X0⟩:=hinv
 refine Xr e49<|J1<|J3 Y<|J6<|J1<|J7<|Rq<|OV (EI Tryz.underlying39 yP Y Y Y hil Y)<|OV (EN yP Y (vs:=[.int .i64 x.client,.int .i64 x.seq,.bool false,.int .i64 0,.int .i64 0,.int .i64 0,.int .i64 0]) Y ((hr.to0 H1).elem hp hp1))<|OA yP H1<|fun w2 g2 H2 hg2=>OS yP H2 0 Y Y Y Y Y (by first|exact NL Y|simp[zH]) Y<|fun w3 H3=>Xr e49<|J1<|Rq<|Xf tN Y<|OV (EL ty3 Y (H3.cell (i:=0) Y Y))<|Xm Y<|Dy (tB Y Y) (by omega)<|Aa e49<|Xm Y<|OY Y<|Xf tN Y<|Aa e49<|OY Y<|OV (EL ty3 Y (H3.cell (i:=0) Y Y))<|OY Y<|Dy (yO Y Y) (by omega)<|Xu Y Y<|Xm Y<|Aa e49<|OY Y<|Xf kS Y<|OY Y<|OV (EL ty3 Y (H3.cell (i:=0) Y Y)) ?_
 refine Aa e49<|OY Y<|Dy (zQ Y Y) (by omega)<|Xu Y Y<|Xm Y<|Aa e49<|OY Y<|Xf kS Y<|OY Y<|OV (EL ty3 Y (H3.cell (i:=0) Y Y))<|Aa e49<|OY Y<|Dy (yO Y Y) (by omega)<|Xu Y Y<|Xm Y<|Aa e49<|OY Y<|Xf IR Y<|OY Y<|OV (EL ty4 Y (H3.cell (i:=0) Y Y))<|Aa e49<|OY Y<|Xm Y<|Oz 9 Y<|Aa e49<|OY Y<|Xu Y Y<|Xu Y Y ?_
 refine Xr e49<|J4 Y<|J6<|J2<|Xf tN Y<|OV (EL ty3 Y (H3.cell (i:=0) Y Y))<|Xa Y<|Xr e49<|zA (zB ?_)
 refine J2<|OV (zL Y Y (IntWalk.i64_in _ (by omega)))<|Xm Y<|Xr e49<|zA (zI ?_)
 exact⟨l.length - (i+1),by omega,i+1,_,x.client,Y,(Dv Y Y Y Y Y),by omega,by omega,X0,H3.Ac⟩
 refine Xr e49<|J1<|J4 Y<|J8<|zT<|zS<|Rq<|Xa Y<|Xr e49<|J5<|Ak Y Y<|⟨Y,H1.Ac⟩
end Go.Proofs.YtjoeklkmnfaabaaGreat
namespace Go.Proofs.YtjoeklkmnfaabaaGreat
set_option maxRecDepth 100000
set_option maxHeartbeats 4000000
open Go Go.RowKit
set_option linter.unusedVariables false
attribute [local irreducible] yT Ops zP Cd
theorem RV (A:Option Addr) (k:Nat) (l:List Mk) (c:Int) (ps:List (List Value)) (w0:World) (hp:Pl 7 ps) (hr:Rd w0 A l.length 7 ps.flatten) (h2:wC Fp ps l) (hn:l.length≤1000000) (hso:tV 0 l):zP Tryz.prog 158 #[.slice A l.length k,.int .i64 c] w0 (fun r w'=>∃ (i:Nat) (f:Bool),r=.tuple #[.int .i64 (i:Int),.bool f]∧AP ps (NM c) i f∧Hp w0 w' [] []):=by
 refine zE Tryz.func158 Tryz.ntmps158 Y<|cR e11 ?_
 have H:=Hp.refl w0
 have hlen:=h2.len
 refine Rq<|Xa Y<|Xa Y<|Xr e11<|Rq<|Xm Y<|Xm Y<|OQ (EC gf189 Y) (PU A k ps l.length hlen 190 c (NM c) _ hp (by rw[hlen];exact hr.to0 H) (by omega) (PO h2 (GW (vV hso).2 c))) ?_
 rintro _ w1 ⟨i,f,rfl,hfd,Hd⟩
 have H1:=H.Af Hd
 refine Xe Y Y<|Aa e11<|Xe Y Y<|Xa Y<|Xa Y<|Xr e11<|J5<|Ea Y Y Y<|⟨i,f,Y,hfd,H1.Ac⟩
theorem O2 (A:Option Addr) (k:Nat) (l:List Mk) (c:Int) (ok:Nat→Prop) (w0:World) (hl:Sl Fp 7 w0 ok A l) (hn:l.length≤1000000) (hso:tV 0 l):zP Tryz.prog 112 #[.slice A l.length k,.int .i64 c] w0 (fun r w'=>∃ (m:Mk) (f:Bool),r=.tuple #[.agg (Iq m).toArray,.bool f]∧(f=true→Bg l c=some m)∧(f=false→Bg l c=none)∧Hp w0 w' [] []):=by
 refine zE Tryz.func112 Tryz.ntmps112 Y<|cR e25 ?_
 have H:=Hp.refl w0
 obtain⟨ps,hp,hr,ha,h2⟩:=id hl
 have hlen:=h2.len
 refine Rq<|OA yP H<|fun w1 g1 H1 hg1=>Xa Y<|Xr e25<|J1<|Rq<|Xm Y<|OC (EC gf157 Y) (S4 A k l ok _ (hl.toM H1 k0) (by omega) hso)<|fun w2 Hd=>have H2:=H1.Af Hd;Dy (yS Y Y) (by decide)<|Xr e25<|J4 Y<|J6<|Rq<|Xm Y<|Xm Y<|OQ (EC gf158 Y) (RV A k l c ps _ hp (hr.to0 H2) h2 hn hso) ?_
 rintro _ w3 ⟨i,f,rfl,hfd,Hd⟩
 have H3:=H2.Af Hd
 obtain⟨hyes,hno⟩:=F4 hfd h2 (vV hso).2
 cases f
 refine Xm Y<|Xe Y Y<|Aa e25<|Xe Y Y<|Xa Y<|Xa Y<|Xr e25<|J1<|Rq<|Xm Y<|Xn Y<|Xr e25<|J3 Y<|Rq<|OV (EB yP eE Y Y)<|OS yP H3 0 Y Y Y Y Y (by first|exact NL Y|simp[zH]) Y<|fun w4 H4=>Xa Y<|Xr e25<|J5<|xO Y yP (cs:=Iq ⟨0,0⟩) Y Y Y (H4.Ad (i:=0) Y Y)<|⟨⟨0,0⟩,false,Y,(fun h=>by cases h),fun _=>hno Y,H4.Ac⟩
 obtain⟨x,hx,hfx⟩:=hyes rfl
 obtain⟨p1,hp1,hR⟩:=h2.get hx
 unfold Fp at hR
 subst hR
 obtain⟨a1,ha1⟩:=hr.some_ (by have:=lt_of_get hx;omega)
 subst ha1
 refine Xm Y<|Xe Y Y<|Aa e25<|Xe Y Y<|Xa Y<|Xa Y<|Xr e25<|J1<|Rq<|Xm Y<|Xn Y<|Xr e25<|J4 Y<|J6<|Rq<|Xm Y<|Xm Y<|OV (EI Tryz.underlying39 yP Y Y Y (lt_of_get hx) Y)<|OV (EN yP Y (vs:=Iq x) Y ((hr.to0 H3).elem hp hp1))<|Aa e25<|OS yP H3 0 Y Y Y Y Y (by first|exact NL Y|simp[zH]) Y<|fun w4 H4=>Xa Y<|Xr e25<|J5<|xO Y yP (cs:=Iq x) Y Y Y (H4.Ad (i:=0) Y Y)<|⟨x,true,Y,fun _=>hfx,(fun h=>by cases h),H4.Ac⟩
theorem QY (n:Int) (w0:World):zP Tryz.prog 67 #[.int .i64 n] w0 (fun r w'=>((n < 1∨4 < n)→r=.nilFunc)∧(n=1→r=.func (.func 116) #[] #[])∧(n=2→r=.func (.func 117) #[] #[])∧(n=3→r=.func (.func 118) #[] #[])∧(n=4→r=.func (.func 119) #[] #[])∧Hp w0 w' [] []):=by
 refine zE Tryz.func67 Tryz.ntmps67 Y<|cR e12 ?_
 have H:=Hp.refl w0
 refine Rq<|Xa Y<|Xr e12<|J1<|Rq<|Xm Y<|OT (zQ Y Y) (fun hp4=>?_) (fun hp4=>?_)
 refine Xm Y<|Aa e12<|Oz 2 Y<|Xt Y Y ?_
 have m1:=()
 rotate_left 1
 refine Xm Y<|Aa e12<|OY Y<|Xm Y<|OY Y<|OT (yO Y Y) (fun Kz=>?_) (fun Kz=>?_)
 refine Xu Y Y ?_
 have m1:=()
 rotate_left 1
 refine Xu Y Y<|Xr e12<|J4 Y<|J6<|Rq<|OV (KX ty192 Tryz.underlying192 CN Y Y)<|Xm Y ?_
 obtain hk | hk | hk | hk:n=1∨n=2∨n=3∨n=4:=by omega
 subst hk
 refine OV (mG Tryz.underlying192 CN Y Y (i:=1) Y (by decide) Y)<|Xa Y<|Xr e12<|J5<|Ak Y Y ?_
 refine⟨fun h=>by omega,fun _=>Y,fun h=>by omega,fun h=>by omega,fun h=>by omega,H.Ac⟩
 subst hk
 refine OV (mG Tryz.underlying192 CN Y Y (i:=2) Y (by decide) Y)<|Xa Y<|Xr e12<|J5<|Ak Y Y ?_
 refine⟨fun h=>by omega,fun h=>by omega,fun _=>Y,fun h=>by omega,fun h=>by omega,H.Ac⟩
 subst hk
 refine OV (mG Tryz.underlying192 CN Y Y (i:=3) Y (by decide) Y)<|Xa Y<|Xr e12<|J5<|Ak Y Y ?_
 refine⟨fun h=>by omega,fun h=>by omega,fun h=>by omega,fun _=>Y,fun h=>by omega,H.Ac⟩
 subst hk
 refine OV (mG Tryz.underlying192 CN Y Y (i:=4) Y (by decide) Y)<|Xa Y<|Xr e12<|J5<|Ak Y Y ?_
 refine⟨fun h=>by omega,fun h=>by omega,fun h=>by omega,fun h=>by omega,fun _=>Y,H.Ac⟩
 any_goals
  clear m1
  refine Xr e12<|J3 Y<|Rq<|Xa Y<|Xr e12<|J5<|Ak Y Y ?_
  refine⟨fun _=>Y,fun h=>by omega,fun h=>by omega,fun h=>by omega,fun h=>by omega,H.Ac⟩
end Go.Proofs.YtjoeklkmnfaabaaGreat
namespace Go.Proofs.YtjoeklkmnfaabaaGreat
set_option maxRecDepth 100000
set_option maxHeartbeats 32000000
open Go Go.RowKit
set_option linter.unusedVariables false
attribute [local irreducible] yT Ops zP Cd
@[reducible] def bof :Option Value→Nat
 | none=>0
 | some _=>1
@[reducible] def bty :Option Value→TypeId
 | none=>41
 | some _=>69
@[reducible] def bcs :Option Value→List Value→List Value
 | none,l=>l
 | some p,l=>p::l
theorem Q4 (pre:Option Value) (gb:Nat) (b:Bo) (A1:Option Addr) (k1:Nat) (A2:Option Addr) (k2:Nat) (A3:Option Addr) (k3:Nat) (n:Nt) (B1:Option Addr) (j1:Nat) (B2:Option Addr) (j2:Nat) (N:Nat) (w0:World) (hrow:w0.heap[gb]? =some (.cells (bcs pre [.slice A1 b.groups.length k1,.slice A2 b.rights.length k2,.slice A3 b.last.length k3]).toArray (bty pre) (0,0))) (ok:Nat→Prop) (hok:¬ok gb) (hb1:Sl (Gz w0 ok) 6 w0 ok A1 b.groups) (hb2:Sl Fb 4 w0 ok A2 b.rights) (hb3:Sl Fp 7 w0 ok A3 b.last) (hg:rJ b N) (hN:N≤900000000000):zP Tryz.prog 66 #[.pointer (some ⟨gb,bof pre,none⟩),.agg [.int .i64 n.kind,.int .i64 n.group,.int .i64 n.b.r,.int .i64 n.b.n,.int .i64 n.Ag.slot,.int .i64 n.Ag.b.r,.int .i64 n.Ag.b.n,.slice B1 n.Ag.val.length j1,.int .i64 n.entry.slot,.slice B2 n.entry.val.length j2,.int .i64 n.right.g,yC n.right.key,.int .i64 n.right.Ai,.int .i64 n.right.net,.int .i64 n.client,.int .i64 n.seq].toArray] w0 (fun r w'=>(nW n.right→r=.bool true∧∃ cs',Hp w0 w' [gb] [((some gb,bty pre,bcs pre cs'):Ent)]∧Hl w' (up ok w0.heap.size) cs' { b with rights:=Di b.rights n.right,last:=uS b.last n.client n.seq })∧(¬nW n.right→r=.bool false∧Hp w0 w' [gb] [])):=by
 refine zE Tryz.func66 Tryz.ntmps66 Y<|cR Ci ?_
 let o:=bof pre
 rcases pre with _ | p
 all_goals
  have H:=Hp.old hrow
  have hks:=JM (n:=w0.heap.size) (ok:=ok) (S:=[gb]) fun x hx hg=>hok (by rw[← List.mem_singleton.1 hg];exact hx)
  have hml:=nV hg.Qb
  have hrl:=hg.few
  obtain⟨pm,hpm,hrm,ham,hm2⟩:=id hb3
  have WL:=hm2.len
  have hon:=hm2.ones fun _ _ h=>h.ones
  refine Rq<|yA Y Y H<|fun w1 g1 H1 hg1=>Xa Y<|Xr Ci<|J1<|zR 11 [(true,0),(true,1),(true,2),(true,3),(true,4),(true,5),(false,6),(true,7),(true,8),(true,9),(true,10),(false,11)] H1 [0,1] yG (by decide) (by kernel_rfl) ?_
  rintro w2 hw2
  have H2:=Hp.drew H1;rw[← hw2]at H2
  refine Zm Y Y<|Zc Y Y<|Zf Y sU Y<|MP Y<|MV (fun wz hz=>EL kX Y (hz.cell (i:=0) Y Y))<|cZ Ci<|Zf Y fO Y<|MP Y<|MV (fun wz hz=>EN xR Y (vs:=[.int .i64 n.right.g,yC n.right.key,.int .i64 n.right.Ai,.int .i64 n.right.net]) Y (hz.Ad (i:=1) Y Y))<|MO Y ?_
  have hnb:=Hp.fresh H2
  have ZG:=H2.size
  refine OQ (EC gf111 Y) (Yf n.right A2 k2 b.rights (up ok w0.heap.size) _ (hb2.toR H2 hks) (by omega) hg.rts) ?_
  rintro r w3 ⟨hyes,hno,Hd⟩
  have H3:=H2.Af Hd
  by_cases hmay:nW n.right
  obtain⟨A9,k9,rfl,WV⟩:=hyes hmay
  refine OE ?_
  refine⟨fun hne=>H3.pick [0,1] (by decide),?_⟩
  refine Zm Y Y<|MP Y<|MV (fun wz hz=>xA Y Y)<|cZ Ci<|MP Y<|MV (fun wz hz=>xA Y Y)<|MP Y<|MV (fun wz hz=>zO Y)<|MO Y<|Xa Y<|OE<|⟨fun hne=>absurd Y hne,?_⟩
  refine cZ Ci<|ME<|cR Ci<|J1<|Rq<|Xm Y<|Dy (yS Y Y) (by decide)<|Xr Ci<|J4 Y<|J6<|Rq<|Xm Y<|Xm Y<|Xc Y<|Xf sU Y<|Aa Ci ?_
  have HB:=H3
  replace H3:=HB.here
  refine OW kX H3 0 Y Y Y Y (Nat.le_of_ble_eq_true Y) Y<|fun w4 H4=>Xr Ci<|J1<|Rq<|Xf tA Y<|OV (EL ty3 Y (H4.cell (i:=1) Y Y))<|OT (zQ Y Y) (fun XT=>?_) (fun XT=>?_)
  refine Xm Y<|Aa Ci<|Oz 3 Y<|Aa Ci<|Xt Y Y ?_
  have m4:=()
  rotate_left 1
  refine Xm Y<|Aa Ci<|OY Y<|Xf tA Y<|OY Y<|OV (EL ty3 Y (H4.cell (i:=1) Y Y))<|Aa Ci<|OY Y<|OT (yO Y Y) (fun Ti=>?_) (fun Ti=>?_)
  refine Xu Y Y ?_
  have m4:=()
  rotate_left 1
  refine Xu Y Y<|Xm Y<|Aa Ci<|OY Y<|Xf sQ Y<|OY Y<|OV (EL ty3 Y (H4.cell (i:=1) Y Y))<|Aa Ci<|OY Y<|OT (zQ Y Y) (fun hp38=>?_) (fun hp38=>?_)
  refine Xu Y Y<|Xm Y<|Aa Ci<|Oz 3 Y<|Aa Ci<|Xt Y Y ?_
  have m3:=()
  rotate_left 1
  refine Xu Y Y<|Xm Y<|Aa Ci<|OY Y<|Xf sQ Y<|OY Y<|OV (EL ty3 Y (H4.cell (i:=1) Y Y))<|Aa Ci<|OY Y<|OT (yO Y Y) (fun Td=>?_) (fun Td=>?_)
  refine Xu Y Y ?_
  have m3:=()
  rotate_left 1
  refine Xu Y Y<|Xr Ci<|J4 Y<|J6<|J1<|J1<|qI 12 (.p 0 (.p 1 (.p 2 (.p 3 (.p 4 (.p 5 (.two 6 (.p 7 (.p 8 (.p 9 (.o 10 (.o 11 (.o 12 .nil)))))) 10 (.o 6 (.p 7 (.p 8 (.p 9 (.o 11 (.o 12 .nil))))))))))))) H4 [0,1] yG (by decide) (by kernel_rfl) ?_
  rintro w5 hw5
  have H5:=Hp.drew H4;rw[← hw5]at H5
  refine Tm Y Y<|TP Y<|MV (fun wz hz=>yI Y)<|Tf Y tJ Y<|TP Y<|MV (fun wz hz=>EL mM Y (hz.cell (i:=0) Y Y))<|cT Ci<|Tf Y tA Y<|TP Y<|MV (fun wz hz=>EL ty3 Y (hz.cell (i:=1) Y Y))<|pO ?_ ?_
  refine TQ Y<|OQ (EC UD Y) (O2 A3 k3 b.last n.client (up ok w0.heap.size) _ (hb3.toM (HB.all H5) hks) (by omega) hg.Qb) ?_
  rintro _ w6 ⟨mq,fq,rfl,hyq,hnq,Hd⟩
  have H6:=H5.Af Hd
  cases fq
  refine OE ?_
  refine⟨fun hne=>H6.pick [0,1] (by decide),?_⟩
  refine Tm Y Y<|TP Y<|MV (fun wz hz=>xA Y Y)<|cT Ci<|TP Y<|MV (fun wz hz=>xA Y Y)<|TQ Y<|OA yP H6<|fun w7 g7 H7 hg7=>OE<|⟨fun hne=>H7.pick [0,1] (by decide),?_⟩
  refine cT Ci ?_
  have m2:=()
  rotate_left 1
  refine OE ?_
  refine⟨fun hne=>H6.pick [0,1] (by decide),?_⟩
  refine Tm Y Y<|TP Y<|MV (fun wz hz=>xA Y Y)<|cT Ci<|TP Y<|MV (fun wz hz=>xA Y Y)<|TQ Y<|OA yP H6<|fun w7 g7 H7 hg7=>OE<|⟨fun hne=>H7.pick [0,1] (by decide),?_⟩
  refine cT Ci ?_
  have m1:=()
  rotate_left 1
  refine TQ Y<|OA yP H5<|fun w6 g6 H6 Vo=>OE<|⟨fun hne=>H6.pick [0,1] (by decide),?_⟩
  refine cT Ci<|TQ Y<|OQ (EC UD Y) (O2 A3 k3 b.last n.client (up ok w0.heap.size) _ (hb3.toM (HB.all H6) hks) (by omega) hg.Qb) ?_
  rintro _ w7 ⟨mq,fq,rfl,hyq,hnq,Hd⟩
  have H7:=H6.Af Hd
  cases fq
  refine OE ?_
  refine⟨fun hne=>H7.pick [0,1] (by decide),?_⟩
  refine Tm Y Y<|TP Y<|MV (fun wz hz=>xA Y Y)<|TP Y<|MV (fun wz hz=>xA Y Y) ?_
  have m2:=()
  rotate_left 1
  refine OE ?_
  refine⟨fun hne=>H7.pick [0,1] (by decide),?_⟩
  refine Tm Y Y<|TP Y<|MV (fun wz hz=>xA Y Y)<|TP Y<|MV (fun wz hz=>xA Y Y) ?_
  have m1:=()
  rotate_left 1
  obtain rfl:=hno hmay
  refine OE ?_
  refine⟨fun hne=>H3.pick [0,1] (by decide),?_⟩
  refine Zm Y Y<|MP Y<|MV (fun wz hz=>xA Y Y)<|cZ Ci<|MP Y<|MV (fun wz hz=>xA Y Y)<|MP Y<|MV (fun wz hz=>zO Y)<|MO Y<|Xa Y<|OE<|⟨fun hne=>absurd Y hne,?_⟩
  refine cZ Ci<|ME<|cR Ci<|J1<|Rq<|Xm Y<|Ij (yS Y Y) (by decide)<|Xr Ci<|J3 Y<|Rq<|Xa Y<|Xr Ci<|J5<|Ak Y Y<|⟨fun h=>absurd h hmay,fun _=>⟨Y,H3.Ac⟩⟩
  any_goals
   clear m4
   refine Xm Y<|Aa Ci<|Oz 3 Y<|Aa Ci<|Xt Y Y<|Xm Y<|Aa Ci<|Oz 3 Y<|Aa Ci<|Xt Y Y ?_
   have m3:=()
   rotate_left 1
  any_goals
   clear m3
   refine Xr Ci<|J3 Y<|Rq<|Xa Y<|Xr Ci<|J5<|Ak Y Y ?_
   have HW:=HB.all H4
   refine⟨fun _=>⟨Y,_,HW.pick [0] (by decide),A1,k1,A9,k9,A3,k3,by rw[pG (by omega)];rfl,hb1.toS HW hks,WV.toR H4 (fun x hx _=>⟨hnb x hx,.inr (by omega)⟩),?_⟩,fun h=>absurd hmay h⟩
   rw[pG (by omega)]
   exact hb3.toM HW hks
  any_goals
   clear m2
   refine TQ Y<|OS yP H7 2 Y Y Y Y Y (by first|exact NL Y|simp[zH]) Y<|fun w8 H8=>OE<|⟨fun hne=>H8.pick [0,1] (by decide),?_⟩
   refine cT Ci<|TQ Y<|Xa Y<|OE<|⟨fun hne=>absurd Y hne,?_⟩
   refine cT Ci<|sZ<|cR Ci<|Rq<|Xm Y<|Xm Y<|Aa Ci<|Oz 5 Y<|Aa Ci<|Xu Y Y<|Xr Ci<|J4 Y<|J6<|Rq<|Xm Y<|Xc Y<|Xf tJ Y<|OV (EL mM Y (H8.cell (i:=0) Y Y))<|Aa Ci<|OQ (EC VP Y) (GA A3 b.last.length k3 pm.flatten _ (hrm.move (by decide) ham (HB.all H8) hks).1 (xF hon) (by omega)) ?_
   rintro _ w9 ⟨gv,cv,sv,rfl,hmv,hcv,Ie,Hc⟩
   have H9:=H8.call0 Hc
   refine OV (wK Y Y)<|OQ (EC UC Y) (IZ gv cv b.last.length pm WL sv 114 _ (Dq n.client) _ (H9.pick [3] (by decide)).here hpm hon (by omega) (by omega) hcv (Kq hm2 (H9.at (i:=1) Y) Y) (Bh H9 (i:=1) (is:=[3]) Y (by decide))) ?_
   rintro _ w10 ⟨W9,rfl,hl2,Hd⟩
   have Ar:=(H9.Am [3] rfl Hd).pick [0,1,2,4] (by decide)
   have hmf:=hm2.filter (f:=fun p=>!Dq n.client p) (g:=fun x=>!decide (x.client=n.client)) (fun p x h=>DL h)
   have Jo:=hmf.len
   have hpf:Pl 7 (pm.filter fun p=>!Dq n.client p):=hpm.sub fun x hx=>(List.mem_filter.1 hx).1
   have hfl3:(pm.filter fun p=>!Dq n.client p).length≤pm.length:=List.length_filter_le _ _
   have Tj:∀ p∈(pm.filter fun p=>!Dq n.client p),p.all (·.oneCell')=true:=fun x hx=>hon x (List.mem_filter.1 hx).1
   have HC:=Ar
   refine Xa Y<|Xr Ci<|Rq<|Xa Y<|Xr Ci<|J1<|J7<|zU (fun nQ lQ w=>∃ (i:Nat) (y:Int),(pm.filter fun p=>!Dq n.client p).length - i=nQ∧xN (Dj [(0,.pointer (some ⟨gb,o,none⟩)),(3,.pointer (some ⟨g1,0,none⟩)),(9,.slice (hd gv) (pm.filter fun p=>!Dq n.client p).length cv),(10,.int .i64 y)] 0 98) lQ∧y=(i:Int)∧i≤(pm.filter fun p=>!Dq n.client p).length∧(∀ (k:Nat) (m:Mk),k < i→(b.last.filter fun x=>!decide (x.client=n.client))[k]? =some m→m.client < n.client)∧Hp w10 w [] []) ((pm.filter fun p=>!Dq n.client p).length) ?_ ?_
   exact⟨0,_,Y,(Dv Y Y Y Y Y),Y,Nat.zero_le _,(fun k m h=>by omega),Hp.refl _⟩
   rintro nQ lQ Gm ⟨i,y,rfl,hfit,rfl,hi,hlo,Bd⟩
   obtain⟨j,rfl⟩:=hfit.open
   refine cR Ci ?_
   clear hfit
   refine J1<|J1<|uT yG (by kernel_rfl) ?_
   rintro w12 Wq
   have Bc:=Hp.drew Bd;rw[← Wq]at Bc
   refine SV (zK Y)<|SV (zK Y)<|SV (ES Tryz.underlying39 Y)<|vQ (zQ Y Y) (fun Oq=>?_) (fun Oq=>?_)
   have hil:i < (pm.filter fun p=>!Dq n.client p).length:=by omega
   obtain⟨p1,hp1⟩:=yM hil
   obtain⟨x,hx,hR⟩:=hmf.getL hp1
   unfold Fp at hR
   subst hR
   have hc0:((pm.filter fun p=>!Dq n.client p).flatten++W9)[0+i*7+0]? =some (.int .i64 x.client):=by
    have h1:=hpf.get hp1 (j:=0) (u:=.int .i64 x.client) rfl
    show(_++_)[0+i*7+0]? =_
    rw[Nat.zero_add,List.getElem?_append_left (lt_of_get h1)];exact h1
   obtain⟨gz,rfl⟩:=vK HC (i:=3) rfl (by have:=lt_of_get hc0;omega)
   refine SV (zK Y)<|vJ Ci<|yQ Y<|SV (zK Y)<|yQ Y<|SV (zK Y)<|vJ Ci<|yQ Y<|SV (uR Tryz.underlying39 yP Y Y Y hil)<|yQ Y<|SV (EF tN Y)<|vJ Ci<|yQ Y<|SV (EL ty3 Y ((HC.Af Bc).cell (i:=3) Y hc0))<|yQ Y<|SV (EF tA Y)<|vJ Ci<|yQ Y<|SV (EL ty3 Y ((HC.Af Bc).cell (i:=1) Y Y))<|yQ Y<|vQ (zQ Y Y) (fun Oo=>?_) (fun Oo=>?_)
   refine SV (xS Y Y)<|xU<|cR Ci<|J3 Y<|J6<|J7<|J2<|Xm Y<|OV (zL Y Y (IntWalk.i64_in _ (by omega)))<|Xa Y<|Xr Ci<|zA (zB ?_)
   refine zA (zI ?_)
   exact⟨(pm.filter fun p=>!Dq n.client p).length - (i+1),by omega,i+1,_,Y,(Dv Y Y Y Y Y),by omega,by omega,fun k m hk hm=>by
    rcases Nat.lt_or_eq_of_le (show k≤i by omega)with h | rfl
    · exact hlo k m h hm
    · rw[hx]at hm
      simp only[Option.some.injEq]at hm
      subst hm;exact Oo,Bc⟩
   refine SV (xS Y Y)<|xU<|cR Ci<|J4 Y<|J8<|zT<|zS<|Rq ?_
   replace Bc:=HC.Af Bc
   refine Xm Y<|Xm Y<|Xm Y<|Xf tA Y<|Aa Ci<|OV (EL ty3 Y (Bc.cell (i:=1) Y Y))<|Xf sQ Y<|OV (EL ty3 Y (Bc.cell (i:=1) Y Y))<|OV (EB yP eE Y Y)<|Aa Ci<|zG Tryz.underlying39 yP Bc Y (by decide) Y<|fun Io g13 Ce Xl=>OQ (EC IM Y) (eT _ cv i _ (pm.filter fun p=>!Dq n.client p).length (pm.filter fun p=>!Dq n.client p) Y (Iq ⟨n.client,n.seq⟩) W9 _ (Ce.pick [3] (by decide)).here hpf Tj (by omega) (by rw[hl2];exact hcv) Ie (by omega) (Ce.at (i:=4) Y) Y Y (Bh Ce (i:=4) (is:=[3]) Y (by decide)) (by omega)) ?_
   rintro _ Md ⟨gw,cw,sw,rfl,hnw,hcw,hgw,Hd⟩
   have Ei:=(Ce.Am [3] rfl Hd).pick [0,1,2,5] (by decide)
   refine Xc Y<|Xf tJ Y<|Aa Ci<|OW mM Ei 0 Y Y Y Y (Nat.le_of_ble_eq_true Y) Y<|fun Mc Fa=>Xr Ci<|Rq<|Xa Y<|Xr Ci<|J5<|Ak Y Y ?_
   have HW:=HB.all Fa
   have hput:=kE (v:=⟨n.client,n.seq⟩) (i:=i) (vV hg.Qb).2 (by rw[← Jo];omega) hlo (.inr ⟨x,hx,Oo⟩)
   have hsp:uS b.last n.client n.seq=uL b.last ⟨n.client,n.seq⟩:=kB (by omega) (hnq rfl)
   rw[← hput]at hsp
   have hln:((b.last.filter fun x=>!decide (x.client=n.client)).take i++(⟨n.client,n.seq⟩:Mk)::(b.last.filter fun x=>!decide (x.client=n.client)).drop i).length=(pm.filter fun p=>!Dq n.client p).length+1:=by rw[List.length_append,List.length_cons,List.length_take,List.length_drop,← Jo];omega
   refine⟨fun _=>⟨Y,_,HW.pick [0] (by decide),A1,k1,A9,k9,hd gw,cw,by rw[hsp,hln];rfl,hb1.toS HW hks,WV.toR Fa (fun x hx _=>⟨hnb x hx,.inr (by omega)⟩),?_⟩,fun h=>absurd hmay h⟩
   rw[hsp]
   exact Sl.row HW (i:=3) Y ((hpf.sub fun x hx=>List.mem_of_mem_take hx).app fun x hx=>by
    rcases List.mem_cons.1 hx with rfl | hx
    · rfl
    · exact hpf x (List.mem_of_mem_drop hx)) (by decide) ((hmf.take i).app ⟨Y,hmf.drop i⟩) (fun b hb=>wO (ok:=ok) HW (i:=3) Y (fun c hc=>by rw[List.mem_singleton.1 hc];exact fun e=>HW.ne (i:=3) (j:=0) (g:=gb) (by rw[e];rfl) Y (by decide) Y) b hb)
   refine SV (zK Y)<|vJ Ci<|yY Y<|yY Y<|vJ Ci<|yY Y<|yY Y<|vJ Ci<|yY Y<|yY Y<|vJ Ci<|yY Y<|yY Y<|SV (wT Y Y)<|xU<|cR Ci<|J4 Y<|J8<|zT<|zS<|Rq ?_
   replace Bc:=HC.Af Bc
   refine Xm Y<|Xm Y<|Xm Y<|Xf tA Y<|Aa Ci<|OV (EL ty3 Y (Bc.cell (i:=1) Y Y))<|Xf sQ Y<|OV (EL ty3 Y (Bc.cell (i:=1) Y Y))<|OV (EB yP eE Y Y)<|Aa Ci<|zG Tryz.underlying39 yP Bc Y (by decide) Y<|fun Io g13 Ce Xl=>OQ (EC IM Y) (eT _ cv i _ (pm.filter fun p=>!Dq n.client p).length (pm.filter fun p=>!Dq n.client p) Y (Iq ⟨n.client,n.seq⟩) W9 _ (Ce.pick [3] (by decide)).here hpf Tj (by omega) (by rw[hl2];exact hcv) Ie (by omega) (Ce.at (i:=4) Y) Y Y (Bh Ce (i:=4) (is:=[3]) Y (by decide)) (by omega)) ?_
   rintro _ Md ⟨gw,cw,sw,rfl,hnw,hcw,hgw,Hd⟩
   have Ei:=(Ce.Am [3] rfl Hd).pick [0,1,2,5] (by decide)
   refine Xc Y<|Xf tJ Y<|Aa Ci<|OW mM Ei 0 Y Y Y Y (Nat.le_of_ble_eq_true Y) Y<|fun Mc Fa=>Xr Ci<|Rq<|Xa Y<|Xr Ci<|J5<|Ak Y Y ?_
   have HW:=HB.all Fa
   have hput:=kE (v:=⟨n.client,n.seq⟩) (i:=i) (vV hg.Qb).2 (by rw[← Jo];omega) hlo (.inl (by rw[← Jo];omega))
   have hsp:uS b.last n.client n.seq=uL b.last ⟨n.client,n.seq⟩:=kB (by omega) (hnq rfl)
   rw[← hput]at hsp
   have hln:((b.last.filter fun x=>!decide (x.client=n.client)).take i++(⟨n.client,n.seq⟩:Mk)::(b.last.filter fun x=>!decide (x.client=n.client)).drop i).length=(pm.filter fun p=>!Dq n.client p).length+1:=by rw[List.length_append,List.length_cons,List.length_take,List.length_drop,← Jo];omega
   refine⟨fun _=>⟨Y,_,HW.pick [0] (by decide),A1,k1,A9,k9,hd gw,cw,by rw[hsp,hln];rfl,hb1.toS HW hks,WV.toR Fa (fun x hx _=>⟨hnb x hx,.inr (by omega)⟩),?_⟩,fun h=>absurd hmay h⟩
   rw[hsp]
   exact Sl.row HW (i:=3) Y ((hpf.sub fun x hx=>List.mem_of_mem_take hx).app fun x hx=>by
    rcases List.mem_cons.1 hx with rfl | hx
    · rfl
    · exact hpf x (List.mem_of_mem_drop hx)) (by decide) ((hmf.take i).app ⟨Y,hmf.drop i⟩) (fun b hb=>wO (ok:=ok) HW (i:=3) Y (fun c hc=>by rw[List.mem_singleton.1 hc];exact fun e=>HW.ne (i:=3) (j:=0) (g:=gb) (by rw[e];rfl) Y (by decide) Y) b hb)
  any_goals
   clear m1
   refine TQ Y<|OS yP H7 2 Y Y Y Y Y (by first|exact NL Y|simp[zH]) Y<|fun w8 H8=>OE<|⟨fun hne=>H8.pick [0,1] (by decide),?_⟩
   refine cT Ci<|TQ Y<|Xa Y<|OE<|⟨fun hne=>absurd Y hne,?_⟩
   refine cT Ci<|sZ<|cR Ci<|Rq<|Xm Y<|Xm Y<|Aa Ci<|OY Y<|Xf kS Y<|OY Y<|OV (EL ty3 Y (H8.cell (i:=2) Y Y))<|Aa Ci<|OY Y<|Xf sQ Y<|OY Y<|OV (EL ty3 Y (H8.cell (i:=1) Y Y))<|Aa Ci<|OY Y<|OT (wL Y Y) (fun Ld=>?_) (fun Ld=>?_)
   refine Xt Y Y<|Xr Ci<|J3 Y<|Rq<|Xa Y<|Xr Ci<|J5<|Ak Y Y ?_
   have HW:=HB.all H8
   refine⟨fun _=>⟨Y,_,HW.pick [0] (by decide),A1,k1,A9,k9,A3,k3,by rw[kC (hyq Y) (by omega)];rfl,hb1.toS HW hks,WV.toR H8 (fun x hx _=>⟨hnb x hx,.inr (by omega)⟩),?_⟩,fun h=>absurd hmay h⟩
   rw[kC (hyq rfl) (by omega)]
   exact hb3.toM HW hks
   refine Xt Y Y<|Xr Ci<|J4 Y<|J6<|Rq<|Xm Y<|Xc Y<|Xf tJ Y<|OV (EL mM Y (H8.cell (i:=0) Y Y))<|Aa Ci<|OQ (EC VP Y) (GA A3 b.last.length k3 pm.flatten _ (hrm.move (by decide) ham (HB.all H8) hks).1 (xF hon) (by omega)) ?_
   rintro _ w9 ⟨gv,cv,sv,rfl,hmv,hcv,Ie,Hc⟩
   have H9:=H8.call0 Hc
   refine OV (wK Y Y)<|OQ (EC UC Y) (IZ gv cv b.last.length pm WL sv 114 _ (Dq n.client) _ (H9.pick [3] (by decide)).here hpm hon (by omega) (by omega) hcv (Kq hm2 (H9.at (i:=1) Y) Y) (Bh H9 (i:=1) (is:=[3]) Y (by decide))) ?_
   rintro _ w10 ⟨W9,rfl,hl2,Hd⟩
   have Ar:=(H9.Am [3] rfl Hd).pick [0,1,2,4] (by decide)
   have hmf:=hm2.filter (f:=fun p=>!Dq n.client p) (g:=fun x=>!decide (x.client=n.client)) (fun p x h=>DL h)
   have Jo:=hmf.len
   have hpf:Pl 7 (pm.filter fun p=>!Dq n.client p):=hpm.sub fun x hx=>(List.mem_filter.1 hx).1
   have hfl3:(pm.filter fun p=>!Dq n.client p).length≤pm.length:=List.length_filter_le _ _
   have Tj:∀ p∈(pm.filter fun p=>!Dq n.client p),p.all (·.oneCell')=true:=fun x hx=>hon x (List.mem_filter.1 hx).1
   have HC:=Ar
   refine Xa Y<|Xr Ci<|Rq<|Xa Y<|Xr Ci<|J1<|J7<|zU (fun nQ lQ w=>∃ (i:Nat) (y:Int),(pm.filter fun p=>!Dq n.client p).length - i=nQ∧xN (Dj [(0,.pointer (some ⟨gb,o,none⟩)),(3,.pointer (some ⟨g1,0,none⟩)),(9,.slice (hd gv) (pm.filter fun p=>!Dq n.client p).length cv),(10,.int .i64 y)] 0 98) lQ∧y=(i:Int)∧i≤(pm.filter fun p=>!Dq n.client p).length∧(∀ (k:Nat) (m:Mk),k < i→(b.last.filter fun x=>!decide (x.client=n.client))[k]? =some m→m.client < n.client)∧Hp w10 w [] []) ((pm.filter fun p=>!Dq n.client p).length) ?_ ?_
   exact⟨0,_,Y,(Dv Y Y Y Y Y),Y,Nat.zero_le _,(fun k m h=>by omega),Hp.refl _⟩
   rintro nQ lQ Gm ⟨i,y,rfl,hfit,rfl,hi,hlo,Bd⟩
   obtain⟨j,rfl⟩:=hfit.open
   refine cR Ci ?_
   clear hfit
   refine J1<|J1<|uT yG (by kernel_rfl) ?_
   rintro w12 Wq
   have Bc:=Hp.drew Bd;rw[← Wq]at Bc
   refine SV (zK Y)<|SV (zK Y)<|SV (ES Tryz.underlying39 Y)<|vQ (zQ Y Y) (fun Oq=>?_) (fun Oq=>?_)
   have hil:i < (pm.filter fun p=>!Dq n.client p).length:=by omega
   obtain⟨p1,hp1⟩:=yM hil
   obtain⟨x,hx,hR⟩:=hmf.getL hp1
   unfold Fp at hR
   subst hR
   have hc0:((pm.filter fun p=>!Dq n.client p).flatten++W9)[0+i*7+0]? =some (.int .i64 x.client):=by
    have h1:=hpf.get hp1 (j:=0) (u:=.int .i64 x.client) rfl
    show(_++_)[0+i*7+0]? =_
    rw[Nat.zero_add,List.getElem?_append_left (lt_of_get h1)];exact h1
   obtain⟨gz,rfl⟩:=vK HC (i:=3) rfl (by have:=lt_of_get hc0;omega)
   refine SV (zK Y)<|vJ Ci<|yQ Y<|SV (zK Y)<|yQ Y<|SV (zK Y)<|vJ Ci<|yQ Y<|SV (uR Tryz.underlying39 yP Y Y Y hil)<|yQ Y<|SV (EF tN Y)<|vJ Ci<|yQ Y<|SV (EL ty3 Y ((HC.Af Bc).cell (i:=3) Y hc0))<|yQ Y<|SV (EF tA Y)<|vJ Ci<|yQ Y<|SV (EL ty3 Y ((HC.Af Bc).cell (i:=1) Y Y))<|yQ Y<|vQ (zQ Y Y) (fun Oo=>?_) (fun Oo=>?_)
   refine SV (xS Y Y)<|xU<|cR Ci<|J3 Y<|J6<|J7<|J2<|Xm Y<|OV (zL Y Y (IntWalk.i64_in _ (by omega)))<|Xa Y<|Xr Ci<|zA (zB ?_)
   refine zA (zI ?_)
   exact⟨(pm.filter fun p=>!Dq n.client p).length - (i+1),by omega,i+1,_,Y,(Dv Y Y Y Y Y),by omega,by omega,fun k m hk hm=>by
    rcases Nat.lt_or_eq_of_le (show k≤i by omega)with h | rfl
    · exact hlo k m h hm
    · rw[hx]at hm
      simp only[Option.some.injEq]at hm
      subst hm;exact Oo,Bc⟩
   refine SV (xS Y Y)<|xU<|cR Ci<|J4 Y<|J8<|zT<|zS<|Rq ?_
   replace Bc:=HC.Af Bc
   refine Xm Y<|Xm Y<|Xm Y<|Xf tA Y<|Aa Ci<|OV (EL ty3 Y (Bc.cell (i:=1) Y Y))<|Xf sQ Y<|OV (EL ty3 Y (Bc.cell (i:=1) Y Y))<|OV (EB yP eE Y Y)<|Aa Ci<|zG Tryz.underlying39 yP Bc Y (by decide) Y<|fun Io g13 Ce Xl=>OQ (EC IM Y) (eT _ cv i _ (pm.filter fun p=>!Dq n.client p).length (pm.filter fun p=>!Dq n.client p) Y (Iq ⟨n.client,n.seq⟩) W9 _ (Ce.pick [3] (by decide)).here hpf Tj (by omega) (by rw[hl2];exact hcv) Ie (by omega) (Ce.at (i:=4) Y) Y Y (Bh Ce (i:=4) (is:=[3]) Y (by decide)) (by omega)) ?_
   rintro _ Md ⟨gw,cw,sw,rfl,hnw,hcw,hgw,Hd⟩
   have Ei:=(Ce.Am [3] rfl Hd).pick [0,1,2,5] (by decide)
   refine Xc Y<|Xf tJ Y<|Aa Ci<|OW mM Ei 0 Y Y Y Y (Nat.le_of_ble_eq_true Y) Y<|fun Mc Fa=>Xr Ci<|Rq<|Xa Y<|Xr Ci<|J5<|Ak Y Y ?_
   have HW:=HB.all Fa
   have hput:=kE (v:=⟨n.client,n.seq⟩) (i:=i) (vV hg.Qb).2 (by rw[← Jo];omega) hlo (.inr ⟨x,hx,Oo⟩)
   have hsp:uS b.last n.client n.seq=uL b.last ⟨n.client,n.seq⟩:=nM (by omega) (hyq rfl) (by omega)
   rw[← hput]at hsp
   have hln:((b.last.filter fun x=>!decide (x.client=n.client)).take i++(⟨n.client,n.seq⟩:Mk)::(b.last.filter fun x=>!decide (x.client=n.client)).drop i).length=(pm.filter fun p=>!Dq n.client p).length+1:=by rw[List.length_append,List.length_cons,List.length_take,List.length_drop,← Jo];omega
   refine⟨fun _=>⟨Y,_,HW.pick [0] (by decide),A1,k1,A9,k9,hd gw,cw,by rw[hsp,hln];rfl,hb1.toS HW hks,WV.toR Fa (fun x hx _=>⟨hnb x hx,.inr (by omega)⟩),?_⟩,fun h=>absurd hmay h⟩
   rw[hsp]
   exact Sl.row HW (i:=3) Y ((hpf.sub fun x hx=>List.mem_of_mem_take hx).app fun x hx=>by
    rcases List.mem_cons.1 hx with rfl | hx
    · rfl
    · exact hpf x (List.mem_of_mem_drop hx)) (by decide) ((hmf.take i).app ⟨Y,hmf.drop i⟩) (fun b hb=>wO (ok:=ok) HW (i:=3) Y (fun c hc=>by rw[List.mem_singleton.1 hc];exact fun e=>HW.ne (i:=3) (j:=0) (g:=gb) (by rw[e];rfl) Y (by decide) Y) b hb)
   refine SV (zK Y)<|vJ Ci<|yY Y<|yY Y<|vJ Ci<|yY Y<|yY Y<|vJ Ci<|yY Y<|yY Y<|vJ Ci<|yY Y<|yY Y<|SV (wT Y Y)<|xU<|cR Ci<|J4 Y<|J8<|zT<|zS<|Rq ?_
   replace Bc:=HC.Af Bc
   refine Xm Y<|Xm Y<|Xm Y<|Xf tA Y<|Aa Ci<|OV (EL ty3 Y (Bc.cell (i:=1) Y Y))<|Xf sQ Y<|OV (EL ty3 Y (Bc.cell (i:=1) Y Y))<|OV (EB yP eE Y Y)<|Aa Ci<|zG Tryz.underlying39 yP Bc Y (by decide) Y<|fun Io g13 Ce Xl=>OQ (EC IM Y) (eT _ cv i _ (pm.filter fun p=>!Dq n.client p).length (pm.filter fun p=>!Dq n.client p) Y (Iq ⟨n.client,n.seq⟩) W9 _ (Ce.pick [3] (by decide)).here hpf Tj (by omega) (by rw[hl2];exact hcv) Ie (by omega) (Ce.at (i:=4) Y) Y Y (Bh Ce (i:=4) (is:=[3]) Y (by decide)) (by omega)) ?_
   rintro _ Md ⟨gw,cw,sw,rfl,hnw,hcw,hgw,Hd⟩
   have Ei:=(Ce.Am [3] rfl Hd).pick [0,1,2,5] (by decide)
   refine Xc Y<|Xf tJ Y<|Aa Ci<|OW mM Ei 0 Y Y Y Y (Nat.le_of_ble_eq_true Y) Y<|fun Mc Fa=>Xr Ci<|Rq<|Xa Y<|Xr Ci<|J5<|Ak Y Y ?_
   have HW:=HB.all Fa
   have hput:=kE (v:=⟨n.client,n.seq⟩) (i:=i) (vV hg.Qb).2 (by rw[← Jo];omega) hlo (.inl (by rw[← Jo];omega))
   have hsp:uS b.last n.client n.seq=uL b.last ⟨n.client,n.seq⟩:=nM (by omega) (hyq rfl) (by omega)
   rw[← hput]at hsp
   have hln:((b.last.filter fun x=>!decide (x.client=n.client)).take i++(⟨n.client,n.seq⟩:Mk)::(b.last.filter fun x=>!decide (x.client=n.client)).drop i).length=(pm.filter fun p=>!Dq n.client p).length+1:=by rw[List.length_append,List.length_cons,List.length_take,List.length_drop,← Jo];omega
   refine⟨fun _=>⟨Y,_,HW.pick [0] (by decide),A1,k1,A9,k9,hd gw,cw,by rw[hsp,hln];rfl,hb1.toS HW hks,WV.toR Fa (fun x hx _=>⟨hnb x hx,.inr (by omega)⟩),?_⟩,fun h=>absurd hmay h⟩
   rw[hsp]
   exact Sl.row HW (i:=3) Y ((hpf.sub fun x hx=>List.mem_of_mem_take hx).app fun x hx=>by
    rcases List.mem_cons.1 hx with rfl | hx
    · rfl
    · exact hpf x (List.mem_of_mem_drop hx)) (by decide) ((hmf.take i).app ⟨Y,hmf.drop i⟩) (fun b hb=>wO (ok:=ok) HW (i:=3) Y (fun c hc=>by rw[List.mem_singleton.1 hc];exact fun e=>HW.ne (i:=3) (j:=0) (g:=gb) (by rw[e];rfl) Y (by decide) Y) b hb)
end Go.Proofs.YtjoeklkmnfaabaaGreat
namespace Go.Proofs.YtjoeklkmnfaabaaGreat
set_option maxRecDepth 100000
set_option maxHeartbeats 32000000
open Go Go.RowKit
set_option linter.unusedVariables false
attribute [local irreducible] yT Ops zP Cd
theorem KA (gs:Nat) (s:Sv) (A1:Option Addr) (k1:Nat) (A2:Option Addr) (k2:Nat) (A3:Option Addr) (k3:Nat) (n:Nt) (B1:Option Addr) (j1:Nat) (B2:Option Addr) (j2:Nat) (w0:World) (hrow:w0.heap[gs]? =some (.cells [.int .i64 s.p.r,.int .i64 s.p.n,.slice A1 s.Ae.length k1,.int .i64 s.index,.slice A2 s.image.length k2,.slice A3 s.entries.length k3].toArray 97 (0,0))) (ok:Nat→Prop) (hok:¬ok gs) (hv1:Sl (Et w0 ok) 4 w0 ok A1 s.Ae) (hv2:Bs w0 ok A2 s.image) (hv3:Sl (Gs w0 ok) 2 w0 ok A3 s.entries):zP Tryz.prog 116 #[.pointer (some ⟨gs,0,none⟩),.agg [.int .i64 n.kind,.int .i64 n.group,.int .i64 n.b.r,.int .i64 n.b.n,.int .i64 n.Ag.slot,.int .i64 n.Ag.b.r,.int .i64 n.Ag.b.n,.slice B1 n.Ag.val.length j1,.int .i64 n.entry.slot,.slice B2 n.entry.val.length j2,.int .i64 n.right.g,yC n.right.key,.int .i64 n.right.Ai,.int .i64 n.right.net,.int .i64 n.client,.int .i64 n.seq].toArray] w0 (fun _ w'=>∃ cs',Hp w0 w' [gs] [((some gs,97,cs'):Ent)]∧Gz w' (up ok w0.heap.size) cs' (s.raise n.b)):=by
 refine(fC gs s.p _ _ _ _ n B1 j1 B2 j2 w0 hrow).mono fun r w' H=>?_
 have hks:=JM (n:=w0.heap.size) (ok:=ok) (S:=[gs]) fun x hx hg=>hok (by rw[← List.mem_singleton.1 hg];exact hx)
 rw[oX]
 exact⟨_,H,A1,k1,A2,k2,A3,k3,Y,hv1.Gi H hks,hv2.to H hks,hv3.Hu H hks⟩
theorem BU (pre:Option Value) (gb:Nat) (b:Bo) (A1:Option Addr) (k1:Nat) (A2:Option Addr) (k2:Nat) (A3:Option Addr) (k3:Nat) (n:Nt) (B1:Option Addr) (j1:Nat) (B2:Option Addr) (j2:Nat) (Jh:Nat→Prop) (N:Nat) (w0:World) (hrow:w0.heap[gb]? =some (.cells (bcs pre [.slice A1 b.groups.length k1,.slice A2 b.rights.length k2,.slice A3 b.last.length k3]).toArray (bty pre) (0,0))) (ok:Nat→Prop) (hok:¬ok gb) (hb1:Sl (Gz w0 ok) 6 w0 ok A1 b.groups) (hb2:Sl Fb 4 w0 ok A2 b.rights) (hb3:Sl Fp 7 w0 ok A3 b.last) (Ou:¬Jh gb) (hbv:Bs w0 Jh B1 n.Ag.val) (hbe:Bs w0 Jh B2 n.entry.val) (hg:rJ b N) (hN:N≤900000000000):zP Tryz.prog 32 #[.pointer (some ⟨gb,bof pre,none⟩),.agg [.int .i64 n.kind,.int .i64 n.group,.int .i64 n.b.r,.int .i64 n.b.n,.int .i64 n.Ag.slot,.int .i64 n.Ag.b.r,.int .i64 n.Ag.b.n,.slice B1 n.Ag.val.length j1,.int .i64 n.entry.slot,.slice B2 n.entry.val.length j2,.int .i64 n.right.g,yC n.right.key,.int .i64 n.right.Ai,.int .i64 n.right.net,.int .i64 n.client,.int .i64 n.seq].toArray] w0 (fun r w'=>(∀ b',b.into n=some b'→r=.bool true∧∃ cs',Hp w0 w' [gb] [((some gb,bty pre,bcs pre cs'):Ent)]∧Hl w' (up ok w0.heap.size) cs' b')∧(b.into n=none→r=.bool false∧Hp w0 w' [gb] [])):=by
 refine zE Tryz.func32 Tryz.ntmps32 Y<|cR e58 ?_
 have hsp:=Q4 pre gb b A1 k1 A2 k2 A3 k3 n B1 j1 B2 j2
 let o:=bof pre
 rcases pre with _ | p
 all_goals
  have H:=Hp.old hrow
  have hks:=JM (n:=w0.heap.size) (ok:=ok) (S:=[gb]) fun x hx hg=>hok (by rw[← List.mem_singleton.1 hg];exact hx)
  have hkB:∀ x,ok x→x < w0.heap.size→x∉[gb]∧(ok x∧x < w0.heap.size):=fun x hx hl=>⟨(hks x hx hl).1,hx,hl⟩
  have hkn:∀ x,Jh x→x < w0.heap.size→x∉[gb]∧(Jh x∧x < w0.heap.size):=fun x hx hl=>⟨fun hg=>Ou (by rw[← List.mem_singleton.1 hg];exact hx),hx,hl⟩
  obtain⟨pg,hpg,hrg,hag,h2g⟩:=id hb1
  have hgl:=h2g.len
  have h8:=hg.eight
  have XW:=h2g.ones fun _ _ h=>h.ones
  refine Rq<|yA Y Y H<|fun w1 g1 H1 hg1=>Xa Y<|Xr e58<|J1<|Rq<|Xf oO Y<|OV (EL ty3 Y (H1.cell (i:=1) Y Y))<|OT (xP Y Y) (fun hp9=>?_) (fun hp9=>?_)
  refine Xr e58<|J3 Y<|Rq<|Xm Y<|OV (EN xE Y (vs:=[.int .i64 n.kind,.int .i64 n.group,.int .i64 n.b.r,.int .i64 n.b.n,.int .i64 n.Ag.slot,.int .i64 n.Ag.b.r,.int .i64 n.Ag.b.n,.slice B1 n.Ag.val.length j1,.int .i64 n.entry.slot,.slice B2 n.entry.val.length j2,.int .i64 n.right.g,yC n.right.key,.int .i64 n.right.Ai,.int .i64 n.right.net,.int .i64 n.client,.int .i64 n.seq]) Y (H1.Ad (i:=1) Y Y)) ?_
  have HZ0:=H1
  refine OQ (EC gf66 rfl) (hsp N _ (H1.at (i:=0) rfl) (up ok w0.heap.size) (fun hh=>by rcases hh with h | h;exact hok h;have:=(Array.getElem?_eq_some_iff.1 hrow).1;omega) (hb1.toS H1 hks) (hb2.toR H1 hks) (hb3.toM H1 hks) hg hN) ?_
  rintro r w2 ⟨hyes,hno⟩
  by_cases hmay:nW n.right
  obtain⟨rfl,cs',Hd,hB⟩:=hyes hmay
  have Ol:=HZ0.size
  have Rh:=(HZ0.Am [0] rfl Hd).pick [2] (by decide)
  refine Xa Y<|Xr e58<|J5<|Ak Y Y ?_
  exact⟨fun b' hb'=>by
   rw[vM hp9 hmay]at hb'
   simp only[Option.some.injEq]at hb'
   subst hb'
   exact⟨Y,cs',Rh,hB.to (Hp.refl _) (fun x hx _=>⟨by simp,by
    rcases hx with hx | hx
    · exact hx
    · exact .inr (by omega)⟩)⟩,fun h=>by rw[vM hp9 hmay]at h;cases h⟩
  obtain⟨rfl,Hd⟩:=hno hmay
  have Rh:=(HZ0.Am [0] rfl Hd).Ac
  refine Xa Y<|Xr e58<|J5<|Ak Y Y<|⟨(fun b' hb'=>by rw[cJ hp9 hmay]at hb';cases hb'),fun _=>⟨Y,Rh⟩⟩
  refine Xr e58<|J4 Y<|J6<|Rq<|Xf oO Y<|OV (EL ty3 Y (H1.cell (i:=1) Y Y))<|OQ (EC gf67 Y) (QY n.kind _) ?_
  rintro r w2 ⟨h0,h1,h2,h3,h4,Hd⟩
  have H2:=H1.Af Hd
  obtain hk | hk | hk | hk | hk:(n.kind < 1∨4 < n.kind)∨n.kind=1∨n.kind=2∨n.kind=3∨n.kind=4:=by omega
  obtain rfl:=h0 hk
  refine Xa Y<|Xr e58<|J1<|Rq<|Xm Y<|OV (B5 Tryz.underlying136 Y)<|Xm Y<|Aa e58<|Oz 3 Y<|Aa e58<|Xt Y Y<|Xm Y<|Aa e58<|Oz 3 Y<|Aa e58<|Xt Y Y ?_
  have m2:=()
  rotate_left 1
  obtain rfl:=h1 hk
  refine Xa Y<|Xr e58<|J1<|Rq<|Xm Y<|OV (oC Tryz.underlying136 Y)<|Xm Y<|Aa e58<|OY Y<|Xf fl81_1 Y<|OY Y<|OV (EL ty3 Y (H2.cell (i:=1) Y Y))<|Aa e58<|OY Y<|OT (zQ Y Y) (fun hp21=>?_) (fun hp21=>?_)
  refine Xu Y Y<|Xm Y<|Aa e58<|Oz 3 Y<|Aa e58<|Xt Y Y ?_
  have m2:=()
  rotate_left 1
  refine Xu Y Y<|Xm Y<|Aa e58<|OY Y<|Xf fl81_1 Y<|OY Y<|OV (EL ty3 Y (H2.cell (i:=1) Y Y))<|Aa e58<|OY Y<|OT (wL Y Y) (fun Gu=>?_) (fun Gu=>?_)
  refine Xu Y Y ?_
  have m2:=()
  rotate_left 1
  obtain⟨s,hs⟩:=yM (l:=b.groups) (j:=n.group.toNat) (by omega)
  have hsl:=lt_of_get hs
  obtain⟨p1,hp1,hR⟩:=h2g.get hs
  obtain⟨C1,q1,C2,q2,C3,q3,rfl,hv1,hv2,hv3⟩:=hR
  obtain⟨a1,ha1⟩:=hrg.some_ (by omega)
  subst ha1
  have hce:=(tP s).1 (hg.chk s (mem_of hs))
  have Qc:=pT hce
  have Ig:=pP hce
  have Qd:=nF s n
  refine Xu Y Y<|Xr e58<|J4 Y<|J6<|J1<|zR 9 [(true,0),(true,1),(true,2),(true,3),(true,4),(true,5),(true,6),(true,7),(false,8),(false,9)] H2 [0,1] yG (by decide) (by kernel_rfl) ?_
  rintro w3 hw3
  have H3:=Hp.drew H2;rw[← hw3]at H3
  refine Zm Y Y<|Zc Y Y<|Zf Y vO Y<|MP Y<|MV (fun wz hz=>EL qH Y (hz.cell (i:=0) Y Y))<|cZ e58<|Zf Y fl81_1 Y<|MP Y<|MV (fun wz hz=>EL ty3 Y (hz.cell (i:=1) Y Y))<|MP Y<|MV (fun wz hz=>EI Tryz.underlying37 xW Y Y (len:=b.groups.length) (i:=n.group.toNat) (by omega) (by omega) Y)<|MP Y<|MV (fun wz hz=>EN xW Y (vs:=[.int .i64 s.p.r,.int .i64 s.p.n,.slice C1 s.Ae.length q1,.int .i64 s.index,.slice C2 s.image.length q2,.slice C3 s.entries.length q3]) Y ((hrg.move (by decide) hag hz hks).1.elem hpg hp1))<|cZ e58<|MO Y<|OA xW H3<|fun w4 gs H4 hgs=>?_
  have hgs0:w0.heap.size≤gs:=by have:=H3.size;omega
  refine OE ?_
  refine⟨fun hne=>H4.pick [0,1] (by decide),?_⟩
  refine cZ e58<|MO Y<|OS xW H4 2 Y Y Y Y Y (by first|exact NL Y|simp[zH]) Y<|fun w5 H5=>OE<|⟨fun hne=>absurd Y hne,?_⟩
  refine cZ e58<|ME<|cR e58<|Rq<|Xm Y<|OV (EN xE Y (vs:=[.int .i64 n.kind,.int .i64 n.group,.int .i64 n.b.r,.int .i64 n.b.n,.int .i64 n.Ag.slot,.int .i64 n.Ag.b.r,.int .i64 n.Ag.b.n,.slice B1 n.Ag.val.length j1,.int .i64 n.entry.slot,.slice B2 n.entry.val.length j2,.int .i64 n.right.g,yC n.right.key,.int .i64 n.right.Ai,.int .i64 n.right.net,.int .i64 n.client,.int .i64 n.seq]) Y (H5.Ad (i:=1) Y Y))<|OQ (xI OJ Y Y) (KA gs s C1 q1 C2 q2 C3 q3 n B1 j1 B2 j2 _ (H5.at (i:=2) Y) (fun x=>ok x∧x < w0.heap.size) (fun hh=>by have:=hh.2;omega) (hv1.Gi H5 hkB) (hv2.to H5 hkB) (hv3.Hu H5 hkB)) ?_
  rintro _ w6 ⟨cs2,Hd,hsv⟩
  have hnp:=Hp.fresh H5
  have Ol:=H5.size
  have hpl:=bl_place H5
  have HB:=(H5.Am [2] rfl Hd).pick [0,1,3] (by decide)
  rw[← N7 hk]at hsv
  have m1:=()
  rotate_left 1
  obtain rfl:=h2 hk
  refine Xa Y<|Xr e58<|J1<|Rq<|Xm Y<|OV (oC Tryz.underlying136 Y)<|Xm Y<|Aa e58<|OY Y<|Xf fl81_1 Y<|OY Y<|OV (EL ty3 Y (H2.cell (i:=1) Y Y))<|Aa e58<|OY Y<|OT (zQ Y Y) (fun hp21=>?_) (fun hp21=>?_)
  refine Xu Y Y<|Xm Y<|Aa e58<|Oz 3 Y<|Aa e58<|Xt Y Y ?_
  have m2:=()
  rotate_left 1
  refine Xu Y Y<|Xm Y<|Aa e58<|OY Y<|Xf fl81_1 Y<|OY Y<|OV (EL ty3 Y (H2.cell (i:=1) Y Y))<|Aa e58<|OY Y<|OT (wL Y Y) (fun Gu=>?_) (fun Gu=>?_)
  refine Xu Y Y ?_
  have m2:=()
  rotate_left 1
  obtain⟨s,hs⟩:=yM (l:=b.groups) (j:=n.group.toNat) (by omega)
  have hsl:=lt_of_get hs
  obtain⟨p1,hp1,hR⟩:=h2g.get hs
  obtain⟨C1,q1,C2,q2,C3,q3,rfl,hv1,hv2,hv3⟩:=hR
  obtain⟨a1,ha1⟩:=hrg.some_ (by omega)
  subst ha1
  have hce:=(tP s).1 (hg.chk s (mem_of hs))
  have Qc:=pT hce
  have Ig:=pP hce
  have Qd:=nF s n
  refine Xu Y Y<|Xr e58<|J4 Y<|J6<|J1<|zR 9 [(true,0),(true,1),(true,2),(true,3),(true,4),(true,5),(true,6),(true,7),(false,8),(false,9)] H2 [0,1] yG (by decide) (by kernel_rfl) ?_
  rintro w3 hw3
  have H3:=Hp.drew H2;rw[← hw3]at H3
  refine Zm Y Y<|Zc Y Y<|Zf Y vO Y<|MP Y<|MV (fun wz hz=>EL qH Y (hz.cell (i:=0) Y Y))<|cZ e58<|Zf Y fl81_1 Y<|MP Y<|MV (fun wz hz=>EL ty3 Y (hz.cell (i:=1) Y Y))<|MP Y<|MV (fun wz hz=>EI Tryz.underlying37 xW Y Y (len:=b.groups.length) (i:=n.group.toNat) (by omega) (by omega) Y)<|MP Y<|MV (fun wz hz=>EN xW Y (vs:=[.int .i64 s.p.r,.int .i64 s.p.n,.slice C1 s.Ae.length q1,.int .i64 s.index,.slice C2 s.image.length q2,.slice C3 s.entries.length q3]) Y ((hrg.move (by decide) hag hz hks).1.elem hpg hp1))<|cZ e58<|MO Y<|OA xW H3<|fun w4 gs H4 hgs=>?_
  have hgs0:w0.heap.size≤gs:=by have:=H3.size;omega
  refine OE ?_
  refine⟨fun hne=>H4.pick [0,1] (by decide),?_⟩
  refine cZ e58<|MO Y<|OS xW H4 2 Y Y Y Y Y (by first|exact NL Y|simp[zH]) Y<|fun w5 H5=>OE<|⟨fun hne=>absurd Y hne,?_⟩
  refine cZ e58<|ME<|cR e58<|Rq<|Xm Y<|OV (EN xE Y (vs:=[.int .i64 n.kind,.int .i64 n.group,.int .i64 n.b.r,.int .i64 n.b.n,.int .i64 n.Ag.slot,.int .i64 n.Ag.b.r,.int .i64 n.Ag.b.n,.slice B1 n.Ag.val.length j1,.int .i64 n.entry.slot,.slice B2 n.entry.val.length j2,.int .i64 n.right.g,yC n.right.key,.int .i64 n.right.Ai,.int .i64 n.right.net,.int .i64 n.client,.int .i64 n.seq]) Y (H5.Ad (i:=1) Y Y))<|OQ (xI gf117 Y Y) (UU gs s C1 q1 C2 q2 C3 q3 n B1 j1 B2 j2 (fun x=>Jh x∧x < w0.heap.size) _ (H5.at (i:=2) Y) (fun x=>ok x∧x < w0.heap.size) (fun hh=>by have:=hh.2;omega) (hv1.Gi H5 hkB) (hv2.to H5 hkB) (hv3.Hu H5 hkB) (fun hh=>by have:=hh.2;omega) (hbv.to H5 hkn) (RF (dI hce.v).2 _) (by omega) ⟨hce.i.1,hce.i.2.1⟩ Ig) ?_
  rintro _ w6 ⟨cs2,Hd,hsv⟩
  have hnp:=Hp.fresh H5
  have Ol:=H5.size
  have hpl:=bl_place H5
  have HB:=(H5.Am [2] rfl Hd).pick [0,1,3] (by decide)
  rw[← IE hk]at hsv
  have m1:=()
  rotate_left 1
  obtain rfl:=h3 hk
  refine Xa Y<|Xr e58<|J1<|Rq<|Xm Y<|OV (oC Tryz.underlying136 Y)<|Xm Y<|Aa e58<|OY Y<|Xf fl81_1 Y<|OY Y<|OV (EL ty3 Y (H2.cell (i:=1) Y Y))<|Aa e58<|OY Y<|OT (zQ Y Y) (fun hp21=>?_) (fun hp21=>?_)
  refine Xu Y Y<|Xm Y<|Aa e58<|Oz 3 Y<|Aa e58<|Xt Y Y ?_
  have m2:=()
  rotate_left 1
  refine Xu Y Y<|Xm Y<|Aa e58<|OY Y<|Xf fl81_1 Y<|OY Y<|OV (EL ty3 Y (H2.cell (i:=1) Y Y))<|Aa e58<|OY Y<|OT (wL Y Y) (fun Gu=>?_) (fun Gu=>?_)
  refine Xu Y Y ?_
  have m2:=()
  rotate_left 1
  obtain⟨s,hs⟩:=yM (l:=b.groups) (j:=n.group.toNat) (by omega)
  have hsl:=lt_of_get hs
  obtain⟨p1,hp1,hR⟩:=h2g.get hs
  obtain⟨C1,q1,C2,q2,C3,q3,rfl,hv1,hv2,hv3⟩:=hR
  obtain⟨a1,ha1⟩:=hrg.some_ (by omega)
  subst ha1
  have hce:=(tP s).1 (hg.chk s (mem_of hs))
  have Qc:=pT hce
  have Ig:=pP hce
  have Qd:=nF s n
  refine Xu Y Y<|Xr e58<|J4 Y<|J6<|J1<|zR 9 [(true,0),(true,1),(true,2),(true,3),(true,4),(true,5),(true,6),(true,7),(false,8),(false,9)] H2 [0,1] yG (by decide) (by kernel_rfl) ?_
  rintro w3 hw3
  have H3:=Hp.drew H2;rw[← hw3]at H3
  refine Zm Y Y<|Zc Y Y<|Zf Y vO Y<|MP Y<|MV (fun wz hz=>EL qH Y (hz.cell (i:=0) Y Y))<|cZ e58<|Zf Y fl81_1 Y<|MP Y<|MV (fun wz hz=>EL ty3 Y (hz.cell (i:=1) Y Y))<|MP Y<|MV (fun wz hz=>EI Tryz.underlying37 xW Y Y (len:=b.groups.length) (i:=n.group.toNat) (by omega) (by omega) Y)<|MP Y<|MV (fun wz hz=>EN xW Y (vs:=[.int .i64 s.p.r,.int .i64 s.p.n,.slice C1 s.Ae.length q1,.int .i64 s.index,.slice C2 s.image.length q2,.slice C3 s.entries.length q3]) Y ((hrg.move (by decide) hag hz hks).1.elem hpg hp1))<|cZ e58<|MO Y<|OA xW H3<|fun w4 gs H4 hgs=>?_
  have hgs0:w0.heap.size≤gs:=by have:=H3.size;omega
  refine OE ?_
  refine⟨fun hne=>H4.pick [0,1] (by decide),?_⟩
  refine cZ e58<|MO Y<|OS xW H4 2 Y Y Y Y Y (by first|exact NL Y|simp[zH]) Y<|fun w5 H5=>OE<|⟨fun hne=>absurd Y hne,?_⟩
  refine cZ e58<|ME<|cR e58<|Rq<|Xm Y<|OV (EN xE Y (vs:=[.int .i64 n.kind,.int .i64 n.group,.int .i64 n.b.r,.int .i64 n.b.n,.int .i64 n.Ag.slot,.int .i64 n.Ag.b.r,.int .i64 n.Ag.b.n,.slice B1 n.Ag.val.length j1,.int .i64 n.entry.slot,.slice B2 n.entry.val.length j2,.int .i64 n.right.g,yC n.right.key,.int .i64 n.right.Ai,.int .i64 n.right.net,.int .i64 n.client,.int .i64 n.seq]) Y (H5.Ad (i:=1) Y Y))<|OQ (xI gf118 Y Y) (SW gs s C1 q1 C2 q2 C3 q3 n B1 j1 B2 j2 (fun x=>Jh x∧x < w0.heap.size) _ (H5.at (i:=2) Y) (fun x=>ok x∧x < w0.heap.size) (fun hh=>by have:=hh.2;omega) (hv1.Gi H5 hkB) (hv2.to H5 hkB) (hv3.Hu H5 hkB) (fun hh=>by have:=hh.2;omega) (hbe.to H5 hkn) (by omega) ⟨hce.i.1,hce.i.2.1⟩ Ig) ?_
  rintro _ w6 ⟨cs2,Hd,hsv⟩
  have hnp:=Hp.fresh H5
  have Ol:=H5.size
  have hpl:=bl_place H5
  have HB:=(H5.Am [2] rfl Hd).pick [0,1,3] (by decide)
  rw[← ID hk]at hsv
  have m1:=()
  rotate_left 1
  obtain rfl:=h4 hk
  refine Xa Y<|Xr e58<|J1<|Rq<|Xm Y<|OV (oC Tryz.underlying136 Y)<|Xm Y<|Aa e58<|OY Y<|Xf fl81_1 Y<|OY Y<|OV (EL ty3 Y (H2.cell (i:=1) Y Y))<|Aa e58<|OY Y<|OT (zQ Y Y) (fun hp21=>?_) (fun hp21=>?_)
  refine Xu Y Y<|Xm Y<|Aa e58<|Oz 3 Y<|Aa e58<|Xt Y Y ?_
  have m2:=()
  rotate_left 1
  refine Xu Y Y<|Xm Y<|Aa e58<|OY Y<|Xf fl81_1 Y<|OY Y<|OV (EL ty3 Y (H2.cell (i:=1) Y Y))<|Aa e58<|OY Y<|OT (wL Y Y) (fun Gu=>?_) (fun Gu=>?_)
  refine Xu Y Y ?_
  have m2:=()
  rotate_left 1
  obtain⟨s,hs⟩:=yM (l:=b.groups) (j:=n.group.toNat) (by omega)
  have hsl:=lt_of_get hs
  obtain⟨p1,hp1,hR⟩:=h2g.get hs
  obtain⟨C1,q1,C2,q2,C3,q3,rfl,hv1,hv2,hv3⟩:=hR
  obtain⟨a1,ha1⟩:=hrg.some_ (by omega)
  subst ha1
  have hce:=(tP s).1 (hg.chk s (mem_of hs))
  have Qc:=pT hce
  have Ig:=pP hce
  have Qd:=nF s n
  refine Xu Y Y<|Xr e58<|J4 Y<|J6<|J1<|zR 9 [(true,0),(true,1),(true,2),(true,3),(true,4),(true,5),(true,6),(true,7),(false,8),(false,9)] H2 [0,1] yG (by decide) (by kernel_rfl) ?_
  rintro w3 hw3
  have H3:=Hp.drew H2;rw[← hw3]at H3
  refine Zm Y Y<|Zc Y Y<|Zf Y vO Y<|MP Y<|MV (fun wz hz=>EL qH Y (hz.cell (i:=0) Y Y))<|cZ e58<|Zf Y fl81_1 Y<|MP Y<|MV (fun wz hz=>EL ty3 Y (hz.cell (i:=1) Y Y))<|MP Y<|MV (fun wz hz=>EI Tryz.underlying37 xW Y Y (len:=b.groups.length) (i:=n.group.toNat) (by omega) (by omega) Y)<|MP Y<|MV (fun wz hz=>EN xW Y (vs:=[.int .i64 s.p.r,.int .i64 s.p.n,.slice C1 s.Ae.length q1,.int .i64 s.index,.slice C2 s.image.length q2,.slice C3 s.entries.length q3]) Y ((hrg.move (by decide) hag hz hks).1.elem hpg hp1))<|cZ e58<|MO Y<|OA xW H3<|fun w4 gs H4 hgs=>?_
  have hgs0:w0.heap.size≤gs:=by have:=H3.size;omega
  refine OE ?_
  refine⟨fun hne=>H4.pick [0,1] (by decide),?_⟩
  refine cZ e58<|MO Y<|OS xW H4 2 Y Y Y Y Y (by first|exact NL Y|simp[zH]) Y<|fun w5 H5=>OE<|⟨fun hne=>absurd Y hne,?_⟩
  refine cZ e58<|ME<|cR e58<|Rq<|Xm rfl<|OV (EN xE rfl (vs:=[.int .i64 n.kind,.int .i64 n.group,.int .i64 n.b.r,.int .i64 n.b.n,.int .i64 n.Ag.slot,.int .i64 n.Ag.b.r,.int .i64 n.Ag.b.n,.slice B1 n.Ag.val.length j1,.int .i64 n.entry.slot,.slice B2 n.entry.val.length j2,.int .i64 n.right.g,yC n.right.key,.int .i64 n.right.Ai,.int .i64 n.right.net,.int .i64 n.client,.int .i64 n.seq]) rfl (H5.Ad (i:=1) rfl rfl))<|OQ (xI gf119 rfl rfl) (SK gs s C1 q1 C2 q2 C3 q3 n B1 j1 B2 j2 (fun x=>Jh x∧x < w0.heap.size) _ (H5.at (i:=2) rfl) (fun x=>ok x∧x < w0.heap.size) (fun hh=>by have:=hh.2;omega) (hv1.Gi H5 hkB) (hv2.to H5 hkB) (hv3.Hu H5 hkB) (fun hh=>by have:=hh.2;omega) (hbe.to H5 hkn) (by omega) (fun x hx=>by obtain⟨i,hi⟩:=List.getElem?_of_mem hx;exact(pE hce.e i x hi).2.1) ⟨hce.i.1,hce.i.2.1⟩ Ig) ?_
  rintro _ w6 ⟨cs2,Hd,hsv⟩
  have hnp:=Hp.fresh H5
  have Ol:=H5.size
  have hpl:=bl_place H5
  have HB:=(H5.Am [2] rfl Hd).pick [0,1,3] (by decide)
  rw[← AF hk]at hsv
  have m1:=()
  rotate_left 1
  any_goals
   clear m2
   refine Xr e58<|J3 Y<|Rq<|Xa Y<|Xr e58<|J5<|Ak Y Y<|⟨(fun b' hb'=>by rw[DQ hp9 (by omega)]at hb';cases hb'),fun _=>⟨Y,H2.Ac⟩⟩
  any_goals
   clear m1
   obtain⟨D1,e1,D2,e2,D3,e3,rfl,hw1,hw2,hw3⟩:=hsv
   have H6:=HB.here
   have hnk:∀ x,up (fun x=>ok x∧x < w0.heap.size) w5.heap.size x→x∉bl _:=fun x hx hb=>(show False from by
    rcases hx with hx | hx
    · rcases hpl x hb with h | h
      · exact(hks x hx.1 hx.2).1 h
      · have:=hx.2;omega
    · exact hnp x hx hb)
   have hkk:∀ x,up (fun x=>ok x∧x < w0.heap.size) w5.heap.size x→x < w6.heap.size→x∉bl _∧up ok w0.heap.size x:=fun x hx _=>⟨hnk x hx,by
    rcases hx with hx | hx
    · exact .inl hx.1
    · exact .inr (by omega)⟩
   refine Xr e58<|J1<|Rq<|OV (EN xW Y (vs:=[.int .i64 (s.goes n).p.r,.int .i64 (s.goes n).p.n,.slice D1 (s.goes n).Ae.length e1,.int .i64 (s.goes n).index,.slice D2 (s.goes n).image.length e2,.slice D3 (s.goes n).entries.length e3]) Y (H6.Ad (i:=2) Y Y))<|OQ (EC gf68 Y) (S6 (s.goes n) D1 e1 D2 e2 D3 e3 _ _ hw1 hw2 hw3 (by omega) (by omega)) ?_
   rintro _ w7 ⟨e,rfl,hans,Hd⟩
   have H7:=H6.Af Hd
   refine OT (yS Y Y) (fun hp41=>?_) (fun hp41=>?_)
   refine Xr e58<|J3 rfl<|Rq<|Xa rfl<|Xr e58<|J5<|Ak rfl rfl<|⟨(fun b' hb'=>by rw[HY hp9 hs (by cases hc:chk (s.goes n)with | false=>rfl | true=>exact absurd (hans.1 hc) hp41)]at hb';cases hb'),fun _=>⟨rfl,(HB.all H7).Ac⟩⟩
   have Ud:chk (s.goes n)=true:=by cases hc:chk (s.goes n)with | true=>rfl | false=>have:=hans.2 hc;omega
   refine Xr e58<|J4 Y<|J6<|Rq<|Xm Y<|Xm Y<|Xc Y<|Xf vO Y<|Aa e58<|OV (EL qH Y (H7.cell (i:=0) Y Y))<|OQ (EC gf69 Y) (PP (some a1) b.groups.length k1 pg.flatten _ (hrg.move (by decide) hag (HB.all H7) hks).1 (xF XW) (by rw[h8];decide)) ?_
   rintro _ w8 ⟨gv,cv,sv,rfl,hmv,hcv,Ie,Hc⟩
   have H8:=H7.call0 Hc
   obtain⟨gw,rfl⟩:=vK H8 (i:=3) rfl (by rw[List.length_append,hpg.len];omega)
   refine Xc Y<|Xf vO Y<|Aa e58<|OW qH H8 0 Y Y Y Y (Nat.le_of_ble_eq_true Y) Y<|fun w9 H9=>Xr e58<|J1<|zR 8 [(true,0),(true,1),(true,2),(true,3),(true,4),(true,5),(true,6),(true,7),(false,8)] H9 [0,1,2,3] yG (by decide) (by kernel_rfl) ?_
   rintro w10 Oi
   have Ar:=Hp.drew H9;rw[← Oi]at Ar
   refine Zm Y Y<|Zc Y Y<|Zf Y vO Y<|MP Y<|MV (fun wz hz=>EL qH Y (hz.cell (i:=0) Y Y))<|cZ e58<|Zf Y fl81_1 Y<|MP Y<|MV (fun wz hz=>EL ty3 Y (hz.cell (i:=1) Y Y))<|MP Y<|MV (fun wz hz=>EN xW Y (vs:=[.int .i64 (s.goes n).p.r,.int .i64 (s.goes n).p.n,.slice D1 (s.goes n).Ae.length e1,.int .i64 (s.goes n).index,.slice D2 (s.goes n).image.length e2,.slice D3 (s.goes n).entries.length e3]) Y (hz.Ad (i:=2) Y Y))<|MP Y<|MV (fun wz hz=>uR Tryz.underlying37 xW Y Y (len:=b.groups.length) (i:=n.group.toNat) (by omega) (by omega))<|cZ e58<|MO Y<|OS xW Ar 3 Y Y Y Y Y (by rw[List.length_append,hpg.len];show 0+n.group.toNat*6+6≤_;omega) Y<|fun Gm Bd=>?_
   rw[nL (sz:=6) (vs:=[.int .i64 (s.goes n).p.r,.int .i64 (s.goes n).p.n,.slice D1 (s.goes n).Ae.length e1,.int .i64 (s.goes n).index,.slice D2 (s.goes n).image.length e2,.slice D3 (s.goes n).entries.length e3]) hpg (by omega) rfl]at Bd
   refine OE ?_
   refine⟨fun hne=>absurd Y hne,?_⟩
   refine cZ e58<|ME<|cR e58<|Rq<|Xa Y<|Xr e58<|J5<|Ak Y Y ?_
   have HW:=HB.all Bd
   refine⟨fun b' hb'=>?_,fun h=>by rw[lI hp9 (by omega) hs Ud]at h;cases h⟩
   rw[lI hp9 (by omega) hs Ud]at hb'
   simp only[Option.some.injEq]at hb'
   subst hb'
   refine⟨Y,_,HW.pick [0] (by decide),hd (some gw),cv,A2,k2,A3,k3,by rw[List.length_set];rfl,?_,hb2.toR HW hks,hb3.toM HW hks⟩
   exact Sl.row HW (i:=3) Y (hpg.Hy Y) (by decide) ((h2g.imp (R':=Gz Gm (up ok w0.heap.size)) fun p x h=>h.to HW hks).set _ ⟨D1,e1,D2,e2,D3,e3,Y,hw1.Gi Bd hkk,hw2.to Bd hkk,hw3.Hu Bd hkk⟩) (fun c hc=>wO (ok:=ok) HW (i:=3) Y (fun c hc=>by rw[List.mem_singleton.1 hc];exact fun e=>HW.ne (i:=3) (j:=0) (g:=gb) (by rw[e];rfl) Y (by decide) Y) c hc)
end Go.Proofs.YtjoeklkmnfaabaaGreat
namespace Go.Proofs.YtjoeklkmnfaabaaGreat
open Go Go.RowKit
set_option linter.unusedVariables false
set_option linter.unusedSimpArgs false
def Lu (w:World) (bad:Nat→Prop) (xs:List Value) (bs:List Blk):Prop:=
 xs.length=bs.length∧∀ i (h:i < bs.length),∃ (B:Option Addr) (c:Nat),xs[i]? =some (.slice B bs[i].length c)∧Rd w B bs[i].length 1 (u8s bs[i])∧(0 < bs[i].length→∀ p,B=some p→¬bad p.block)
theorem Lu.keep {w w':World} {S:List Nat} {bad bad':Nat→Prop} {es2:List Ent} {xs:List Value} {bs:List Blk} (h:Lu w bad xs bs) (H:Hp w w' S es2) (hS:∀ b∈S,bad b) (hn:∀ b,bad' b→b < w.heap.size→bad b):Lu w' bad' xs bs:=by
 refine⟨h.1,fun i hi=>?_⟩
 obtain⟨B,c,h1,h2,h3⟩:=h.2 i hi
 by_cases h0:bs[i].length=0
 · exact⟨B,c,h1,h2.empty h0,fun h=>absurd h (by omega)⟩
 · refine⟨B,c,h1,h2.to H (fun p hp hb=>h3 (by omega) p hp (hS _ hb)),fun _ p hp hb=>h3 (by omega) p hp (hn _ hb ?_)⟩
   have h5:0 < (u8s bs[i]).length:=by rw[zY];omega
   have h6:=World.block_lt_of_cell? w _ (h2.cells p hp 0 _ (List.getElem?_eq_getElem h5))
   rwa [Addr.add_zero']at h6
theorem Lu.lsw {w:World} {bad:Nat→Prop} {es:List Ent} {xs:List Value} {bs:List Blk} (h:Lu w bad xs bs) (hb:∀ b∈bl es,bad b):Gg w es xs bs:=by
 refine⟨h.1,fun i hi=>?_⟩
 obtain⟨B,c,h1,h2,h3⟩:=h.2 i hi
 exact⟨B,c,h1,h2,fun h0 p hp hx=>h3 h0 p hp (hb _ hx)⟩
theorem Lu.frame {w1 w2:World} {bad bad':Nat→Prop} {es2:List Ent} {xs ys:List Value} {rs rs':List Blk} (h1:Lu w1 bad xs rs) (hx:gH w1 xs ys) (h2:Gg w2 es2 ys rs') (hn:∀ b,bad' b→(bad b∧b < w1.heap.size)∨b∈bl es2):Lu w2 bad' ys rs':=by
 refine⟨h2.1,fun i hi=>?_⟩
 obtain⟨B,c,a1,a2,a3⟩:=h2.2 i hi
 refine⟨B,c,a1,a2,fun h0 p hp hb=>?_⟩
 rcases hn _ hb with ⟨hf1,hf2⟩ | hb
 · rcases hx _ (List.mem_of_getElem? a1)with hv | hv
   · obtain⟨j,hj⟩:=List.getElem?_of_mem hv
     obtain⟨B',c',b1,b2,b3⟩:=h1.2 j (by rw[← h1.1];exact lt_of_get hj)
     rw[hj]at b1
     simp only[Option.some.injEq,Value.slice.injEq]at b1
     exact b3 (by rw[← b1.2.1];exact h0) p (by rw[← b1.1];exact hp) hf1
   · have:=hv p _ c (by rw[hp])
     omega
 · exact a3 h0 p hp hb
structure Vm where
 m:Mw
 gx:Nat
 cs:List Value
@[reducible] def gK (v:Vm):List Value:=.pointer (some ⟨v.m.gv,0,none⟩)::v.cs
@[reducible] def Aj (v:Vm) (D:Dk) (W:Wl):List Ent:=Ah v.m D W++[(some v.gx,69,gK v)]
structure Px (w:World) (v:Vm) (D:Dk) (W:Wl) (b:Bo) (bad:Nat→Prop):Prop where
 ok:Eo w v.m D W
 recs:Lu w bad v.m.xs W.recs
 bo:Hl w (fun x=>¬bad x) v.cs b
theorem Px.keep {w w':World} {S:List Nat} {es2:List Ent} {v:Vm} {D:Dk} {W:Wl} {b:Bo} {bad bad':Nat→Prop} (h:Px w v D W b bad) (H:Hp w w' S es2) (hS:∀ x∈S,bad x) (hn:∀ x,bad' x→x < w.heap.size→bad x) (hw:∀ x∈bl (Ah v.m D W),bad' x):Px w' v D W b bad':=by
 have hr:=h.recs.keep H hS hn
 exact⟨{ h.ok with lst:=hr.lsw hw },hr,h.bo.to H fun x hx hl=>⟨fun hs=>hx (hS x hs),fun hb=>hx (hn x hb hl)⟩⟩
def I8 (w0 w':World) (v:Vm) (bad:Nat→Prop) (S:List Nat) (D:Dk) (W:Wl) (b:Bo):Prop:=
 ∃ v':Vm,v'.m.gd=v.m.gd∧v'.m.gk=v.m.gk∧v'.gx=v.gx∧Px w' v' D W b (fun x=>(bad x∧x < w0.heap.size)∨x∈bl (Aj v' D W))∧Hp w0 w' S (Aj v' D W)
theorem Px.log {w w':World} {v:Vm} {D D':Dk} {W W':Wl} {b:Bo} {bad:Nat→Prop} (h:Px w v D W b bad) (hb:∀ x∈bl (Ah v.m D W),bad x) (hp:vY w w' (bl (Ah v.m D W)) v.m D' W'):
 ∃ m':Mw,m'.gd=v.m.gd∧m'.gk=v.m.gk∧m'.gv=v.m.gv∧Px w' ⟨m',v.gx,v.cs⟩ D' W' b (fun x=>(bad x∧x < w.heap.size)∨x∈bl (Ah m' D' W'))∧Hp w w' (bl (Ah v.m D W)) (Ah m' D' W'):=by
 obtain⟨m',e1,e2,e3,hx,hok,H⟩:=hp
 refine⟨m',e1,e2,e3,⟨hok,h.recs.frame hx hok.lst fun _ h=>h,h.bo.to H fun x hx hl=>⟨fun hs=>hx (hb x hs),?_⟩⟩,H⟩
 rintro(⟨h1,_⟩ | h1)
 · exact hx h1
 · rcases bl_place H x h1 with h2 | h2
   · exact hx (hb x h2)
   · omega
def UN (s:Nat) (D:Dk) (W:Wl) (b:Bo) (l:List Nt) (x:Int) (D':Dk) (W':Wl) (b':Bo):Prop:=
 ((∃ n∈l,¬rN n)∧x=22∧D'=D∧W'=W∧b'=b)∨
 ((∀ n∈l,rN n)∧vR b l=none∧x=21∧D'=D∧W'=W∧b'=b)∨
 ((∀ n∈l,rN n)∧∃ bz,vR b l=some bz∧
  ((∃ (i:Nat) (n:Nt) (D1:Dk) (W1:Wl),l[i]? =some n∧jG s D W ((l.take i).map xG) D1 W1∧vR b (l.take i)=some b'∧
   ((x=3∧D.kept.length / 2 < used (W.recs++(l.take i).map xG)+wgt (xG n).length+16∧D'=D1∧W'=W1)∨
    (x=40∧0 < D.armed∧D'.down=true∧D'.kept=D.kept∧∃ xs,D'.wait=D.wait++xs∧pQ D.kept.length s (nbs W.recs) xs)))∨
   (∃ D1 W1,jG s D W (l.map xG) D1 W1∧b'=bz∧EW D1 W1 0 x D' W')))
theorem Hp.swap {w0 w:World} {S:List Nat} {a b:List Ent} (H:Hp w0 w S (a++b)):Hp w0 w S (b++a):=by
 refine H.sub (fun i=>if i < b.length then a.length+i else i - b.length) (fun i e he=> .inl ?_) (fun i j hi hj h=>?_)
 · by_cases hb:i < b.length
   · rw[List.getElem?_append_left hb]at he
     simp only[if_pos hb]
     rw[List.getElem?_append_right (by omega),Nat.add_sub_cancel_left]
     exact he
   · rw[List.getElem?_append_right (by omega)]at he
     simp only[if_neg hb]
     rw[List.getElem?_append_left (lt_of_get he)]
     exact he
 · rw[List.length_append]at hi hj
   split at h <;>split at h <;>omega
theorem Hp.mid {w0 w w':World} {S:List Nat} {a R:List Ent} {r r':Ent} (H:Hp w0 w S ((a++[r])++R)) (H':Hp w w' (bl [r]) [r']):Hp w0 w' S ((a++[r'])++R):=by
 rw[List.append_assoc]at H ⊢
 have h1:=H.swap
 rw[List.append_assoc]at h1
 have h2:=h1.front H'
 rw[← List.append_assoc]at h2
 exact h2.swap
def gG (w0:World) (bad:Nat→Prop) (es:List Ent) (x:Nat):Prop:=(bad x∧x < w0.heap.size)∨x∈bl es
structure Il (w0 w:World) (S:List Nat) (bad:Nat→Prop) (v0 v:Vm) (D:Dk) (W:Wl) (b:Bo) (R:List Ent):Prop where
 gd:v.m.gd=v0.m.gd
 gk:v.m.gk=v0.m.gk
 gx:v.gx=v0.gx
 ok:Px w v D W b (gG w0 bad (Aj v D W++R))
 H:Hp w0 w S (Aj v D W++R)
theorem pU {v:Vm} {D:Dk} {W:Wl} {R:List Ent} {x:Nat} (h:x∈bl (Ah v.m D W)):x∈bl (Aj v D W++R):=Dt (Dt h)
theorem Fh {a b:List Ent} {x:Nat} (h:x∈bl b):x∈bl (a++b):=by rw[uI];exact List.mem_append_right _ h
theorem Il.start {w0:World} {bad:Nat→Prop} {v:Vm} {D:Dk} {W:Wl} {b:Bo} (h:Px w0 v D W b bad) (H:Hp w0 w0 (bl (Aj v D W)) (Aj v D W)) (hv:∀ x∈bl (Aj v D W),bad x):Il w0 w0 (bl (Aj v D W)) bad v v D W b []:=by
 refine⟨Y,Y,Y,h.keep (Hp.refl w0) (fun x hx=>by cases hx) (fun x hx _=>?_) (fun x hx=> .inr (pU hx)),by rw[List.append_nil];exact H⟩
 rcases hx with hx | hx
 · exact hx.1
 · rw[List.append_nil]at hx;exact hv x hx
section
variable {w0 w w':World} {S:List Nat} {bad:Nat→Prop} {v0 v:Vm} {D:Dk} {W:Wl} {b:Bo} {R R':List Ent}
theorem Il.on (h:Il w0 w S bad v0 v D W b R) (H:Hp w w' (bl (Aj v D W++R)) (Aj v D W++R')):Il w0 w' S bad v0 v D W b R':=by
 refine⟨h.gd,h.gk,h.gx,h.ok.keep H (fun x hx=> .inr hx) (fun x hx hl=>?_) (fun x hx=> .inr (pU hx)),h.H.all H⟩
 rcases hx with hx | hx
 · exact .inl hx
 · rcases bl_place H x hx with h2 | h2
   · exact .inr h2
   · omega
theorem Il.log {D':Dk} {W':Wl} (h:Il w0 w S bad v0 v D W b R) (hp:vY w w' (bl (Ah v.m D W)) v.m D' W'):
 ∃ v':Vm,v'.cs=v.cs∧v'.gx=v.gx∧Il w0 w' S bad v0 v' D' W' b R∧Hp w w' (bl (Aj v D W++R)) (Aj v' D' W'++R):=by
 obtain⟨m',e1,e2,e3,hok,H'⟩:=h.ok.log (fun x hx=> .inr (pU hx)) hp
 have hH:∀ {wz:World} {Sz:List Nat},Hp wz w Sz (Aj v D W++R)→Hp wz w' Sz (Aj ⟨m',v.gx,v.cs⟩ D' W'++R):=fun HZ=>by
  have h1:=HZ
  unfold Aj gK at h1 ⊢
  rw[List.append_assoc]at h1 ⊢
  rw[e3]
  exact h1.front H'
 refine⟨⟨m',v.gx,v.cs⟩,Y,Y,⟨e1.trans h.gd,e2.trans h.gk,h.gx,hok.keep (Hp.refl w') (fun x hx=>by cases hx) (fun x hx _=>?_) (fun x hx=> .inr (pU hx)),hH h.H⟩,hH h.H.here⟩
 have hsz:=h.H.size
 rcases hx with hx | hx
 · exact .inl ⟨.inl hx,by have:=hx.2;omega⟩
 · rw[uI,uI]at hx
   rcases List.mem_append.1 hx with hx | hx
   · rcases List.mem_append.1 hx with hx | hx
     · exact .inr hx
     · have h2:x∈bl (Aj v D W++R):=Dt (Fh hx)
       exact .inl ⟨.inr h2,oE h.H h2⟩
   · have h2:x∈bl (Aj v D W++R):=Fh hx
     exact .inl ⟨.inr h2,oE h.H h2⟩
theorem Il.book {b':Bo} {cs:List Value} (h:Il w0 w S bad v0 v D W b R) (H:Hp w w' [v.gx] [(some v.gx,69,.pointer (some ⟨v.m.gv,0,none⟩)::cs)]) (hb:Hl w' (up (fun x=>¬gG w0 bad (Aj v D W++R) x) w.heap.size) cs b'):
 Il w0 w' S bad v0 ⟨v.m,v.gx,cs⟩ D W b' R∧Hp w w' (bl (Aj v D W++R)) (Aj ⟨v.m,v.gx,cs⟩ D W++R):=by
 have hS:∀ x∈[v.gx],x∈bl (Aj v D W++R):=fun x hx=>by
  rw[List.mem_singleton.1 hx]
  exact Dt (Fh (by simp[bl]))
 have hsz:=h.H.size
 have hr:Lu w' (gG w0 bad (Aj v D W++R)) v.m.xs W.recs:=h.ok.recs.keep H (fun x hx=> .inr (hS x hx)) fun x hx _=>hx
 refine⟨⟨h.gd,h.gk,h.gx,⟨{ h.ok.ok with lst:=hr.lsw fun x hx=> .inr (pU hx) },hr,hb.to (Hp.refl w') fun x hx _=>⟨by simp,?_⟩⟩,h.H.mid H⟩,h.H.here.mid H⟩
 rcases hx with hx | hx
 · exact hx
 · rintro(h1 | h1)
   · have:=h1.2;omega
   · have:=oE h.H h1;omega
theorem Il.post (h:Il w0 w S bad v0 v D W b R):I8 w0 w v0 bad S D W b:=by
 refine⟨v,h.gd,h.gk,h.gx,h.ok.keep (Hp.refl w) (fun x hx=>by cases hx) (fun x hx _=>?_) (fun x hx=> .inr (Dt hx)),h.H.less⟩
 rcases hx with hx | hx
 · exact .inl hx
 · exact .inr (Dt hx)
def Qh (n:Nat) (w:World) (es:List Ent) (xs:List Value) (bs:List Blk):Prop:=Lu w (fun x=>x < n∨x∈bl es) xs bs
theorem Qh.nil (n:Nat) (w:World) (es:List Ent):Qh n w es [] []:=⟨rfl,fun i hi=>absurd hi (by simp)⟩
theorem Qh.on {n:Nat} {es es':List Ent} {xs:List Value} {bs:List Blk} (h:Qh n w es xs bs) (H:Hp w w' (bl es) es'):Qh n w' es' xs bs:=by
 refine Lu.keep h H (fun x hx=> .inr hx) fun x hx hl=>?_
 rcases hx with hx | hx
 · exact .inl hx
 · rcases bl_place H x hx with h2 | h2
   · exact .inr h2
   · omega
theorem Qh.snoc {n:Nat} {es:List Ent} {xs:List Value} {bs:List Blk} {t:Blk} {B:Option Addr} {c:Nat} (h:Qh n w es xs bs) (hr:Rd w B t.length 1 (u8s t)) (ha:∀ p,B=some p→n≤p.block∧p.block∉bl es):Qh n w es (xs++[.slice B t.length c]) (bs++[t]):=by
 refine⟨by simp[h.1],fun i hi=>?_⟩
 by_cases hin:i < bs.length
 · rw[List.getElem_append_left hin]
   obtain⟨B',c',h1,h2,h3⟩:=h.2 i hin
   exact⟨B',c',by rw[List.getElem?_append_left (by rw[h.1];exact hin)];exact h1,h2,h3⟩
 · have hi2:i=bs.length:=by simp at hi;omega
   subst hi2
   rw[List.getElem_append_right (Nat.le_refl _)]
   simp only[Nat.sub_self,List.getElem_cons_zero]
   refine⟨B,c,by rw[List.getElem?_append_right (by rw[h.1];exact Nat.le_refl _),h.1,Nat.sub_self];rfl,hr,fun _ p hp hb=>?_⟩
   obtain⟨h1,h2⟩:=ha p hp
   rcases hb with hb | hb
   · omega
   · exact h2 hb
theorem Qh.get {n i:Nat} {es:List Ent} {xs:List Value} {bs:List Blk} {t:Blk} (h:Qh n w es xs bs) (hi:bs[i]? =some t):∃ (B:Option Addr) (c:Nat),xs[i]? =some (.slice B t.length c)∧Rd w B t.length 1 (u8s t)∧(0 < t.length→∀ p,B=some p→n≤p.block∧p.block∉bl es):=by
 obtain⟨hl,rfl⟩:=List.getElem?_eq_some_iff.1 hi
 obtain⟨B,c,h1,h2,h3⟩:=h.2 i hl
 exact⟨B,c,h1,h2,fun h0 p hp=>⟨by have:=h3 h0 p hp;omega,fun hb=>h3 h0 p hp (.inr hb)⟩⟩
end
theorem U8 {n:Nt} (h:NtB n):∀ f∈Fq n,FOk f:=by
 intro f hf
 unfold Fq at hf
 simp only[List.mem_cons,List.not_mem_nil,or_false]at hf
 rcases hf with rfl | rfl | rfl | rfl | rfl | rfl | rfl | rfl | rfl | rfl | rfl | rfl | rfl | rfl | rfl | rfl
 all_goals first | exact trivial | exact h.kind | exact h.group | exact h.br | exact h.bn | exact h.vs | exact h.vr | exact h.vn | exact h.es | exact h.rg | exact h.rl | exact h.rn | exact h.cl | exact h.sq
theorem R6 {n:Nt} (hb:NtB n) (h0:Gn n=0):Gy rM (xG n)=0∧N5 rM (xG n)=Fq n:=by
 have hl:(xX (Fq n) W0).long=false:=by
  cases hl:(xX (Fq n) W0).long with
  | false=>rfl
  | true=>unfold Gn at h0;rw[(mJ hl).2]at h0;cases h0
 have ho:xG n=(xX (Fq n) W0).out:=(hU hl).1
 have hr:rM.rd (xG n) 0 0=(Fq n,(xG n).length,0):=by
  have h1:=I3 (Fq n) (U8 hb) W0 (xG n) rfl hl (by rw[ho];exact List.prefix_refl _)
  rw[← ho]at h1
  exact h1
 have he:Gy rM (xG n)=0:=by rw[SU (kI n) hr,if_neg (by omega)]
 exact⟨he,by rw[(IC he).1,hr]⟩
theorem GI :∀ (fs:List Fv) (st:WS),st.long=false→(∀ f∈fs,wM f=false)→st.out.length+(fs.map fun f=>(rI f).length).sum≤65536→(xX fs st).long=false∧(xX fs st).out.length=st.out.length+(fs.map fun f=>(rI f).length).sum
 | [],st,h0,_,_=>⟨h0,by simp[xX]⟩
 | f::fs,st,h0,ht,hs=>by
  rw[List.map_cons,List.sum_cons]at hs ⊢
  have h1:qL f st=⟨st.out++rI f,false⟩:=by
   rw[mR h0 (ht f List.mem_cons_self)]
   unfold iC
   rw[if_neg (by rw[h0];simp;omega),h0]
  have ih:=GI fs (qL f st) (by rw[h1]) (fun g hg=>ht g (List.mem_cons_of_mem _ hg)) (by rw[h1];simp only[List.length_append];omega)
  refine⟨ih.1,ih.2.trans ?_⟩
  rw[h1]
  simp only[List.length_append]
  omega
theorem sH {n:Int} (h:i64 n):(rI (.int n)).length≤10:=by
 have:=uY (E0 n h.1 h.2)
 show(vX n).length≤10
 rw[rG]
 exact this
theorem dM {b:Blk} (h:b.length≤8192):(xY b).length≤8202∧(xY b).length≤10+b.length:=by
 have:=uY (v:=b.length) (by omega)
 unfold xY
 rw[List.length_append]
 omega
theorem pL {n:Nt} (h:NtB n) (hv:n.Ag.val.length≤2048) (he:n.entry.val.length≤8192) (hk:n.right.key.length≤16):rN n:=by
 have b1:(rI (.bytes n.Ag.val)).length≤2058:=by have:=(dM (b:=n.Ag.val) (by omega)).2;show(xY _).length≤_;omega
 have b2:(rI (.bytes n.entry.val)).length≤8202:=(dM (b:=n.entry.val) he).1
 have b3:(rI (.text n.right.key)).length≤26:=by have:=(dM (b:=n.right.key) (by omega)).2;show(xY _).length≤_;omega
 have hs:((Fq n).map fun f=>(rI f).length).sum≤11000:=Nat.le_trans (Nat.add_le_add (sH h.kind) (Nat.add_le_add (sH h.group) (Nat.add_le_add (sH h.br) (Nat.add_le_add (sH h.bn) (Nat.add_le_add (sH h.vs) (Nat.add_le_add (sH h.vr) (Nat.add_le_add (sH h.vn) (Nat.add_le_add (b1) (Nat.add_le_add (sH h.es) (Nat.add_le_add (b2) (Nat.add_le_add (sH h.rg) (Nat.add_le_add (b3) (Nat.add_le_add (sH h.rl) (Nat.add_le_add (sH h.rn) (Nat.add_le_add (sH h.cl) (Nat.add_le_add (sH h.sq) (Nat.le_refl 0))))))))))))))))) (by decide)
 have hw:=GI (Fq n) W0 rfl (fun f hf=>?_) (by show 0+_≤_;omega)
 · have ho:=hU hw.1
   refine⟨ho.2,?_⟩
   have h2:(xG n).length=0+((Fq n).map fun f=>(rI f).length).sum:=by
    show(sY _).length=_
    rw[ho.1]
    exact hw.2
   omega
 · unfold Fq at hf
   simp only[List.mem_cons,List.not_mem_nil,or_false]at hf
   rcases hf with rfl | rfl | rfl | rfl | rfl | rfl | rfl | rfl | rfl | rfl | rfl | rfl | rfl | rfl | rfl | rfl
   all_goals first | rfl | exact decide_eq_false (by omega)
structure WY (s:Sv):Prop where
 pr:i64 s.p.r
 pn:i64 s.p.n
 ix:i64 s.index
 vt:∀ v∈s.Ae,i64 v.slot∧i64 v.b.r∧i64 v.b.n
 en:∀ e∈s.entries,i64 e.slot
structure BoB (b:Bo):Prop where
 gr:∀ s∈b.groups,WY s
 rt:∀ r∈b.rights,i64 r.g∧i64 r.Ai∧i64 r.net
theorem BoB.empty :BoB Bo.empty:=⟨fun s hs=>by
 rw[(List.mem_replicate.1 hs).2]
 exact⟨by decide,by decide,by decide,(fun v hv=>by cases hv),(fun e he=>by cases he)⟩,(fun r hr=>by cases hr)⟩
theorem WY.raise {s:Sv} {b:Bal} (h:WY s) (h1:i64 b.r) (h2:i64 b.n):WY (s.raise b):=by
 unfold Sv.raise
 split
 · exact { h with pr:=h1,pn:=h2 }
 · exact h
theorem KN {l:List En} {n:Int} {e:En} (h:e∈rF l n):e∈l:=by
 unfold rF at h
 split at h
 · cases h
 · rename_i x r hx
   split at h
   · rw[← hx]at h;exact(List.mem_filter.1 h).1
   · cases h
theorem WY.goes {s:Sv} {n:Nt} (h:WY s) (hn:NtB n):WY (s.goes n):=by
 unfold Sv.goes
 split
 · exact h.raise hn.br hn.bn
 · split
   · split
     · exact h
     · refine WY.raise { h with vt:=fun v hv=>?_ } hn.vr hn.vn
       rcases List.mem_append.1 hv with hv | hv
       · exact h.vt v (List.mem_filter.1 hv).1
       · rcases List.mem_cons.1 hv with rfl | hv
         · exact⟨hn.vs,hn.vr,hn.vn⟩
         · exact h.vt v (List.mem_filter.1 hv).1
   · split
     · split
       · refine { h with vt:=fun v hv=>h.vt v (List.mem_filter.1 hv).1,en:=fun e he=>?_ }
         rcases List.mem_append.1 he with he | he
         · exact h.en e he
         · rw[List.mem_singleton.1 he];exact hn.es
       · exact h
     · split
       · exact h
       · exact { h with ix:=hn.es,vt:=fun v hv=>h.vt v (List.mem_filter.1 hv).1,en:=fun e he=>h.en e (KN he) }
theorem BoB.into {b b':Bo} {n:Nt} (h:BoB b) (hn:NtB n) (hi:b.into n=some b'):BoB b':=by
 unfold Bo.into at hi
 split at hi
 · split at hi
   · simp only[Option.some.injEq]at hi
     subst hi
     refine⟨h.gr,fun r hr=>?_⟩
     rcases List.mem_append.1 hr with hr | hr
     · exact h.rt r (List.mem_filter.1 hr).1
     · rcases List.mem_cons.1 hr with rfl | hr
       · exact⟨hn.rg,hn.rl,hn.rn⟩
       · exact h.rt r (List.mem_filter.1 hr).1
   · cases hi
 · split at hi
   · cases hi
   · split at hi
     · rename_i s hs
       split at hi
       · simp only[Option.some.injEq]at hi
         subst hi
         refine⟨fun t ht=>?_,h.rt⟩
         rcases List.mem_or_eq_of_mem_set ht with ht | rfl
         · exact h.gr t ht
         · exact(h.gr s (List.mem_of_getElem? hs)).goes hn
       · cases hi
     · cases hi
theorem BoB.Oe :∀ {l:List Nt} {b b':Bo},BoB b→(∀ n∈l,NtB n)→vR b l=some b'→BoB b'
 | [],b,b',h,_,hr=>by
  simp only[Go.Proofs.YtjoeklkmnfaabaaGreat.vR,Option.some.injEq]at hr
  exact hr▸h
 | n::l,b,b',h,hl,hr=>by
  rw[Go.Proofs.YtjoeklkmnfaabaaGreat.vR]at hr
  split at hr
  · rename_i c hc
    exact BoB.Oe (h.into (hl n List.mem_cons_self) hc) (fun x hx=>hl x (List.mem_cons_of_mem _ hx)) hr
  · cases hr
theorem GJ {p:Bal} {first:Int}:∀ {l:List Vt} {n:Int},uB p first n l=true→∀ v∈l,v.val.length≤2048
 | [],_,_,v,hv=>by cases hv
 | e::l,n,h,v,hv=>by
  simp only[uB,Bool.and_eq_true,decide_eq_true_eq]at h
  rcases List.mem_cons.1 hv with rfl | hv
  · exact h.1.2.2.2.2.2
  · exact GJ h.2 v hv
theorem z64 :i64 0:=by decide
theorem fD {b:Bo} {N:Nat} (hg:rJ b N) (hb:BoB b):∀ n∈b.notes,NtB n∧rN n:=by
 intro n hn
 unfold Bo.notes at hn
 rcases List.mem_append.1 hn with hn | hn
 · obtain⟨g,s,hs,hm⟩:=VC hn
   have hc:=(tP s).1 (hg.chk s (mem_of hs))
   have h8:=hg.eight
   have hgl:=(List.getElem?_eq_some_iff.1 hs).1
   have hsb:=hb.gr s (mem_of hs)
   have Vl:i64 (g:Int):=⟨by omega,by omega⟩
   unfold Ko tS sF at hm
   rcases List.mem_append.1 hm with hm | hm
   · rcases List.mem_append.1 hm with hm | hm
     · rcases List.mem_append.1 hm with hm | hm
       · split at hm
         · rw[List.mem_singleton.1 hm]
           have h1:NtB (Yp g s):=⟨(by decide:i64 4),Vl,z64,z64,z64,z64,z64,hsb.ix,z64,z64,z64,z64,z64⟩
           exact⟨h1,pL h1 (Nat.zero_le _) hc.i.2.2.2 (Nat.zero_le _)⟩
         · cases hm
       · obtain⟨e,he,rfl⟩:=List.mem_map.1 hm
         obtain⟨i,hi⟩:=List.getElem?_of_mem he
         have hl:=(pE hc.e i e hi).2.2
         have h1:NtB (Ji g e):=⟨(by decide:i64 3),Vl,z64,z64,z64,z64,z64,hsb.en e he,z64,z64,z64,z64,z64⟩
         exact⟨h1,pL h1 (Nat.zero_le _) (by show e.val.length≤8192;omega) (Nat.zero_le _)⟩
     · split at hm
       · rw[List.mem_singleton.1 hm]
         have h1:NtB (WG g s.p):=⟨(by decide:i64 1),Vl,hsb.pr,hsb.pn,z64,z64,z64,z64,z64,z64,z64,z64,z64⟩
         exact⟨h1,pL h1 (Nat.zero_le _) (Nat.zero_le _) (Nat.zero_le _)⟩
       · cases hm
   · obtain⟨v,hv,rfl⟩:=List.mem_map.1 hm
     have hq:=hsb.vt v hv
     have h1:NtB (Uw g v):=⟨(by decide:i64 2),Vl,z64,z64,hq.1,hq.2.1,hq.2.2,z64,z64,z64,z64,z64,z64⟩
     exact⟨h1,pL h1 (GJ hc.v v hv) (Nat.zero_le _) (Nat.zero_le _)⟩
 · obtain⟨r,hr,rfl⟩:=List.mem_map.1 hn
   obtain⟨i,hi⟩:=List.getElem?_of_mem hr
   have hrs:=(sX hg.rts).1 r hr
   have hq:=hb.rt r hr
   have h1:NtB (ntF r):=⟨(by decide:i64 5),z64,z64,z64,z64,z64,z64,z64,hq.1,hq.2.1,hq.2.2,z64,z64⟩
   exact⟨h1,pL h1 (Nat.zero_le _) (Nat.zero_le _) hrs.2.2.2.1⟩
theorem Rt.ext_iff' {a b:Rt}:a=b↔a.g=b.g∧a.key=b.key∧a.Ai=b.Ai∧a.net=b.net:=by
 cases a;cases b;simp
instance:DecidableEq Rt:=fun a b=>decidable_of_iff _ Rt.ext_iff'.symm
section
variable {l:List Value} {w:World} {ty t t':TypeId} {x y:Operand}
theorem V5 (r q:Rt) (w:World) (n:Nat):(Op.equalIn (n+2) 35 (.agg (Eu r).toArray) (.agg (Eu q).toArray)).run Tryz.prog w=.ok (decide (r=q)) w:=by
 have u3:=Tryz.underlying3
 have a3:=Tryz.isAgg3
 have z3:=Tryz.sizeOf3
 have u9:=Tryz.underlying9
 have a9:=Tryz.isAgg9
 have z9:=Tryz.sizeOf9
 have hS:Tryz.prog.underlying 35=some (.struct (Tryz.prog.fieldsOf 35)):=by kernel_rfl
 have hp:Tryz.prog.stoodInHeld 35=false:=by kernel_rfl
 rw[show(n+2:Nat)=(n+1)+1 from rfl,run_equalIn_agg w (n+1) 35 _ _ hS hp]
 simp only[Program.fieldsOf,Tryz.underlying35,Eu,yC]
 rw[show decide (r=q)=decide (r.g=q.g∧r.key=q.key∧r.Ai=q.Ai∧r.net=q.net) from decide_eq_decide.2 Rt.ext_iff']
 go_simp
 by_cases h1:r.g=q.g <;>by_cases h2:r.key=q.key <;>by_cases h3:r.Ai=q.Ai <;>by_cases h4:r.net=q.net <;>simp[h1,h2,h3,h4]
theorem F6 {r q:Rt} (hx:ev l x=some (.agg (Eu r).toArray)) (hy:ev l y=some (.agg (Eu q).toArray)):Ex Tryz.prog l (.binOp .eql 35 x y t') ty w (.value (.bool (decide (r=q)))) w:=by
 have h:=bF (ty:=ty) (t':=t') (w:=w) (op:=.eql) (P:=Tryz.prog) (t:=35) (by kernel_rfl) (fun w=>V5 r q w 9998) hx hy (.inl rfl)
 simp only[if_true]at h
 exact h
end
theorem Sl.tail {X:Type} {R:List Value→X→Prop} {sz c:Nat} {w:World} {ok:Nat→Prop} {A:Option Addr} {x:X} {xs:List X} (h:Sl R sz w ok A (x::xs)) (hc:xs.length+1≤c):Sl R sz w (fun _=>True) (wG A 1 c sz) xs:=by
 obtain⟨ps,hp,hr,_,h2⟩:=h
 cases ps with
 | nil=>exact h2.elim
 | cons p ps=>
  have h3:=hr.cut 1 (xs.length+1) c (by omega) (Nat.le_refl _) hc
  have hpl:p.length=sz:=hp p List.mem_cons_self
  have Cb:ps.flatten.length=xs.length*sz:=by
   have h4:=hr.len
   rw[List.flatten_cons,List.length_append,hpl,List.length_cons,Nat.add_mul,Nat.one_mul]at h4
   omega
  refine⟨ps,fun y hy=>hp y (List.mem_cons_of_mem _ hy),?_,fun _ _ _=>trivial,h2.2⟩
  have h4:((p::ps).flatten.drop (1*sz)).take ((xs.length+1 - 1)*sz)=ps.flatten:=by
   rw[List.flatten_cons,Nat.one_mul,List.drop_left' hpl,Nat.add_sub_cancel,← Cb,List.take_length]
  rw[h4]at h3
  exact h3
def leftR :List Rt→List Rt→List Rt
 | [],k=>k
 | r::l,k=>leftR l (match k with | q::k'=>if q=r then k' else q::k' | []=>[])
theorem aZ :∀ l,leftR l []=[]
 | []=>rfl
 | _::l=>aZ l
theorem nX :∀ (l:List Rt) (r:Rt) (k:List Rt),leftR (l++[r]) k=(match leftR l k with | q::k'=>if q=r then k' else q::k' | []=>[])
 | [],_,_=>rfl
 | _::l,r,k=>nX l r _
theorem fM :∀ {l k:List Rt},k.Sublist l→l.Nodup→leftR l k=[]
 | [],k,h,_=>by rw[List.sublist_nil.1 h];rfl
 | r::l,[],_,_=>aZ _
 | r::l,q::k,h,hn=>by
  rcases List.sublist_cons_iff.1 h with h1 | ⟨_,h1,h2⟩
  · have hq:q∈l:=h1.subset List.mem_cons_self
    have:q≠r:=by rintro rfl;exact(List.nodup_cons.1 hn).1 hq
    show leftR l (if q=r then k else q::k)=[]
    rw[if_neg this]
    exact fM h1 (List.nodup_cons.1 hn).2
  · show leftR l (if q=r then k else q::k)=[]
    simp only[List.cons.injEq]at h1
    rw[if_pos h1.1]
    rw[← h1.2]at h2
    exact fM h2 (List.nodup_cons.1 hn).2
theorem lH :∀ {l k:List Rt},leftR l k=[]→k.Sublist l
 | [],_,h=>by rw[leftR]at h;rw[h];exact List.Sublist.refl _
 | r::l,[],_=>List.nil_sublist _
 | r::l,p::k,h=>by
  change leftR l (if p=r then k else p::k)=[]at h
  split at h
  · rename_i e
    exact e▸(lH h).cons_cons r
  · exact(lH h).cons r
theorem nG {w0 w w':World} {bad:Nat→Prop} {es es':List Ent} (H:Hp w w' (bl es) es'):∀ x,¬gG w0 bad es x→x < w.heap.size→x∉bl es∧¬gG w0 bad es' x:=fun x hx hl=>⟨fun hb=>hx (.inr hb),fun h=>by
 rcases h with h | h
 · exact hx (.inl h)
 · rcases bl_place H x h with h2 | h2
   · exact hx (.inr h2)
   · omega⟩
theorem PZ {w0 w w1:World} {S:List Nat} {bad:Nat→Prop} {es:List Ent} (H:Hp w0 w S es) (hs:w.heap.size≤w1.heap.size):∀ x,w1.heap.size≤x→¬gG w0 bad es x:=fun x hx h=>by
 have:=H.size
 rcases h with h | h
 · omega
 · have:=oE H h;omega
theorem jG.few {s:Nat} {D D1:Dk} {W W1:Wl} {rs:List Blk} (h:jG s D W rs D1 W1) (hk:D.kept.length≤16384):rs.length≤4096∧D1.wait.length≤D.wait.length+1228800:=by
 have h1:=h.lg.room
 have h2:=AY W1.recs
 rw[h.recs,List.length_append]at h2
 rw[h.recs]at h1
 obtain⟨xs,a1,a2,_⟩:=h.wait
 rw[a1,List.length_append]
 omega
@[reducible] def Bo.fold (b:Bo) (q:List Rt):Bo:=⟨b.groups,q,[]⟩
theorem JV {l k:List Rt} (h:k.Sublist l) (hl:qJ l):qJ k:=by
 have h1:=dP hl
 exact dQ (fun x hx=>(sX hl).1 x (h.subset hx)) (h1.sublist h)
theorem rJ.fold {b:Bo} {N:Nat} {q:List Rt} (h:rJ b N) (hq:q.Sublist b.rights):rJ (b.fold q) N:=⟨h.eight,h.chk,JV hq h.rts,trivial,Nat.le_trans hq.length_le h.few⟩
theorem BoB.fold {b:Bo} {q:List Rt} (h:BoB b) (hq:q.Sublist b.rights):BoB (b.fold q):=⟨h.gr,fun r hr=>h.rt r (hq.subset hr)⟩
theorem ON {b:Bo} {q:List Rt} (hq:q.Sublist b.rights):(b.fold q).notes.length≤b.notes.length:=by
 have:=hq.length_le
 show(gN b.groups++q.map ntF).length≤(gN b.groups++b.rights.map ntF).length
 rw[List.length_append,List.length_append,List.length_map,List.length_map]
 omega
def UR (s:Nat) (D:Dk) (W:Wl) (b:Bo) (q:List Rt) (x:Int) (D':Dk) (W':Wl) (b':Bo):Prop:=
 (leftR b.rights q≠[]∧x=1∧D'=D∧W'=W∧b'=b)∨
 (leftR b.rights q=[]∧
  ((∃ (i:Nat) (n:Nt) (D1:Dk) (W1:Wl),(b.fold q).notes[i]? =some n∧jG s D W (((b.fold q).notes.take i).map xG) D1 W1∧b'=b∧
   ((x=3∧D.kept.length / 2 < used (W.recs++((b.fold q).notes.take i).map xG)+wgt (xG n).length+16∧D'=D1∧W'=W1)∨
    (x=40∧0 < D.armed∧D'.down=true∧D'.kept=D.kept∧∃ xs,D'.wait=D.wait++xs∧pQ D.kept.length s (nbs W.recs) xs)))∨
   (∃ D1 W1,jG s D W ((b.fold q).notes.map xG) D1 W1∧EW D1 W1 W.recs.length x D' W'∧(x=0→b'=b.fold q)∧(x≠0→b'=b))))
def isC (w:World) (x:Nat):Prop:=∃ arr T z,w.heap[x]? =some (.cells arr T z)
theorem isC.to {w w':World} {S:List Nat} {es:List Ent} {x:Nat} (h:isC w x) (H:Hp w w' S es) (hx:x∉S):isC w' x:=by
 obtain⟨arr,T,z,h⟩:=h
 exact⟨arr,T,z,(H.frame x (Array.getElem?_eq_some_iff.1 h).1 hx).trans h⟩
theorem Rd.isc {w:World} {A:Option Addr} {n sz:Nat} {xs:List Value} (h:Rd w A n sz xs) (hn:0 < n) (hz:0 < sz):∀ p,A=some p→isC w p.block:=fun p hp=>by
 have hl:0 < xs.length:=by rw[h.len];exact Nat.mul_pos hn hz
 have h1:=h.cells p hp 0 _ (List.getElem?_eq_getElem hl)
 rw[Addr.add_zero']at h1
 exact bI h1
section
variable {w:World} {ok:Nat→Prop} {A:Option Addr} {p:List Value}
theorem Bs.Jv {b:Blk} (h:Bs w ok A b):Bs w (fun x=>ok x∧isC w x) A b:=⟨h.1,fun h0 p hp=>⟨h.2.1 h0 p hp,h.1.isc h0 (by decide) p hp⟩,h.2.2⟩
theorem Sl.Jv {X:Type} {R R':List Value→X→Prop} {sz:Nat} {xs:List X} (h:Sl R sz w ok A xs) (hz:0 < sz) (hR:∀ p x,R p x→R' p x):Sl R' sz w (fun x=>ok x∧isC w x) A xs:=by
 obtain⟨ps,hp,hr,ha,h2⟩:=h
 exact⟨ps,hp,hr,fun h0 p hp=>⟨ha h0 p hp,hr.isc h0 hz p hp⟩,h2.imp hR⟩
theorem Et.Jv {x:Vt} (h:Et w ok p x):Et w (fun x=>ok x∧isC w x) p x:=by
 obtain⟨A,k,rfl,h⟩:=h
 exact⟨A,k,Y,h.Jv⟩
theorem Gs.Jv {x:En} (h:Gs w ok p x):Gs w (fun x=>ok x∧isC w x) p x:=by
 obtain⟨A,k,rfl,h⟩:=h
 exact⟨A,k,Y,h.Jv⟩
theorem Gz.Jv {x:Sv} (h:Gz w ok p x):Gz w (fun x=>ok x∧isC w x) p x:=by
 obtain⟨A1,k1,A2,k2,A3,k3,rfl,h1,h2,h3⟩:=h
 exact⟨A1,k1,A2,k2,A3,k3,Y,h1.Jv (by decide) fun _ _ h=>h.Jv,h2.Jv,h3.Jv (by decide) fun _ _ h=>h.Jv⟩
theorem Hl.Jv {x:Bo} (h:Hl w ok p x):Hl w (fun x=>ok x∧isC w x) p x:=by
 obtain⟨A1,k1,A2,k2,A3,k3,rfl,h1,h2,h3⟩:=h
 exact⟨A1,k1,A2,k2,A3,k3,Y,h1.Jv (by decide) fun _ _ h=>h.Jv,h2.Jv (by decide) fun _ _ h=>h,h3.Jv (by decide) fun _ _ h=>h⟩
end
theorem Lu.loop {w w':World} {bad:Nat→Prop} {L:Nat} {xs:List Value} {bs:List Blk} (h:Lu w bad xs bs) (H:Hp w w' [L] []) (hL:∀ arr T z,w.heap[L]?≠some (.cells arr T z)):Lu w' bad xs bs:=by
 refine⟨h.1,fun i hi=>?_⟩
 obtain⟨B,c,h1,h2,h3⟩:=h.2 i hi
 by_cases h0:bs[i].length=0
 · exact⟨B,c,h1,h2.empty h0,fun h=>absurd h (by omega)⟩
 · refine⟨B,c,h1,h2.to H (fun p hp hb=>?_),h3⟩
   obtain⟨arr,T,z,h7⟩:=h2.isc (by omega) (by decide) p hp
   rw[List.mem_singleton.1 hb]at h7
   exact hL _ _ _ h7
theorem keepD {w w':World} {S:List Nat} {es:List Ent} {D:Nat} {x:Option (List Deferred)} (hD:w.heap[D]? =some (.deferred x)) (H:Hp w w' S es) (hS:∀ b∈S,∃ arr T z,w.heap[b]? =some (.cells arr T z)):w'.heap[D]? =some (.deferred x):=by
 refine(H.frame D (Array.getElem?_eq_some_iff.1 hD).1 (fun hx=>?_)).trans hD
 obtain⟨arr,T,z,hh⟩:=hS D hx
 rw[hD]at hh;cases hh
theorem EM {g a v:Nat} {l:List Nat} (h1:g≠a) (h2:g≠v) (h3:g∉l):g∉a::v::l:=by
 intro h
 rcases List.mem_cons.1 h with h | h
 · exact h1 h
 · rcases List.mem_cons.1 h with h | h
   · exact h2 h
   · exact h3 h
theorem Eo.Yw {w w':World} {m:Mw} {D:Dk} {W:Wl} {es:List Ent} (h:Eo w m D W) (H:Hp w w' [] es):Eo w' m D W:=
 { h with lst:=h.lst.keep H (fun _ hb=>by cases hb) (fun _ hb=> .inl hb) }
theorem KK {n:Nt} (h:Gn n=0):n.Ag.val.length≤140737488351232∧n.entry.val.length≤140737488351232:=by
 have key:∀ (i:Nat) (b:Blk),(Fq n)[i]? =some (.bytes b)→b.length≤65535:=fun i b hi=>by
  obtain⟨hl,he⟩:=List.getElem?_eq_some_iff.1 hi
  rcases Nat.lt_or_ge 65535 b.length with h1 | h1
  · have h2:=CJ hl (by rw[he];exact decide_eq_true h1) W0
    unfold Gn at h
    rw[h2]at h
    cases h
  · exact h1
 have h1:=key 7 _ rfl
 have h2:=key 9 _ rfl
 exact⟨by omega,by omega⟩
theorem FO (gd gk:Nat) (gw:Option Nat) (cw:Nat) (sp:List Value) (D:Dk) (w0:World) (H0:Hp w0 w0 (bl (xC gd gk gw cw sp D)) (xC gd gk gw cw sp D)) (hD:Hw D gw cw sp) (hd:D.down=false) (hwt:D.wait.length≤1000000000) (W:Wl) (s:Nat) (Me:Lg D.show D.kept.length W s) (ht:W.told=W.recs.length) (htu:W.turn≤2^50) (hfi:W.first≤2^50):
 zP Tryz.prog 28 #[.pointer (some ⟨gd,0,none⟩)] w0 (fun r w'=>∃ (m:Mw) (W':Wl),r=.tuple #[.pointer (some ⟨m.gv,0,none⟩),.int .i64 0]∧m.gd=gd∧m.gk=gk∧gH w0 [] m.xs∧Eo w' m D W'∧Hp w0 w' (bl (xC gd gk gw cw sp D)) (Ah m D W')∧
  W'.recs=W.recs∧W'.first=W.first∧W'.turn=W.turn∧W'.told=W.recs.length∧W'.dead=false∧Lg D.show D.kept.length W' s):=by
 have hus:=BL W.recs
 have hrm:=Me.room
 have hsz:=Me.size
 have hmo:=hD.most
 obtain⟨a1,a2,a3,a4,a5,a6,a7,a8⟩:=M9 Me ht
 refine((Rn.open_any gd gk gw cw sp D w0 H0 hD hd Me.size hwt W.turn W.first s W.recs ?_ (by omega) (by omega) Me.sl a2 (by omega) (by omega) Me.long (by omega)).d (fun _ _ h=>h)).mono ?_
 · rw[a1]
 · rintro r w' ⟨m,hr,e1,e2,_,e4,hok,H⟩
   exact⟨m,_,hr,e1,e2,e4,hok,H,a4,a5,a6,a7,a8,a3⟩
theorem Lu.new {w0 w:World} {m:Mw} {D:Dk} {W:Wl} (hx:gH w0 [] m.xs) (h:Eo w m D W):Lu w (fun x=>x < w0.heap.size∨x∈bl (Ah m D W)∨w.heap.size≤x) m.xs W.recs:=by
 refine⟨h.lst.1,fun i hi=>?_⟩
 obtain⟨B,c,h1,h2,h3⟩:=h.lst.2 i hi
 refine⟨B,c,h1,h2,fun h0 p hp hb=>?_⟩
 rcases hb with hb | hb | hb
 · rcases hx _ (List.mem_of_getElem? h1)with hv | hv
   · cases hv
   · have:=hv p _ c (by rw[hp])
     omega
 · exact h3 h0 p hp hb
 · have:=MI h2 h0 hp;omega
theorem rJ.Oe :∀ {l:List Nt} {b c:Bo} {N:Nat},rJ b N→Go.Proofs.YtjoeklkmnfaabaaGreat.vR b l=some c→rJ c (N+l.length)
 | [],b,c,N,h,hr=>by
  simp only[Go.Proofs.YtjoeklkmnfaabaaGreat.vR,Option.some.injEq]at hr
  exact hr▸h
 | n::l,b,c,N,h,hr=>by
  rw[Go.Proofs.YtjoeklkmnfaabaaGreat.vR]at hr
  split at hr
  · rename_i d hd
    have h2:=rJ.Oe (h.into hd) hr
    rw[List.length_cons,show N+(l.length+1)=N+1+l.length by omega]
    exact h2
  · cases hr
def EY (ns:List Nt):Prop:=(∀ n∈ns,rN n)∧used (ns.map xG)≤2032
instance (ns:List Nt):Decidable (EY ns):=inferInstanceAs (Decidable (_∧_))
theorem lW (ns:List Nt) (i:Nat):used ((ns.take i).map xG)≤used (ns.map xG):=by
 rw[List.map_take]
 have:=pA (ns.map xG) i
 omega
theorem gP {ns:List Nt} {i:Nat} {n:Nt} (h:ns[i]? =some n):used ((ns.take (i+1)).map xG)=used ((ns.take i).map xG)+wgt (xG n).length:=by
 rw[yU h,List.map_append,uJ]
 exact congrArg _ (iF _)
theorem IS {ns:List Nt} {n:Nt} (h:n∈ns) (hn:¬rN n):decide (EY ns)=false:=decide_eq_false fun hf=>hn (hf.1 n h)
theorem OR {ns:List Nt} {i:Nat} (h:2032 < used ((ns.take i).map xG)):decide (EY ns)=false:=decide_eq_false fun hf=>by
 have:=lW ns i
 have:=hf.2
 omega
theorem OP {ns:List Nt} (h:∀ n∈ns.take ns.length,rN n) (h2:used ((ns.take ns.length).map xG)≤2032):decide (EY ns)=true:=by
 rw[List.take_length]at h h2
 exact decide_eq_true ⟨h,h2⟩
theorem w63 (n:Nat) (h:n≤2^40):IntKind.i64.wrap (((n:Int)+63).tdiv 64)=(((n+63) / 64:Nat):Int):=by
 rw[show((n:Int)+63)=((n+63:Nat):Int) by omega,show(((n+63:Nat):Int)).tdiv 64=(((n+63) / 64:Nat):Int) from rfl]
 exact IntWalk.i64_in _ (by omega)
theorem off {w w':World} {es es':List Ent} (H:Hp w w' (bl es) es'):∀ x,x∉bl es→x < w.heap.size→x∉bl es∧x∉bl es':=fun x hx hl=>⟨hx,fun h=>by
 rcases bl_place H x h with h2 | h2
 · exact hx h2
 · omega⟩
theorem BJ {w0 w w1:World} {S:List Nat} {es:List Ent} (H:Hp w0 w S es) (hs:w.heap.size≤w1.heap.size):∀ x,w1.heap.size≤x→x∉bl es:=fun x hx h=>by
 have:=oE H h;omega
theorem G3 {w0 w:World} {es:List Ent} (H:Hp w0 w [] es):∀ x,x < w0.heap.size→x∉bl es:=fun x hx h=>by
 rcases bl_place H x h with h2 | h2
 · cases h2
 · omega
@[reducible] def noB :Nat→Prop:=fun _=>False
theorem Il.call {w0 w w':World} {S:List Nat} {bad:Nat→Prop} {v0 v:Vm} {D D':Dk} {W W':Wl} {b b':Bo} {R:List Ent} (h:Il w0 w S bad v0 v D W b R) (hp:I8 w w' v (gG w0 bad (Aj v D W++R)) (bl (Aj v D W)) D' W' b'):
 ∃ v':Vm,v'.m.gd=v.m.gd∧v'.m.gk=v.m.gk∧v'.gx=v.gx∧Il w0 w' S bad v0 v' D' W' b' R∧Hp w w' (bl (Aj v D W)) (Aj v' D' W')∧Hp w w' (bl (Aj v D W++R)) (Aj v' D' W'++R):=by
 obtain⟨v',e1,e2,e3,hok,Hd⟩:=hp
 have hsz:=h.H.size
 refine⟨v',e1,e2,e3,⟨e1.trans h.gd,e2.trans h.gk,e3.trans h.gx,hok.keep (Hp.refl w') (fun x hx=>by cases hx) (fun x hx _=>?_) (fun x hx=> .inr (pU hx)),h.H.front Hd⟩,Hd,h.H.here.front Hd⟩
 rcases hx with hx | hx
 · exact .inl ⟨.inl hx,by have:=hx.2;omega⟩
 · rw[uI]at hx
   rcases List.mem_append.1 hx with hx | hx
   · exact .inr hx
   · have h2:x∈bl (Aj v D W++R):=Fh hx
     exact .inl ⟨.inr h2,oE h.H h2⟩
theorem Il.opened {w0 w w':World} {S:List Nat} {v:Vm} {D:Dk} {W:Wl} {b:Bo} {gd gk:Nat} {gw:Option Nat} {cw:Nat} {sp:List Value} {R:List Ent} (H:Hp w0 w S (xC gd gk gw cw sp D++R)) (hok:Px w' v D W b (fun x=>x < w.heap.size∨x∈bl (Aj v D W))) (Hd:Hp w w' (bl (xC gd gk gw cw sp D)) (Aj v D W)):Il w0 w' S noB v v D W b R:=by
 refine⟨Y,Y,Y,hok.keep (Hp.refl w') (fun x hx=>by cases hx) (fun x hx _=>?_) (fun x hx=> .inr (pU hx)),H.front Hd⟩
 rcases hx with hx | hx
 · exact hx.1.elim
 · rw[uI]at hx
   rcases List.mem_append.1 hx with hx | hx
   · exact .inr hx
   · exact .inl (oE H (Fh hx))
@[reducible] def jH :Dk:=⟨List.replicate 4096 rX,[],false,0,4096,[]⟩
theorem VE :Lg jH.show jH.kept.length (Wl.anew 0 0 0) 0:=by
 have h:∀ i,i < 4096→jH.show i=rX:=fun i hi=>by
  show(List.replicate 4096 rX).getD i []=rX
  rw[List.getD_eq_getElem?_getD,List.getElem?_replicate,if_pos hi]
  rfl
 have hl:jH.kept.length=4096:=List.length_replicate ..
 rw[hl]
 exact Lg.empty (by decide) (h 0 (by decide)) (h 1 (by decide))
structure Jz (D:Dk) (W:Wl) (b:Bo) (L:List Nt) (s c:Nat):Prop where
 lg:Lg D.show D.kept.length W s
 up:D.down=false
 dead:W.dead=false
 recs:W.recs=L.map xG
 nts:∀ n∈L,NtB n∧Gn n=0
 rep:vR Bo.empty L=some b
 size:D.kept.length=4096
 wait:D.wait.length≤c
 first:W.first≤c
 turn:W.turn≤c
section
variable {D D':Dk} {W W':Wl} {b b':Bo} {L:List Nt} {s c:Nat}
theorem Jz.YF {W1:Wl} (Me:Lg jH.show jH.kept.length W1 0) (f1:W1.recs=[]) (f2:W1.first=0) (f3:W1.turn=0) (f5:W1.dead=false):Jz jH W1 Bo.empty [] 0 0:=
 ⟨Me,rfl,f5,f1,fun n hn=>(by cases hn),rfl,List.length_replicate ..,Nat.le_refl _,by rw[f2];exact Nat.le_refl _,by rw[f3];exact Nat.le_refl _⟩
theorem Jz.few (h:Jz D W b L s c):L.length≤1024:=by
 have h1:=h.lg.room
 have h2:=AY W.recs
 rw[h.size]at h1
 rw[h.recs,List.length_map]at h2
 rw[h.recs]at h1
 omega
theorem Jz.good (h:Jz D W b L s c):rJ b L.length:=by
 have:=rJ.Oe rJ.empty h.rep
 rwa [Nat.zero_add]at this
theorem Jz.bob (h:Jz D W b L s c):BoB b:=BoB.empty.Oe (fun n hn=>(h.nts n hn).1) h.rep
theorem Jz.save {l:List Nt} {x:Int} {bz:Bo} (h:Jz D W b L s c) (hc:c≤2^40) (ha:D.armed=0) (hr:UN s D W b l x D' W' b') (hnt:∀ n∈l,NtB n) (hsh:∀ n∈l,rN n) (hb:vR b l=some bz) (hu:used (W.recs++l.map xG)≤2032):
 x=0∧b'=bz∧D'.armed=0∧D'.wait=[]∧W'.told=W'.recs.length∧W'.recs=W.recs++l.map xG∧∃ s',Jz D' W' bz (L++l) s' (c+1):=by
 have hfi:=h.first
 have htu:=h.turn
 rcases hr with ⟨⟨n,hn,hns⟩,_⟩ | ⟨_,hb0,_⟩ | ⟨_,bz',hb1,hr⟩
 · exact absurd (hsh n hn) hns
 · rw[hb]at hb0;cases hb0
 · obtain rfl:bz=bz':=Option.some.inj (hb.symm.trans hb1)
   rcases hr with ⟨i,n,D1,W1,hi,hg,_,hr⟩ | ⟨D1,W1,hg,rfl,hr⟩
   · rcases hr with ⟨_,hfull,_⟩ | ⟨_,harm,_⟩
     · rw[h.size]at hfull
       have h1:used (W.recs++(l.take i).map xG)+wgt (xG n).length≤used (W.recs++l.map xG):=by
        have h2:=lW l (i+1)
        rw[gP hi]at h2
        rw[uJ,uJ]
        omega
       omega
     · omega
   · have hk1:D1.kept.length=4096:=by rw[hg.kept];exact h.size
     have h1:=L5 (s:=s) (by rw[hk1,← h.size];exact hg.lg) hg.up (hg.arm ha) hg.dead (Nat.zero_le _) (by rw[hg.turn];omega) (by rw[hg.first];omega) (by omega) hr
     obtain⟨a1,a2,a3,a4,a5,a6,a7,a8,a9,a10,s',a11⟩:=h1
     rw[List.drop_zero,hg.recs]at a7
     rw[hg.first]at a8
     rw[hg.turn]at a10
     refine⟨a1,Y,a3,a4,a9,a7,s',a11,a2,a6,?_,?_,?_,by rw[a5];exact hk1,by rw[a4];exact Nat.zero_le _,by omega,by omega⟩
     · rw[a7,h.recs,List.map_append]
     · intro n hn
       rcases List.mem_append.1 hn with hn | hn
       · exact h.nts n hn
       · exact⟨hnt n hn,(hsh n hn).1⟩
     · rw[iI h.rep];exact hb
theorem Jz.fold {q:List Rt} {x:Int} (h:Jz D W b L s c) (hc:c≤2^40) (ha:D.armed=0) (hr:UR s D W b q x D' W' b') (hq:leftR b.rights q=[]) (hu:used (W.recs++(b.fold q).notes.map xG)≤2032):
 x=0∧b'=b.fold q∧D'.armed=0∧D'.wait=[]∧W'.told=W'.recs.length∧W'.recs=(b.fold q).notes.map xG∧∃ s',Jz D' W' (b.fold q) (b.fold q).notes s' (c+2048):=by
 have hfi:=h.first
 have htu:=h.turn
 have hfew:=h.few
 have hgf:=h.good.fold (lH hq)
 rcases hr with ⟨hq0,_⟩ | ⟨_,hr⟩
 · exact absurd hq hq0
 · rcases hr with ⟨i,n,D1,W1,hi,hg,_,hr⟩ | ⟨D1,W1,hg,hr,hb0,_⟩
   · rcases hr with ⟨_,hfull,_⟩ | ⟨_,harm,_⟩
     · rw[h.size]at hfull
       have h1:used (W.recs++((b.fold q).notes.take i).map xG)+wgt (xG n).length≤used (W.recs++(b.fold q).notes.map xG):=by
        have h2:=lW (b.fold q).notes (i+1)
        rw[gP hi]at h2
        rw[uJ,uJ]
        omega
       omega
     · omega
   · have hk1:D1.kept.length=4096:=by rw[hg.kept];exact h.size
     have hle:W.recs.length≤W1.recs.length:=by rw[hg.recs,List.length_append];omega
     have h1:=L5 (s:=s) (by rw[hk1,← h.size];exact hg.lg) hg.up (hg.arm ha) hg.dead hle (by rw[hg.turn];omega) (by rw[hg.first];omega) (by omega) hr
     obtain⟨a1,a2,a3,a4,a5,a6,a7,a8,a9,a10,s',a11⟩:=h1
     rw[hg.recs,List.drop_left' rfl]at a7
     rw[hg.first]at a8
     rw[hg.turn]at a10
     have hrl:W.recs.length=L.length:=by rw[h.recs,List.length_map]
     have hown:=fD hgf (h.bob.fold (lH hq))
     refine⟨a1,hb0 a1,a3,a4,a9,a7,s',a11,a2,a6,a7,fun n hn=>⟨(hown n hn).1,(hown n hn).2.1⟩,FSa hgf,by rw[a5];exact hk1,by rw[a4];exact Nat.zero_le _,by omega,by omega⟩
theorem Jz.fall (h:Jz D W b L s c) (hw:D.wait=[]) (keep:List Int):Lg (D.crash keep).start.show (D.crash keep).start.kept.length W s∧(D.crash keep).start.down=false∧(D.crash keep).start.kept.length=4096∧(D.crash keep).start.wait=[]∧(D.crash keep).start.armed=0:=by
 have hk:(D.crash keep).kept=D.kept:=by
  show tears D.kept D.wait keep D.wait.length=D.kept
  rw[hw];rfl
 have hs:(D.crash keep).start.kept=D.kept:=hk
 have hw2:(D.crash keep).start.wait=[]:=rfl
 have hsh:(D.crash keep).start.show=D.show:=funext fun i=>by
  unfold Dk.show
  rw[hs,hw2,hw]
 refine⟨by rw[hsh,hs];exact h.lg,L2 _,by rw[hs];exact h.size,hw2,Y⟩
theorem Jz.again {D2:Dk} {W2:Wl} (h:Jz D W b L s c) (Me:Lg D2.show D2.kept.length W2 s) (hup:D2.down=false) (hsz:D2.kept.length=4096) (hw:D2.wait=[]) (f1:W2.recs=W.recs) (f2:W2.first=W.first) (f3:W2.turn=W.turn) (f5:W2.dead=false):Jz D2 W2 b L s c:=
 ⟨Me,hup,f5,f1.trans h.recs,h.nts,h.rep,hsz,by rw[hw];exact Nat.zero_le _,by rw[f2];exact h.first,by rw[f3];exact h.turn⟩
theorem JU {l:List Rt} (h:qJ l):l.Nodup:=by
 refine(dP h).imp fun {a b} hab he=>?_
 subst he
 rw[BQ]at hab
 cases hab
theorem FW {l:List Rt} (h:qJ l):leftR l l=[]:=fM (List.Sublist.refl l) (JU h)
end
def LI (w:World) (n0:Nat) (gi g:Option Nat) (b:Blk):Prop:=b.length≤140737488351232∧(g=none→b=[])∧∀ k,g=some k→n0≤k∧gi≠some k∧∃ s,w.heap[k]? =some (.cells (u8s b++s).toArray 5 (0,0))
section
variable {w0 w w':World} {S:List Nat} {es:List Ent} {n0:Nat} {gi Y6 g:Option Nat} {b:Blk}
theorem LI.row {i j:Nat} {s cs:List Value} {T:TypeId} (H:Hp w0 w S es) (he:es[i]? =some (g,5,u8s b++s)) (hj:es[j]? =some (gi,T,cs)) (hij:i≠j) (hS:∀ k∈S,n0≤k) (h0:n0≤w0.heap.size) (hb:b.length≤140737488351232):LI w n0 gi g b:=by
 refine⟨hb,fun e=>?_,fun k e=>?_⟩
 · subst e
   have:=H.none_ he
   have h2:(u8s b).length=0:=by rw[(List.append_eq_nil_iff.1 this).1];rfl
   rw[zY]at h2
   exact List.eq_nil_of_length_eq_zero h2
 · subst e
   refine⟨?_,fun e=>?_,s,H.at he⟩
   · rcases H.place he with h | h
     · exact hS k h
     · omega
   · subst e
     exact H.ne he hj hij Y
theorem LI.to (h:LI w n0 gi g b) (H:Hp w w' S es) (hk:∀ k,n0≤k→gi≠some k→k < w.heap.size→k∉S∧Y6≠some k):LI w' n0 Y6 g b:=by
 refine⟨h.1,h.2.1,fun k e=>?_⟩
 obtain⟨h1,h2,s,h3⟩:=h.2.2 k e
 have hl:k < w.heap.size:=(Array.getElem?_eq_some_iff.1 h3).1
 obtain⟨h4,h5⟩:=hk k h1 h2 hl
 exact⟨h1,h5,s,by rw[H.frame k hl h4];exact h3⟩
theorem LI.bs (h:LI w n0 gi g b):Bs w (fun x=>n0≤x∧gi≠some x) (hd g) b:=by
 cases g with
 | none=>rw[h.2.1 rfl];exact Bs.none _ _
 | some k=>
  obtain⟨h1,h2,s,h3⟩:=h.2.2 k rfl
  refine⟨⟨yV b,fun a ha j u hu=>?_,fun e=>(by cases e)⟩,fun _ p hp=>?_,h.1⟩
  · cases ha
    have hj:=(List.getElem?_eq_some_iff.1 hu).1
    show w.cell? ((⟨k,0,none⟩:Addr).add j)=some u
    rw[Dn,Nat.zero_add]
    simp[World.cell?,h3,hu,List.getElem?_append_left hj]
  · cases hp
    exact⟨h1,h2⟩
end
def YM (w:World) (n0:Nat) (gi:Option Nat) (p:List Value) (n:Nt):Prop:=∃ g1 c1 g2 c2,p=[.int .i64 n.kind,.int .i64 n.group,.int .i64 n.b.r,.int .i64 n.b.n,.int .i64 n.Ag.slot,.int .i64 n.Ag.b.r,.int .i64 n.Ag.b.n,.slice (hd g1) n.Ag.val.length c1,.int .i64 n.entry.slot,.slice (hd g2) n.entry.val.length c2,.int .i64 n.right.g,yC n.right.key,.int .i64 n.right.Ai,.int .i64 n.right.net,.int .i64 n.client,.int .i64 n.seq]∧LI w n0 gi g1 n.Ag.val∧LI w n0 gi g2 n.entry.val
section
variable {w0 w w':World} {S:List Nat} {es:List Ent} {n0:Nat} {gi Y6 g:Option Nat} {p:List Value} {n:Nt}
theorem YM.to (h:YM w n0 gi p n) (H:Hp w w' S es) (hk:∀ k,n0≤k→gi≠some k→k < w.heap.size→k∉S∧Y6≠some k):YM w' n0 Y6 p n:=by
 obtain⟨g1,c1,g2,c2,h1,h2,h3⟩:=h
 exact⟨g1,c1,g2,c2,h1,h2.to H hk,h3.to H hk⟩
theorem YM.nt (h:YM w n0 gi p n):NtR w (fun x=>n0≤x∧gi≠some x) p n:=by
 obtain⟨g1,c1,g2,c2,h1,h2,h3⟩:=h
 exact⟨_,c1,_,c2,h1,h2.bs,h3.bs⟩
end
section
variable {w0 w w':World} {S S':List Nat} {es es':List Ent} {n0 n1 m:Nat} {gi g:Option Nat} {b:Blk} {p:List Value} {n:Nt}
theorem WA {T:TypeId} {cs:List Value} {k:Nat} (h:k∈bl [((g,T,cs):Ent)]):g=some k:=by
 obtain⟨e,he,hg⟩:=List.mem_filterMap.1 h
 rw[List.mem_singleton.1 he]at hg;exact hg
theorem WB (H:Hp w0 w [] es) {k:Nat} (h:k∈bl es):w0.heap.size≤k:=by
 obtain⟨⟨g,T,cs⟩,he,hg⟩:=List.mem_filterMap.1 h
 obtain⟨i,hi⟩:=List.getElem?_of_mem he
 simp only at hg
 subst hg
 rcases H.place hi with h | h
 · cases h
 · exact h
section
variable {wI wB:World} {SS:List Nat} {R:List Ent} {u:Option Nat} {cs0 cs:List Value} {qs:List (List Value)} {l:List Nt}
end
end
theorem Rep.size {l:List Nt} {b:Bo} {e:Int} (h:Rep l b e) (hn:l.length≤840000000000):b.groups.length≤1000000000000000000∧b.rights.length≤1000000000000000000∧b.last.length≤1000000000000000000∧∀ x∈b.groups,x.Ae.length≤1000000000000000000∧x.entries.length≤1000000000000000000:=by
 rcases h with ⟨_,_,h⟩ | ⟨_,rfl,_⟩
 · have h1:=h.eight
   have h2:=h.few
   have h3:=nV h.Qb
   exact⟨by omega,by omega,by omega,h.fews⟩
 · exact⟨by decide,by decide,by decide,fun x hx=>by cases hx⟩
section
variable {sz i k:Nat} {qs rest:List (List Value)} {p sp:List Value} {v:Value}
theorem rP (hq:Pl sz qs) (hl:qs.length=i) (hv:p[k]? =some v):((qs++p::rest).flatten++sp)[0+i*sz+k]? =some v:=by
 have h1:(qs.flatten).length=i*sz:=by rw[hq.len,hl]
 have h2:=(List.getElem?_eq_some_iff.1 hv).1
 rw[List.flatten_append,List.flatten_cons,List.append_assoc,List.append_assoc,Nat.zero_add,List.getElem?_append_right (by omega),h1,Nat.add_sub_cancel_left,List.getElem?_append_left h2]
 exact hv
theorem Q5 {a b c:List Value} {j k:Nat} (hj:a.length=j) (hk:k < b.length):(a++(b++c)).set (j+k) v=a++(b.set k v++c):=by
 rw[List.set_append_right _ _ (by omega),show j+k - a.length=k by omega,List.set_append_left _ _ hk]
theorem lL (hq:Pl sz qs) (hl:qs.length=i) (hk:k < p.length):((qs++p::rest).flatten++sp).set (0+i*sz+k) v=(qs++p.set k v::rest).flatten++sp:=by
 have h1:(qs.flatten).length=i*sz:=by rw[hq.len,hl]
 rw[List.flatten_append,List.flatten_cons,List.append_assoc,List.append_assoc,Nat.zero_add,Q5 h1 hk,List.flatten_append,List.flatten_cons,List.append_assoc,List.append_assoc]
theorem mB (hq:Pl sz qs) (hl:qs.length=i) (hk:k < p.length):0+i*sz+k < ((qs++p::rest).flatten++sp).length:=by
 have h1:(qs.flatten).length=i*sz:=by rw[hq.len,hl]
 simp only[List.flatten_append,List.flatten_cons,List.length_append]
 omega
end
section
variable {w0 w:World} {S:List Nat} {es:List Ent} {ok:Nat→Prop} {g:Option Nat} {b:Blk} {sp:List Value} {i:Nat}
theorem Hp.new {g:Nat} {T:TypeId} {cs:List Value} (H:Hp w0 w [] es) (he:es[i]? =some (some g,T,cs)):w0.heap.size≤g:=by
 rcases H.place he with h | h
 · cases h
 · exact h
theorem fL {g:Nat} {T:TypeId} {cs:List Value} (h:es[i]? =some (some g,T,cs)):g∈bl es:=List.mem_filterMap.2 ⟨_,List.mem_of_getElem? h,rfl⟩
theorem not3 {x a b c:Nat} {T U V:TypeId} {ca cb cc:List Value} (h1:x≠a) (h2:x≠b) (h3:x≠c):x∉bl [((some a,T,ca):Ent),(some b,U,cb),(some c,V,cc)]:=fun h=>by
 have:x=a∨x=b∨x=c:=by simpa[bl]using h
 omega
end
end Go.Proofs.YtjoeklkmnfaabaaGreat
namespace Go.Proofs.YtjoeklkmnfaabaaGreat
set_option maxRecDepth 100000
set_option maxHeartbeats 32000000
open Go Go.RowKit
set_option linter.unusedVariables false
attribute [local irreducible] yT Ops zP Cd
theorem EJ (b:Bo) (A1:Option Addr) (k1:Nat) (A2:Option Addr) (k2:Nat) (A3:Option Addr) (k3:Nat) (N:Nat) (ok:Nat→Prop) (w0:World) (hb1:Sl (Gz w0 ok) 6 w0 ok A1 b.groups) (hb2:Sl Fb 4 w0 ok A2 b.rights) (hb3:Sl Fp 7 w0 ok A3 b.last) (hg:rJ b N) (hN:N≤900000000000):zP Tryz.prog 46 #[.agg [.slice A1 b.groups.length k1,.slice A2 b.rights.length k2,.slice A3 b.last.length k3].toArray] w0 (fun r w'=>∃ cs,r=.agg cs.toArray∧Hl w' (fun x=>w0.heap.size≤x) cs b∧Hp w0 w' [] []):=by
 refine zE Tryz.func46 Tryz.ntmps46 Y<|cR Bv ?_
 have H:=Hp.refl w0
 obtain⟨ps,hp,hr,ha,h2⟩:=id hb1
 obtain⟨pr,hpr,hrr,har,h2r⟩:=id hb2
 obtain⟨pm,hpm,hrm,ham,h2m⟩:=id hb3
 have hl8:ps.length=8:=h2.len.trans hg.eight
 have h8:=hg.eight
 have hfr:=hg.few
 have hfm:=nV hg.Qb
 refine Rq<|yA Y Y H<|fun w1 gb H1 _=>OA xQ H1<|fun w2 gr H2 _=>Xr Bv<|Rq<|Xf vO Y<|OV (EL qH Y (H2.cell (i:=0) Y Y))<|OQ (EC gf69 Y) (PP A1 b.groups.length k1 ps.flatten _ (hr.to0 H2) (xF (wC.ones (fun _ _ h=>Gz.ones h) h2)) (by omega)) ?_
 rintro _ w3 ⟨gs,cg,sg,rfl,hgn,hcz,hg0,Hc⟩
 have H3:=H2.call0 Hc
 obtain⟨gk,rfl⟩:=vK H3 (i:=2) rfl (by rw[List.length_append,hp.len];omega)
 refine Xf vO Y<|Aa Bv<|OW qH H3 0 Y Y Y Y (by first|exact NL Y|simp[zH]) Y<|fun w4 H4=>Xr Bv<|J1<|Rq<|Xf vO Y<|OV (EL qH Y (H4.cell (i:=0) Y Y))<|OV (ES Tryz.underlying37 Y)<|Xm Y<|Xr Bv<|J7<|zU (fun nQ lQ w=>∃ (i:Nat) (y:Int) (qs:List (List Value)),b.groups.length - i=nQ∧xN (Dj [(1,.pointer (some ⟨gb,0,none⟩)),(2,.pointer (some ⟨gr,0,none⟩)),(13,.int .i64 (b.groups.length:Int)),(14,.int .i64 y)] 0 105) lQ∧y=(i:Int)∧i≤b.groups.length∧Pl 6 qs∧wC (Gz w (fun x=>w0.heap.size≤x∧x≠gb∧x≠gr∧x≠gk)) qs (b.groups.take i)∧Hp w0 w [] [((some gb,41,[.slice (hd (some gk)) b.groups.length cg,.slice A2 b.rights.length k2,.slice A3 b.last.length k3]):Ent),(some gr,41,[.slice none 0 0,.slice none 0 0,.slice none 0 0]),(some gk,97,(qs++ps.drop i).flatten++sg)]) (b.groups.length) ?_ ?_
 exact⟨0,_,[],Y,(Dv Y Y Y Y Y),Y,Nat.zero_le _,Pl.nil _,trivial,H4⟩
 rintro nQ lQ w5 ⟨i,y,qs,rfl,hfit,rfl,hi,hq,hA,H5⟩
 obtain⟨j,rfl⟩:=hfit.open
 refine cR Bv ?_
 clear hfit
 have HB:=H5
 replace H5:=HB.here
 refine Rq<|OT (zQ Y Y) (fun Gj=>?_) (fun Gj=>?_)
 have hil:i < b.groups.length:=by omega
 obtain⟨s,hx⟩:=yM hil
 obtain⟨p1,hp1,hR⟩:=h2.get hx
 obtain⟨D1,e1,D2,e2,D3,e3,rfl,hv,hm,he⟩:=hR
 have Cb:qs.length=i:=by rw[hA.len,List.length_take];omega
 rw[sJ hp1]at HB H5
 obtain⟨vs,hpv,Ju,hav,h2v⟩:=id hv
 obtain⟨en,hpe,hre,hae,h2e⟩:=id he
 have hck:=(tP s).1 (hg.chk s (mem_of hx))
 have Ws:=pT hck
 have he40:=pP hck
 refine Xr Bv<|J1<|J3 Y<|J6<|J1<|J7<|Rq<|Xm Y<|Xa Y<|Xr Bv<|Rq<|Xf vO Y<|OV (EL qH Y (H5.cell (i:=0) Y Y))<|Xm Y<|OV (uR Tryz.underlying37 xW Y Y Y hil)<|Aa Bv<|Xa Y<|Xr Bv<|J1<|CW [20,23,26] [(6,[20]),(6,[23]),(6,[26]),(11,[20]),(11,[23]),(11,[26]),(16,[20]),(16,[23]),(16,[26])] (.b 0 (.b 1 (.b 2 (.b 3 (.b 4 (.b 5 (.a 6 (.b 8 (.b 9 (.b 10 (.a 11 (.b 13 (.b 14 (.b 15 (.a 16 (.o 7 (.o 12 (.o 17 (.b 18 (.b 19 (.z 20 (.b 21 (.b 22 (.z 23 (.b 24 (.b 25 (.z 26 .nil))))))))))))))))))))))))))) H5 [0,1,2] yG (by decide) (by kernel_rfl) ?_
 rintro w6 hw6
 have H6:=Hp.drew H5;rw[← hw6]at H6
 refine uD Y<|MV (fun wz hz=>zK Y)<|uD Y<|MV (fun wz hz=>zK Y)<|uD Y<|MV (fun wz hz=>zK Y)<|uD Y<|MV (fun wz hz=>zK Y)<|cL Bv<|uD Y<|MV (fun wz hz=>yI Y)<|uD Y<|MV (fun wz hz=>EF uU Y)<|cI Y<|MV (fun wz hz=>EL xK Y (hz.cell (i:=2) Y (rP hq Cb Y)))<|uD Y<|MV (fun wz hz=>zK Y)<|cL Bv<|uD Y<|MV (fun wz hz=>yI Y)<|uD Y<|MV (fun wz hz=>EF xV Y)<|cI Y<|MV (fun wz hz=>EL uP Y (hz.cell (i:=2) Y (rP hq Cb Y)))<|uD Y<|MV (fun wz hz=>zK Y)<|cL Bv<|uD Y<|MV (fun wz hz=>yI Y)<|uD Y<|MV (fun wz hz=>EF xZ Y)<|cI Y<|MV (fun wz hz=>EL uZ Y (hz.cell (i:=2) Y (rP hq Cb Y)))<|cH Y<|yW (EC kZ Y) (vI D2 s.image e2 _ (hm.1.to0 (HB.all H6)) (by have:=hm.2.2;omega))<|fun w7 gi ci si _ _ _ Hc=>have H7:=H6.call0 Hc;OE<|⟨H7.pick [0,1,2] (by decide),?_⟩
 refine cL Bv<|cH Y<|OQ (EC VQ Y) (F8 D1 s.Ae.length e1 vs.flatten _ (Ju.to0 (HB.all H7)) (xF (wC.ones (fun _ _ h=>Et.ones h) h2v)) (by omega)) ?_
 rintro _ w8 ⟨gv,cv,sv,rfl,_,_,_,Hc⟩
 have H8:=H7.call0 Hc
 refine OE ?_
 refine⟨H8.pick [0,1,2] (by decide),?_⟩
 refine cL Bv<|cH Y<|OQ (EC SN Y) (B9 D3 s.entries.length e3 en.flatten _ (hre.to0 (HB.all H8)) (xF (wC.ones (fun _ _ h=>Gs.ones h) h2e)) (by omega)) ?_
 rintro _ w9 ⟨gn,cn,sn,rfl,_,_,_,Hc⟩
 have H9:=H8.call0 Hc
 refine OE ?_
 refine⟨H9.pick [0,1,2] (by decide),?_⟩
 refine cL Bv<|uD Y<|MV (fun wz hz=>yI Y)<|uD Y<|MV (fun wz hz=>EF uU Y)<|cG Y<|OW xK H9 2 Y Y Y Y (mB hq Cb (show(4:Nat) < 6 by decide)) Y<|fun w10 Ar=>?_
 rw[lL (k:=4) (p:=[.int .i64 s.p.r,.int .i64 s.p.n,.slice D1 s.Ae.length e1,.int .i64 s.index,.slice D2 s.image.length e2,.slice D3 s.entries.length e3]) hq Cb (show(4:Nat) < 6 by decide)]at Ar
 replace Ar:Hp _ _ _ [((some gb,41,[.slice (hd (some gk)) b.groups.length cg,.slice A2 b.rights.length k2,.slice A3 b.last.length k3]):Ent),(some gr,41,[.slice none 0 0,.slice none 0 0,.slice none 0 0]),(some gk,97,(qs++[.int .i64 s.p.r,.int .i64 s.p.n,.slice D1 s.Ae.length e1,.int .i64 s.index,.slice (hd gi) s.image.length ci,.slice D3 s.entries.length e3]::ps.drop (i+1)).flatten++sg),(gi,5,u8s s.image++si),(gv,77,vs.flatten++sv),(gn,79,en.flatten++sn)]:=Ar
 refine OE<|cL Bv<|uD Y<|MV (fun wz hz=>yI Y)<|uD Y<|MV (fun wz hz=>EF xV Y)<|cG Y<|OW uP Ar 2 Y Y Y Y (mB hq Cb (show(2:Nat) < 6 by decide)) Y<|fun Gm Bd=>?_
 rw[lL (k:=2) (p:=[.int .i64 s.p.r,.int .i64 s.p.n,.slice D1 s.Ae.length e1,.int .i64 s.index,.slice (hd gi) s.image.length ci,.slice D3 s.entries.length e3]) hq Cb (show(2:Nat) < 6 by decide)]at Bd
 replace Bd:Hp _ _ _ [((some gb,41,[.slice (hd (some gk)) b.groups.length cg,.slice A2 b.rights.length k2,.slice A3 b.last.length k3]):Ent),(some gr,41,[.slice none 0 0,.slice none 0 0,.slice none 0 0]),(some gk,97,(qs++[.int .i64 s.p.r,.int .i64 s.p.n,.slice (hd gv) s.Ae.length cv,.int .i64 s.index,.slice (hd gi) s.image.length ci,.slice D3 s.entries.length e3]::ps.drop (i+1)).flatten++sg),(gi,5,u8s s.image++si),(gv,77,vs.flatten++sv),(gn,79,en.flatten++sn)]:=Bd
 refine OE<|cL Bv<|uD Y<|MV (fun wz hz=>yI Y)<|uD Y<|MV (fun wz hz=>EF xZ Y)<|cG Y<|OW uZ Bd 2 Y Y Y Y (mB hq Cb (show(5:Nat) < 6 by decide)) Y<|fun w12 Bc=>?_
 rw[lL (k:=5) (p:=[.int .i64 s.p.r,.int .i64 s.p.n,.slice (hd gv) s.Ae.length cv,.int .i64 s.index,.slice (hd gi) s.image.length ci,.slice D3 s.entries.length e3]) hq Cb (show(5:Nat) < 6 by decide)]at Bc
 replace Bc:Hp _ _ _ [((some gb,41,[.slice (hd (some gk)) b.groups.length cg,.slice A2 b.rights.length k2,.slice A3 b.last.length k3]):Ent),(some gr,41,[.slice none 0 0,.slice none 0 0,.slice none 0 0]),(some gk,97,(qs++[.int .i64 s.p.r,.int .i64 s.p.n,.slice (hd gv) s.Ae.length cv,.int .i64 s.index,.slice (hd gi) s.image.length ci,.slice (hd gn) s.entries.length cn]::ps.drop (i+1)).flatten++sg),(gi,5,u8s s.image++si),(gv,77,vs.flatten++sv),(gn,79,en.flatten++sn)]:=Bc
 refine OE<|cL Bv<|DN<|cR Bv<|J1<|Rq<|Xm Y<|Xc Y<|Xf xV Y<|OV (EL uP Y (Bc.cell (i:=2) Y (rP hq Cb Y)))<|Aa Bv<|OV (ES Tryz.underlying94 Y)<|Xm Y<|Xr Bv<|J7<|zU (fun nQ lQ w=>∃ (q:Nat) (z:Int) (vq:List (List Value)),s.Ae.length - q=nQ∧xN (Dj [(1,.pointer (some ⟨gb,0,none⟩)),(2,.pointer (some ⟨gr,0,none⟩)),(4,.pointer (some ⟨gk,0+i*6,none⟩)),(13,.int .i64 (b.groups.length:Int)),(14,.int .i64 (i:Int)),(49,.int .i64 (s.Ae.length:Int)),(50,.int .i64 z)] 0 105) lQ∧z=(q:Int)∧q≤s.Ae.length∧Pl 4 vq∧wC (Et w (fun x=>w0.heap.size≤x∧x∉bl [((some gb,0,[]):Ent),(some gr,0,[]),(some gk,0,[]),(gi,0,[]),(gv,0,[]),(gn,0,[])])) vq (s.Ae.take q)∧Hp w5 w (bl [((some gb,41,[.slice (hd (some gk)) b.groups.length cg,.slice A2 b.rights.length k2,.slice A3 b.last.length k3]):Ent),(some gr,41,[.slice none 0 0,.slice none 0 0,.slice none 0 0]),(some gk,97,(qs++[.int .i64 s.p.r,.int .i64 s.p.n,.slice D1 s.Ae.length e1,.int .i64 s.index,.slice D2 s.image.length e2,.slice D3 s.entries.length e3]::ps.drop (i+1)).flatten++sg)]) [((some gb,41,[.slice (hd (some gk)) b.groups.length cg,.slice A2 b.rights.length k2,.slice A3 b.last.length k3]):Ent),(some gr,41,[.slice none 0 0,.slice none 0 0,.slice none 0 0]),(some gk,97,(qs++[.int .i64 s.p.r,.int .i64 s.p.n,.slice (hd gv) s.Ae.length cv,.int .i64 s.index,.slice (hd gi) s.image.length ci,.slice (hd gn) s.entries.length cn]::ps.drop (i+1)).flatten++sg),(gi,5,u8s s.image++si),(gv,77,(vq++vs.drop q).flatten++sv),(gn,79,en.flatten++sn)]) (s.Ae.length) ?_ ?_
 exact⟨0,_,[],Y,(WW Y Y Y Y Y Y Y Y),Y,Nat.zero_le _,Pl.nil _,trivial,Bc⟩
 rintro nQ lQ Io ⟨q,z,vq,rfl,hfit,rfl,hqi,hvq,hAv,Ce⟩
 obtain⟨j,rfl⟩:=hfit.open
 refine cR Bv ?_
 clear hfit
 have HI:=Ce
 replace Ce:=HI.here
 refine Rq<|OT (zQ Y Y) (fun XL=>?_) (fun XL=>?_)
 have Fz:q < s.Ae.length:=by omega
 obtain⟨v,hxv⟩:=yM Fz
 obtain⟨pv,hpv1,hRv⟩:=h2v.get hxv
 obtain⟨G1,f1,rfl,hbv⟩:=hRv
 have hvl:vq.length=q:=by rw[hAv.len,List.length_take];omega
 rw[sJ hpv1]at HI Ce
 obtain⟨gvw,rfl⟩:=vK Ce (i:=4) rfl (Nat.lt_of_le_of_lt (Nat.zero_le _) (mB (k:=0) hvq hvl (show(0:Nat) < 4 by decide)))
 refine Xr Bv<|J1<|J3 Y<|J6<|J1<|J7<|Rq<|Xm Y<|Xa Y<|Xr Bv<|zR 16 [(true,0),(true,1),(true,2),(true,3),(true,4),(true,5),(true,6),(true,7),(true,8),(true,9),(true,10),(true,11),(true,12),(false,13),(true,14),(true,15),(false,16)] Ce [0,1,2,3,4,5] yG (by decide) (by kernel_rfl) ?_
 rintro Md Wp
 have Ei:=Hp.drew Ce;rw[← Wp]at Ei
 refine Zm Y Y<|Zc Y Y<|Zf Y xV Y<|MP Y<|MV (fun wz hz=>EL uP Y (hz.cell (i:=2) Y (rP hq Cb Y)))<|cZ Bv<|Zm Y Y<|Zm Y Y<|Zc Y Y<|Zf Y xV Y<|cZ Bv<|MP Y<|MV (fun wz hz=>EL uP Y (hz.cell (i:=2) Y (rP hq Cb Y)))<|Zm Y Y<|MP Y<|MV (fun wz hz=>uR Tryz.underlying94 yZ Y Y Y Fz)<|Zf Y sS Y<|cZ Bv<|MP Y<|MV (fun wz hz=>EL xK Y (hz.cell (i:=4) Y (rP hvq hvl Y)))<|MO Y ?_
 have hnf:=Hp.fresh Ei
 have hsz:=(HB.all (HI.all Ei)).size
 obtain⟨wn,hwn⟩:∃ n,n=Md.heap.size:=⟨_,rfl⟩
 refine yW (EC kZ Y) (vI G1 v.val f1 _ (hbv.1.to0 (HB.all (HI.all Ei))) (by have:=hbv.2.2;omega))<|fun Mc gc cc sc _ _ _ Hc=>?_
 have hnc:∀ k,gc=some k→wn≤k:=fun k hk=>by subst hk;have:=Hc.new (i:=0) rfl;omega
 have Fa:=Ei.call0 Hc
 refine OE ?_
 refine⟨fun hne=>Fa.pick [0,1,2,3,4,5] (by decide),?_⟩
 refine cZ Bv<|MP Y<|MV (fun wz hz=>uR Tryz.underlying94 yZ Y Y Y Fz)<|Zf Y sS Y<|MO Y<|OW xK Fa 4 Y Y Y Y (mB hvq hvl (show(3:Nat) < 4 by decide)) Y<|fun w16 Jf=>?_
 rw[lL (k:=3) (p:=[.int .i64 v.slot,.int .i64 v.b.r,.int .i64 v.b.n,.slice G1 v.val.length f1]) hvq hvl (show(3:Nat) < 4 by decide)]at Jf
 replace Jf:Hp _ _ _ [((some gb,41,[.slice (hd (some gk)) b.groups.length cg,.slice A2 b.rights.length k2,.slice A3 b.last.length k3]):Ent),(some gr,41,[.slice none 0 0,.slice none 0 0,.slice none 0 0]),(some gk,97,(qs++[.int .i64 s.p.r,.int .i64 s.p.n,.slice (hd (some gvw)) s.Ae.length cv,.int .i64 s.index,.slice (hd gi) s.image.length ci,.slice (hd gn) s.entries.length cn]::ps.drop (i+1)).flatten++sg),(gi,5,u8s s.image++si),(some gvw,77,(vq++[.int .i64 v.slot,.int .i64 v.b.r,.int .i64 v.b.n,.slice (hd gc) v.val.length cc]::vs.drop (q+1)).flatten++sv),(gn,79,en.flatten++sn),(gc,5,u8s v.val++sc)]:=Jf
 refine OE ?_
 refine⟨fun hne=>absurd Y hne,?_⟩
 refine cZ Bv<|ME<|cR Bv<|zA (zB ?_)
 refine J2<|OV (zL Y Y (IntWalk.i64_in _ (by omega)))<|Xm Y<|Xr Bv<|zA (zI ?_)
 have HW:=HI.all Jf
 exact⟨s.Ae.length - (q+1),by omega,q+1,_,vq++[[.int .i64 v.slot,.int .i64 v.b.r,.int .i64 v.b.n,.slice (hd gc) v.val.length cc]],Y,(WW Y Y Y Y Y Y Y Y),by omega,by omega,hvq.app (Pl.one Y),by
  rw[yU hxv]
  exact(hAv.imp fun p x h=>h.to Jf fun x hx _=>⟨hx.2,hx⟩).app (wC.one ⟨hd gc,cc,Y,Bs.row Jf (i:=6) Y hbv.2.2 fun k hk=>⟨by have:=hnc k hk;omega,fun hb=>hnf k (by have:=hnc k hk;omega) hb⟩⟩),by rw[List.append_assoc];exact HW.pick [0,1,2,3,4,5] (by decide)⟩
 obtain rfl:q=s.Ae.length:=by omega
 have hvd:vs.drop s.Ae.length=[]:=List.drop_of_length_le (by rw[h2v.len];exact Nat.le_refl _)
 replace Ce:=HI
 rw[hvd,List.append_nil]at Ce
 rw[List.take_length]at hAv
 refine Xr Bv<|J1<|J4 Y<|J8<|zT<|zS<|Rq<|Xm Y<|Xc Y<|Xf xZ Y<|OV (EL uZ Y (Ce.cell (i:=2) Y (rP hq Cb Y)))<|Aa Bv<|OV (ES Tryz.underlying95 Y)<|Xm Y<|Xr Bv<|J7<|zU (fun nQ lQ w=>∃ (q:Nat) (z:Int) (eq:List (List Value)),s.entries.length - q=nQ∧xN (Dj [(1,.pointer (some ⟨gb,0,none⟩)),(2,.pointer (some ⟨gr,0,none⟩)),(4,.pointer (some ⟨gk,0+i*6,none⟩)),(13,.int .i64 (b.groups.length:Int)),(14,.int .i64 (i:Int)),(74,.int .i64 (s.entries.length:Int)),(75,.int .i64 z)] 0 105) lQ∧z=(q:Int)∧q≤s.entries.length∧Pl 2 eq∧wC (Gs w (fun x=>w0.heap.size≤x∧x∉bl [((some gb,0,[]):Ent),(some gr,0,[]),(some gk,0,[]),(gi,0,[]),(gv,0,[]),(gn,0,[])])) eq (s.entries.take q)∧wC (Et w (fun x=>w0.heap.size≤x∧x∉bl [((some gb,0,[]):Ent),(some gr,0,[]),(some gk,0,[]),(gi,0,[]),(gv,0,[]),(gn,0,[])])) vq s.Ae∧Hp w5 w (bl [((some gb,41,[.slice (hd (some gk)) b.groups.length cg,.slice A2 b.rights.length k2,.slice A3 b.last.length k3]):Ent),(some gr,41,[.slice none 0 0,.slice none 0 0,.slice none 0 0]),(some gk,97,(qs++[.int .i64 s.p.r,.int .i64 s.p.n,.slice D1 s.Ae.length e1,.int .i64 s.index,.slice D2 s.image.length e2,.slice D3 s.entries.length e3]::ps.drop (i+1)).flatten++sg)]) [((some gb,41,[.slice (hd (some gk)) b.groups.length cg,.slice A2 b.rights.length k2,.slice A3 b.last.length k3]):Ent),(some gr,41,[.slice none 0 0,.slice none 0 0,.slice none 0 0]),(some gk,97,(qs++[.int .i64 s.p.r,.int .i64 s.p.n,.slice (hd gv) s.Ae.length cv,.int .i64 s.index,.slice (hd gi) s.image.length ci,.slice (hd gn) s.entries.length cn]::ps.drop (i+1)).flatten++sg),(gi,5,u8s s.image++si),(gv,77,vq.flatten++sv),(gn,79,(eq++en.drop q).flatten++sn)]) (s.entries.length) ?_ ?_
 exact⟨0,_,[],Y,(WW Y Y Y Y Y Y Y Y),Y,Nat.zero_le _,Pl.nil _,trivial,hAv,Ce⟩
 rintro nQ lQ Md ⟨q,z,eq,rfl,hfit,rfl,hqi,heq,hAe,hAv,Ei⟩
 obtain⟨j,rfl⟩:=hfit.open
 refine cR Bv ?_
 clear hfit
 have HI:=Ei
 replace Ei:=HI.here
 refine Rq<|OT (zQ Y Y) (fun XG=>?_) (fun XG=>?_)
 have Fz:q < s.entries.length:=by omega
 obtain⟨v,hxv⟩:=yM Fz
 obtain⟨pv,hpv1,hRv⟩:=h2e.get hxv
 obtain⟨G1,f1,rfl,hbv⟩:=hRv
 have hvl:eq.length=q:=by rw[hAe.len,List.length_take];omega
 rw[sJ hpv1]at HI Ei
 obtain⟨gnw,rfl⟩:=vK Ei (i:=5) rfl (Nat.lt_of_le_of_lt (Nat.zero_le _) (mB (k:=0) heq hvl (show(0:Nat) < 2 by decide)))
 refine Xr Bv<|J1<|J3 Y<|J6<|J1<|J7<|Rq<|Xm Y<|Xa Y<|Xr Bv<|zR 16 [(true,0),(true,1),(true,2),(true,3),(true,4),(true,5),(true,6),(true,7),(true,8),(true,9),(true,10),(true,11),(true,12),(false,13),(true,14),(true,15),(false,16)] Ei [0,1,2,3,4,5] yG (by decide) (by kernel_rfl) ?_
 rintro Mc Wn
 have Fa:=Hp.drew Ei;rw[← Wn]at Fa
 refine Zm Y Y<|Zc Y Y<|Zf Y xZ Y<|MP Y<|MV (fun wz hz=>EL uZ Y (hz.cell (i:=2) Y (rP hq Cb Y)))<|cZ Bv<|Zm Y Y<|Zm Y Y<|Zc Y Y<|Zf Y xZ Y<|cZ Bv<|MP Y<|MV (fun wz hz=>EL uZ Y (hz.cell (i:=2) Y (rP hq Cb Y)))<|Zm Y Y<|MP Y<|MV (fun wz hz=>uR Tryz.underlying95 wD Y Y Y Fz)<|Zf Y uV Y<|cZ Bv<|MP Y<|MV (fun wz hz=>EL xK Y (hz.cell (i:=5) Y (rP heq hvl Y)))<|MO Y ?_
 have hnf:=Hp.fresh Fa
 have hsz:=(HB.all (HI.all Fa)).size
 obtain⟨wn,hwn⟩:∃ n,n=Mc.heap.size:=⟨_,rfl⟩
 refine yW (EC kZ Y) (vI G1 v.val f1 _ (hbv.1.to0 (HB.all (HI.all Fa))) (by have:=hbv.2.2;omega))<|fun w16 gc cc sc _ _ _ Hc=>?_
 have hnc:∀ k,gc=some k→wn≤k:=fun k hk=>by subst hk;have:=Hc.new (i:=0) rfl;omega
 have Jf:=Fa.call0 Hc
 refine OE ?_
 refine⟨fun hne=>Jf.pick [0,1,2,3,4,5] (by decide),?_⟩
 refine cZ Bv<|MP Y<|MV (fun wz hz=>uR Tryz.underlying95 wD Y Y Y Fz)<|Zf Y uV Y<|MO Y<|OW xK Jf 5 Y Y Y Y (mB heq hvl (show(1:Nat) < 2 by decide)) Y<|fun w17 Qv=>?_
 rw[lL (k:=1) (p:=[.int .i64 v.slot,.slice G1 v.val.length f1]) heq hvl (show(1:Nat) < 2 by decide)]at Qv
 replace Qv:Hp _ _ _ [((some gb,41,[.slice (hd (some gk)) b.groups.length cg,.slice A2 b.rights.length k2,.slice A3 b.last.length k3]):Ent),(some gr,41,[.slice none 0 0,.slice none 0 0,.slice none 0 0]),(some gk,97,(qs++[.int .i64 s.p.r,.int .i64 s.p.n,.slice (hd gv) s.Ae.length cv,.int .i64 s.index,.slice (hd gi) s.image.length ci,.slice (hd (some gnw)) s.entries.length cn]::ps.drop (i+1)).flatten++sg),(gi,5,u8s s.image++si),(gv,77,vq.flatten++sv),(some gnw,79,(eq++[.int .i64 v.slot,.slice (hd gc) v.val.length cc]::en.drop (q+1)).flatten++sn),(gc,5,u8s v.val++sc)]:=Qv
 refine OE ?_
 refine⟨fun hne=>absurd Y hne,?_⟩
 refine cZ Bv<|ME<|cR Bv<|zA (zB ?_)
 refine J2<|OV (zL Y Y (IntWalk.i64_in _ (by omega)))<|Xm Y<|Xr Bv<|zA (zI ?_)
 have HW:=HI.all Qv
 exact⟨s.entries.length - (q+1),by omega,q+1,_,eq++[[.int .i64 v.slot,.slice (hd gc) v.val.length cc]],Y,(WW Y Y Y Y Y Y Y Y),by omega,by omega,heq.app (Pl.one Y),by
  rw[yU hxv]
  exact(hAe.imp fun p x h=>h.to Qv fun x hx _=>⟨hx.2,hx⟩).app (wC.one ⟨hd gc,cc,Y,Bs.row Qv (i:=6) Y hbv.2.2 fun k hk=>⟨by have:=hnc k hk;omega,fun hb=>hnf k (by have:=hnc k hk;omega) hb⟩⟩),hAv.imp fun p x h=>h.to Qv fun x hx _=>⟨hx.2,hx⟩,by rw[List.append_assoc];exact HW.pick [0,1,2,3,4,5] (by decide)⟩
 obtain rfl:q=s.entries.length:=by omega
 have hvd:en.drop s.entries.length=[]:=List.drop_of_length_le (by rw[h2e.len];exact Nat.le_refl _)
 replace Ei:=HI
 rw[hvd,List.append_nil]at Ei
 rw[List.take_length]at hAe
 refine Xr Bv<|J1<|J4 Y<|J8<|zT<|zS<|zA (zB ?_)
 refine J2<|OV (zL Y Y (IntWalk.i64_in _ (by omega)))<|Xm Y<|Xr Bv<|zA (zI ?_)
 have HW:=HB.all Ei
 exact⟨b.groups.length - (i+1),by omega,i+1,_,qs++[[.int .i64 s.p.r,.int .i64 s.p.n,.slice (hd gv) s.Ae.length cv,.int .i64 s.index,.slice (hd gi) s.image.length ci,.slice (hd gn) s.entries.length cn]],Y,(Dv Y Y Y Y Y),by omega,by omega,hq.app (Pl.one Y),by
  rw[yU hx]
  exact(hA.imp fun p x h=>h.to Ei fun x hx _=>⟨not3 hx.2.1 hx.2.2.1 hx.2.2.2,hx⟩).app (wC.one ⟨hd gv,cv,hd gi,ci,hd gn,cn,rfl,Sl.row HW (i:=4) rfl hvq (by decide) (hAv.imp fun p x h=>h.to (Hp.refl _) fun x hx _=>⟨by simp,hx.1,fun e=>hx.2 (by rw[e];exact fL (i:=0) rfl),fun e=>hx.2 (by rw[e];exact fL (i:=1) rfl),fun e=>hx.2 (by rw[e];exact fL (i:=2) rfl)⟩) (fun k hk=>by subst hk;exact⟨HW.new (i:=4) rfl,HW.ne (i:=4) (j:=0) rfl rfl (by decide),HW.ne (i:=4) (j:=1) rfl rfl (by decide),HW.ne (i:=4) (j:=2) rfl rfl (by decide)⟩),Bs.row HW (i:=3) rfl hm.2.2 (fun k hk=>by subst hk;exact⟨HW.new (i:=3) rfl,HW.ne (i:=3) (j:=0) rfl rfl (by decide),HW.ne (i:=3) (j:=1) rfl rfl (by decide),HW.ne (i:=3) (j:=2) rfl rfl (by decide)⟩),Sl.row HW (i:=5) rfl heq (by decide) (hAe.imp fun p x h=>h.to (Hp.refl _) fun x hx _=>⟨by simp,hx.1,fun e=>hx.2 (by rw[e];exact fL (i:=0) rfl),fun e=>hx.2 (by rw[e];exact fL (i:=1) rfl),fun e=>hx.2 (by rw[e];exact fL (i:=2) rfl)⟩) (fun k hk=>by subst hk;exact⟨HW.new (i:=5) rfl,HW.ne (i:=5) (j:=0) rfl rfl (by decide),HW.ne (i:=5) (j:=1) rfl rfl (by decide),HW.ne (i:=5) (j:=2) rfl rfl (by decide)⟩)⟩),by rw[List.append_assoc];exact HW.pick [0,1,2] (by decide)⟩
 obtain rfl:i=b.groups.length:=by omega
 refine Xr Bv<|J1<|J4 Y<|J8<|zT<|zS<|J1<|CW [7,9] [(1,[7]),(1,[9]),(4,[7]),(4,[9])] (.b 0 (.a 1 (.b 3 (.a 4 (.o 2 (.b 6 (.o 5 (.z 7 (.b 8 (.z 9 .nil)))))))))) H5 [0,1,2] yG (by decide) (by kernel_rfl) ?_
 rintro w6 hw6
 have H6:=Hp.drew H5;rw[← hw6]at H6
 refine uD Y<|MV (fun wz hz=>EF sU Y)<|cI Y<|MV (fun wz hz=>EL kX Y (hz.cell (i:=0) Y Y))<|uD Y<|MV (fun wz hz=>EF tJ Y)<|cI Y<|MV (fun wz hz=>EL mM Y (hz.cell (i:=0) Y Y))<|cL Bv<|cH Y<|OQ (EC VY Y) (F9 A2 b.rights.length k2 pr.flatten _ (hrr.to0 (HB.all H6)) (xF (wC.ones (fun _ _ h=>Fb.ones h) h2r)) (by omega)) ?_
 rintro _ w7 ⟨gR,kR,sR,rfl,_,_,_,Hc⟩
 have H7:=H6.call0 Hc
 refine OE ?_
 refine⟨H7.pick [0,1,2] (by decide),?_⟩
 refine cL Bv<|uD Y<|MV (fun wz hz=>EF sU Y)<|cH Y<|OQ (EC VP Y) (GA A3 b.last.length k3 pm.flatten _ (hrm.to0 (HB.all H7)) (xF (wC.ones (fun _ _ h=>Fp.ones h) h2m)) (by omega)) ?_
 rintro _ w8 ⟨gM,kM,sM,rfl,_,_,_,Hc⟩
 have H8:=H7.call0 Hc
 refine OE ?_
 refine⟨H8.pick [0,1,2] (by decide),?_⟩
 refine cL Bv<|cG Y<|OW kX H8 0 Y Y Y Y (by first|exact NL Y|simp[zH]) Y<|fun w9 H9=>OE<|cL Bv<|uD Y<|MV (fun wz hz=>EF tJ Y)<|cG Y<|OW mM H9 0 Y Y Y Y (by first|exact NL Y|simp[zH]) Y<|fun w10 Ar=>OE<|cL Bv<|DN<|cR Bv<|Rq<|OV (EN xQ Y (vs:=[.slice (hd (some gk)) b.groups.length cg,.slice (hd gR) b.rights.length kR,.slice (hd gM) b.last.length kM]) Y (Ar.Ad (i:=0) Y Y))<|OS xQ Ar 1 Y Y Y Y Y (by first|exact NL Y|simp[zH]) Y<|fun Gm Bd=>Xr Bv<|J5<|uM Y xQ (cs:=[.slice (hd (some gk)) b.groups.length cg,.slice (hd gR) b.rights.length kR,.slice (hd gM) b.last.length kM]) Y Y (Bd.Ad (i:=1) Y Y) ?_
 have HW:=HB.all Bd
 have hpd:ps.drop b.groups.length=[]:=List.drop_of_length_le (by rw[h2.len];exact Nat.le_refl _)
 rw[hpd,List.append_nil]at HW
 rw[List.take_length]at hA
 exact⟨_,rfl,⟨hd (some gk),cg,hd gR,kR,hd gM,kM,rfl,Sl.row HW (i:=2) rfl hq (by decide) (hA.imp fun p x h=>h.to Bd fun x hx _=>⟨not3 hx.2.1 hx.2.2.1 hx.2.2.2,hx.1⟩) (fun k hk=>by cases hk;exact HW.new (i:=2) rfl),Sl.row HW (i:=3) rfl hpr (by decide) h2r (fun k hk=>by subst hk;exact HW.new (i:=3) rfl),Sl.row HW (i:=4) rfl hpm (by decide) h2m (fun k hk=>by subst hk;exact HW.new (i:=4) rfl)⟩,HW.Ac⟩
end Go.Proofs.YtjoeklkmnfaabaaGreat
namespace Go.Proofs.YtjoeklkmnfaabaaGreat
set_option maxRecDepth 100000
set_option maxHeartbeats 4000000
open Go Go.RowKit
set_option linter.unusedVariables false
attribute [local irreducible] yT Ops zP Cd
theorem LT (v:Vm) (D:Dk) (W:Wl) (b:Bo) (bad:Nat→Prop) (w0:World) (H0:Hp w0 w0 (bl (Aj v D W)) (Aj v D W)) (h:Px w0 v D W b bad):zP Tryz.prog 16 #[.pointer (some ⟨v.gx,0,none⟩)] w0 (fun r w'=>r=.int .i64 (W.recs.length:Int)∧Hp w0 w' (bl (Aj v D W)) (Aj v D W)):=by
 refine zE Tryz.func16 Tryz.ntmps16 Y<|cR e16 ?_
 have H:=H0
 refine Rq<|Xa Y<|Xr e16<|J1<|Rq<|Xm Y<|Dy (yE Tryz.underlying23 Y) (by simp)<|Xr e16<|J4 Y<|J6<|J1<|zR 11 [(true,0),(true,1),(true,2),(true,3),(true,5),(true,6),(true,7),(true,8),(false,4),(true,9),(true,10),(false,11)] H [0,1,2,3,4,5,6] yG (by decide) (by kernel_rfl) ?_
 rintro w1 hw1
 have H1:=Hp.drew H;rw[← hw1]at H1
 refine Zm Y Y<|Zc Y Y<|Zf Y jZ Y<|MP Y<|MV (fun wz hz=>EL uC Y (hz.cell (i:=6) Y Y))<|cZ e16<|Zm Y Y<|Zc Y Y<|Zf Y jZ Y<|MP Y<|MV (fun wz hz=>EL uC Y (hz.cell (i:=6) Y Y))<|cZ e16<|MO Y ?_
 have hmo:=h.ok.most
 have hfi:=h.ok.first
 refine OC (EC N8 Y) (lD v.m.gv W.first W.recs.length v.m.cr (hd v.m.gr) _ (H1.cell (i:=3) Y Y) (H1.cell (i:=3) Y Y) (by omega))<|fun w2 Hc=>have H2:=H1.Af Hc;OE<|⟨fun hne=>H2.pick [0,1,2,3,4,5,6] (by decide),?_⟩
 refine cZ e16<|MP Y<|rE (fun wz hz=>EC gf47 Y) (fun wz hz=>IT v.m.gv (W.first:Int) wz (hz.cell (i:=3) Y Y))<|MP Y<|MV (fun wz hz=>uW Y Y (IntWalk.i64_in _ (by omega)))<|MO Y<|Xa Y<|OE<|⟨fun hne=>absurd Y hne,?_⟩
 refine cZ e16<|ME<|cR e16<|J5<|Ak Y Y<|⟨congrArg (Value.int .i64) (by omega),H2⟩
theorem AX (v:Vm) (D:Dk) (W:Wl) (b:Bo) (bad:Nat→Prop) (w0:World) (H0:Hp w0 w0 (bl (Aj v D W)) (Aj v D W)) (h:Px w0 v D W b bad) (NB:Nat) (hg:rJ b NB) (hN:NB≤900000000000) (hv:∀ x∈bl (Aj v D W),bad x):zP Tryz.prog 14 #[.pointer (some ⟨v.gx,0,none⟩)] w0 (fun r w'=>∃ cs,r=.agg cs.toArray∧Hl w' (fun x=>w0.heap.size≤x∧x∉bl (Aj v D W)) cs b∧Hp w0 w' (bl (Aj v D W)) (Aj v D W)):=by
 refine zE Tryz.func14 Tryz.ntmps14 Y<|cR e11 ?_
 have H:=H0
 obtain⟨A1,k1,A2,k2,A3,k3,hcs,hb1,hb2,hb3⟩:=id h.bo
 refine Rq<|OA xQ H<|fun w1 g2 H1 hg2=>Xr e11<|J1<|Rq<|Xm Y<|Dy (yE Tryz.underlying23 Y) (by simp)<|Xr e11<|J4 Y<|J6<|Rq<|Xm Y<|Xc Y<|Xf jY Y<|OV (EN xQ Y (vs:=[.slice A1 b.groups.length k1,.slice A2 b.rights.length k2,.slice A3 b.last.length k3]) Y (H1.Ad (i:=6) Y (by rw[gK,hcs];rfl)))<|Aa e11 ?_
 have hk:∀ x,¬bad x→x < w0.heap.size→x∉bl (Aj v D W)∧(¬bad x∧x < w0.heap.size):=fun x hx hl=>⟨fun hb=>hx (hv x hb),hx,hl⟩
 have hnb:=Hp.fresh H1
 have ZG:=H1.size
 refine OQ (EC gf46 Y) (EJ b A1 k1 A2 k2 A3 k3 NB _ _ (hb1.toS H1 hk) (hb2.toR H1 hk) (hb3.toM H1 hk) hg hN) ?_
 rintro _ w2 ⟨_,rfl,⟨E1,e1,E2,e2,E3,e3,rfl,hE1,hE2,hE3⟩,Hd⟩
 have HC:=H1.Af Hd
 have H2:=HC.here
 have kk:∀ x,w1.heap.size≤x→x < w2.heap.size→x∉bl _∧(w0.heap.size≤x∧x∉bl (Aj v D W)):=fun x hx _=>⟨hnb x hx,Nat.le_trans ZG hx,fun hb=>hnb x hx (by rw[uI];exact List.mem_append.2 (.inl hb))⟩
 refine OS xQ H2 7 Y Y Y Y Y (by first|exact NL Y|simp[zH]) Y<|fun w3 H3=>Xr e11<|J5<|uM Y xQ (cs:=[.slice E1 b.groups.length e1,.slice E2 b.rights.length e2,.slice E3 b.last.length e3]) Y Y (H3.Ad (i:=7) Y Y)<|⟨_,Y,⟨E1,e1,E2,e2,E3,e3,Y,hE1.toS H3 kk,hE2.toR H3 kk,hE3.toM H3 kk⟩,(HC.all H3).pick [0,1,2,3,4,5,6] (by decide)⟩
end Go.Proofs.YtjoeklkmnfaabaaGreat
