/-
  Parts of the walk, one behind the other.
-/
import Derived.Test.YtjoeklkmnfaabaaGreatK2
import Derived.Laws.Strings
import Derived.Laws.IdiomStrings
import Derived.Laws.StructEq
import Derived.Laws.ResultCell
namespace Go.Proofs.YtjoeklkmnfaabaaGreat
open Go Go.RowKit
set_option linter.unusedVariables false
set_option linter.unusedSimpArgs false
def nbs (rs:List Blk):Nat:=(rs.map fun r=>Eb r.length).sum
theorem pM (a b:List Blk):nbs (a++b)=nbs a+nbs b:=by simp[nbs]
theorem G6 (r:Blk):nbs [r]=Eb r.length:=by simp[nbs]
theorem BL (rs:List Blk):nbs rs+rs.length≤used rs:=by
 induction rs with
 | nil=>simp[nbs,used]
 | cons r rs ih=>
  have h:Eb r.length+1≤wgt r.length:=by unfold wgt Eb;omega
  simp only[nbs,used,List.map_cons,List.sum_cons,List.length_cons]at ih ⊢;omega
theorem bR (rs:List Blk) (k:Nat):nbs (rs.take k)+nbs (rs.drop k)=nbs rs:=by rw[← pM,List.take_append_drop]
theorem jD {rs:List Blk} {k:Nat} (h:k < rs.length):nbs (rs.take (k+1))=nbs (rs.take k)+Eb rs[k].length:=by
 rw[List.take_add_one,List.getElem?_eq_getElem h,pM]
 show _+nbs [rs[k]]=_
 rw[G6]
theorem VB {rs:List Blk} {k:Nat} (h:k < rs.length):nbs (rs.take k)+Eb rs[k].length≤nbs rs:=by
 rw[← jD h]
 have:=bR rs (k+1)
 omega
theorem G7 {s R x y:Nat} (hx:x < R) (hy:y < R) (h:(s+x) % R=(s+y) % R):x=y:=by
 have h1:=Nat.div_add_mod (s+x) R
 have h2:=Nat.div_add_mod (s+y) R
 rw[h]at h1
 rcases Nat.lt_trichotomy ((s+x) / R) ((s+y) / R)with h3 | h3 | h3
 · have h4:=Nat.mul_le_mul_left R h3
   rw[Nat.succ_eq_add_one,Nat.mul_add,Nat.mul_one]at h4
   omega
 · rw[h3]at h1;omega
 · have h4:=Nat.mul_le_mul_left R h3
   rw[Nat.succ_eq_add_one,Nat.mul_add,Nat.mul_one]at h4
   omega
@[reducible] def lJ (t f n s:Nat):List Value:=[.int .u64 (t:Int),.int .i64 (f:Int),.int .i64 (n:Int),.int .i64 (s:Int)]
structure Lg (V:Nat→Blk) (n:Nat) (W:Wl) (s:Nat):Prop where
 size:64≤n
 sl:s < n - 2
 places:∀ k,k≤W.recs.length→W.places.getD k W.fin=(s+nbs (W.recs.take k)) % (n - 2)
 len:W.places.length=W.recs.length
 laid:∀ k (h:k < W.recs.length) j,j < Eb W.recs[k].length→V (2+(s+nbs (W.recs.take k)+j) % (n - 2))=rB (Dl W.recs[k]) j
 room:used W.recs+16≤n / 2
 told:W.told≤W.recs.length
 long:∀ r∈W.recs,r.length≤16384
 best:uF (uF (0,DR) (V 0)) (V 1)=(W.turn,lJ W.turn W.first (W.first+W.told) s)
 old:rd8 (V (W.turn % 2))=W.turn
theorem Lg.fin {V:Nat→Blk} {n:Nat} {W:Wl} {s:Nat} (h:Lg V n W s):W.fin=(s+nbs W.recs) % (n - 2):=by
 have h1:=h.places W.recs.length (Nat.le_refl _)
 rw[List.take_of_length_le (Nat.le_refl _),List.getD_eq_getElem?_getD,List.getElem?_eq_none (by rw[h.len];exact Nat.le_refl _)]at h1
 exact h1
def kY (R fin:Nat) (b:Blk) (k:Nat):List (Nat×Blk):=(List.range k).map fun j=>(2+(fin+j) % R,rB b j)
theorem aM (R fin:Nat) (b:Blk) (k:Nat):kY R fin b (k+1)=kY R fin b k++[(2+(fin+k) % R,rB b k)]:=by simp[kY,List.range_succ]
theorem N2 (E:Dk):E.hit.1.down=E.down:=by unfold Dk.hit;split <;>rfl
theorem cO {E:Dk} (h:E.armed=0):E.hit.1.armed=0∧E.hit.2=false:=by unfold Dk.hit;rw[if_pos (by omega)];exact⟨h,rfl⟩
theorem dF {D:Dk} {a:Nat} {b:Blk} (hd:D.down=false) (ha:a < D.kept.length) (hb:b.length=64):(D.write (a:Int) b).1.kept=D.kept∧(D.write (a:Int) b).1.wait=D.wait++[(a,b)]∧(((D.write (a:Int) b).2=0∧(D.write (a:Int) b).1.down=false∧(D.armed=0→(D.write (a:Int) b).1.armed=0))∨((D.write (a:Int) b).2=40∧0 < D.armed∧(D.write (a:Int) b).1.down=true)):=by
 unfold Dk.write
 rw[if_neg (by rw[hd];exact Bool.false_ne_true),if_neg (by omega),if_neg (by omega)]
 split
 · rename_i hh
   refine⟨DT _,cN _,.inr ⟨Y,?_,Y⟩⟩
   by_cases h0:D.armed=0
   · rw[(cO (E:=D.put (a:Int).toNat b) h0).2]at hh;cases hh
   · omega
 · exact⟨DT _,cN _,.inl ⟨Y,(N2 _).trans hd,fun h0=>(cO (E:=D.put (a:Int).toNat b) h0).1⟩⟩
theorem gZ {D:Dk} (R fin:Nat) (b:Blk) (hd:D.down=false) (hR:R+2=D.kept.length) (hR0:0 < R):∀ k,64*k≤b.length→Ro R fin b D k→(wN R fin b D k).kept=D.kept∧(wN R fin b D k).wait=D.wait++kY R fin b k∧(wN R fin b D k).down=false∧(D.armed=0→(wN R fin b D k).armed=0)
 | 0,_,_=>⟨rfl,by simp[wN,kY],hd,fun h=>h⟩
 | k+1,hb,hok=>by
  obtain⟨h1,h2,h3,h4⟩:=gZ R fin b hd hR hR0 k (by omega) (fun j hj=>hok j (by omega))
  have hlt:=Nat.mod_lt (fin+k) hR0
  have hw:=dF (D:=wN R fin b D k) (a:=2+(fin+k) % R) (b:=rB b k) h3 (by rw[h1];omega) (dB (by omega))
  have h0:=hok k (by omega)
  refine⟨hw.1.trans h1,?_,?_,?_⟩
  · refine hw.2.1.trans ?_
    rw[h2,aM,List.append_assoc]
  · rcases hw.2.2 with hw | hw
    · exact hw.2.1
    · omega
  · rcases hw.2.2 with hw | hw
    · exact fun ha=>hw.2.2 (h4 ha)
    · omega
theorem GQ {D D':Dk} {xs:List (Nat×Blk)} (hk:D'.kept=D.kept) (hw:D'.wait=D.wait++xs) (i:Nat):D'.show i=(flush (flush D.kept D.wait) xs).getD i []:=by
 unfold Dk.show
 rw[hk,hw,mA]
theorem mW {D D':Dk} {xs:List (Nat×Blk)} (hk:D'.kept=D.kept) (hw:D'.wait=D.wait++xs) {i:Nat} (h:∀ p∈xs,p.1≠i):D'.show i=D.show i:=by
 rw[GQ hk hw,List.getD_eq_getElem?_getD,nZ h]
 rfl
theorem dW {R fin:Nat} {b:Blk} {k q:Nat} (h:q < (kY R fin b k).length):(kY R fin b k)[q]=(2+(fin+q) % R,rB b q):=by simp[kY]
theorem iL (R fin:Nat) (b:Blk) (k:Nat):(kY R fin b k).length=k:=by simp[kY]
theorem L4 {D D':Dk} {R fin:Nat} {b:Blk} {k:Nat} (hk:D'.kept=D.kept) (hw:D'.wait=D.wait++kY R fin b k) (hR:R+2=D.kept.length) (hkR:k≤R) {j:Nat} (hj:j < k):D'.show (2+(fin+j) % R)=rB b j:=by
 have hjl:j < (kY R fin b k).length:=by rw[iL];exact hj
 rw[GQ hk hw,List.getD_eq_getElem?_getD,cU (q:=j) hjl (by rw[Cm];have:=Nat.mod_lt (fin+j) (show 0 < R by omega);omega) (by rw[dW hjl]) ?_,dW hjl]
 · rfl
 · intro p hp he
   obtain⟨i,hi⟩:=List.getElem?_of_mem hp
   rw[List.getElem?_drop]at hi
   have hil:j+1+i < (kY R fin b k).length:=(List.getElem?_eq_some_iff.1 hi).1
   rw[List.getElem?_eq_getElem hil,dW hil]at hi
   simp only[Option.some.injEq]at hi
   rw[← hi]at he
   rw[iL]at hil
   simp only at he
   have:=G7 (s:=fin) (R:=R) (x:=j+1+i) (y:=j) (by omega) (by omega) (by omega)
   omega
theorem rZ (W:Wl) (D:Dk) (b:Blk):(W.took D b).recs=W.recs++[b]:=rfl
theorem OL {l:List Nat} {x d e:Nat} {k:Nat}:(l++[x]).getD k d=if k < l.length then l.getD k e else if k=l.length then x else d:=by
 simp only[List.getD_eq_getElem?_getD]
 split
 · rename_i h;rw[List.getElem?_append_left h,List.getElem?_eq_getElem h];rfl
 · rename_i h
   split
   · rename_i h2;rw[List.getElem?_append_right (by omega),h2,Nat.sub_self];rfl
   · rename_i h2;rw[List.getElem?_eq_none (by simp;omega)];rfl
def pQ (n s a:Nat) (xs:List (Nat×Blk)):Prop:=∀ p∈xs,∃ y,a≤y∧y < n - 2∧p.1=2+(s+y) % (n - 2)
theorem jU {n s a fin:Nat} {b:Blk} {k:Nat} (hf:fin=(s+a) % (n - 2)) (hk:a+k≤n - 2):pQ n s a (kY (n - 2) fin b k):=by
 intro p hp
 obtain⟨j,hj,rfl⟩:=List.mem_map.1 hp
 have hj2:=List.mem_range.1 hj
 refine⟨a+j,by omega,by omega,?_⟩
 rw[hf,Nat.mod_add_mod,Nat.add_assoc]
theorem Lg.took {D D':Dk} {W:Wl} {b:Blk} {s:Nat} (h:Lg D.show D.kept.length W s) (hb:b.length≤16384) (hr:used W.recs+wgt b.length+16≤D.kept.length / 2) (hk:D'.kept=D.kept) (hw:D'.wait=D.wait++kY (D.kept.length - 2) W.fin (Dl b) (Eb b.length)):Lg D'.show D.kept.length (W.took D b) s:=by
 have hn:=BL W.recs
 have hbw:Eb b.length+1≤wgt b.length:=by unfold wgt Eb;omega
 have hsz:=h.size
 have hF:=jU (b:=Dl b) (k:=Eb b.length) h.fin (by omega)
 have hl:(W.took D b).recs.length=W.recs.length+1:=by simp[rZ]
 refine⟨h.size,h.sl,fun k hk2=>?_,?_,fun k hk2 j hj=>?_,?_,?_,?_,?_,?_⟩
 · show(W.places++[W.fin]).getD k ((W.fin+Eb b.length) % (D.kept.length - 2))=_
   rw[OL (e:=W.fin),rZ,h.len]
   split
   · rename_i h1;rw[List.take_append_of_le_length (by omega)];exact h.places k (by omega)
   · split
     · rename_i h1 h2;rw[h2,List.take_left' rfl];exact h.fin
     · rename_i h1 h2
       have h3:k=W.recs.length+1:=by omega
       rw[h3,List.take_of_length_le (by simp),pM,G6,h.fin,Nat.mod_add_mod,Nat.add_assoc]
 · show(W.places++[W.fin]).length=_
   rw[hl,List.length_append,h.len];rfl
 · by_cases h1:k < W.recs.length
   · have e:(W.took D b).recs[k]=W.recs[k]:=List.getElem_append_left h1
     have e2:(W.took D b).recs.take k=W.recs.take k:=by rw[rZ,List.take_append_of_le_length (by omega)]
     rw[e]at hj ⊢
     rw[e2,mW hk hw,h.laid k h1 j hj]
     intro p hp he
     obtain⟨y,hy1,hy2,hy3⟩:=hF p hp
     have h4:=VB h1
     have:=G7 (s:=s) (R:=D.kept.length - 2) (x:=y) (y:=nbs (W.recs.take k)+j) (by omega) (by omega) (by rw[← Nat.add_assoc];omega)
     omega
   · have h2:k=W.recs.length:=by omega
     subst h2
     have e:(W.took D b).recs[W.recs.length]=b:=by simp[rZ]
     have e2:(W.took D b).recs.take W.recs.length=W.recs:=by rw[rZ,List.take_left' rfl]
     rw[e]at hj ⊢
     rw[e2]
     have h3:=L4 (D:=D) (D':=D') (R:=D.kept.length - 2) hk hw (by omega) (by omega) hj
     rw[h.fin,Nat.mod_add_mod]at h3
     exact h3
 · rw[rZ,uJ,iF];omega
 · show W.told≤_
   have:=h.told
   omega
 · intro r hr2
   rcases List.mem_append.1 hr2 with h1 | h1
   · exact h.long r h1
   · rw[List.mem_singleton.1 h1];exact hb
 · show uF (uF (0,DR) (D'.show 0)) (D'.show 1)=(W.turn,lJ W.turn W.first (W.first+W.told) s)
   rw[mW hk hw (i:=0) (fun p hp he=>by obtain⟨y,_,_,h3⟩:=hF p hp;omega),mW hk hw (i:=1) (fun p hp he=>by obtain⟨y,_,_,h3⟩:=hF p hp;omega)]
   exact h.best
 · show rd8 (D'.show (W.turn % 2))=W.turn
   rw[mW hk hw (i:=W.turn % 2) (fun p hp he=>by obtain⟨y,_,_,h3⟩:=hF p hp;omega)]
   exact h.old
def AppL (D:Dk) (W:Wl) (s:Nat) (b:Blk) (x:Int) (D':Dk) (W':Wl):Prop:=
 (16384 < b.length∧x=22∧D'=D∧W'=W)∨(b.length≤16384∧D.kept.length / 2 < used W.recs+wgt b.length+16∧x=3∧D'=D∧W'=W)∨
 (b.length≤16384∧used W.recs+wgt b.length+16≤D.kept.length / 2∧D'.kept=D.kept∧(∃ xs,D'.wait=D.wait++xs∧xs.length≤300∧pQ D.kept.length s (nbs W.recs) xs)∧
  ((x=0∧Lg D'.show D.kept.length W' s∧D'.down=false∧(D.armed=0→D'.armed=0)∧W'=W.took D b)∨(x=40∧0 < D.armed∧D'.down=true∧W'={ W with dead:=true })))
theorem TA {D:Dk} {W:Wl} {b:Blk} {x:Int} {D':Dk} {W':Wl} {s:Nat} (h:Lg D.show D.kept.length W s) (hd:D.down=false) (Gx:W.dead=false) (hr:GF D W b x D' W'):AppL D W s b x D' W':=by
 have hdd:(W.dead || D.down)=false:=by rw[hd,Gx];rfl
 have hsz:=h.size
 have hn:=BL W.recs
 have hbw:Eb b.length+1≤wgt b.length:=by unfold wgt Eb;omega
 rcases hr with ⟨h1,h2,h3,h4⟩ | ⟨_,h2,_⟩ | ⟨h1,_,h2,h3,h4,h5⟩ | ⟨h1,_,h2,h3⟩
 · exact .inl ⟨h1,h2,h3,h4⟩
 · rw[hdd]at h2;cases h2
 · exact .inr (.inl ⟨h1,h2,h3,h4,h5⟩)
 · refine .inr (.inr ⟨h1,h2,?_⟩)
   have hnk:=fI h1
   have hfl:=iT b
   rcases h3 with ⟨hok,hx,hD,hW⟩ | ⟨hx,k,hk,hok,hne,hD,hW⟩
   · obtain⟨e1,e2,e3,e4⟩:=gZ (D.kept.length - 2) W.fin (Dl b) hd (by omega) (by omega) (Eb b.length) (by omega) hok
     rw[← hD]at e1 e2 e3 e4
     exact⟨e1,⟨_,e2,by rw[iL];exact hnk,jU h.fin (by omega)⟩,.inl ⟨hx,hW▸h.took h1 h2 e1 e2,e3,e4,hW⟩⟩
   · obtain⟨e1,e2,e3,e4⟩:=gZ (D.kept.length - 2) W.fin (Dl b) hd (by omega) (by omega) k (by omega) hok
     have hlt:=Nat.mod_lt (W.fin+k) (show 0 < D.kept.length - 2 by omega)
     have hw:=dF (D:=wN (D.kept.length - 2) W.fin (Dl b) D k) (a:=2+(W.fin+k) % (D.kept.length - 2)) (b:=rB (Dl b) k) e3 (by rw[e1];omega) (dB (by omega))
     have hE:D'=((wN (D.kept.length - 2) W.fin (Dl b) D k).write ((2+(W.fin+k) % (D.kept.length - 2):Nat):Int) (rB (Dl b) k)).1:=hD
     rw[← hE]at hw
     refine⟨hw.1.trans e1,⟨kY (D.kept.length - 2) W.fin (Dl b) (k+1),?_,by rw[iL];omega,jU h.fin (by omega)⟩,.inr ?_⟩
     · rw[hw.2.1,e2,aM,List.append_assoc]
     · rcases hw.2.2 with hw3 | hw3
       · exact absurd hw3.1 hne
       · refine⟨hx,?_,hw3.2.2,hW⟩
         by_cases h0:D.armed=0
         · have:=e4 h0;omega
         · omega
theorem VM {n:Nat} (h:n≤2^60):IntKind.i64.wrap (n:Int)=(n:Int):=IntWalk.i64_in _ (by omega)
theorem N3 (t f n s:Nat) (ht:t≤2^60) (hf:f≤2^60) (hn:n≤2^60) (hs:s≤2^60):rd8 (hdr t f n s)=t∧rd8 ((hdr t f n s).drop 56)=t∧nE (hdr t f n s)=lJ t f n s:=by
 have e0:hdr t f n s=Fj t++(Fj f++(Fj n++(Fj s++(List.replicate 24 0++Fj t)))):=by simp[hdr]
 have e1:(hdr t f n s).drop 8=Fj f++(Fj n++(Fj s++(List.replicate 24 0++Fj t))):=by rw[e0];exact List.drop_left' (uO t)
 have e2:(hdr t f n s).drop 16=Fj n++(Fj s++(List.replicate 24 0++Fj t)):=by rw[show 16=8+8 by rfl,← List.drop_drop,e1];exact List.drop_left' (uO f)
 have e3:(hdr t f n s).drop 24=Fj s++(List.replicate 24 0++Fj t):=by rw[show 24=16+8 by rfl,← List.drop_drop,e2];exact List.drop_left' (uO n)
 have e4:(hdr t f n s).drop 56=Fj t++[]:=by rw[show 56=24+8+24 by rfl,← List.drop_drop,← List.drop_drop,e3,List.drop_left' (uO s),List.drop_left' (by simp),List.append_nil]
 have r1:rd8 (hdr t f n s)=t:=by rw[e0];exact iK (by omega) _
 refine⟨r1,by rw[e4];exact iK (by omega) _,?_⟩
 unfold nE
 rw[r1,e1,e2,e3,iK (by omega),iK (by omega),iK (by omega),VM hf,VM hn,VM hs]
theorem bJ {p:Nat×List Value} {t f n s:Nat} (ht:t≤2^60) (hf:f≤2^60) (hn:n≤2^60) (hs:s≤2^60) (h:p.1 < t):uF p (hdr t f n s)=(t,lJ t f n s):=by
 obtain⟨h1,h2,h3⟩:=N3 t f n s ht hf hn hs
 unfold uF
 rw[h1,h2,h3,if_pos ⟨rfl,h⟩]
theorem fV {p:Nat×List Value} {b:Blk} (h:rd8 b≤p.1):uF p b=p:=by
 unfold uF
 rw[if_neg (by omega)]
theorem LA {p:Nat×List Value} {b:Blk} {t:Nat} (h:rd8 b < t) (hp:p.1 < t):(uF p b).1 < t:=by
 unfold uF
 split
 · exact h
 · exact hp
theorem LB {V V':Nat→Blk} {t f n s:Nat} (ho:rd8 (V (t % 2))=t) (h1:V' ((t+1) % 2)=hdr (t+1) f n s) (h2:V' (t % 2)=V (t % 2)) (ht:t+1≤2^60) (hf:f≤2^60) (hn:n≤2^60) (hs:s≤2^60):uF (uF (0,DR) (V' 0)) (V' 1)=(t+1,lJ (t+1) f n s)∧rd8 (V' ((t+1) % 2))=t+1:=by
 refine⟨?_,by rw[h1];exact(N3 _ _ _ _ ht hf hn hs).1⟩
 rcases Nat.mod_two_eq_zero_or_one t with hz | hz
 · rw[hz]at h2 ho
   rw[show(t+1) % 2=1 by omega]at h1
   rw[h1]
   refine bJ ht hf hn hs ?_
   rw[h2]
   exact LA (by omega) (by show 0 < t+1;omega)
 · rw[hz]at h2 ho
   rw[show(t+1) % 2=0 by omega]at h1
   rw[h1,bJ ht hf hn hs (by show 0 < t+1;omega),fV]
   rw[h2]
   show _≤t+1
   omega
theorem KZ (l:List Nat) (a k d:Nat):(l.drop a).getD k d=l.getD (a+k) d:=by simp[List.getD_eq_getElem?_getD]
theorem jE (rs:List Blk) (a k:Nat):nbs (rs.take a)+nbs ((rs.drop a).take k)=nbs (rs.take (a+k)):=by
 rw[← pM,List.take_add]
theorem Lg.tell {V V':Nat→Blk} {n:Nat} {W:Wl} {s gone:Nat} (h:Lg V n W s) (hg:gone≤W.recs.length) (ht:W.turn≤2^50) (hf:W.first≤2^50) (hn:n≤16384) (h1:V' ((W.turn+1) % 2)=W.head gone) (h2:∀ i,i≠(W.turn+1) % 2→V' i=V i):Lg V' n (W.tell gone) ((s+nbs (W.recs.take gone)) % (n - 2)):=by
 have hsz:=h.size
 have hst:W.start gone=(s+nbs (W.recs.take gone)) % (n - 2):=h.places gone hg
 have hlt:=Nat.mod_lt (s+nbs (W.recs.take gone)) (show 0 < n - 2 by omega)
 have hrl:W.recs.length≤16384:=by have:=BL W.recs;have:=h.room;omega
 have hud:=pA W.recs gone
 have hb:=LB (V:=V) (V':=V') (t:=W.turn) (f:=W.first+gone) (n:=W.first+W.recs.length) (s:=W.start gone) h.old h1 (h2 _ (by omega)) (by omega) (by omega) (by omega) (by omega)
 have hr:(W.tell gone).recs=W.recs.drop gone:=rfl
 refine⟨h.size,hlt,fun k hk=>?_,?_,fun k hk j hj=>?_,?_,Nat.le_refl _,fun r hr=>h.long r (List.mem_of_mem_drop hr),?_,hb.2⟩
 · have hk2:k≤W.recs.length - gone:=by rw[hr,List.length_drop]at hk;exact hk
   show(W.places.drop gone).getD k W.fin=_
   rw[KZ,h.places (gone+k) (by omega),Nat.mod_add_mod,hr,Nat.add_assoc,jE]
 · show(W.places.drop gone).length=(W.recs.drop gone).length
   rw[List.length_drop,List.length_drop,h.len]
 · have hk2:gone+k < W.recs.length:=by rw[hr,List.length_drop]at hk;omega
   have e:(W.tell gone).recs[k]=W.recs[gone+k]:=List.getElem_drop ..
   rw[e]at hj ⊢
   rw[Nat.add_assoc,Nat.mod_add_mod,h2 _ (by omega),hr,Nat.add_assoc,← Nat.add_assoc (nbs _),jE,← Nat.add_assoc]
   exact h.laid (gone+k) hk2 j hj
 · rw[hr]
   have:=h.room
   omega
 · show uF (uF (0,DR) (V' 0)) (V' 1)=(W.turn+1,lJ (W.turn+1) (W.first+gone) (W.first+gone+(W.recs.drop gone).length) _)
   rw[hb.1,hst,List.length_drop,show W.first+gone+(W.recs.length - gone)=W.first+W.recs.length by omega]
theorem GP {D:Dk} (hd:D.down=false) (ha:D.armed=0):D.sync.2=0∧D.sync.1.kept=flush D.kept D.wait∧D.sync.1.wait=[]∧D.sync.1.down=false∧D.sync.1.armed=0:=by
 rw[aF hd ha]
 exact⟨Y,Y,Y,Y,Y⟩
theorem Ip {D:Dk} (hd:D.down=false) (ha:D.armed=0) (i:Nat):D.sync.1.show i=D.show i:=by
 rw[aF hd ha]
 rfl
def ScL (D:Dk) (W:Wl) (gone:Nat) (x:Int) (D':Dk) (W':Wl):Prop:=
 x=0∧D'.down=false∧D'.armed=0∧D'.wait=[]∧D'.kept.length=D.kept.length∧W'.dead=false∧W'.recs=W.recs.drop gone∧W'.first=W.first+gone∧W'.told=W'.recs.length∧W'.turn≤W.turn+1∧∃ s',Lg D'.show D'.kept.length W' s'
theorem L5 {D:Dk} {W:Wl} {gone:Nat} {x:Int} {D':Dk} {W':Wl} {s:Nat} (h:Lg D.show D.kept.length W s) (hd:D.down=false) (ha:D.armed=0) (Gx:W.dead=false) (hg:gone≤W.recs.length) (ht:W.turn≤2^50) (hf:W.first≤2^50) (hn:D.kept.length≤16384) (hr:EW D W gone x D' W'):ScL D W gone x D' W':=by
 have hdd:(W.dead || D.down)=false:=by rw[hd,Gx];rfl
 have hsz:=h.size
 obtain⟨a1,a2,a3,a4,a5⟩:=GP hd ha
 have hlen:D.sync.1.kept.length=D.kept.length:=by rw[a2,Cm]
 have hsh:D.sync.1.show=D.show:=funext (Ip hd ha)
 have hw:=E4 (D:=D.sync.1) (a:=((W.turn+1) % 2:Nat)) (b:=W.head gone) a4 a5 (by omega) (by omega) (IB _ _ _ _)
 have hE:rU D.sync.1 W gone=(D.sync.1.put ((W.turn+1) % 2) (W.head gone),0):=hw
 obtain⟨b1,b2,b3,b4,b5⟩:=GP (D:=D.sync.1.put ((W.turn+1) % 2) (W.head gone)) a4 a5
 have bl2:(D.sync.1.put ((W.turn+1) % 2) (W.head gone)).sync.1.kept.length=D.kept.length:=by rw[b2,Cm];exact hlen
 rcases hr with ⟨h1,_⟩ | ⟨_,⟨hx,_,⟨hst,hD,hW⟩ | ⟨hst,⟨t1,t2,t3⟩,hW⟩⟩ | ⟨hx,⟨h1,_⟩ | ⟨_,hst,hb⟩,_⟩⟩
 · rw[hdd]at h1;cases h1
 · have hst2:¬(0 < gone∨W.told < W.recs.length):=of_decide_eq_false hst
   have htl:=h.told
   have hg0:gone=0:=by omega
   subst hg0 hW
   rw[hD]
   exact⟨hx,a4,a5,a3,hlen,Gx,by simp,Y,by omega,by omega,s,by rw[hsh,hlen];exact h⟩
 · rw[hE]at t3
   subst t3 hW
   refine⟨hx,b4,b5,b3,bl2,Gx,Y,Y,Y,Nat.le_refl _,(s+nbs (W.recs.take gone)) % (D.kept.length - 2),?_⟩
   rw[bl2]
   refine h.tell hg ht hf hn ?_ ?_
   · rw[Ip (D:=D.sync.1.put ((W.turn+1) % 2) (W.head gone)) a4 a5]
     exact MN (by rw[hlen];omega)
   · intro i hi
     rw[Ip (D:=D.sync.1.put ((W.turn+1) % 2) (W.head gone)) a4 a5,← hsh]
     refine mW (D:=D.sync.1) (D':=D.sync.1.put ((W.turn+1) % 2) (W.head gone)) (xs:=[((W.turn+1) % 2,W.head gone)]) Y Y ?_
     intro p hp he
     rw[List.mem_singleton.1 hp]at he
     exact hi he.symm
 · exact absurd a1 h1
 · rcases hb with ⟨h1,_⟩ | ⟨_,h1,_⟩
   · rw[hE]at h1;exact absurd rfl h1
   · rw[hE]at h1;exact absurd b1 h1
theorem lY (t f s:Nat) (D:Dk) (rs:List Blk) (hs:s < D.kept.length - 2):∀ k,k≤rs.length→((Wl.anew t f s).Aw D rs k).fin=(s+nbs (rs.take k)) % (D.kept.length - 2)
 | 0,_=>by
  show s=_
  rw[List.take_zero,show nbs []=0 from rfl,Nat.add_zero,Nat.mod_eq_of_lt hs]
 | k+1,h=>by
  show(((Wl.anew t f s).Aw D rs k).fin+Eb (rs.getD k []).length) % _=_
  rw[lY t f s D rs hs k (by omega),Nat.mod_add_mod,jD (by omega),Nat.add_assoc,List.getD_eq_getElem?_getD,List.getElem?_eq_getElem (by omega)]
  rfl
theorem nJ (t f s:Nat) (D:Dk) (rs:List Blk) (hs:s < D.kept.length - 2):∀ k,k≤rs.length→((Wl.anew t f s).Aw D rs k).places=(List.range k).map fun i=>(s+nbs (rs.take i)) % (D.kept.length - 2)
 | 0,_=>rfl
 | k+1,h=>by
  show((Wl.anew t f s).Aw D rs k).places++[((Wl.anew t f s).Aw D rs k).fin]=_
  rw[nJ t f s D rs hs k (by omega),lY t f s D rs hs k (by omega),List.range_succ,List.map_append]
  rfl
theorem M9 {D:Dk} {W:Wl} {s:Nat} (h:Lg D.show D.kept.length W s) (ht:W.told=W.recs.length):
 (qQ D 2).2=lJ W.turn W.first (W.first+W.recs.length) s∧WC D (Wl.anew W.turn W.first s) W.recs∧Lg D.show D.kept.length ((Wl.anew W.turn W.first s).found D W.recs) s∧((Wl.anew W.turn W.first s).found D W.recs).recs=W.recs∧((Wl.anew W.turn W.first s).found D W.recs).first=W.first∧((Wl.anew W.turn W.first s).found D W.recs).turn=W.turn∧((Wl.anew W.turn W.first s).found D W.recs).told=W.recs.length∧((Wl.anew W.turn W.first s).found D W.recs).dead=false:=by
 have hs:=h.sl
 have hb:qQ D 2=(W.turn,lJ W.turn W.first (W.first+W.told) s):=h.best
 have hsm:=jK (Wl.anew W.turn W.first s) D W.recs W.recs.length
 have hrc:((Wl.anew W.turn W.first s).Aw D W.recs W.recs.length).recs=W.recs:=by rw[jL _ _ _ _ (Nat.le_refl _),List.take_of_length_le (Nat.le_refl _)];rfl
 have hfr:((Wl.anew W.turn W.first s).found D W.recs).recs=W.recs:=hrc
 have hft:((Wl.anew W.turn W.first s).found D W.recs).told=W.recs.length:=congrArg List.length hrc
 refine⟨by rw[hb,ht],fun k hk j hj=>?_,⟨h.size,hs,fun k hk=>?_,?_,fun k hk j hj=>?_,?_,?_,?_,?_,?_⟩,hfr,hsm.2.2.1,hsm.2.1,hft,hsm.1⟩
 · rw[lY _ _ _ _ _ hs k (by omega),Nat.mod_add_mod]
   exact h.laid k hk j hj
 · rw[hfr]at hk ⊢
   show((Wl.anew W.turn W.first s).Aw D W.recs W.recs.length).places.getD k ((Wl.anew W.turn W.first s).Aw D W.recs W.recs.length).fin=_
   rw[nJ _ _ _ _ _ hs _ (Nat.le_refl _),lY _ _ _ _ _ hs _ (Nat.le_refl _),List.getD_eq_getElem?_getD]
   by_cases h1:k < W.recs.length
   · rw[List.getElem?_eq_getElem (by simpa using h1)];simp
   · rw[List.getElem?_eq_none (by simp;omega),show k=W.recs.length by omega];rfl
 · rw[hfr]
   show((Wl.anew W.turn W.first s).Aw D W.recs W.recs.length).places.length=_
   rw[nJ _ _ _ _ _ hs _ (Nat.le_refl _)];simp
 · have hk2:k < W.recs.length:=by rw[hfr]at hk;exact hk
   have e:((Wl.anew W.turn W.first s).found D W.recs).recs[k]=W.recs[k]:=by simp only[hfr]
   rw[e]at hj ⊢
   rw[hfr]
   exact h.laid k hk2 j hj
 · rw[hfr];exact h.room
 · rw[hft,hfr];exact Nat.le_refl _
 · rw[hfr];exact h.long
 · rw[hft]
   have e1:((Wl.anew W.turn W.first s).found D W.recs).turn=W.turn:=hsm.2.1
   have e2:((Wl.anew W.turn W.first s).found D W.recs).first=W.first:=hsm.2.2.1
   rw[e1,e2]
   have:=h.best
   rw[ht]at this
   exact this
 · have e1:((Wl.anew W.turn W.first s).found D W.recs).turn=W.turn:=hsm.2.1
   rw[e1];exact h.old
theorem dU :rd8 rX=0:=by decide
theorem Lg.empty {V:Nat→Blk} {n:Nat} (h:64≤n) (h0:V 0=rX) (h1:V 1=rX):Lg V n (Wl.anew 0 0 0) 0:=by
 refine⟨h,by omega,fun k hk=>?_,Y,fun k hk=>absurd hk (by simp),by show used []+16≤_;simp[used];omega,Nat.le_refl _,fun r hr=>(by cases hr),?_,by show rd8 (V 0)=0;rw[h0];exact dU⟩
 · have:k=0:=by simpa using hk
   subst this
   show 0=(0+nbs []) % _
   simp[nbs]
 · rw[h0,h1,fV (by rw[dU];exact Nat.le_refl _),fV (by rw[dU];exact Nat.le_refl _)]
   rfl
theorem pQ.app {n s a:Nat} {xs ys:List (Nat×Blk)} (h:pQ n s a xs) (h2:pQ n s a ys):pQ n s a (xs++ys):=fun p hp=>(List.mem_append.1 hp).elim (h p) (h2 p)
theorem pQ.less {n s a b:Nat} {xs:List (Nat×Blk)} (h:pQ n s b xs) (hab:a≤b):pQ n s a xs:=fun p hp=>by
 obtain⟨y,h1,h2,h3⟩:=h p hp
 exact⟨y,by omega,h2,h3⟩
structure jG (s:Nat) (D:Dk) (W:Wl) (rs:List Blk) (D1:Dk) (W1:Wl):Prop where
 kept:D1.kept=D.kept
 wait:∃ xs,D1.wait=D.wait++xs∧xs.length≤300*rs.length∧pQ D.kept.length s (nbs W.recs) xs
 recs:W1.recs=W.recs++rs
 first:W1.first=W.first
 turn:W1.turn=W.turn
 told:W1.told=W.told
 dead:W1.dead=false
 lg:Lg D1.show D.kept.length W1 s
 up:D1.down=false
 arm:D.armed=0→D1.armed=0
theorem jG.none {s:Nat} {D:Dk} {W:Wl} (h:Lg D.show D.kept.length W s) (hd:D.down=false) (Gx:W.dead=false):jG s D W [] D W:=
 ⟨rfl,⟨[],by simp,Nat.zero_le _,fun _ hp=>by cases hp⟩,by simp,rfl,rfl,rfl,Gx,h,hd,id⟩
theorem jG.app {s:Nat} {D D1 D2:Dk} {W W1 W2:Wl} {rs:List Blk} {b:Blk} {x:Int} (h:jG s D W rs D1 W1) (hr:GF D1 W1 b x D2 W2) (hb:b.length≤16384):
 (x=0∧used (W.recs++rs)+wgt b.length+16≤D.kept.length / 2∧jG s D W (rs++[b]) D2 W2)∨
 (x=3∧D.kept.length / 2 < used (W.recs++rs)+wgt b.length+16∧D2=D1∧W2=W1)∨
 (x=40∧0 < D.armed∧D2.down=true∧D2.kept=D.kept∧W2={ W1 with dead:=true }∧∃ xs,D2.wait=D.wait++xs∧xs.length≤300*(rs.length+1)∧pQ D.kept.length s (nbs W.recs) xs):=by
 have Me:Lg D1.show D1.kept.length W1 s:=by rw[h.kept];exact h.lg
 have hal:=TA Me h.up h.dead hr
 obtain⟨xs,w1,w2,w3⟩:=h.wait
 have hnb:nbs W.recs≤nbs W1.recs:=by rw[h.recs,pM];omega
 rcases hal with ⟨a1,_⟩ | ⟨_,a1,a2,a3,a4⟩ | ⟨_,a1,a2,⟨ys,a3,a4,a5⟩,a6⟩
 · omega
 · rw[h.kept,h.recs]at a1
   exact .inr (.inl ⟨a2,a1,a3,a4⟩)
 · rw[h.kept]at a1 a2 a5
   rw[h.recs]at a1
   have hw:D2.wait=D.wait++(xs++ys):=by rw[a3,w1,List.append_assoc]
   have hl:(xs++ys).length≤300*(rs.length+1):=by rw[List.length_append];omega
   have hf:=w3.app (a5.less hnb)
   rcases a6 with ⟨b1,b2,b3,b4,b5⟩ | ⟨b1,b2,b3,b4⟩
   · rw[h.kept]at b2
     refine .inl ⟨b1,a1,a2,⟨_,hw,by simpa using hl,hf⟩,?_,?_,?_,?_,?_,b2,b3,fun h0=>b4 (h.arm h0)⟩
     · rw[b5,rZ,h.recs,List.append_assoc]
     · rw[b5];exact h.first
     · rw[b5];exact h.turn
     · rw[b5];exact h.told
     · rw[b5];exact h.dead
   · refine .inr (.inr ⟨b1,?_,b3,a2,b4,_,hw,hl,hf⟩)
     rcases Nat.eq_zero_or_pos D.armed with h0 | h0
     · have:=h.arm h0;omega
     · exact h0
structure Bal where
 r:Int
 n:Int
structure Vt where
 slot:Int
 b:Bal
 val:Blk
structure En where
 slot:Int
 val:Blk
structure Rt where
 g:Int
 key:Blk
 Ai:Int
 net:Int
structure Mk where
 client:Int
 seq:Int
structure Sv where
 p:Bal
 Ae:List Vt
 index:Int
 image:Blk
 entries:List En
structure Bo where
 groups:List Sv
 rights:List Rt
 last:List Mk
structure Nt where
 kind:Int
 group:Int
 b:Bal
 Ag:Vt
 entry:En
 right:Rt
 client:Int
 seq:Int
def yC (s:Blk):Value:=.string ⟨s.toArray⟩
def Bs (w:World) (ok:Nat→Prop) (A:Option Addr) (b:Blk):Prop:=Rd w A b.length 1 (u8s b)∧(0 < b.length→∀ p,A=some p→ok p.block)∧b.length≤140737488351232
def Sl {X:Type} (R:List Value→X→Prop) (sz:Nat) (w:World) (ok:Nat→Prop) (A:Option Addr) (xs:List X):Prop:=
 ∃ ps,Pl sz ps∧Rd w A xs.length sz ps.flatten∧(0 < xs.length→∀ p,A=some p→ok p.block)∧wC R ps xs
def Et (w:World) (ok:Nat→Prop) (p:List Value) (x:Vt):Prop:=∃ A k,p=[.int .i64 x.slot,.int .i64 x.b.r,.int .i64 x.b.n,.slice A x.val.length k]∧Bs w ok A x.val
def Gs (w:World) (ok:Nat→Prop) (p:List Value) (x:En):Prop:=∃ A k,p=[.int .i64 x.slot,.slice A x.val.length k]∧Bs w ok A x.val
@[reducible] def Eu (x:Rt):List Value:=[.int .i64 x.g,yC x.key,.int .i64 x.Ai,.int .i64 x.net]
@[reducible] def Iq (x:Mk):List Value:=[.int .i64 x.client,.int .i64 x.seq,.bool false,.int .i64 0,.int .i64 0,.int .i64 0,.int .i64 0]
def Fb (p:List Value) (x:Rt):Prop:=p=Eu x
def Fp (p:List Value) (x:Mk):Prop:=p=Iq x
def Gz (w:World) (ok:Nat→Prop) (p:List Value) (s:Sv):Prop:=
 ∃ A1 k1 A2 k2 A3 k3,p=[.int .i64 s.p.r,.int .i64 s.p.n,.slice A1 s.Ae.length k1,.int .i64 s.index,.slice A2 s.image.length k2,.slice A3 s.entries.length k3]∧
  Sl (Et w ok) 4 w ok A1 s.Ae∧Bs w ok A2 s.image∧Sl (Gs w ok) 2 w ok A3 s.entries
def Hl (w:World) (ok:Nat→Prop) (p:List Value) (b:Bo):Prop:=
 ∃ A1 k1 A2 k2 A3 k3,p=[.slice A1 b.groups.length k1,.slice A2 b.rights.length k2,.slice A3 b.last.length k3]∧
  Sl (Gz w ok) 6 w ok A1 b.groups∧Sl Fb 4 w ok A2 b.rights∧Sl Fp 7 w ok A3 b.last
@[reducible] def ntC (n:Nt) (A1:Option Addr) (k1:Nat) (A2:Option Addr) (k2:Nat):List Value:=
 [.int .i64 n.kind,.int .i64 n.group,.int .i64 n.b.r,.int .i64 n.b.n,.int .i64 n.Ag.slot,.int .i64 n.Ag.b.r,.int .i64 n.Ag.b.n,.slice A1 n.Ag.val.length k1,.int .i64 n.entry.slot,.slice A2 n.entry.val.length k2,
  .int .i64 n.right.g,yC n.right.key,.int .i64 n.right.Ai,.int .i64 n.right.net,.int .i64 n.client,.int .i64 n.seq]
def NtR (w:World) (ok:Nat→Prop) (p:List Value) (n:Nt):Prop:=
 ∃ A1 k1 A2 k2,p=ntC n A1 k1 A2 k2∧Bs w ok A1 n.Ag.val∧Bs w ok A2 n.entry.val
section
variable {w w':World} {ok ok':Nat→Prop} {S:List Nat} {es:List Ent} {A:Option Addr} {p:List Value}
theorem Rd.zero {n sz:Nat} {xs:List Value} (h:Rd w A n sz xs) (h0:n=0):Rd w' A n sz xs:=by
 have hx:xs=[]:=List.eq_nil_of_length_eq_zero (by rw[h.len,h0,Nat.zero_mul])
 subst hx
 exact⟨h.len,fun _ _ j u hu=>by simp at hu,h.nil⟩
theorem Rd.blk {n sz:Nat} {xs:List Value} (h:Rd w A n sz xs) (hn:0 < n) (hz:0 < sz):∀ a,A=some a→a.block < w.heap.size:=by
 intro a ha
 have hl:0 < xs.length:=by rw[h.len];exact Nat.mul_pos hn hz
 have h1:=World.block_lt_of_cell? w _ (h.cells a ha 0 _ (List.getElem?_eq_getElem hl))
 rwa [Addr.add_zero']at h1
theorem Rd.move {n sz:Nat} {xs:List Value} (h:Rd w A n sz xs) (hz:0 < sz) (ha:0 < n→∀ p,A=some p→ok p.block) (H:Hp w w' S es) (hk:∀ x,ok x→x < w.heap.size→x∉S∧ok' x):Rd w' A n sz xs∧(0 < n→∀ p,A=some p→ok' p.block):=by
 rcases Nat.eq_zero_or_pos n with h0 | h0
 · exact⟨h.zero h0,fun h1=>by omega⟩
 · exact⟨h.to H fun a e=>(hk _ (ha h0 a e) (h.blk h0 hz a e)).1,fun _ a e=>(hk _ (ha h0 a e) (h.blk h0 hz a e)).2⟩
theorem Bs.to {b:Blk} (h:Bs w ok A b) (H:Hp w w' S es) (hk:∀ x,ok x→x < w.heap.size→x∉S∧ok' x):Bs w' ok' A b:=by
 obtain⟨h1,h2⟩:=h.1.move (by decide) h.2.1 H hk
 exact⟨h1,h2,h.2.2⟩
theorem Sl.to {X:Type} {R R':List Value→X→Prop} {sz:Nat} {xs:List X} (h:Sl R sz w ok A xs) (hz:0 < sz) (H:Hp w w' S es) (hk:∀ x,ok x→x < w.heap.size→x∉S∧ok' x) (hR:∀ p x,R p x→R' p x):Sl R' sz w' ok' A xs:=by
 obtain⟨ps,hp,hr,ha,h2⟩:=h
 obtain⟨h3,h4⟩:=hr.move hz ha H hk
 exact⟨ps,hp,h3,h4,h2.imp hR⟩
theorem Et.to {x:Vt} (h:Et w ok p x) (H:Hp w w' S es) (hk:∀ x,ok x→x < w.heap.size→x∉S∧ok' x):Et w' ok' p x:=by
 obtain⟨A,k,rfl,h⟩:=h
 exact⟨A,k,Y,h.to H hk⟩
theorem Gs.to {x:En} (h:Gs w ok p x) (H:Hp w w' S es) (hk:∀ x,ok x→x < w.heap.size→x∉S∧ok' x):Gs w' ok' p x:=by
 obtain⟨A,k,rfl,h⟩:=h
 exact⟨A,k,Y,h.to H hk⟩
theorem Sl.Gi {xs:List Vt} (h:Sl (Et w ok) 4 w ok A xs) (H:Hp w w' S es) (hk:∀ x,ok x→x < w.heap.size→x∉S∧ok' x):Sl (Et w' ok') 4 w' ok' A xs:=h.to (by decide) H hk fun _ _ h=>h.to H hk
theorem Sl.Hu {xs:List En} (h:Sl (Gs w ok) 2 w ok A xs) (H:Hp w w' S es) (hk:∀ x,ok x→x < w.heap.size→x∉S∧ok' x):Sl (Gs w' ok') 2 w' ok' A xs:=h.to (by decide) H hk fun _ _ h=>h.to H hk
theorem Gz.to {x:Sv} (h:Gz w ok p x) (H:Hp w w' S es) (hk:∀ x,ok x→x < w.heap.size→x∉S∧ok' x):Gz w' ok' p x:=by
 obtain⟨A1,k1,A2,k2,A3,k3,rfl,h1,h2,h3⟩:=h
 exact⟨A1,k1,A2,k2,A3,k3,Y,h1.Gi H hk,h2.to H hk,h3.Hu H hk⟩
theorem Sl.toS {xs:List Sv} (h:Sl (Gz w ok) 6 w ok A xs) (H:Hp w w' S es) (hk:∀ x,ok x→x < w.heap.size→x∉S∧ok' x):Sl (Gz w' ok') 6 w' ok' A xs:=h.to (by decide) H hk fun _ _ h=>h.to H hk
theorem Sl.toR {xs:List Rt} (h:Sl Fb 4 w ok A xs) (H:Hp w w' S es) (hk:∀ x,ok x→x < w.heap.size→x∉S∧ok' x):Sl Fb 4 w' ok' A xs:=h.to (by decide) H hk fun _ _ h=>h
theorem Sl.toM {xs:List Mk} (h:Sl Fp 7 w ok A xs) (H:Hp w w' S es) (hk:∀ x,ok x→x < w.heap.size→x∉S∧ok' x):Sl Fp 7 w' ok' A xs:=h.to (by decide) H hk fun _ _ h=>h
theorem Hl.to {x:Bo} (h:Hl w ok p x) (H:Hp w w' S es) (hk:∀ x,ok x→x < w.heap.size→x∉S∧ok' x):Hl w' ok' p x:=by
 obtain⟨A1,k1,A2,k2,A3,k3,rfl,h1,h2,h3⟩:=h
 exact⟨A1,k1,A2,k2,A3,k3,Y,h1.toS H hk,h2.toR H hk,h3.toM H hk⟩
theorem NtR.to {x:Nt} (h:NtR w ok p x) (H:Hp w w' S es) (hk:∀ x,ok x→x < w.heap.size→x∉S∧ok' x):NtR w' ok' p x:=by
 obtain⟨A1,k1,A2,k2,rfl,h1,h2⟩:=h
 exact⟨A1,k1,A2,k2,Y,h1.to H hk,h2.to H hk⟩
theorem Sl.toN {xs:List Nt} (h:Sl (NtR w ok) 16 w ok A xs) (H:Hp w w' S es) (hk:∀ x,ok x→x < w.heap.size→x∉S∧ok' x):Sl (NtR w' ok') 16 w' ok' A xs:=h.to (by decide) H hk fun _ _ h=>h.to H hk
theorem k0 :∀ x,ok x→x < w.heap.size→x∉([]:List Nat)∧ok x:=fun _ h _=>⟨by simp,h⟩
theorem kT :∀ x,ok x→x < w.heap.size→x∉([]:List Nat)∧(fun _=>True) x:=fun _ _ _=>⟨by simp,trivial⟩
theorem NtR.len {x:Nt} (h:NtR w ok p x):p.length=16:=by obtain⟨_,_,_,_,rfl,_⟩:=h;rfl
theorem Et.ones {x:Vt} (h:Et w ok p x):p.all (·.oneCell')=true:=by obtain⟨_,_,rfl,_⟩:=h;rfl
theorem Gs.ones {x:En} (h:Gs w ok p x):p.all (·.oneCell')=true:=by obtain⟨_,_,rfl,_⟩:=h;rfl
theorem Fb.ones {x:Rt} (h:Fb p x):p.all (·.oneCell')=true:=by rw[h];rfl
theorem Fp.ones {x:Mk} (h:Fp p x):p.all (·.oneCell')=true:=by rw[h];rfl
theorem Gz.ones {x:Sv} (h:Gz w ok p x):p.all (·.oneCell')=true:=by obtain⟨_,_,_,_,_,_,rfl,_⟩:=h;rfl
theorem NtR.ones {x:Nt} (h:NtR w ok p x):p.all (·.oneCell')=true:=by obtain⟨_,_,_,_,rfl,_⟩:=h;rfl
theorem wC.ones {X:Type} {R:List Value→X→Prop} (hR:∀ p x,R p x→p.all (·.oneCell')=true):∀ {ps:List (List Value)} {xs:List X},wC R ps xs→∀ p∈ps,p.all (·.oneCell')=true
 | [],[],_,p,hp=>by cases hp
 | q::ps,x::xs,h,p,hp=>by
  rcases List.mem_cons.1 hp with rfl | hp
  · exact hR _ _ h.1
  · exact wC.ones hR h.2 p hp
theorem Bs.none (w:World) (ok:Nat→Prop):Bs w ok none []:=⟨Rd.none_ w 1,(fun h=>by cases h),by decide⟩
theorem Sl.none {X:Type} (R:List Value→X→Prop) (sz:Nat) (w:World) (ok:Nat→Prop):Sl R sz w ok Option.none []:=⟨[],Pl.nil _,Rd.none_ w sz,(fun h=>by cases h),trivial⟩
end
@[reducible] def Bal.lt (a b:Bal):Prop:=a.r < b.r∨(a.r=b.r∧a.n < b.n)
def Sv.last (s:Sv):Int:=s.index+s.entries.length
def Sv.raise (s:Sv) (b:Bal):Sv:=if s.p.lt b then { s with p:=b } else s
def Ed (l:List Vt) (v:Vt):List Vt:=l.filter (fun x=>decide (x.slot < v.slot))++v::l.filter (fun x=>decide (v.slot < x.slot))
def vP (l:List Vt) (n:Int):List Vt:=l.filter fun x=>decide (n < x.slot)
def rF (l:List En) (n:Int):List En:=match l.filter fun x=>decide (n < x.slot)with
 | []=>[]
 | e::r=>if e.slot=n+1 then e::r else[]
def Sv.goes (s:Sv) (n:Nt):Sv:=
 if n.kind=1 then s.raise n.b
 else if n.kind=2 then(if n.Ag.slot≤s.last then s else({ s with Ae:=Ed s.Ae n.Ag }:Sv).raise n.Ag.b)
 else if n.kind=3 then(if n.entry.slot=s.last+1 then { s with entries:=s.entries++[n.entry],Ae:=vP s.Ae n.entry.slot } else s)
 else if n.entry.slot≤s.index then s else { s with index:=n.entry.slot,image:=n.entry.val,entries:=rF s.entries n.entry.slot,Ae:=vP s.Ae n.entry.slot }
def tH :Int→List En→Bool
 | _,[]=>true
 | n,e::l=>decide (e.slot=n+1∧e.slot≤1099511627776∧e.val.length≤2048) && tH (n+1) l
def uB (p:Bal) (first:Int):Int→List Vt→Bool
 | _,[]=>true
 | n,v::l=>decide (n≤v.slot∧v.slot < first+16∧1≤v.b.r∧1≤v.b.n∧¬p.lt v.b∧v.val.length≤2048) && uB p first (v.slot+1) l
def chk (s:Sv):Bool:=
 decide ((s.p.r=0∧s.p.n=0)∨(1≤s.p.r∧1≤s.p.n∧s.p.n≤5)) && decide (0≤s.index∧s.index≤1099511627776∧(s.index=0→s.image.length=0)∧s.image.length≤8192) && tH s.index s.entries &&
  decide (s.index+s.entries.length+1≤1099511627776) && uB s.p (s.index+s.entries.length+1) (s.index+s.entries.length+1) s.Ae
@[reducible] def nW (r:Rt):Prop:=1≤r.g∧r.g < 8∧1≤r.key.length∧r.key.length≤16∧1≤r.Ai
def Gp (a b:Rt):Bool:=decide (a.g < b.g) || (decide (a.g=b.g) && Op.bytesLess a.key b.key)
def Di (l:List Rt) (r:Rt):List Rt:=l.filter (fun x=>Gp x r)++r::l.filter (fun x=>Gp r x)
def uL (l:List Mk) (m:Mk):List Mk:=l.filter (fun x=>decide (x.client < m.client))++m::l.filter (fun x=>decide (m.client < x.client))
def Bg (l:List Mk) (c:Int):Option Mk:=l.find? fun x=>decide (x.client=c)
def uS (l:List Mk) (c q:Int):List Mk:=
 if c < 1∨8 < c∨q < 1∨4611686018427387904 < q then l
 else match Bg l c with
  | some m=>if q≤m.seq then l else uL l ⟨c,q⟩
  | none=>uL l ⟨c,q⟩
def Bo.into (b:Bo) (n:Nt):Option Bo:=
 if n.kind=5 then(if nW n.right then some { b with rights:=Di b.rights n.right,last:=uS b.last n.client n.seq } else none)
 else if n.kind < 1∨4 < n.kind∨n.group < 0∨8≤n.group then none
 else match b.groups[n.group.toNat]? with
  | some s=>if chk (s.goes n) then some { b with groups:=b.groups.set n.group.toNat (s.goes n) } else none
  | none=>none
def Sv.none :Sv:=⟨⟨0,0⟩,[],0,[],[]⟩
def Bo.empty :Bo:=⟨List.replicate 8 Sv.none,[],[]⟩
def vR :Bo→List Nt→Option Bo
 | b,[]=>some b
 | b,n::l=>match b.into n with
  | some b'=>vR b' l
  | none=>none
def qJ :List Rt→Prop
 | []=>True
 | r::l=>nW r∧(∀ x∈l,Gp r x=true)∧qJ l
def tV :Int→List Mk→Prop
 | _,[]=>True
 | c,m::l=>c < m.client∧m.client≤8∧1≤m.seq∧m.seq≤4611686018427387904∧tV m.client l
structure rJ (b:Bo) (N:Nat):Prop where
 eight:b.groups.length=8
 chk:∀ s∈b.groups,chk s=true
 rts:qJ b.rights
 Qb:tV 0 b.last
 few:b.rights.length≤N
section
variable {P:Program} {l:List Value} {w:World} {ty t t':TypeId} {x y:Operand}
theorem gV (s:Blk):(⟨s.toArray⟩:ByteArray).size=s.length:=by show s.toArray.size=_;simp
theorem F5 {a b:Blk} (hx:ev l x=some (yC a)) (hy:ev l y=some (yC b)):Ex P l (.binOp .lss t x y t') ty w (.value (.bool (decide (Op.bytesLess a b=true)))) w:=fun _ _ _ _=>by
 have hr:(binOp .lss t (yC a) (yC b)).run P w=.ok (.bool (decide (Op.bytesLess a b=true))) w:=by
  show(Op.stringOp .lss ⟨a.toArray⟩ ⟨b.toArray⟩).run P w=_
  simp[Op.stringOp]
 have hg:eqGuard .lss t x y (yC a) (yC b)=pure ():=rfl
 simp only[execOp,zV hx,zV hy,hg]
 simp[hr]
theorem oB {s:Blk} {ats:Array TypeId} (ht:(ats[0]?).bind P.underlying=some .string) (hx:ev l x=some (yC s)):
 Ex P l (.call { callee:=.builtin .len,args:=#[x],argTypes:=ats }) ty w (.value (.int .i64 (s.length:Int))) w:=by
 have h:=oR (P:=P) (l:=l) (w:=w) (ty:=ty) (x:=x) (s:=⟨s.toArray⟩) ht hx
 rwa [gV]at h
theorem bF {op:BinOp} {xs ys:List Value} {b:Bool} (hm:P.eqGuardType P.depth t=false) (he:∀ w,(Op.equalIn 10000 t (.agg xs.toArray) (.agg ys.toArray)).run P w=.ok b w) (hx:ev l x=some (.agg xs.toArray)) (hy:ev l y=some (.agg ys.toArray)) (ho:op=.eql∨op=.neq):
 Ex P l (.binOp op t x y t') ty w (.value (.bool (if op=.eql then b else !b))) w:=fun _ _ _ _=>by
 have hg:=run_eqGuard_agg (P:=P) w op t x y xs.toArray ys.toArray hm
 rcases ho with rfl | rfl
 · simp[execOp,zV hx,zV hy,hg,run_eql_struct,he]
 · simp[execOp,zV hx,zV hy,hg,run_neq_struct,he]
end
section
variable {l:List Value} {w:World} {ty t t':TypeId} {x y:Operand}
theorem PG (a b c d:Int) (w:World) (n:Nat):(Op.equalIn (n+2) 75 (.agg [.int .i64 a,.int .i64 b].toArray) (.agg [.int .i64 c,.int .i64 d].toArray)).run Tryz.prog w=.ok (decide (a=c∧b=d)) w:=by
 have u3:=Tryz.underlying3
 have a3:=Tryz.isAgg3
 have z3:=Tryz.sizeOf3
 have hS:Tryz.prog.underlying 75=some (.struct (Tryz.prog.fieldsOf 75)):=by kernel_rfl
 have hp:Tryz.prog.stoodInHeld 75=false:=by kernel_rfl
 rw[show(n+2:Nat)=(n+1)+1 from rfl,run_equalIn_agg w (n+1) 75 _ _ hS hp]
 simp only[Program.fieldsOf,Tryz.underlying75]
 go_simp
 by_cases h1:a=c <;>by_cases h2:b=d <;>simp[h1,h2]
theorem sB {a b c d:Int} (hx:ev l x=some (.agg [.int .i64 a,.int .i64 b].toArray)) (hy:ev l y=some (.agg [.int .i64 c,.int .i64 d].toArray)):Ex Tryz.prog l (.binOp .neq 75 x y t') ty w (.value (.bool (decide (¬(a=c∧b=d))))) w:=by
 have h:=bF (ty:=ty) (t':=t') (w:=w) (op:=.neq) (P:=Tryz.prog) (t:=75) (by kernel_rfl) (fun w=>PG a b c d w 9998) hx hy (.inr rfl)
 simp only[reduceCtorEq,if_false]at h
 rw[decide_not];exact h
theorem bD {a b c d:Int} (hx:ev l x=some (.agg [.int .i64 a,.int .i64 b].toArray)) (hy:ev l y=some (.agg [.int .i64 c,.int .i64 d].toArray)):Ex Tryz.prog l (.binOp .eql 75 x y t') ty w (.value (.bool (decide (a=c∧b=d)))) w:=by
 have h:=bF (ty:=ty) (t':=t') (w:=w) (op:=.eql) (P:=Tryz.prog) (t:=75) (by kernel_rfl) (fun w=>PG a b c d w 9998) hx hy (.inl rfl)
 simp only[if_true]at h
 exact h
theorem Zn (r:Rt) (w:World) (n:Nat):(Op.equalIn (n+2) 35 (.agg (Eu r).toArray) (.agg (Eu r).toArray)).run Tryz.prog w=.ok true w:=by
 have u3:=Tryz.underlying3
 have a3:=Tryz.isAgg3
 have z3:=Tryz.sizeOf3
 have u9:=Tryz.underlying9
 have a9:=Tryz.isAgg9
 have z9:=Tryz.sizeOf9
 have hS:Tryz.prog.underlying 35=some (.struct (Tryz.prog.fieldsOf 35)):=by kernel_rfl
 have hp:Tryz.prog.stoodInHeld 35=false:=by kernel_rfl
 rw[show(n+2:Nat)=(n+1)+1 from rfl,run_equalIn_agg w (n+1) 35 _ _ hS hp]
 simp only[Program.fieldsOf,Tryz.underlying35,Eu,yC]
 go_simp
theorem KV {r:Rt} (hx:ev l x=some (.agg (Eu r).toArray)) (hy:ev l y=some (.agg (Eu r).toArray)):Ex Tryz.prog l (.binOp .neq 35 x y t') ty w (.value (.bool false)) w:=by
 have h:=bF (ty:=ty) (t':=t') (w:=w) (op:=.neq) (P:=Tryz.prog) (t:=35) (by kernel_rfl) (fun w=>Zn r w 9998) hx hy (.inr rfl)
 simpa using h
theorem Zo (w:World) (n:Nat):(Op.equalIn (n+2) 108 (.agg [.int .i64 0,.int .i64 0,.int .i64 0,.int .i64 0].toArray) (.agg [.int .i64 0,.int .i64 0,.int .i64 0,.int .i64 0].toArray)).run Tryz.prog w=.ok true w:=by
 have u3:=Tryz.underlying3
 have a3:=Tryz.isAgg3
 have z3:=Tryz.sizeOf3
 have u9:=Tryz.underlying24
 have a9:=Tryz.isAgg24
 have z9:=Tryz.sizeOf24
 have hS:Tryz.prog.underlying 108=some (.struct (Tryz.prog.fieldsOf 108)):=by kernel_rfl
 have hp:Tryz.prog.stoodInHeld 108=false:=by kernel_rfl
 rw[show(n+2:Nat)=(n+1)+1 from rfl,run_equalIn_agg w (n+1) 108 _ _ hS hp]
 simp only[Program.fieldsOf,Tryz.underlying108]
 go_simp
theorem eq_mk (m:Mk) (w:World) (n:Nat):(Op.equalIn (n+3) 110 (.agg (Iq m).toArray) (.agg (Iq m).toArray)).run Tryz.prog w=.ok true w:=by
 have u3:=Tryz.underlying3
 have a3:=Tryz.isAgg3
 have z3:=Tryz.sizeOf3
 have u4:=Tryz.underlying4
 have a4:=Tryz.isAgg4
 have z4:=Tryz.sizeOf4
 have a5:=Tryz.isAgg108
 have z5:=Tryz.sizeOf108
 have e5:=fun w=>Zo w n
 have hS:Tryz.prog.underlying 110=some (.struct (Tryz.prog.fieldsOf 110)):=by kernel_rfl
 have hp:Tryz.prog.stoodInHeld 110=false:=by kernel_rfl
 rw[show(n+3:Nat)=(n+2)+1 from rfl,run_equalIn_agg w (n+2) 110 _ _ hS hp]
 simp only[Program.fieldsOf,Tryz.underlying110,Iq]
 simp only[List.toArray]at e5 ⊢
 go_simp
theorem KW {m:Mk} (hx:ev l x=some (.agg (Iq m).toArray)) (hy:ev l y=some (.agg (Iq m).toArray)):Ex Tryz.prog l (.binOp .neq 110 x y t') ty w (.value (.bool false)) w:=by
 have h:=bF (ty:=ty) (t':=t') (w:=w) (op:=.neq) (P:=Tryz.prog) (t:=110) (by kernel_rfl) (fun w=>eq_mk m w 9997) hx hy (.inr rfl)
 simpa using h
end
section
variable {P:Program} {l:List Value} {w:World} {ty t:TypeId} {x:Operand} {zs:List Value} {sz bytes:Nat} {agg:Bool}
theorem tO {e:TypeId} (ht:P.underlying t=some (.slice e)) (he:xT P e zs sz bytes agg) {a:Addr} {len c i:Nat} {lo:Int} {kl:IntKind} {xl:Operand} (hx:ev l x=some (.slice (some a) len c)) (hl:ev l xl=some (.int kl lo)) (hi:lo=(i:Int)) (h:i≤len) (hc:i < c):
 Ex P l (.slice t x (some xl) none none) ty w (.value (.slice (some (a.add (i*sz))) (len - i) (c - i))) w:=by
 subst hi
 have h1:=vA (ty:=ty) (w:=w) ht he hx hl ⟨by omega,by omega⟩
 have h2:wG (some a) (i:Int).toNat c sz=some (a.add (i*sz)):=by
  unfold wG
  rw[if_neg (by omega)]
  rfl
 rw[h2]at h1
 exact h1
theorem iY {e:TypeId} (ht:P.underlying t=some (.slice e)) (he:xT P e zs sz bytes agg) {A:Option Addr} {len c i:Nat} {hi:Int} {kh:IntKind} {xh:Operand} (hx:ev l x=some (.slice A len c)) (hh:ev l xh=some (.int kh hi)) (hi':hi=(i:Int)) (h:i≤c):
 Ex P l (.slice t x none (some xh) none) ty w (.value (.slice A i c)) w:=by
 subst hi'
 exact iZ ht he hx hh ⟨by omega,by omega⟩
end
def Rw (w0 w':World) (r:Value) (T sz n:Nat) (cs:List Value):Prop:=
 ∃ g cap sp,r=.slice (hd g) n cap∧n≤cap∧cap*sz≤(cs++sp).length∧(g=none→cap=0)∧Hp w0 w' [] [(g,T,cs++sp)]
theorem iO {a b:Nat} (h:a≤b):Nat.min a b=a:=Nat.min_eq_left h
theorem Rd.Uc {w:World} {A:Option Addr} {n sz i:Nat} {xs:List Value} (h:Rd w A n sz xs) (hi:i≤n) (hA:A=none→i=0):Rd w A i sz (xs.take (i*sz)):=by
 have hm:i*sz≤n*sz:=Nat.mul_le_mul_right _ hi
 refine⟨?_,fun a ha j u hu=>?_,hA⟩
 · rw[List.length_take,h.len];omega
 · rw[List.getElem?_take]at hu
   split at hu
   · exact h.cells a ha j u hu
   · cases hu
def Vx (P:Program) (k:FuncId) (gc:Nat) (pr:List Value→Bool) (ps:List (List Value)) (w0:World):Prop:=
 yB P k=true∧gc < w0.heap.size∧∀ w1,w1.heap[gc]? =w0.heap[gc]?→∀ p∈ps,zP P k #[.agg p.toArray,.pointer (some ⟨gc,0,none⟩)] w1 (fun r w'=>r=.bool (pr p)∧Hp w1 w' [] [])
structure Cmp (P:Program) (k:FuncId) (tv:Value) (cf:List Value→Int) (ps:List (List Value)):Prop where
 go:yB P k=true
 does:∀ w1,∀ p∈ps,zP P k #[.agg p.toArray,tv] w1 (fun r w'=>r=.int .i64 (cf p)∧Hp w1 w' [] [])
 mono:∀ (i j:Nat) (p q:List Value),i≤j→ps[i]? =some p→ps[j]? =some q→cf q < 0→cf p < 0
structure AP (ps:List (List Value)) (cf:List Value→Int) (i:Nat) (f:Bool):Prop where
 le:i≤ps.length
 lo:∀ (k:Nat) (p:List Value),k < i→ps[k]? =some p→cf p < 0
 hi:∀ (k:Nat) (p:List Value),i≤k→ps[k]? =some p→0≤cf p
 yes:f=true→∃ p,ps[i]? =some p∧cf p=0
 no:f=false→∀ p,ps[i]? =some p→cf p≠0
def WE (ps:List (List Value)) (pr:List Value→Bool) (y:Int):Prop:=
 (y=-1∧∀ p∈ps,pr p=false)∨∃ (j:Nat) (p:List Value),y=(j:Int)∧ps[j]? =some p∧pr p=true∧∀ q∈ps.take j,pr q=false
theorem yU {α:Type} {l:List α} {j:Nat} {p:α} (h:l[j]? =some p):l.take (j+1)=l.take j++[p]:=by
 obtain⟨hl,rfl⟩:=List.getElem?_eq_some_iff.1 h
 rw[List.take_succ_eq_append_getElem hl]
theorem yM {α:Type} {l:List α} {j:Nat} (h:j < l.length):∃ p,l[j]? =some p:=⟨_,List.getElem?_eq_getElem h⟩
theorem mem_of {α:Type} {l:List α} {j:Nat} {p:α} (h:l[j]? =some p):p∈l:=List.mem_of_getElem? h
theorem vT {ps:List (List Value)} {pr:List Value→Bool} (h:∀ p∈ps,pr p=false):ps.filter (fun p=>!pr p)=ps:=List.filter_eq_self.2 fun p hp=>by rw[h p hp];rfl
theorem oG {ps:List (List Value)} {pr:List Value→Bool} {j:Nat} {p:List Value} (h:∀ q∈ps.take j,pr q=false) (hp:ps[j]? =some p) (hf:pr p=false):∀ q∈ps.take (j+1),pr q=false:=by
 rw[yU hp]
 intro q hq
 rcases List.mem_append.1 hq with hq | hq
 · exact h q hq
 · rw[List.mem_singleton.1 hq];exact hf
structure Del (ps qs:List (List Value)) (pr:List Value→Bool) (i j sz:Nat):Prop where
 len:qs.length=ps.length
 pl:Pl sz qs
 lt:i < j
 le:j≤ps.length
 rest:qs.drop j=ps.drop j
 kept:qs.take i=(ps.take j).filter fun p=>!pr p
theorem Del.start {ps:List (List Value)} {pr:List Value→Bool} {j sz:Nat} {p:List Value} (hp:Pl sz ps) (hj:ps[j]? =some p) (ht:pr p=true) (hn:∀ q∈ps.take j,pr q=false):Del ps ps pr j (j+1) sz:=by
 refine⟨Y,hp,by omega,lt_of_get hj,Y,?_⟩
 rw[yU hj,List.filter_append,vT hn]
 simp[ht]
theorem Del.skip {ps qs:List (List Value)} {pr:List Value→Bool} {i j sz:Nat} {p:List Value} (h:Del ps qs pr i j sz) (hj:ps[j]? =some p) (ht:pr p=true):Del ps qs pr i (j+1) sz:=by
 have h1:=h.lt
 refine⟨h.len,h.pl,by omega,lt_of_get hj,?_,?_⟩
 · have:=congrArg (List.drop 1) h.rest
   simpa[List.drop_drop]using this
 · rw[yU hj,List.filter_append,h.kept]
   simp[ht]
theorem Del.keep {ps qs:List (List Value)} {pr:List Value→Bool} {i j sz:Nat} {p:List Value} (h:Del ps qs pr i j sz) (hj:ps[j]? =some p) (ht:pr p=false) (hl:p.length=sz):Del ps (qs.set i p) pr (i+1) (j+1) sz:=by
 have h1:=h.lt
 have h2:=lt_of_get hj
 have h3:=h.len
 refine⟨by rw[List.length_set];exact h.len,h.pl.Hy hl,by omega,h2,?_,?_⟩
 · rw[List.drop_set_of_lt (by omega)]
   have:=congrArg (List.drop 1) h.rest
   simpa[List.drop_drop]using this
 · rw[yU hj,List.filter_append,← h.kept]
   have h4:(qs.set i p)[i]? =some p:=by rw[List.getElem?_set_self (by omega)]
   rw[yU h4,List.take_set_of_le (Nat.le_refl i)]
   simp[ht]
theorem Del.at {ps qs:List (List Value)} {pr:List Value→Bool} {i j sz:Nat} (h:Del ps qs pr i j sz):qs[j]? =ps[j]?:=by
 have h1:=congrArg (fun l=>l[0]?) h.rest
 simpa using h1
theorem Del.done {ps qs:List (List Value)} {pr:List Value→Bool} {i sz:Nat} (h:Del ps qs pr i ps.length sz):qs.take i=(ps.filter fun p=>!pr p)∧(ps.filter fun p=>!pr p).length=i:=by
 have h1:=h.kept
 rw[List.take_length]at h1
 refine⟨h1,?_⟩
 have h2:=h.lt
 have h3:=h.len
 rw[← h1,List.length_take];omega
theorem Del.cells {ps qs:List (List Value)} {pr:List Value→Bool} {i sz n:Nat} {sp vs:List Value} (h:Del ps qs pr i ps.length sz) (_:n=0):zH (qs.flatten++sp) (n+i*sz) vs=(ps.filter fun p=>!pr p).flatten++(vs++(qs.flatten++sp).drop (n+i*sz+vs.length)):=by
 subst n
 have h1:=h.lt
 have h2:=h.len
 have h3:i*sz≤qs.flatten.length:=by rw[h.pl.len];exact Nat.mul_le_mul_right _ (by omega)
 unfold zH
 rw[Nat.zero_add,List.take_append_of_le_length h3,h.pl.Nb,h.done.1,List.append_assoc]
theorem vH {cs vs:List Value} {o:Nat} (h:o+vs.length≤cs.length):(zH cs o vs).length=cs.length:=by
 simp only[zH,List.length_append,List.length_take,List.length_drop];omega
theorem BT {cs vs zs sp:List Value} {i n sz:Nat} {ps:List (List Value)} (hp:Pl sz ps) (hn:ps.length=n) (hi:i≤n) (hv:vs.length=sz) (hz:zs.length=(n+1 - i)*sz) (hc:cs=((ps.flatten.take (i*sz))++zs)++sp):
 zH (zH cs (i*sz) vs) ((i+1)*sz) (ps.flatten.drop (i*sz))=(ps.take i++vs::ps.drop i).flatten++sp:=by
 have hl:(ps.flatten.take (i*sz)).length=i*sz:=by rw[List.length_take,hp.len,hn];exact Nat.min_eq_left (Nat.mul_le_mul_right _ hi)
 have hd:(ps.flatten.drop (i*sz)).length=(n - i)*sz:=by rw[List.length_drop,hp.len,hn,← Nat.sub_mul]
 have hz2:zs.length=sz+(n - i)*sz:=by rw[hz,show n+1 - i=(n - i)+1 by omega,Nat.add_mul];omega
 have hs:(i+1)*sz=i*sz+sz:=by rw[Nat.add_mul];omega
 subst hc
 obtain⟨a,ha⟩:∃ a,ps.flatten.take (i*sz)=a:=⟨_,rfl⟩
 obtain⟨b,hb⟩:∃ b,ps.flatten.drop (i*sz)=b:=⟨_,rfl⟩
 rw[List.flatten_append,List.flatten_cons,← hp.Nb,← hp.Ns,ha,hb]
 rw[ha]at hl
 rw[hb]at hd
 have e1:zH ((a++zs)++sp) (i*sz) vs=(a++vs)++(zs.drop sz++sp):=by
  unfold zH
  rw[List.append_assoc a,List.take_left' hl,hv,← List.drop_drop,List.drop_left' hl,List.drop_append_of_le_length (by omega)]
 have hl2:(a++vs).length=(i+1)*sz:=by rw[List.length_append,hl,hv,hs]
 have hl3:(zs.drop sz).length=b.length:=by rw[List.length_drop,hz2,hd];omega
 rw[e1]
 unfold zH
 rw[List.take_left' hl2,← List.drop_drop,List.drop_left' hl2,List.drop_left' hl3]
 simp
theorem FX {vs sp:List Value} {i n sz:Nat} {ps:List (List Value)} (hp:Pl sz ps) (hn:ps.length=n) (hi:i≤n) (hv:vs.length=sz) (hs:sz≤sp.length):
 zH (zH (ps.flatten++sp) ((i+1)*sz) (ps.flatten.drop (i*sz))) (i*sz) vs=(ps.take i++vs::ps.drop i).flatten++sp.drop sz:=by
 have hl:(ps.flatten.take (i*sz)).length=i*sz:=by rw[List.length_take,hp.len,hn];exact Nat.min_eq_left (Nat.mul_le_mul_right _ hi)
 have hd:(ps.flatten.drop (i*sz)).length=(n - i)*sz:=by rw[List.length_drop,hp.len,hn,← Nat.sub_mul]
 have hss:(i+1)*sz=i*sz+sz:=by rw[Nat.add_mul];omega
 have hall:ps.flatten.length=i*sz+(n - i)*sz:=by rw[hp.len,hn,← Nat.add_mul];congr 1;omega
 have e0:ps.flatten++sp=ps.flatten.take (i*sz)++(ps.flatten.drop (i*sz)++sp):=by rw[← List.append_assoc,List.take_append_drop]
 obtain⟨a,ha⟩:∃ a,ps.flatten.take (i*sz)=a:=⟨_,rfl⟩
 obtain⟨b,hb⟩:∃ b,ps.flatten.drop (i*sz)=b:=⟨_,rfl⟩
 rw[e0,List.flatten_append,List.flatten_cons,← hp.Nb,← hp.Ns,ha,hb]
 rw[ha]at hl
 rw[hb]at hd
 have e1:zH (a++(b++sp)) ((i+1)*sz) b=a++((b++sp).take sz++b)++sp.drop sz:=by
  unfold zH
  rw[hss,List.take_append,hl,List.take_of_length_le (by omega),Nat.add_sub_cancel_left,List.drop_append,hl,List.drop_of_length_le (by omega),show i*sz+sz+b.length - i*sz=b.length+sz by omega,← List.drop_drop,List.drop_left]
  simp
 rw[e1]
 have h5:((b++sp).take sz).length=sz:=by rw[List.length_take,List.length_append];omega
 unfold zH
 rw[List.append_assoc a,List.take_left' hl,hv,← List.drop_drop,List.drop_left' hl,List.append_assoc ((b++sp).take sz),List.drop_left' h5]
 simp
def sC (a b:Int):Int:=if a < b then -1 else if b < a then 1 else 0
theorem Eh {a b:Int}:sC a b < 0↔a < b:=by unfold sC;repeat' split;all_goals omega
theorem Ii {a b:Int}:0 < sC a b↔b < a:=by unfold sC;repeat' split;all_goals omega
theorem Lm {a b:Int}:sC a b=0↔a=b:=by unfold sC;repeat' split;all_goals omega
def eL {X:Type} (cf:X→Int) (xs:List X):Prop:=∀ (i j:Nat) (a b:X),i < j→xs[i]? =some a→xs[j]? =some b→0≤cf a→0 < cf b
theorem eL.tail {X:Type} {cf:X→Int} {x:X} {xs:List X} (h:eL cf (x::xs)):eL cf xs:=fun i j a b hij ha hb h0=>h (i+1) (j+1) a b (by omega) (by simpa using ha) (by simpa using hb) h0
theorem mF {X:Type} {f:X→Bool} {xs:List X} (h:∀ x∈xs,f x=true):xs.filter f=xs:=List.filter_eq_self.2 h
theorem pD {X:Type} {f:X→Bool} {xs:List X} (h:∀ x∈xs,f x=false):xs.filter f=[]:=List.filter_eq_nil_iff.2 fun x hx=>by rw[h x hx];simp
theorem eL.put {X:Type} {cf:X→Int} {v:X}:∀ {xs:List X} {i:Nat} {f:Bool},eL cf xs→i≤xs.length→(∀ (k:Nat) (a:X),k < i→xs[k]? =some a→cf a < 0)→(∀ (k:Nat) (a:X),i≤k→xs[k]? =some a→0≤cf a)→
 (f=true→∃ a,xs[i]? =some a∧cf a=0)→(f=false→∀ a,xs[i]? =some a→cf a≠0)→
 xs.filter (fun x=>decide (cf x < 0))++v::xs.filter (fun x=>decide (0 < cf x))=if f=true then xs.set i v else xs.take i++v::xs.drop i
 | [],i,f,_,hi,_,_,hy,_=>by
  obtain rfl:i=0:=by simpa using hi
  cases f with
  | true=>obtain⟨a,ha,_⟩:=hy rfl;simp at ha
  | false=>simp
 | x::xs,0,f,hr,_,_,hhi,hy,hno=>by
  have h0:0≤cf x:=hhi 0 x (Nat.le_refl _) rfl
  have hall:∀ a∈xs,0 < cf a:=fun a ha=>by
   obtain⟨k,hk⟩:=List.getElem?_of_mem ha
   exact hr 0 (k+1) x a (by omega) Y (by simpa using hk) h0
  have e1:xs.filter (fun x=>decide (cf x < 0))=[]:=pD fun a ha=>by have:=hall a ha;simp;omega
  have e2:xs.filter (fun x=>decide (0 < cf x))=xs:=mF fun a ha=>by simpa using hall a ha
  rw[List.filter_cons,List.filter_cons,e1,e2,if_neg (by simp;omega)]
  cases f with
  | true=>
   obtain⟨a,ha,hz⟩:=hy rfl
   simp only[List.getElem?_cons_zero,Option.some.injEq]at ha
   subst ha
   rw[if_neg (by simp;omega)]
   simp
  | false=>
   have:=hno rfl x rfl
   rw[if_pos (by simp;omega)]
   simp
 | x::xs,i+1,f,hr,hi,hlo,hhi,hy,hno=>by
  have h0:cf x < 0:=hlo 0 x (by omega) rfl
  have ih:=eL.put (v:=v) (i:=i) (f:=f) hr.tail (by simpa using hi) (fun k a hk ha=>hlo (k+1) a (by omega) (by simpa using ha)) (fun k a hk ha=>hhi (k+1) a (by omega) (by simpa using ha)) (fun h=>by simpa using hy h) (fun h a ha=>hno h a (by simpa using ha))
  rw[List.filter_cons,List.filter_cons,if_pos (by simpa using h0),if_neg (by simp;omega),List.cons_append,ih]
  cases f <;>simp
theorem AP.put {X:Type} {R:List Value→X→Prop} {cp:List Value→Int} {cf:X→Int} {ps:List (List Value)} {xs:List X} {i:Nat} {f:Bool} {v:X} (h:AP ps cp i f) (h2:wC R ps xs) (hc:∀ p x,R p x→cp p=cf x) (hr:eL cf xs):
 xs.filter (fun x=>decide (cf x < 0))++v::xs.filter (fun x=>decide (0 < cf x))=if f=true then xs.set i v else xs.take i++v::xs.drop i:=by
 refine hr.put (by rw[← h2.len];exact h.le) (fun k a hk ha=>?_) (fun k a hk ha=>?_) (fun hf=>?_) (fun hf a ha=>?_)
 · obtain⟨p,hp,hR⟩:=h2.get ha
   rw[← hc p a hR];exact h.lo k p hk hp
 · obtain⟨p,hp,hR⟩:=h2.get ha
   rw[← hc p a hR];exact h.hi k p hk hp
 · obtain⟨p,hp,h0⟩:=h.yes hf
   obtain⟨x,hx,hR⟩:=h2.getL hp
   exact⟨x,hx,by rw[← hc p x hR];exact h0⟩
 · obtain⟨p,hp,hR⟩:=h2.get ha
   rw[← hc p a hR];exact h.no hf p hp
theorem eL.mono {X:Type} {R:List Value→X→Prop} {cp:List Value→Int} {cf:X→Int} {ps:List (List Value)} {xs:List X} (hr:eL cf xs) (h2:wC R ps xs) (hc:∀ p x,R p x→cp p=cf x):∀ (i j:Nat) (p q:List Value),i≤j→ps[i]? =some p→ps[j]? =some q→cp q < 0→cp p < 0:=by
 intro i j p q hij hp hq h0
 rcases Nat.eq_or_lt_of_le hij with rfl | h
 · rw[hp]at hq;cases hq;exact h0
 · obtain⟨x,hx,hR⟩:=h2.getL hp
   obtain⟨y,hy,hR2⟩:=h2.getL hq
   rw[hc p x hR]
   rw[hc q y hR2]at h0
   rcases Int.lt_or_le (cf x) 0 with h3 | h3
   · exact h3
   · have:=hr i j x y h hx hy h3;omega
def UT (n:Int) (p:List Value):Int:=match p with
 | .int _ s::_=>sC s n
 | _=>0
theorem AW {w:World} {ok:Nat→Prop} {n:Int} {p:List Value} {x:Vt} (h:Et w ok p x):UT n p=sC x.slot n:=by obtain⟨_,_,rfl,_⟩:=h;rfl
theorem dI {p:Bal} {first:Int}:∀ {l:List Vt} {n:Int},uB p first n l=true→(∀ x∈l,n≤x.slot)∧∀ (i j:Nat) (a b:Vt),i < j→l[i]? =some a→l[j]? =some b→a.slot < b.slot
 | [],_,_=>⟨(fun _ h=>by cases h),fun i j a b _ h=>by simp at h⟩
 | v::l,n,h=>by
  simp only[uB,Bool.and_eq_true,decide_eq_true_eq]at h
  obtain⟨h1,h2⟩:=dI h.2
  refine⟨fun x hx=>?_,fun i j a b hij ha hb=>?_⟩
  · rcases List.mem_cons.1 hx with rfl | hx
    · exact h.1.1
    · have:=h1 x hx;omega
  · obtain⟨j,rfl⟩:∃ k,j=k+1:=⟨j - 1,by omega⟩
    simp only[List.getElem?_cons_succ]at hb
    cases i with
    | zero=>
     simp only[List.getElem?_cons_zero,Option.some.injEq]at ha
     subst ha
     have:=h1 b (List.mem_of_getElem? hb);omega
    | succ i=>
     simp only[List.getElem?_cons_succ]at ha
     exact h2 i j a b (by omega) ha hb
theorem RF {l:List Vt} (h:∀ (i j:Nat) (a b:Vt),i < j→l[i]? =some a→l[j]? =some b→a.slot < b.slot) (n:Int):eL (fun x:Vt=>sC x.slot n) l:=fun i j a b hij ha hb h0=>by
 have h1:=h i j a b hij ha hb
 have h0':0≤sC a.slot n:=h0
 have h2:¬a.slot < n:=fun hh=>by have:=Eh.2 hh;omega
 exact Ii.2 (by omega)
theorem C4 (l:List Vt) (v:Vt):Ed l v=l.filter (fun x=>decide (sC x.slot v.slot < 0))++v::l.filter (fun x=>decide (0 < sC x.slot v.slot)):=by
 unfold Ed
 congr 1
 · exact List.filter_congr fun x _=>by rw[decide_eq_decide];exact Eh.symm
 · congr 1
   exact List.filter_congr fun x _=>by rw[decide_eq_decide];exact Ii.symm
theorem GK {p:Bal} {first:Int}:∀ {l:List Vt} {n:Int},uB p first n l=true→n≤first+16→(l.length:Int)≤first+16 - n
 | [],n,_,h=>by simp;omega
 | v::l,n,h,hn=>by
  simp only[uB,Bool.and_eq_true,decide_eq_true_eq]at h
  have:=GK h.2 (by omega)
  rw[List.length_cons];omega
def NM (n:Int) (p:List Value):Int:=match p with
 | .int _ s::_=>sC s n
 | _=>0
theorem iQ {n:Int} {p:List Value} {x:Mk} (h:Fp p x):NM n p=sC x.client n:=by rw[h];rfl
theorem vV :∀ {l:List Mk} {n:Int},tV n l→(∀ x∈l,n < x.client∧x.client≤8∧1≤x.seq∧x.seq≤4611686018427387904)∧∀ (i j:Nat) (a b:Mk),i < j→l[i]? =some a→l[j]? =some b→a.client < b.client
 | [],_,_=>⟨(fun _ h=>by cases h),fun i j a b _ h=>by simp at h⟩
 | v::l,n,h=>by
  obtain⟨h1,h2⟩:=vV h.2.2.2.2
  refine⟨fun x hx=>?_,fun i j a b hij ha hb=>?_⟩
  · rcases List.mem_cons.1 hx with rfl | hx
    · exact⟨h.1,h.2.1,h.2.2.1,h.2.2.2.1⟩
    · have h3:=h1 x hx
      have h4:=h.1
      exact⟨by omega,h3.2⟩
  · obtain⟨j,rfl⟩:∃ k,j=k+1:=⟨j - 1,by omega⟩
    simp only[List.getElem?_cons_succ]at hb
    cases i with
    | zero=>
     simp only[List.getElem?_cons_zero,Option.some.injEq]at ha
     subst ha
     exact(h1 b (List.mem_of_getElem? hb)).1
    | succ i=>
     simp only[List.getElem?_cons_succ]at ha
     exact h2 i j a b (by omega) ha hb
theorem GW {l:List Mk} (h:∀ (i j:Nat) (a b:Mk),i < j→l[i]? =some a→l[j]? =some b→a.client < b.client) (n:Int):eL (fun x:Mk=>sC x.client n) l:=fun i j a b hij ha hb h0=>by
 have h1:=h i j a b hij ha hb
 have h0':0≤sC a.client n:=h0
 have h2:¬a.client < n:=fun hh=>by have:=Eh.2 hh;omega
 exact Ii.2 (by omega)
theorem MQ (l:List Mk) (v:Mk):uL l v=l.filter (fun x=>decide (sC x.client v.client < 0))++v::l.filter (fun x=>decide (0 < sC x.client v.client)):=by
 unfold uL
 congr 1
 · exact List.filter_congr fun x _=>by rw[decide_eq_decide];exact Eh.symm
 · congr 1
   exact List.filter_congr fun x _=>by rw[decide_eq_decide];exact Ii.symm
def nA (a b:Rt):Int:=if a.g≠b.g then(if a.g < b.g then -1 else 1) else Lib.compareBytes a.key b.key
theorem UK :∀ a b:Blk,Lib.compareBytes a b < 0↔Op.bytesLess a b=true
 | [],[]=>by simp[Lib.compareBytes,Op.bytesLess]
 | [],b::bs=>by simp[Lib.compareBytes,Op.bytesLess]
 | a::as',[]=>by simp[Lib.compareBytes,Op.bytesLess]
 | a::x,b::y=>by
  have ih:=UK x y
  unfold Lib.compareBytes Op.bytesLess
  by_cases h1:a < b
  · simp[h1]
  · by_cases h2:b < a
    · have h3:¬a=b:=fun h=>by subst h;exact absurd h2 h1
      simp[h1,h2,h3]
    · have h3:a=b:=UInt8.le_antisymm (UInt8.not_lt.1 h2) (UInt8.not_lt.1 h1)
      subst h3
      simp[ih]
theorem UL :∀ a b:Blk,0 < Lib.compareBytes a b↔Op.bytesLess b a=true
 | [],[]=>by simp[Lib.compareBytes,Op.bytesLess]
 | [],b::bs=>by simp[Lib.compareBytes,Op.bytesLess]
 | a::as',[]=>by simp[Lib.compareBytes,Op.bytesLess]
 | a::x,b::y=>by
  have ih:=UL x y
  unfold Lib.compareBytes Op.bytesLess
  by_cases h1:a < b
  · have h3:¬b < a:=fun h=>UInt8.lt_irrefl _ (UInt8.lt_trans h1 h)
    have h4:¬b=a:=fun h=>by subst h;exact UInt8.lt_irrefl _ h1
    simp[h1,h3,h4]
  · by_cases h2:b < a
    · simp[h1,h2]
    · have h3:a=b:=UInt8.le_antisymm (UInt8.not_lt.1 h2) (UInt8.not_lt.1 h1)
      subst h3
      simp[ih]
theorem ER :∀ {a b c:Blk},Op.bytesLess a b=true→Op.bytesLess b c=true→Op.bytesLess a c=true
 | _,[],_,h,_=>by unfold Op.bytesLess at h;cases h
 | _,_::_,[],_,h=>by unfold Op.bytesLess at h;cases h
 | [],_::_,_::_,_,_=>by unfold Op.bytesLess;rfl
 | a::x,b::y,c::z,h1,h2=>by
  unfold Op.bytesLess at h1 h2 ⊢
  simp only[Bool.or_eq_true,Bool.and_eq_true,decide_eq_true_eq,beq_iff_eq]at h1 h2 ⊢
  rcases h1 with h1 | ⟨rfl,h1⟩ <;>rcases h2 with h2 | ⟨rfl,h2⟩
  · exact .inl (UInt8.lt_trans h1 h2)
  · exact .inl h1
  · exact .inl h2
  · exact .inr ⟨Y,ER h1 h2⟩
theorem PW :∀ a:Blk,Op.bytesLess a a=false
 | []=>rfl
 | a::x=>by unfold Op.bytesLess;simp[PW x]
theorem RZ {a b:Rt}:nA a b < 0↔Gp a b=true:=by
 unfold nA Gp
 by_cases h:a.g=b.g
 · rw[if_neg (by simpa using h)]
   simp[h,UK]
 · rw[if_pos h]
   by_cases h2:a.g < b.g <;>simp[h,h2]
theorem R0 {a b:Rt}:0 < nA a b↔Gp b a=true:=by
 unfold nA Gp
 by_cases h:a.g=b.g
 · rw[if_neg (by simpa using h)]
   simp[h,UL]
 · rw[if_pos h]
   by_cases h2:a.g < b.g
   · simp[h2,Ne.symm h];omega
   · simp[h2,Ne.symm h];omega
theorem kK {a b c:Rt} (h1:Gp a b=true) (h2:Gp b c=true):Gp a c=true:=by
 unfold Gp at*
 simp only[Bool.or_eq_true,Bool.and_eq_true,decide_eq_true_eq]at*
 rcases h1 with h1 | ⟨h1,h3⟩ <;>rcases h2 with h2 | ⟨h2,h4⟩
 · exact .inl (by omega)
 · exact .inl (by omega)
 · exact .inl (by omega)
 · exact .inr ⟨by omega,ER h3 h4⟩
theorem BQ (a:Rt):Gp a a=false:=by unfold Gp;simp[PW]
theorem I0 :∀ a b:Blk,Lib.compareBytes a b=0→a=b
 | [],[],_=>rfl
 | [],b::bs,h=>by simp[Lib.compareBytes]at h
 | a::as',[],h=>by simp[Lib.compareBytes]at h
 | a::x,b::y,h=>by
  unfold Lib.compareBytes at h
  by_cases h1:a < b
  · simp[h1]at h
  · by_cases h2:b < a
    · simp[h1,h2]at h
    · have h3:a=b:=UInt8.le_antisymm (UInt8.not_lt.1 h2) (UInt8.not_lt.1 h1)
      subst h3
      rw[if_neg h1,if_neg h1]at h
      rw[I0 x y h]
theorem KG {a b:Rt} (h:nA a b=0):a.g=b.g∧a.key=b.key:=by
 unfold nA at h
 by_cases hg:a.g=b.g
 · rw[if_neg (by simpa using hg)]at h
   exact⟨hg,I0 _ _ h⟩
 · rw[if_pos hg]at h
   split at h <;>cases h
theorem sX :∀ {l:List Rt},qJ l→(∀ x∈l,nW x)∧∀ (i j:Nat) (a b:Rt),i < j→l[i]? =some a→l[j]? =some b→Gp a b=true
 | [],_=>⟨(fun _ h=>by cases h),fun i j a b _ h=>by simp at h⟩
 | v::l,h=>by
  obtain⟨h1,h2⟩:=sX h.2.2
  refine⟨fun x hx=>?_,fun i j a b hij ha hb=>?_⟩
  · rcases List.mem_cons.1 hx with rfl | hx
    · exact h.1
    · exact h1 x hx
  · obtain⟨j,rfl⟩:∃ k,j=k+1:=⟨j - 1,by omega⟩
    simp only[List.getElem?_cons_succ]at hb
    cases i with
    | zero=>
     simp only[List.getElem?_cons_zero,Option.some.injEq]at ha
     subst ha
     exact h.2.1 b (List.mem_of_getElem? hb)
    | succ i=>
     simp only[List.getElem?_cons_succ]at ha
     exact h2 i j a b (by omega) ha hb
theorem RY {a b r:Rt} (h:Gp a b=true) (h0:0≤nA a r):0 < nA b r:=by
 rcases Int.lt_or_eq_of_le h0 with h1 | h1
 · exact R0.2 (kK (R0.1 h1) h)
 · obtain⟨e1,e2⟩:=KG h1.symm
   refine R0.2 ?_
   unfold Gp at h ⊢
   rw[← e1,← e2];exact h
theorem BA {l:List Rt} (h:∀ (i j:Nat) (a b:Rt),i < j→l[i]? =some a→l[j]? =some b→Gp a b=true) (r:Rt):eL (fun x:Rt=>nA x r) l:=fun i j a b hij ha hb h0=>RY (h i j a b hij ha hb) h0
theorem C5 (l:List Rt) (v:Rt):Di l v=l.filter (fun x=>decide (nA x v < 0))++v::l.filter (fun x=>decide (0 < nA x v)):=by
 unfold Di
 congr 1
 · exact List.filter_congr fun x _=>by
    have:=RZ (a:=x) (b:=v)
    cases h:Gp x v <;>simp_all
 · congr 1
   exact List.filter_congr fun x _=>by
    have:=R0 (a:=x) (b:=v)
    cases h:Gp v x <;>simp_all
def up (ok:Nat→Prop) (n:Nat):Nat→Prop:=fun b=>ok b∨n≤b
@[reducible] def rz (p b:Bal):Bal:=if p.lt b then b else p
theorem oX (s:Sv) (b:Bal):s.raise b={ s with p:=rz s.p b }:=by
 unfold Sv.raise rz
 split <;>rfl
theorem gD {w:World} {g o:Nat} {cs:List Value} {T:TypeId} {v:Value} (h:w.heap[g]? =some (.cells cs.toArray T (0,0))) (hv:cs[o]? =some v):w.cell? ⟨g,o,none⟩=some v:=by
 simp[World.cell?,h,hv]
theorem nL {ps:List (List Value)} {sp vs:List Value} {i sz:Nat} (hp:Pl sz ps) (hi:i < ps.length) (hv:vs.length=sz):zH (ps.flatten++sp) (0+i*sz) vs=(ps.set i vs).flatten++sp:=by
 have:(i+1)*sz≤ps.length*sz:=Nat.mul_le_mul_right _ hi
 rw[Nat.add_mul,Nat.one_mul]at this
 rw[Nat.zero_add,nR (by rw[hp.len,hv];exact this),hp.Vb hi hv]
section
variable {w0 w w':World} {S:List Nat} {es:List Ent} {ok ok':Nat→Prop} {i:Nat} {g:Option Nat} {T:TypeId} {sp:List Value}
theorem Sl.row {X:Type} {R:List Value→X→Prop} {sz:Nat} {ps:List (List Value)} {xs:List X} (H:Hp w0 w S es) (he:es[i]? =some (g,T,ps.flatten++sp)) (hp:Pl sz ps) (hz:0 < sz) (h2:wC R ps xs) (ha:∀ b,g=some b→ok b):Sl R sz w ok (hd g) xs:=by
 have hl:=h2.len
 refine⟨ps,hp,?_,fun _ p hq=>?_,h2⟩
 · rw[← hl];exact H.rd he hp.len hz
 · cases g with
   | none=>cases hq
   | some b=>cases hq;exact ha b rfl
theorem Bs.row {b:Blk} (H:Hp w0 w S es) (he:es[i]? =some (g,T,u8s b++sp)) (hb:b.length≤140737488351232) (ha:∀ x,g=some x→ok x):Bs w ok (hd g) b:=by
 refine⟨H.rd he (yV b) (by decide),fun _ p hq=>?_,hb⟩
 cases g with
 | none=>cases hq
 | some x=>cases hq;exact ha x rfl
theorem wO (H:Hp w0 w S es) (he:es[i]? =some (g,T,sp)) (hS:∀ b∈S,g≠some b):∀ b,g=some b→up ok w0.heap.size b:=fun b hb=>by
 subst hb
 rcases H.place he with h | h
 · exact absurd Y (hS b h)
 · exact .inr h
theorem JM {n:Nat} (h:∀ x,ok x→x∉S):∀ x,ok x→x < n→x∉S∧up ok n x:=fun x hx _=>⟨h x hx,.inl hx⟩
theorem vC {n m:Nat}:∀ x,ok x→x < n→x∉([]:List Nat)∧up ok m x:=fun x hx _=>⟨by simp,.inl hx⟩
end
def Dw (n:Int) (p:List Value):Bool:=match p with
 | .int _ s::_=>decide (s≤n)
 | _=>false
theorem GN {w:World} {ok:Nat→Prop} {n:Int} {p:List Value} {x:Vt} (h:Et w ok p x):Dw n p=decide (x.slot≤n):=by obtain⟨_,_,rfl,_⟩:=h;rfl
theorem IX {w:World} {ok:Nat→Prop} {n:Int} {p:List Value} {x:En} (h:Gs w ok p x):Dw n p=decide (x.slot≤n):=by obtain⟨_,_,rfl,_⟩:=h;rfl
def Dq (n:Int) (p:List Value):Bool:=match p with
 | .int _ s::_=>decide (s=n)
 | _=>false
theorem R9 {n:Int} {p:List Value} {x:Mk} (h:Fp p x):Dq n p=decide (x.client=n):=by rw[h];rfl
def RC (r:Rt) (p:List Value):Int:=match p with
 | [.int _ g,.string s,_,_]=>nA ⟨g,s.data.toList,0,0⟩ r
 | _=>0
theorem eQ {r:Rt} {p:List Value} {x:Rt} (h:Fb p x):RC r p=nA x r:=by rw[h];simp[RC,Eu,yC,nA]
theorem LC (l:List Vt) (n:Int):(l.filter fun x=>!decide (x.slot≤n))=vP l n:=by
 unfold vP
 exact List.filter_congr fun x _=>by
  by_cases h:x.slot≤n
  · rw[decide_eq_true h,decide_eq_false (by omega)];rfl
  · rw[decide_eq_false h,decide_eq_true (by omega)];rfl
def oL (p:Bal) (first:Int) (l:List Vt):Bool:=decide (1≤first∧first≤1099511627776) && decide ((p.r=0∧p.n=0)∨(1≤p.r∧1≤p.n)) && uB p first first l
section
variable {p:Bal} {first m:Int} {l r:List Vt} {x:Vt} {i:Nat} {s:Sv}
theorem TU (h:¬(1≤first∧first≤1099511627776)):oL p first l=false:=by unfold oL;rw[decide_eq_false h];rfl
theorem TT (h:¬((p.r=0∧p.n=0)∨(1≤p.r∧1≤p.n))):oL p first l=false:=by unfold oL;rw[decide_eq_false h,Bool.and_false,Bool.false_and]
theorem nB (h1:1≤first∧first≤1099511627776) (h2:(p.r=0∧p.n=0)∨(1≤p.r∧1≤p.n)):oL p first l=uB p first first l:=by unfold oL;rw[decide_eq_true h1,decide_eq_true h2];rfl
theorem sJ {α:Type} {l:List α} {i:Nat} {x:α} (h:l[i]? =some x):l.drop i=x::l.drop (i+1):=by
 obtain⟨hl,rfl⟩:=List.getElem?_eq_some_iff.1 h
 exact List.drop_eq_getElem_cons hl
theorem sO (hx:l[i]? =some x) (h:¬(m≤x.slot∧x.slot < first+16∧1≤x.b.r∧1≤x.b.n∧¬p.lt x.b∧x.val.length≤2048)):uB p first m (l.drop i)=false:=by
 rw[sJ hx,uB,decide_eq_false h];rfl
theorem AU (hx:l[i]? =some x) (h:m≤x.slot∧x.slot < first+16∧1≤x.b.r∧1≤x.b.n∧¬p.lt x.b∧x.val.length≤2048):uB p first m (l.drop i)=uB p first (x.slot+1) (l.drop (i+1)):=by
 rw[sJ hx,uB,decide_eq_true h,Bool.true_and]
theorem eN :uB p first m (l.drop l.length)=true:=by rw[List.drop_length];rfl
theorem qN {l:List En} {x:En} (hx:l[i]? =some x) (h:¬(x.slot=m+1∧x.slot≤1099511627776∧x.val.length≤2048)):tH m (l.drop i)=false:=by
 rw[sJ hx,tH,decide_eq_false h];rfl
theorem B7 {l:List En} {x:En} (hx:l[i]? =some x) (h:x.slot=m+1∧x.slot≤1099511627776∧x.val.length≤2048):tH m (l.drop i)=tH (m+1) (l.drop (i+1)):=by
 rw[sJ hx,tH,decide_eq_true h,Bool.true_and]
theorem dA {l:List En}:tH m (l.drop l.length)=true:=by rw[List.drop_length];rfl
theorem pE :∀ {l:List En} {n:Int},tH n l=true→∀ (i:Nat) (x:En),l[i]? =some x→x.slot=n+1+i∧x.slot≤1099511627776∧x.val.length≤2048
 | [],_,_,i,x,h=>by simp at h
 | e::l,n,h,i,x,hx=>by
  simp only[tH,Bool.and_eq_true,decide_eq_true_eq]at h
  cases i with
  | zero=>
   simp only[List.getElem?_cons_zero,Option.some.injEq]at hx
   subst hx
   have:=h.1
   exact⟨by omega,this.2⟩
  | succ i=>
   simp only[List.getElem?_cons_succ]at hx
   have:=pE h.2 i x hx
   have:=h.1
   exact⟨by omega,by omega,by omega⟩
theorem PQ (h:¬((s.p.r=0∧s.p.n=0)∨(1≤s.p.r∧1≤s.p.n∧s.p.n≤5))):chk s=false:=by unfold chk;rw[decide_eq_false h];rfl
theorem lS (h:¬(0≤s.index∧s.index≤1099511627776∧(s.index=0→s.image.length=0)∧s.image.length≤8192)):chk s=false:=by unfold chk;rw[decide_eq_false h,Bool.and_false,Bool.false_and,Bool.false_and,Bool.false_and]
theorem qO (h:tH s.index s.entries=false):chk s=false:=by unfold chk;rw[h,Bool.and_false,Bool.false_and,Bool.false_and]
theorem CA (h1:(s.p.r=0∧s.p.n=0)∨(1≤s.p.r∧1≤s.p.n∧s.p.n≤5)) (h2:0≤s.index∧s.index≤1099511627776∧(s.index=0→s.image.length=0)∧s.image.length≤8192) (h3:tH s.index s.entries=true):chk s=oL s.p (s.index+s.entries.length+1) s.Ae:=by
 unfold chk oL
 rw[decide_eq_true h1,decide_eq_true h2,h3,decide_eq_true (p:=(s.p.r=0∧s.p.n=0)∨(1≤s.p.r∧1≤s.p.n)) (h1.imp id fun h=>⟨h.1,h.2.1⟩)]
 have e:decide (1≤s.index+(s.entries.length:Int)+1∧s.index+(s.entries.length:Int)+1≤1099511627776)=decide (s.index+(s.entries.length:Int)+1≤1099511627776):=by
  rw[decide_eq_decide];exact⟨fun h=>h.2,fun h=>⟨by have:=h2.1;omega,h⟩⟩
 rw[e]
 simp
end
structure bX (s:Sv):Prop where
 p:(s.p.r=0∧s.p.n=0)∨(1≤s.p.r∧1≤s.p.n∧s.p.n≤5)
 i:0≤s.index∧s.index≤1099511627776∧(s.index=0→s.image.length=0)∧s.image.length≤8192
 e:tH s.index s.entries=true
 n:s.index+s.entries.length+1≤1099511627776
 v:uB s.p (s.index+s.entries.length+1) (s.index+s.entries.length+1) s.Ae=true
theorem tP (s:Sv):chk s=true↔bX s:=by
 unfold chk
 simp only[Bool.and_eq_true,decide_eq_true_eq]
 exact⟨fun h=>⟨h.1.1.1.1,h.1.1.1.2,h.1.1.2,h.1.2,h.2⟩,fun h=>⟨⟨⟨⟨h.p,h.i⟩,h.e⟩,h.n⟩,h.v⟩⟩
def Ans (b:Bool) (e:Int):Prop:=(b=true→e=0)∧(b=false→e=21)
theorem Ans.ok {b:Bool} (h:b=true):Ans b 0:=⟨fun _=>rfl,(fun h2=>by rw[h]at h2;cases h2)⟩
theorem Ans.no {b:Bool} (h:b=false):Ans b 21:=⟨(fun h2=>by rw[h]at h2;cases h2),fun _=>rfl⟩
section
variable {P:Program} {l:List Value} {w:World} {ty t t2 e:TypeId} {x y:Operand} {zs cs:List Value} {sz bytes len:Nat} {agg:Bool} {v:Value}
theorem bV {p1 p2:Array TypeId} {b:Bool} (ht:P.underlying t=some (.func p1 p2 b)) {fn:Fn} {a c:Array Value} (d:Nat):(Op.equalIn (d+1) t (.func fn a c) .nilFunc).run P w=.ok false w:=by
 simp[Op.equalIn,run_underlying ht]
theorem oC {p1 p2:Array TypeId} {b:Bool} (ht:P.underlying t=some (.func p1 p2 b)) {fn:Fn} {a c:Array Value} (hx:ev l x=some (.func fn a c)):Ex P l (.binOp .eql t x (.const .nilFunc) t2) ty w (.value (.bool false)) w:=kU hx rfl rfl rfl (bV ht)
theorem B6 {p1 p2:Array TypeId} {b:Bool} (ht:P.underlying t=some (.func p1 p2 b)) (d:Nat):(Op.equalIn (d+1) t .nilFunc .nilFunc).run P w=.ok true w:=by
 simp[Op.equalIn,run_underlying ht]
theorem B5 {p1 p2:Array TypeId} {b:Bool} (ht:P.underlying t=some (.func p1 p2 b)) (hx:ev l x=some .nilFunc):Ex P l (.binOp .eql t x (.const .nilFunc) t2) ty w (.value (.bool true)) w:=kU hx rfl rfl rfl (B6 ht)
theorem KX (h:xT P t zs sz bytes agg) (ht:P.underlying t=some (.array len e)) {ez:List Value} {es eb:Nat} {ea:Bool} (he:xT P e ez es eb ea) {xs:List (Nat×Operand)} {vs:List (Nat×Value)} (hv:pH l xs=some vs) (hf:lM (fun i=>some (i*es,es)) zs vs=some cs):
 Ex P l (.build t xs.toArray) ty w (.value (.agg cs.toArray)) w:=fun _ _ _ _=>by
 have hvs:(xs.toArray.map fun(i,x)=>(i,rho l x)).toList=vs:=by simpa using pW hv
 have hf':=eZ (fun i=>some (i*es,es)) vs zs cs hf
 obtain⟨i,z,d,hi,hz,hzs,_,_,hd,_⟩:=h.ex
 obtain⟨i2,z2,d2,hi2,hz2,hzs2,hs2,_,hd2,_⟩:=he.ex
 have hzc:z.cells=zs.toArray:=by rw[← hzs]
 have hb:P.built t (xs.toArray.map fun(i,x)=>(i,rho l x)).toList=some cs.toArray:=by
  rw[hvs]
  unfold Program.built
  rw[hi,ht]
  simp[hz,hi2,hs2,hzc,hf']
 have hr:=run_build (P:=P) w t _ _ hb
 simp only[execOp,Sem.run_bind]
 rw[hr]
 rfl
theorem mG (ht:P.underlying t=some (.array len e)) (he:xT P e zs 1 bytes false) {vs:List Value} {k:IntKind} {n:Int} {i:Nat} (hx:ev l x=some (.agg vs.toArray)) (hy:ev l y=some (.int k n)) (hn:n=(i:Int)) (hi:i < len) (hv:vs[i]? =some v):
 Ex P l (.index t x y) ty w (.value v) w:=fun _ _ _ _=>by
 subst hn
 have h2:(0:Int)≤(i:Int)∧i < len:=⟨by omega,hi⟩
 simp[execOp,zV hx,zV hy,Instr.index,asIntOf,run_underlying ht,vF he,h2,part,gW he,hv]
end
theorem Hp.fresh {w0 w:World} {S:List Nat} {es:List Ent} (H:Hp w0 w S es):∀ x,w.heap.size≤x→x∉bl es:=fun x hx hb=>by have:=oE H hb;omega
theorem F4 {ps:List (List Value)} {l:List Mk} {c:Int} {i:Nat} {f:Bool} (h:AP ps (NM c) i f) (h2:wC Fp ps l) (hr:∀ (i j:Nat) (a b:Mk),i < j→l[i]? =some a→l[j]? =some b→a.client < b.client):
 (f=true→∃ m,l[i]? =some m∧Bg l c=some m)∧(f=false→Bg l c=none):=by
 have hlo:∀ (k:Nat) (m:Mk),k < i→l[k]? =some m→m.client < c:=fun k m hk hm=>by
  obtain⟨p,hp,hR⟩:=h2.get hm
  have:=h.lo k p hk hp
  rw[iQ hR]at this
  exact Eh.1 this
 refine⟨fun hf=>?_,fun hf=>?_⟩
 · obtain⟨p,hp,h0⟩:=h.yes hf
   obtain⟨m,hm,hR⟩:=h2.getL hp
   rw[iQ hR]at h0
   have hc:=Lm.1 h0
   refine⟨m,hm,?_⟩
   unfold Bg
   rw[List.find?_eq_some_iff_getElem]
   obtain⟨hl,he⟩:=List.getElem?_eq_some_iff.1 hm
   refine⟨by simpa using hc,i,hl,he,fun j hj=>?_⟩
   have:=hlo j _ hj (List.getElem?_eq_getElem (by omega))
   simp;omega
 · unfold Bg
   rw[List.find?_eq_none]
   intro m hm
   obtain⟨k,hk⟩:=List.getElem?_of_mem hm
   obtain⟨p,hp,hR⟩:=h2.get hk
   rcases Nat.lt_trichotomy k i with hki | hki | hki
   · have:=hlo k m hki hk
     simp;omega
   · subst hki
     have:=h.no hf p hp
     rw[iQ hR]at this
     simp
     exact fun hh=>this (Lm.2 hh)
   · have h3:=h.hi i
     have hil:i < l.length:=by have:=lt_of_get hk;omega
     obtain⟨mi,hmi⟩:=yM hil
     obtain⟨pi,hpi,hRi⟩:=h2.get hmi
     have h4:=h3 pi (Nat.le_refl _) hpi
     rw[iQ hRi]at h4
     have h5:¬mi.client < c:=fun hh=>by have:=Eh.2 hh;omega
     have h6:=hr i k mi m hki hmi hk
     simp;omega
theorem kE {l:List Mk} {v:Mk} {i:Nat} (hr:∀ (i j:Nat) (a b:Mk),i < j→l[i]? =some a→l[j]? =some b→a.client < b.client)
 (hi:i≤(l.filter fun x=>!decide (x.client=v.client)).length) (hlo:∀ (k:Nat) (m:Mk),k < i→(l.filter fun x=>!decide (x.client=v.client))[k]? =some m→m.client < v.client)
 (hhi:i=(l.filter fun x=>!decide (x.client=v.client)).length∨∃ m,(l.filter fun x=>!decide (x.client=v.client))[i]? =some m∧¬m.client < v.client):
 (l.filter fun x=>!decide (x.client=v.client)).take i++v::(l.filter fun x=>!decide (x.client=v.client)).drop i=uL l v:=by
 have hp:(l.filter fun x=>!decide (x.client=v.client)).Pairwise fun a b=>a.client < b.client:=by
  refine List.Pairwise.filter _ ?_
  rw[List.pairwise_iff_getElem]
  exact fun i j hi hj hij=>hr i j _ _ hij (List.getElem?_eq_getElem hi) (List.getElem?_eq_getElem hj)
 have hr2:∀ (i j:Nat) (a b:Mk),i < j→(l.filter fun x=>!decide (x.client=v.client))[i]? =some a→(l.filter fun x=>!decide (x.client=v.client))[j]? =some b→a.client < b.client:=fun i j a b hij ha hb=>by
  obtain⟨h1,rfl⟩:=List.getElem?_eq_some_iff.1 ha
  obtain⟨h2,rfl⟩:=List.getElem?_eq_some_iff.1 hb
  exact List.pairwise_iff_getElem.1 hp i j h1 h2 hij
 have hne:∀ x∈(l.filter fun x=>!decide (x.client=v.client)),x.client≠v.client:=fun x hx=>by simpa using(List.mem_filter.1 hx).2
 have key:=(GW hr2 v.client).put (v:=v) (i:=i) (f:=false) hi (fun k a hk ha=>Eh.2 (hlo k a hk ha)) (fun k a hk ha=>by
  rcases hhi with h | ⟨m,hm,h⟩
  · have:=lt_of_get ha;omega
  · rcases Nat.eq_or_lt_of_le hk with rfl | h2
    · rw[hm]at ha
      simp only[Option.some.injEq]at ha
      subst ha
      have h3:¬sC m.client v.client < 0:=fun hh=>h (Eh.1 hh)
      show 0≤sC m.client v.client
      omega
    · have h3:=hr2 i k m a h2 hm ha
      have h4:¬sC a.client v.client < 0:=fun hh=>by have:=Eh.1 hh;omega
      show 0≤sC a.client v.client
      omega) (fun h=>by cases h) (fun _ a ha h0=>hne a (List.mem_of_getElem? ha) (Lm.1 h0))
 rw[if_neg (by decide)]at key
 rw[← key,MQ]
 congr 1
 · rw[List.filter_filter]
   exact List.filter_congr fun x _=>by
    by_cases h:sC x.client v.client < 0
    · have:=Eh.1 h
      simp[h];omega
    · simp[h]
 · congr 1
   rw[List.filter_filter]
   exact List.filter_congr fun x _=>by
    by_cases h:0 < sC x.client v.client
    · have:=Ii.1 h
      simp[h];omega
    · simp[h]
theorem DL {p:List Value} {x:Mk} {c:Int} (h:Fp p x):(!Dq c p)=!decide (x.client=c):=by rw[R9 h]
theorem pG {l:List Mk} {c q:Int} (h:c < 1∨8 < c∨q < 1∨4611686018427387904 < q):uS l c q=l:=by unfold uS;rw[if_pos h]
theorem kC {l:List Mk} {c q:Int} {m:Mk} (hf:Bg l c=some m) (h:q≤m.seq):uS l c q=l:=by
 unfold uS
 split
 · rfl
 · rw[hf];simp[h]
theorem nM {l:List Mk} {c q:Int} {m:Mk} (h0:¬(c < 1∨8 < c∨q < 1∨4611686018427387904 < q)) (hf:Bg l c=some m) (h:¬q≤m.seq):uS l c q=uL l ⟨c,q⟩:=by
 unfold uS
 rw[if_neg h0,hf];simp[h]
theorem kB {l:List Mk} {c q:Int} (h0:¬(c < 1∨8 < c∨q < 1∨4611686018427387904 < q)) (hf:Bg l c=none):uS l c q=uL l ⟨c,q⟩:=by
 unfold uS
 rw[if_neg h0,hf]
theorem DK :∀ {l:List Mk} {n:Int},(∀ x∈l,n < x.client∧x.client≤8∧1≤x.seq∧x.seq≤4611686018427387904)→l.Pairwise (fun a b=>a.client < b.client)→tV n l
 | [],_,_,_=>trivial
 | m::l,n,h,hp=>by
  obtain⟨h1,h2⟩:=List.pairwise_cons.1 hp
  obtain⟨a,b,c,d⟩:=h m (by simp)
  exact⟨a,b,c,d,DK (fun x hx=>⟨h1 x hx,(h x (List.mem_cons_of_mem _ hx)).2⟩) h2⟩
theorem NJ {l:List Mk} {n:Int} (h:tV n l):l.Pairwise (fun a b=>a.client < b.client):=by
 rw[List.pairwise_iff_getElem]
 exact fun i j hi hj hij=>(vV h).2 i j _ _ hij (List.getElem?_eq_getElem hi) (List.getElem?_eq_getElem hj)
theorem DC {X:Type} {R:X→X→Prop} {l:List X} {v:X} {f g:X→Bool} (hp:l.Pairwise R) (hf:∀ x∈l,f x=true→R x v) (hg:∀ x∈l,g x=true→R v x) (hfg:∀ a∈l,∀ b∈l,f a=true→g b=true→R a b):(l.filter f++v::l.filter g).Pairwise R:=by
 rw[List.pairwise_append,List.pairwise_cons]
 refine⟨hp.filter f,⟨fun a ha=>hg a (List.mem_filter.1 ha).1 (List.mem_filter.1 ha).2,hp.filter g⟩,fun a ha b hb=>?_⟩
 rcases List.mem_cons.1 hb with rfl | hb
 · exact hf a (List.mem_filter.1 ha).1 (List.mem_filter.1 ha).2
 · exact hfg a (List.mem_filter.1 ha).1 b (List.mem_filter.1 hb).1 (List.mem_filter.1 ha).2 (List.mem_filter.1 hb).2
theorem BO {l:List Mk} {m:Mk} (h:tV 0 l) (h1:1≤m.client∧m.client≤8) (h2:1≤m.seq∧m.seq≤4611686018427387904):tV 0 (uL l m):=by
 have ha:=(vV h).1
 refine DK (fun x hx=>?_) ?_
 · unfold uL at hx
   rcases List.mem_append.1 hx with hx | hx
   · exact ha x (List.mem_filter.1 hx).1
   · rcases List.mem_cons.1 hx with rfl | hx
     · exact⟨by omega,h1.2,h2⟩
     · exact ha x (List.mem_filter.1 hx).1
 · refine DC (NJ h) (fun x _ hx=>by simpa using hx) (fun x _ hx=>by simpa using hx) (fun a _ b _ h1 h2=>?_)
   simp only[decide_eq_true_eq]at h1 h2
   omega
theorem L3 {l:List Mk} {c q:Int} (h:tV 0 l):tV 0 (uS l c q):=by
 unfold uS
 split
 · exact h
 · rename_i hc
   split
   · split
     · exact h
     · exact BO h ⟨by show 1≤c;omega,by show c≤8;omega⟩ ⟨by show 1≤q;omega,by show q≤_;omega⟩
   · exact BO h ⟨by show 1≤c;omega,by show c≤8;omega⟩ ⟨by show 1≤q;omega,by show q≤_;omega⟩
theorem dQ :∀ {l:List Rt},(∀ x∈l,nW x)→l.Pairwise (fun a b=>Gp a b=true)→qJ l
 | [],_,_=>trivial
 | m::l,h,hp=>by
  obtain⟨h1,h2⟩:=List.pairwise_cons.1 hp
  exact⟨h m (by simp),h1,dQ (fun x hx=>h x (List.mem_cons_of_mem _ hx)) h2⟩
theorem dP {l:List Rt} (h:qJ l):l.Pairwise (fun a b=>Gp a b=true):=by
 rw[List.pairwise_iff_getElem]
 exact fun i j hi hj hij=>(sX h).2 i j _ _ hij (List.getElem?_eq_getElem hi) (List.getElem?_eq_getElem hj)
theorem RA {l:List Rt} {r:Rt} (h:qJ l) (hr:nW r):qJ (Di l r):=by
 have ha:=(sX h).1
 refine dQ (fun x hx=>?_) ?_
 · unfold Di at hx
   rcases List.mem_append.1 hx with hx | hx
   · exact ha x (List.mem_filter.1 hx).1
   · rcases List.mem_cons.1 hx with rfl | hx
     · exact hr
     · exact ha x (List.mem_filter.1 hx).1
 · exact DC (dP h) (fun x _ hx=>hx) (fun x _ hx=>hx) (fun a _ b _ h1 h2=>kK h1 h2)
theorem aN (l:List Rt) (r:Rt):(Di l r).length≤l.length+1:=by
 have key:∀ l:List Rt,(l.filter fun x=>Gp x r).length+(l.filter fun x=>Gp r x).length≤l.length:=by
  intro l
  induction l with
  | nil=>simp
  | cons a l ih=>
   rw[List.filter_cons,List.filter_cons]
   have:¬(Gp a r=true∧Gp r a=true):=fun h=>by
    have h2:=kK h.1 h.2
    rw[BQ]at h2;cases h2
   by_cases h1:Gp a r=true <;>by_cases h2:Gp r a=true <;>simp[h1,h2] <;>first | omega | exact absurd ⟨h1,h2⟩ this
 unfold Di
 rw[List.length_append,List.length_cons]
 have:=key l
 omega
theorem rJ.into {b b':Bo} {N:Nat} {n:Nt} (h:rJ b N) (hi:b.into n=some b'):rJ b' (N+1):=by
 unfold Bo.into at hi
 split at hi
 · split at hi
   · rename_i hm
     simp only[Option.some.injEq]at hi
     subst hi
     exact⟨h.eight,h.chk,RA h.rts hm,L3 h.Qb,Nat.le_trans (aN _ _) (by have:=h.few;omega)⟩
   · cases hi
 · split at hi
   · cases hi
   · split at hi
     · split at hi
       · rename_i hc
         simp only[Option.some.injEq]at hi
         subst hi
         refine⟨by rw[List.length_set];exact h.eight,fun s hs=>?_,h.rts,h.Qb,by have:=h.few;show b.rights.length≤N+1;omega⟩
         rcases List.mem_or_eq_of_mem_set hs with hs | rfl
         · exact h.chk s hs
         · exact hc
       · cases hi
     · cases hi
theorem rJ.empty :rJ Bo.empty 0:=⟨rfl,fun s hs=>by rw[(List.mem_replicate.1 hs).2];rfl,trivial,trivial,Nat.le_refl _⟩
theorem nV {l:List Mk} (h:tV 0 l):l.length≤8:=by
 have key:∀ (l:List Mk) (n:Int),tV n l→0≤n→n≤8→(l.length:Int)≤8 - n:=by
  intro l
  induction l with
  | nil=>intro n _ _ h;simp;omega
  | cons m l ih=>
   intro n h h0 h8
   have:=ih m.client h.2.2.2.2 (by have:=h.1;omega) h.2.1
   have:=h.1
   rw[List.length_cons];omega
 have:=key l 0 h (by omega) (by omega)
 omega
theorem N7 {s:Sv} {n:Nt} (h:n.kind=1):s.goes n=s.raise n.b:=by unfold Sv.goes;rw[if_pos h]
theorem IE {s:Sv} {n:Nt} (h:n.kind=2):s.goes n=if n.Ag.slot≤s.last then s else({ s with Ae:=Ed s.Ae n.Ag }:Sv).raise n.Ag.b:=by unfold Sv.goes;rw[if_neg (by omega),if_pos h]
theorem ID {s:Sv} {n:Nt} (h:n.kind=3):s.goes n=if n.entry.slot=s.last+1 then { s with entries:=s.entries++[n.entry],Ae:=vP s.Ae n.entry.slot } else s:=by unfold Sv.goes;rw[if_neg (by omega),if_neg (by omega),if_pos h]
theorem AF {s:Sv} {n:Nt} (h:n.kind=4):s.goes n=if n.entry.slot≤s.index then s else { s with index:=n.entry.slot,image:=n.entry.val,entries:=rF s.entries n.entry.slot,Ae:=vP s.Ae n.entry.slot }:=by unfold Sv.goes;rw[if_neg (by omega),if_neg (by omega),if_neg (by omega)]
theorem J0 (l:List Vt) (v:Vt):(Ed l v).length≤l.length+1:=by
 have key:∀ l:List Vt,(l.filter fun x=>decide (x.slot < v.slot)).length+(l.filter fun x=>decide (v.slot < x.slot)).length≤l.length:=by
  intro l
  induction l with
  | nil=>simp
  | cons a l ih=>
   rw[List.filter_cons,List.filter_cons]
   by_cases h1:a.slot < v.slot <;>by_cases h2:v.slot < a.slot <;>simp[h1,h2] <;>omega
 unfold Ed
 rw[List.length_append,List.length_cons]
 have:=key l
 omega
theorem dV (s:Sv) (b:Bal):(s.raise b).Ae=s.Ae∧(s.raise b).entries=s.entries:=by rw[oX];exact⟨rfl,rfl⟩
theorem KO (l:List En) (n:Int):(rF l n).length≤l.length:=by
 have h:=List.length_filter_le (fun x:En=>decide (n < x.slot)) l
 unfold rF
 split
 · simp
 · rename_i e r heq
   rw[heq]at h
   split
   · exact h
   · simp
theorem nF (s:Sv) (n:Nt):(s.goes n).Ae.length≤s.Ae.length+1∧(s.goes n).entries.length≤s.entries.length+1:=by
 have hb:(vP s.Ae n.entry.slot).length≤s.Ae.length:=List.length_filter_le _ _
 have hp:=J0 s.Ae n.Ag
 have hi:=KO s.entries n.entry.slot
 unfold Sv.goes
 split
 · obtain⟨h1,h2⟩:=dV s n.b
   rw[h1,h2];omega
 · split
   · split
     · omega
     · obtain⟨h1,h2⟩:=dV ({ s with Ae:=Ed s.Ae n.Ag }:Sv) n.Ag.b
       rw[h1,h2];exact⟨hp,by show s.entries.length≤_;omega⟩
   · split
     · split
       · simp only[List.length_append,List.length_singleton];omega
       · omega
     · split
       · omega
       · exact⟨by show(vP s.Ae n.entry.slot).length≤_;omega,by show(rF s.entries n.entry.slot).length≤_;omega⟩
theorem DQ {b:Bo} {n:Nt} (h5:n.kind≠5) (h:n.kind < 1∨4 < n.kind∨n.group < 0∨8≤n.group):b.into n=none:=by unfold Bo.into;rw[if_neg h5,if_pos h]
theorem HY {b:Bo} {n:Nt} {s:Sv} (h5:n.kind≠5) (hs:b.groups[n.group.toNat]? =some s) (hc:chk (s.goes n)=false):b.into n=none:=by
 unfold Bo.into
 rw[if_neg h5,hs]
 split
 · rfl
 · simp[hc]
theorem lI {b:Bo} {n:Nt} {s:Sv} (h5:n.kind≠5) (h:¬(n.kind < 1∨4 < n.kind∨n.group < 0∨8≤n.group)) (hs:b.groups[n.group.toNat]? =some s) (hc:chk (s.goes n)=true):b.into n=some { b with groups:=b.groups.set n.group.toNat (s.goes n) }:=by
 unfold Bo.into
 rw[if_neg h5,if_neg h,hs]
 simp[hc]
theorem vM {b:Bo} {n:Nt} (h5:n.kind=5) (h:nW n.right):b.into n=some { b with rights:=Di b.rights n.right,last:=uS b.last n.client n.seq }:=by unfold Bo.into;rw[if_pos h5,if_pos h]
theorem cJ {b:Bo} {n:Nt} (h5:n.kind=5) (h:¬nW n.right):b.into n=none:=by unfold Bo.into;rw[if_pos h5,if_neg h]
theorem pT {s:Sv} (h:bX s):s.Ae.length≤16:=by
 have:=GK h.v (by omega)
 omega
theorem pP {s:Sv} (h:bX s):s.entries.length≤1099511627776:=by
 have h1:=h.n
 have h2:=h.i.1
 omega
theorem aI {b:Bo}:∀ {l:List Nt} {n:Nt},vR b (l++[n])=(vR b l).bind fun b'=>b'.into n
 | [],n=>by
  show(match b.into n with | some b'=>vR b' [] | none=>none)=b.into n
  cases b.into n <;>rfl
 | m::l,n=>by
  show(match b.into m with | some b'=>vR b' (l++[n]) | none=>none)=(match b.into m with | some b'=>vR b' l | none=>none).bind fun b'=>b'.into n
  cases h:b.into m with
  | none=>rfl
  | some b'=>exact aI (b:=b') (l:=l)
theorem qB {b b':Bo} {l:List Nt} {n:Nt} {i:Nat} (h:vR b (l.take i)=some b') (hn:l[i]? =some n):vR b (l.take (i+1))=b'.into n:=by
 rw[yU hn,aI,h];rfl
theorem kD {b:Bo} {l:List Nt} {i:Nat} (h:vR b (l.take i)=none):vR b l=none:=by
 rw[← List.take_append_drop i l]
 generalize l.take i=x at h
 generalize l.drop i=y
 induction x generalizing b with
 | nil=>cases h
 | cons m x ih=>
  show(match b.into m with | some b'=>vR b' (x++y) | none=>none)=none
  change (match b.into m with | some b'=>vR b' x | none=>none)=none at h
  cases hm:b.into m with
  | none=>rfl
  | some b'=>rw[hm]at h;exact ih h
def Bo.zero :Bo:=⟨[],[],[]⟩
def Rep (l:List Nt) (b:Bo) (e:Int):Prop:=(vR Bo.empty l=some b∧e=0∧rJ b l.length)∨(vR Bo.empty l=none∧b=Bo.zero∧e=21)
theorem Hl.zero (w:World) (ok:Nat→Prop):Hl w ok [.slice none 0 0,.slice none 0 0,.slice none 0 0] Bo.zero:=⟨none,0,none,0,none,0,rfl,Sl.none _ _ _ _,Sl.none _ _ _ _,Sl.none _ _ _ _⟩
theorem eA {b b':Bo} {l:List Nt} (i:Nat) (h:vR b l=some b'):∃ c,vR b (l.take i)=some c:=by
 cases hc:vR b (l.take i)with
 | some c=>exact⟨c,rfl⟩
 | none=>rw[kD hc]at h;cases h
theorem rJ.fews {b:Bo} {N:Nat} (h:rJ b N):∀ x∈b.groups,x.Ae.length≤1000000000000000000∧x.entries.length≤1000000000000000000:=fun x hx=>by
 have hc:=(tP x).1 (h.chk x hx)
 have h1:=pT hc
 have h2:=pP hc
 exact⟨by omega,by omega⟩
section
variable {P:Program} {l:List Value} {w:World} {ty t:TypeId} {x:Operand}
theorem yJ {f off:Nat} {ft:TypeId} (h:yH P t f=some (off,ft)) {a:Addr} (hx:ev l x=some (.pointer (some a))):Ex P l (.fieldAddr t x f) ty w (.value (.pointer (some (a.add off)))) w:=fun _ _ _ _=>by
 unfold yH at h
 split at h
 · rename_i fs hu
   split at h
   · rename_i fd hfd
     split at h
     · rename_i i hi
       split at h
       · cases h
       · rename_i hsz
         simp only[Option.some.injEq,Prod.mk.injEq]at h
         obtain⟨rfl,rfl⟩:=h
         simp[execOp,zV hx,Instr.fieldAt,run_underlying hu,hfd,Instr.sureAddr,fieldPlace,sizeOf,typeInfo,hi,hsz]
     · cases h
   · cases h
 · cases h
theorem bU {f off k:Nat} {ft:TypeId} (h:yH P t f=some (off,ft)) {a:Addr} (hx:ev l x=some (.pointer (some (a.add k)))):Ex P l (.fieldAddr t x f) ty w (.value (.pointer (some (a.add (k+off))))) w:=by
 have:=yJ (ty:=ty) (w:=w) h hx
 rwa [tQ]at this
end
def YH :Nt:=⟨1,1,⟨2,1⟩,⟨0,⟨0,0⟩,[]⟩,⟨0,[]⟩,⟨0,[],0,0⟩,0,0⟩
def awS :Sv:=⟨⟨2,1⟩,[],0,[],[]⟩
def awB :Bo:={ Bo.empty with groups:=Bo.empty.groups.set 1 awS }
theorem P0 :vR Bo.empty [YH]=some awB:=by
 have h1:Sv.none.goes YH=awS:=rfl
 have h2:chk awS=true:=rfl
 have h3:Bo.empty.into YH=some awB:=by
  unfold Bo.into
  rw[if_neg (by decide),if_neg (by decide)]
  show(match some Sv.none with | some s=>if chk (s.goes YH)=true then some { Bo.empty with groups:=Bo.empty.groups.set 1 (s.goes YH) } else none | none=>none)=_
  simp only[h1,h2,if_true]
  rfl
 unfold vR
 rw[h3]
 rfl
section more
variable {P:Program} {ds:List Deferred} {Q:vN} {K:List Value→World→Prop} {all os:List Oper} {l:List Value} {w0 w w':World} {S S':List Nat} {es es':List Ent} {ty t:TypeId} {pos:String} {af:Array Edge} {d:Tmp} {v:Value} {op:Op}
 {zs cs:List Value} {sz bytes:Nat} {agg:Bool}
end more
@[reducible] def rc (A:Option Addr) (b:List UInt8) (c i e:Nat):List Value:=[.slice A b.length c,.int .i64 (i:Int),.int .i64 (e:Int)]
structure Rdr (w:World) (gr:Nat) (A:Option Addr) (c:Nat) (b:List UInt8) (i e:Nat):Prop where
 row:w.heap[gr]? =some (.cells (rc A b c i e).toArray 219 (0,0))
 rd:Rd w A b.length 1 (u8s b)
 apart:∀ a,A=some a→a.block≠gr
 le:i≤b.length
 cap:b.length≤c
 len:b.length≤211106232532900
section rdr
variable {w w':World} {gr:Nat} {A:Option Addr} {c:Nat} {b:List UInt8} {i e:Nat}
end rdr
def mC :List UInt8→Bool×Nat×Nat
 | []=>(false,0,20)
 | x::_=>if 1 < x.toNat then(false,0,21) else(decide (x.toNat=1),1,0)
def vE (b:List UInt8) (most:Int):List UInt8×Nat×Nat:=
 if(zZ b most).2.2≠0 then([],0,(zZ b most).2.2)
 else if b.length < (zZ b most).2.1+(zZ b most).1 then([],0,20)
 else((b.drop (zZ b most).2.1).take (zZ b most).1,(zZ b most).2.1+(zZ b most).1,0)
theorem gC (b:List UInt8) (most:Int):(zZ b most).1 < 2^64∧(zZ b most).2.1≤b.length∧(zZ b most).2.1≤10∧
 ((zZ b most).2.2=0∨(zZ b most).2.2=20∨(zZ b most).2.2=21∨(zZ b most).2.2=22)∧((zZ b most).2.2≠0→(zZ b most).1=0∧(zZ b most).2.1=0)∧
 ((zZ b most).2.2=0→(xM b).2.2=0∧(zZ b most).1=(xM b).1∧(zZ b most).2.1=(xM b).2.1∧((xM b).1:Int)≤max most 0):=by
 have h:=pJ b
 by_cases h1:(xM b).2.2=0
 · by_cases h2:max most 0 < ((xM b).1:Int)
   · rw[lP h1 h2];simp
   · rw[oD h1 h2];exact⟨h.1,h.2.1,h.2.2.1,.inl rfl,fun h=>absurd rfl h,fun _=>⟨h1,rfl,rfl,by omega⟩⟩
 · rw[lR h1]
   simp only
   exact⟨by omega,by omega,by omega,by have:=h.2.2.2.1;omega,fun _=>by simp,fun h=>absurd h h1⟩
def yK (b:List UInt8) (i e:Nat):Nat×Nat×Nat:=if e=0 then((xM (b.drop i)).1,i+(xM (b.drop i)).2.1,(xM (b.drop i)).2.2) else(0,i,e)
def wJ (b:List UInt8) (most:Int) (i e:Nat):Nat×Nat×Nat:=if e=0 then((zZ (b.drop i) most).1,i+(zZ (b.drop i) most).2.1,(zZ (b.drop i) most).2.2) else(0,i,e)
def tY (b:List UInt8) (i e:Nat):Bool×Nat×Nat:=if e=0 then((mC (b.drop i)).1,i+(mC (b.drop i)).2.1,(mC (b.drop i)).2.2) else(false,i,e)
def yF (b:List UInt8) (most:Int) (i e:Nat):List UInt8×Nat×Nat:=if e=0 then((vE (b.drop i) most).1,i+(vE (b.drop i) most).2.1,(vE (b.drop i) most).2.2) else([],i,e)
theorem KU (b:List UInt8):(mC b).2.1≤b.length∧(mC b).2.2 < 100∧((mC b).2.2≠0→(mC b).2.1=0):=by
 cases b with
 | nil=>simp[mC]
 | cons x t=>by_cases h:1 < x.toNat <;>simp[mC,h]
theorem aE (b:List UInt8) (most:Int):(vE b most).2.1≤b.length∧(vE b most).2.2 < 100∧((vE b most).2.2≠0→(vE b most).2.1=0):=by
 have h:=gC b most
 unfold vE
 split
 · simp;omega
 · split
   · simp
   · simp;omega
def unz (v:Nat):Int:=if v % 2=1 then -((v / 2:Nat):Int) - 1 else((v / 2:Nat):Int)
theorem shr1 (v:Nat):((v:Int)).fdiv (2^(min (1:Int).toNat IntKind.u64.bits))=((v / 2:Nat):Int):=qS v 1 64
theorem K4 (m:Nat) (h:m < 2^63):bits .xor .i64 (-1) (m:Int)=-(m:Int) - 1:=by
 simp only[bits]
 have e2:BitVec.ofInt 64 (-1)=BitVec.allOnes 64:=by decide
 show IntKind.i64.wrap ((BitVec.ofInt 64 (-1)^^^BitVec.ofInt 64 (m:Int)).toNat:Int)=_
 rw[BitVec.ofInt_natCast,e2,BitVec.allOnes_xor,BitVec.toNat_not,BitVec.toNat_ofNat,Nat.mod_eq_of_lt (by omega),IntKind.wrap_i64]
 omega
theorem nU (b:List UInt8) (i e:Nat):(yK b i e).1 < 2^64:=by
 unfold yK
 split
 · exact(pJ _).1
 · simp
def UQ (w0 w':World) (r:Value) (b:List UInt8):Prop:=
 ∃ gr g cap sp,r=.pointer (some ⟨gr,0,none⟩)∧b.length≤cap∧cap*1≤(u8s b++sp).length∧(g=none→cap=0)∧Hp w0 w' [] [(some gr,219,rc (hd g) b cap 0 0),(g,5,u8s b++sp)]
theorem BE {w0 w:World} {S:List Nat} {es:List Ent} {j k gr c i e:Nat} {g:Option Nat} {b:List UInt8} {sp:List Value} (H:Hp w0 w S es) (h1:es[j]? =some (some gr,219,rc (hd g) b c i e)) (h2:es[k]? =some (g,5,u8s b++sp)) (hjk:j≠k)
 (hc:b.length≤c) (hb:b.length≤211106232532900) (hi:i≤b.length):Rdr w gr (hd g) c b i e:=by
 refine⟨H.at h1,H.rd h2 (yV b) (by decide),?_,hi,hc,hb⟩
 intro a ha
 cases g with
 | none=>simp[hd]at ha
 | some x=>
  simp only[hd,Option.map_some,Option.some.injEq]at ha
  subst ha
  intro h
  simp only at h
  subst h
  exact hjk (H.apart j k _ _ x h1 h2 Y Y)
theorem R1 {P:Program} {ds:List Deferred} {Q:vN} {K:List Value→World→Prop} {all os:List Oper} {l:List Value} {w:World} {op:Op} {ty:TypeId} {pos:String} {af:Array Edge} {d:Tmp}
 {f:FuncId} {args:Array Value} {b:List UInt8} (hx:Ex P l op ty w (.enter f args) w) (hc:zP P f args w fun r w'=>UQ w w' r b)
 (h:∀ w' gr g cap sp,b.length≤cap→cap*1≤(u8s b++sp).length→(g=none→cap=0)→Hp w w' [] [(some gr,219,rc (hd g) b cap 0 0),(g,5,u8s b++sp)]→Ops P ds all K Q os (l.set d (.pointer (some ⟨gr,0,none⟩))) w'):
 Ops P ds all K Q (⟨some d,op,ty,pos,af,none⟩::os) l w:=
 tE hx hc fun r w' ⟨gr,g,cap,sp,h1,h2,h3,h4,h5⟩=>by rw[h1];exact h w' gr g cap sp h2 h3 h4 h5
end Go.Proofs.YtjoeklkmnfaabaaGreat
namespace Go.Proofs.YtjoeklkmnfaabaaGreat
set_option maxRecDepth 100000
set_option maxHeartbeats 4000000
open Go Go.RowKit
set_option linter.unusedVariables false
attribute [local irreducible] yT Ops zP Cd
theorem pl219 :wY Tryz.prog 219=some [(0,1),(1,1),(2,1)]:=by kernel_rfl
theorem ND (gv:Nat) (w0:World) (hg:w0.heap[gv]? =some (.cells [.int .u64 0].toArray 118 (0,0))) (A:Option Addr) (b:List UInt8) (c:Nat) (hr:Rd w0 A b.length 1 (u8s b)) (hb:b.length≤211106232532992):zP Tryz.prog 205 #[.slice A b.length c,.pointer (some ⟨gv,0,none⟩)] w0 (fun r w'=>r=.tuple #[.int .i64 ((xM b).2.1:Int),.int .i64 ((xM b).2.2:Int)]∧Hp w0 w' [gv] [(some gv,118,[.int .u64 ((xM b).1:Int)])]):=by
 refine zE Tryz.func205 Tryz.ntmps205 Y<|cR e13 ?_
 have H:=Hp.old hg
 refine Rq<|Xa Y<|Xa Y<|Xr e13<|Rq<|Xm Y<|wP (EC TV Y) (cD A b c _ hr hb)<|Xm Y<|Xe Y Y<|Aa e13<|Xe Y Y<|Xe Y Y<|OW oV H 0 Y Y Y Y (by first|exact NL Y|simp[zH]) Y<|fun w1 H1=>Xa Y<|Xa Y<|Xr e13<|Rq<|Xm Y<|Xm Y<|Xa Y<|Xa Y<|Xr e13<|J5<|Ea Y Y Y<|⟨Y,H1⟩
theorem JO (gv:Nat) (w0:World) (hg:w0.heap[gv]? =some (.cells [.slice none 0 0].toArray 73 (0,0))) (gm:Nat) (most:Int) (hgm:w0.heap[gm]? =some (.cells [Value.int .i64 most].toArray 3 (0,0))) (hlo:-9223372036854775808≤most) (hhi:most≤9223372036854775807) (A:Option Addr) (b:List UInt8) (c:Nat) (hr:Rd w0 A b.length 1 (u8s b)) (hb:b.length≤211106232532992) (hbc:b.length≤c):zP Tryz.prog 207 #[.slice A b.length c,.pointer (some ⟨gm,0,none⟩),.pointer (some ⟨gv,0,none⟩)] w0 (fun r w'=>r=.tuple #[.int .i64 ((vE b most).2.1:Int),.int .i64 ((vE b most).2.2:Int)]∧∃ g cap sp,(vE b most).1.length≤cap∧cap*1≤(u8s (vE b most).1++sp).length∧(g=none→cap=0)∧Hp w0 w' [gv] [(some gv,73,[.slice (hd g) (vE b most).1.length cap]),(g,5,u8s (vE b most).1++sp)]):=by
 have hbd:=gC b most
 refine zE Tryz.func207 Tryz.ntmps207 Y<|cR e38 ?_
 have H:=Hp.old hg
 refine Rq<|Xa Y<|Xa Y<|Xr e38<|Rq<|Xm Y<|OV (EL ty3 Y (show w0.cell? ⟨gm,0,none⟩=some (.int .i64 most) by simp[World.cell?,hgm]))<|wP (EC gf208 Y) (ED A b c most _ hr hb hlo hhi)<|Xm Y<|Aa e38<|Xe Y Y<|Xe Y Y<|Xe Y Y<|Xa Y<|Aa e38<|Xa Y<|Xa Y<|Xr e38<|J1<|Rq<|Xm Y<|OT (yS Y Y) (fun hp17=>?_) (fun hp17=>?_)
 have ht:vE b most=([],0,(zZ b most).2.2):=if_pos (by omega)
 refine Xr e38<|J3 Y<|Rq<|Xm Y<|Xa Y<|Xa Y<|Xr e38<|J5<|Ea Y Y Y ?_
 rw[ht]
 exact⟨Y,none,0,[],Nat.le_refl _,by simp,fun _=>Y,H.nil 5⟩
 have h0:(zZ b most).2.2=0:=by omega
 refine Xr e38<|J4 Y<|J6<|J1<|Rq<|Xm Y<|OV (ES Tryz.underlying73 Y)<|Xm Y<|OV (uW Y Y (IntWalk.i64_in _ (by omega)))<|Aa e38<|Xm Y<|OT (zQ Y Y) (fun hp24=>?_) (fun hp24=>?_)
 have ht:vE b most=([],0,20):=(if_neg (by omega)).trans (if_pos (by omega))
 refine Xr e38<|J3 Y<|Rq<|Xa Y<|Xa Y<|Xr e38<|J5<|Ea Y Y Y ?_
 rw[ht]
 exact⟨Y,none,0,[],Nat.le_refl _,by simp,fun _=>Y,H.nil 5⟩
 have ht:vE b most=((b.drop (zZ b most).2.1).take (zZ b most).1,(zZ b most).2.1+(zZ b most).1,0):=(if_neg (by omega)).trans (if_neg (by omega))
 have hle:(zZ b most).2.1+(zZ b most).1≤b.length:=by omega
 have hrm:=hr.mid hle
 have hlm:((b.drop (zZ b most).2.1).take (zZ b most).1).length=(zZ b most).1:=by rw[List.length_take,List.length_drop];omega
 have e1:(((zZ b most).2.1:Nat):Int)+(((zZ b most).1:Nat):Int)=(((zZ b most).2.1+(zZ b most).1:Nat):Int):=by omega
 refine Xr e38<|J4 Y<|J6<|Rq<|Xm Y<|Xm Y<|Xm Y<|Xm Y<|Aa e38<|OV (zL Y Y ((IntWalk.i64_in _ (by omega)).trans e1))<|Xm Y<|Xm Y<|OV (zL Y Y ((IntWalk.i64_in _ (by omega)).trans e1))<|Aa e38<|OV (bE Tryz.underlying73 ty5 (lo:=(zZ b most).2.1) (hi:=(zZ b most).2.1+(zZ b most).1) (mx:=(zZ b most).2.1+(zZ b most).1) (n:=((b.drop (zZ b most).2.1).take (zZ b most).1).length) (m:=((b.drop (zZ b most).2.1).take (zZ b most).1).length) Y Y Y Y (by omega) (by omega) (by omega))<|yW (EC kZ Y) (vI _ _ _ _ hrm (by omega))<|fun w1 g1 c1 sp1 hm1 hc1 hg1 Hc=>have H1:=(H.call0 Hc);OW xK H1 0 Y Y Y Y (by first|exact NL Y|simp[zH]) Y<|fun w2 H2=>Xr e38<|Rq<|Xm Y<|Xm Y<|OV (zL Y Y ((IntWalk.i64_in _ (by omega)).trans e1))<|Xa Y<|Aa e38<|Xa Y<|Xr e38<|J5<|Ea Y Y Y ?_
 rw[ht]
 exact⟨Y,g1,c1,sp1,hm1,hc1,hg1,H2⟩
theorem aD (v:Value) (gr:Nat) (A:Option Addr) (c:Nat) (b:List UInt8) (i e:Nat) (w0:World) (hR:Rdr w0 gr A c b i e) (he:e≠0):zP Tryz.prog 204 #[.pointer (some ⟨gr,0,none⟩),v] w0 (fun r w'=>r=.bool false∧w'=w0):=by
 refine zE Tryz.func204 Tryz.ntmps204 Y<|cR e54 ?_
 have H:=Hp.old hR.row
 have hle:=hR.le
 have hln:=hR.len
 have hcp:=hR.cap
 refine Rq<|Xa Y<|Xr e54<|J1<|Rq<|Xm Y<|Dy (yE Tryz.underlying175 Y) (by simp)<|Xm Y<|Aa e54<|OY Y<|Xm Y<|OY Y<|Xc Y<|Aa e54<|OY Y<|Xf mD Y<|OY Y<|OV (EL pR Y (H.cell (i:=0) Y Y))<|Aa e54<|OY Y<|Ij (yS Y Y) (by omega)<|Xu Y Y<|Xr e54<|J3 Y<|Rq<|Xa Y<|Xr e54<|J5<|Ak Y Y<|⟨Y,Y⟩
theorem CP (gr:Nat) (A:Option Addr) (c:Nat) (b:List UInt8) (i e:Nat) (w0:World) (hR:Rdr w0 gr A c b i e) (he:e=0) (fc:FuncId) (cap:List Value) (hf:yB Tryz.prog fc=true) (R:Nat→Nat→World→Prop) (hc:∀ w1,Hp w0 w1 [] []→zP Tryz.prog fc (.slice (wG A i b.length 1) (b.drop i).length (b.drop i).length::cap).toArray w1 (fun r w2=>∃ k f:Nat,r=.tuple #[.int .i64 k,.int .i64 f]∧R k f w2)) (hrow:∀ k f w2,R k f w2→w2.heap[gr]? =some (.cells (rc A b c i e).toArray 219 (0,0))) (hle2:∀ k f w2,R k f w2→i+k≤b.length∧f < 100) (hz:∀ k f w2,R k f w2→f≠0→k=0):zP Tryz.prog 204 #[.pointer (some ⟨gr,0,none⟩),.func (.func fc) #[] cap.toArray] w0 (fun r w'=>∃ k f w2,R k f w2∧r=.bool (decide (f=0))∧Hp w2 w' [gr] [(some gr,219,rc A b c (i+k) f)]):=by
 refine zE Tryz.func204 Tryz.ntmps204 Y<|cR e54 ?_
 have H:=Hp.old hR.row
 have hle:=hR.le
 have hln:=hR.len
 have hcp:=hR.cap
 refine Rq<|Xa Y<|Xr e54<|J1<|Rq<|Xm Y<|Dy (yE Tryz.underlying175 Y) (by simp)<|Xm Y<|Aa e54<|OY Y<|Xm Y<|OY Y<|Xc Y<|Aa e54<|OY Y<|Xf mD Y<|OY Y<|OV (EL pR Y (H.cell (i:=0) Y Y))<|Aa e54<|OY Y<|Dy (yS Y Y) (by omega)<|Xu Y Y<|Xr e54<|J4 Y<|J6<|J1<|Q9 20 1 yG (by kernel_rfl) Y Y ?_
 rintro w1 hw1
 have H1:=Hp.drew H;rw[← hw1]at H1
 refine SV (zK Y)<|SV (zK Y)<|SV (yI Y)<|SV (EF eV Y)<|vJ e54<|SV (EL xK Y (H1.cell (i:=0) Y Y))<|SV (zK Y)<|SV (yI Y)<|SV (EF iU Y)<|vJ e54<|SV (EL ty3 Y (H1.cell (i:=0) Y Y))<|SV (zK Y)<|SV (yI Y)<|SV (EF eV Y)<|vJ e54<|SV (EL xK Y (H1.cell (i:=0) Y Y))<|SV (ES Tryz.underlying73 Y)<|SV (zK Y)<|SV (yI Y)<|vJ e54<|SV (EF eV Y)<|SV (EL xK Y (H1.cell (i:=0) Y Y))<|SV (ES Tryz.underlying73 Y)<|SV (bE Tryz.underlying73 ty5 (lo:=i) (hi:=b.length) (mx:=b.length) (n:=(b.drop i).length) (m:=(b.drop i).length) Y Y Y Y (by omega) List.length_drop List.length_drop)<|xU<|bQ (xI hf Y Y) (hc _ (by rw[hw1];exact(Hp.refl w0).drew))<|fun k f w2 hk=>have H2:=Hp.old (hrow k f _ hk);have hk1:=hle2 k f _ hk;have hk2:=hz k f _ hk;Aa e54<|Xm Y<|OE<|SV (xA Y Y)<|SV (xA Y Y)<|SV (zO Y)<|vJ e54<|SV (zO Y)<|xU<|cR e54 ?_
 refine J1<|Rq<|Xm Y<|OT (yS Y Y) (fun hp41=>?_) (fun hp41=>?_)
 refine Xr e54<|J3 Y<|Rq<|Xm Y<|Xm Y<|Xc Y<|Xf mD Y<|Aa e54<|OW pR H2 0 Y Y Y Y (by first|exact NL Y|simp[zH]) Y<|fun w3 H3=>Xr e54<|Rq<|Xa Y<|Xr e54<|J5<|Ak Y Y<|⟨k,f,_,hk,by rw[decide_eq_false (by omega)],?_⟩
 have h0:=hk2 (by omega)
 subst h0
 exact H3
 have h5:f=0:=by omega
 refine Xr e54<|J4 Y<|J6<|Rq<|Xm Y<|Xc Y<|Xf iU Y<|OV (EL ty3 Y (H2.cell (i:=0) Y Y))<|Aa e54<|Xm Y<|OV (zL Y Y ((IntWalk.i64_in _ (by omega)).trans (show((i:Int)+(k:Int))=((i+k:Nat):Int) by omega)))<|Xc Y<|Xf iU Y<|Aa e54<|OW ty3 H2 0 Y Y Y Y (by first|exact NL Y|simp[zH]) Y<|fun w3 H3=>Xr e54<|Rq<|Xa Y<|Xr e54<|J5<|Ak Y Y<|⟨k,f,_,hk,by rw[decide_eq_true (by omega)],?_⟩
 subst h5
 subst he
 exact H3
end Go.Proofs.YtjoeklkmnfaabaaGreat
namespace Go.Proofs.YtjoeklkmnfaabaaGreat
set_option maxRecDepth 100000
set_option maxHeartbeats 4000000
open Go Go.RowKit
set_option linter.unusedVariables false
attribute [local irreducible] yT Ops zP Cd
theorem R7 (A:Option Addr) (b:List UInt8) (c:Nat) (w0:World) (hr:Rd w0 A b.length 1 (u8s b)) (hb:b.length≤211106232532900):zP Tryz.prog 104 #[.slice A b.length c] w0 (fun r w'=>UQ w0 w' r b):=by
 refine zE Tryz.func104 Tryz.ntmps104 Y<|cR e7 ?_
 have H:=Hp.refl w0
 refine Rq<|Xa Y<|Xr e7<|Rq<|Xm Y<|yW (EC kZ Y) (vI A b c _ (hr.to0 H) (by omega))<|fun w1 g1 c1 sp1 hm1 hc1 hg1 Hc=>have H1:=H.call0 Hc;OV (EB ty219 pl219 Y Y)<|yA Y Y H1<|fun w2 g2 H2 hg2=>Aa e7<|Xa Y<|Xr e7<|J5<|Ak Y Y<|⟨g2,g1,c1,sp1,Y,hm1,hc1,hg1,H2.pick [1,0] (by decide)⟩
theorem U7 (gr:Nat) (A:Option Addr) (c:Nat) (b:List UInt8) (i e:Nat) (w0:World) (hR:Rdr w0 gr A c b i e) (he:e=0):zP Tryz.prog 182 #[.pointer (some ⟨gr,0,none⟩)] w0 (fun r w'=>r=.int .u64 ((yK b i e).1:Int)∧Hp w0 w' [gr] [(some gr,219,rc A b c (yK b i e).2.1 (yK b i e).2.2)]):=by
 refine zE Tryz.func182 Tryz.ntmps182 Y<|cR e9 ?_
 have H:=Hp.old hR.row
 have hle:=hR.le
 have hln:=hR.len
 have hcp:=hR.cap
 refine Rq<|Xa Y<|Xr e9<|Rq<|OA oV H<|fun w1 g1 H1 hg1=>OW oV H1 1 Y Y Y Y (by first|exact NL Y|simp[zH]) Y<|fun w2 H2=>Xr e9<|J1<|Rq<|Xm Y<|OV (wK Y Y) ?_
 have hR1:Rdr w2 gr A c b i e:=⟨H2.at (i:=0) rfl,hR.rd.to H2 (by intro a ha;simp;exact hR.apart a ha),hR.apart,hR.le,hR.cap,hR.len⟩
 have hgv:=H2.at (i:=1) rfl
 have hne:gr≠g1:=fun h=>absurd (H2.apart 0 1 _ _ gr rfl rfl rfl (by rw[h])) (by decide)
 have hbd:=pJ (b.drop i)
 have hdl:(b.drop i).length=b.length - i:=List.length_drop
 refine aV (EC IF rfl) (CP gr A c b i e _ hR1 he 205 [.pointer (some ⟨g1,0,none⟩)] gf205 (fun k f wz=>k=(xM (b.drop i)).2.1∧f=(xM (b.drop i)).2.2∧Hp w2 wz [g1] [(some g1,118,[.int .u64 ((xM (b.drop i)).1:Int)])]) (fun w1x H1x=>(ND g1 w1x (H1x.keep hgv (by simp)) _ (b.drop i) _ ((hR1.rd.to0 H1x).tail hle) (by omega)).mono fun r w2 hh=>⟨_,_,hh.1,rfl,rfl,H1x.then hh.2⟩) (fun k f w2 hh=>hh.2.2.keep hR1.row (by simp[hne])) (fun k f w2 hh=>by obtain⟨h1,h2,_⟩:=hh;omega) (fun k f w2 hh h0=>by obtain⟨h1,h2,_⟩:=hh;omega))<|fun k f w2x w3 hk hm=>?_
 obtain⟨hk1,hk2,hk3⟩:=hk
 have H3:=((H2.call1 (i:=1) rfl hk3).call1 (i:=0) rfl hm).pick [3,2] (by decide)
 refine Xn Y<|Xr e9<|wU Y (fun hb7=>?_) (fun hb7=>?_)
 have hf0:f≠0:=by simpa using hb7
 have hz0:(xM (b.drop i)).1=0:=by omega
 refine Rq<|Xa Y<|Xr e9<|J5<|Ak Y Y ?_
 have hs:yK b i e=((xM (b.drop i)).1,i+(xM (b.drop i)).2.1,(xM (b.drop i)).2.2):=if_pos he
 rw[hs]
 rw[hk1,hk2]at H3
 rw[hz0]
 exact⟨Y,H3.pick [0] (by decide)⟩
 refine J6<|Rq<|OV (EL oV Y (H3.cell (i:=1) Y Y))<|Xa Y<|Xr e9<|J5<|Ak Y Y ?_
 have hs:yK b i e=((xM (b.drop i)).1,i+(xM (b.drop i)).2.1,(xM (b.drop i)).2.2):=if_pos he
 rw[hs]
 rw[hk1,hk2]at H3
 exact⟨Y,H3.pick [0] (by decide)⟩
theorem R3 (gr:Nat) (A:Option Addr) (c:Nat) (b:List UInt8) (i e:Nat) (w0:World) (hR:Rdr w0 gr A c b i e) (he:e≠0):zP Tryz.prog 182 #[.pointer (some ⟨gr,0,none⟩)] w0 (fun r w'=>r=.int .u64 ((yK b i e).1:Int)∧Hp w0 w' [gr] [(some gr,219,rc A b c (yK b i e).2.1 (yK b i e).2.2)]):=by
 refine zE Tryz.func182 Tryz.ntmps182 Y<|cR e9 ?_
 have H:=Hp.old hR.row
 have hle:=hR.le
 have hln:=hR.len
 have hcp:=hR.cap
 refine Rq<|Xa Y<|Xr e9<|Rq<|OA oV H<|fun w1 g1 H1 hg1=>OW oV H1 1 Y Y Y Y (by first|exact NL Y|simp[zH]) Y<|fun w2 H2=>Xr e9<|J1<|Rq<|Xm Y<|OV (wK Y Y) ?_
 have hR1:Rdr w2 gr A c b i e:=⟨H2.at (i:=0) rfl,hR.rd.to H2 (by intro a ha;simp;exact hR.apart a ha),hR.apart,hR.le,hR.cap,hR.len⟩
 refine wP (EC IF Y) (aD _ gr A c b i e _ hR1 he)<|Xn Y<|Xr e9<|J3 Y<|Rq<|Xa Y<|Xr e9<|J5<|Ak Y Y ?_
 have hs:yK b i e=(0,i,e):=if_neg he
 rw[hs]
 exact⟨Y,H2.pick [0] (by decide)⟩
theorem num_rd (gr:Nat) (A:Option Addr) (c:Nat) (b:List UInt8) (i e:Nat) (w0:World) (hR:Rdr w0 gr A c b i e):zP Tryz.prog 182 #[.pointer (some ⟨gr,0,none⟩)] w0 (fun r w'=>r=.int .u64 ((yK b i e).1:Int)∧Hp w0 w' [gr] [(some gr,219,rc A b c (yK b i e).2.1 (yK b i e).2.2)]):=by
 by_cases he:e=0
 exact U7 gr A c b i e w0 hR he
 exact R3 gr A c b i e w0 hR he
theorem QX (gr:Nat) (A:Option Addr) (c:Nat) (b:List UInt8) (i e:Nat) (w0:World) (hR:Rdr w0 gr A c b i e) (most:Int) (hlo:-9223372036854775808≤most) (hhi:most≤9223372036854775807) (he:e=0):zP Tryz.prog 183 #[.pointer (some ⟨gr,0,none⟩),.int .i64 most] w0 (fun r w'=>∃ g cap sp,r=.slice (hd g) (yF b most i e).1.length cap∧(yF b most i e).1.length≤cap∧cap*1≤(u8s (yF b most i e).1++sp).length∧(g=none→cap=0)∧Hp w0 w' [gr] [(some gr,219,rc A b c (yF b most i e).2.1 (yF b most i e).2.2),(g,5,u8s (yF b most i e).1++sp)]):=by
 refine zE Tryz.func183 Tryz.ntmps183 Y<|cR e10 ?_
 have H:=Hp.old hR.row
 have hle:=hR.le
 have hln:=hR.len
 have hcp:=hR.cap
 refine Rq<|yA Y Y H<|fun w1 g1 H1 hg1=>Xa Y<|Xr e10<|Rq<|OA xK H1<|fun w2 g2 H2 hg2=>Xr e10<|Rq<|Xm Y<|OV (wK Y Y) ?_
 have hR1:Rdr w2 gr A c b i e:=⟨H2.at (i:=0) rfl,hR.rd.to H2 (by intro a ha;simp;exact hR.apart a ha),hR.apart,hR.le,hR.cap,hR.len⟩
 have hgm:=H2.at (i:=1) rfl
 have hgv:=H2.at (i:=2) rfl
 have hne:gr≠g2:=fun h=>absurd (H2.apart 0 2 _ _ gr rfl rfl rfl (by rw[h])) (by decide)
 have hbd:=aE (b.drop i) most
 have hdl:(b.drop i).length=b.length - i:=List.length_drop
 refine aV (EC IF rfl) (CP gr A c b i e _ hR1 he 207 [.pointer (some ⟨g1,0,none⟩),.pointer (some ⟨g2,0,none⟩)] gf207 (fun k f wz=>k=(vE (b.drop i) most).2.1∧f=(vE (b.drop i) most).2.2∧∃ g cap sp,(vE (b.drop i) most).1.length≤cap∧cap*1≤(u8s (vE (b.drop i) most).1++sp).length∧(g=none→cap=0)∧Hp w2 wz [g2] [(some g2,73,[.slice (hd g) (vE (b.drop i) most).1.length cap]),(g,5,u8s (vE (b.drop i) most).1++sp)]) (fun w1x H1x=>(JO g2 w1x (H1x.keep hgv (by simp)) g1 most (H1x.keep hgm (by simp)) hlo hhi _ (b.drop i) _ ((hR1.rd.to0 H1x).tail hle) (by omega) (Nat.le_refl _)).mono fun r w2 hh=>(let ⟨h1,g,cap,sp,h2,h3,h4,h5⟩:=hh;⟨_,_,h1,rfl,rfl,g,cap,sp,h2,h3,h4,H1x.then h5⟩)) (fun k f w2 hh=>(let ⟨_,_,g,cap,sp,h2,h3,h4,h5⟩:=hh;h5.keep hR1.row (by simp[hne]))) (fun k f w2 hh=>by obtain⟨h1,h2,_⟩:=hh;omega) (fun k f w2 hh h0=>by obtain⟨h1,h2,_⟩:=hh;omega))<|fun k f w2x w3 hk hm=>?_
 obtain⟨hk1,hk2,g,cap,sp,hk4,hk5,hk6,hk3⟩:=hk
 have H3:=((H2.call1 (i:=2) rfl hk3).call1 (i:=0) rfl hm).pick [5,1,3,4] (by decide)
 refine Xr e10<|Rq<|OV (EL xK Y (H3.cell (i:=2) Y Y))<|Xa Y<|Xr e10<|J5<|Ak Y Y ?_
 have hs:yF b most i e=((vE (b.drop i) most).1,i+(vE (b.drop i) most).2.1,(vE (b.drop i) most).2.2):=if_pos he
 rw[hs]
 rw[hk1,hk2]at H3
 exact⟨g,cap,sp,Y,hk4,hk5,hk6,H3.pick [0,3] (by decide)⟩
theorem LY (gr:Nat) (A:Option Addr) (c:Nat) (b:List UInt8) (i e:Nat) (w0:World) (hR:Rdr w0 gr A c b i e) (most:Int) (hlo:-9223372036854775808≤most) (hhi:most≤9223372036854775807) (he:e≠0):zP Tryz.prog 183 #[.pointer (some ⟨gr,0,none⟩),.int .i64 most] w0 (fun r w'=>∃ g cap sp,r=.slice (hd g) (yF b most i e).1.length cap∧(yF b most i e).1.length≤cap∧cap*1≤(u8s (yF b most i e).1++sp).length∧(g=none→cap=0)∧Hp w0 w' [gr] [(some gr,219,rc A b c (yF b most i e).2.1 (yF b most i e).2.2),(g,5,u8s (yF b most i e).1++sp)]):=by
 refine zE Tryz.func183 Tryz.ntmps183 Y<|cR e10 ?_
 have H:=Hp.old hR.row
 have hle:=hR.le
 have hln:=hR.len
 have hcp:=hR.cap
 refine Rq<|yA Y Y H<|fun w1 g1 H1 hg1=>Xa Y<|Xr e10<|Rq<|OA xK H1<|fun w2 g2 H2 hg2=>Xr e10<|Rq<|Xm Y<|OV (wK Y Y) ?_
 have hR1:Rdr w2 gr A c b i e:=⟨H2.at (i:=0) rfl,hR.rd.to H2 (by intro a ha;simp;exact hR.apart a ha),hR.apart,hR.le,hR.cap,hR.len⟩
 refine wP (EC IF Y) (aD _ gr A c b i e _ hR1 he)<|Xr e10<|Rq<|OV (EL xK Y (H2.cell (i:=2) Y Y))<|Xa Y<|Xr e10<|J5<|Ak Y Y ?_
 have hs:yF b most i e=([],i,e):=if_neg he
 rw[hs]
 exact⟨none,0,[],Y,Nat.le_refl _,by simp,fun _=>Y,(H2.pick [0] (by decide)).nil 5⟩
theorem QW (gr:Nat) (A:Option Addr) (c:Nat) (b:List UInt8) (i e:Nat) (w0:World) (hR:Rdr w0 gr A c b i e) (most:Int) (hlo:-9223372036854775808≤most) (hhi:most≤9223372036854775807):zP Tryz.prog 183 #[.pointer (some ⟨gr,0,none⟩),.int .i64 most] w0 (fun r w'=>∃ g cap sp,r=.slice (hd g) (yF b most i e).1.length cap∧(yF b most i e).1.length≤cap∧cap*1≤(u8s (yF b most i e).1++sp).length∧(g=none→cap=0)∧Hp w0 w' [gr] [(some gr,219,rc A b c (yF b most i e).2.1 (yF b most i e).2.2),(g,5,u8s (yF b most i e).1++sp)]):=by
 by_cases he:e=0
 exact QX gr A c b i e w0 hR most hlo hhi he
 exact LY gr A c b i e w0 hR most hlo hhi he
theorem VH (gr:Nat) (A:Option Addr) (c:Nat) (b:List UInt8) (i e:Nat) (w0:World) (hR:Rdr w0 gr A c b i e):zP Tryz.prog 149 #[.pointer (some ⟨gr,0,none⟩)] w0 (fun r w'=>r=.int .i64 (unz (yK b i e).1)∧Hp w0 w' [gr] [(some gr,219,rc A b c (yK b i e).2.1 (yK b i e).2.2)]):=by
 refine zE Tryz.func149 Tryz.ntmps149 Y<|cR e16<|Rq<|Xa Y<|Xr e16<|Rq<|Xm Y<|OC (EC gf182 Y) (num_rd gr A c b i e _ hR)<|fun w1 H1=>have hlt:=nU b i e;?_
 have hu:unz (yK b i e).1=if(yK b i e).1 % 2=1 then -(((yK b i e).1 / 2:Nat):Int) - 1 else(((yK b i e).1 / 2:Nat):Int):=rfl
 generalize hN:(yK b i e).1=N at hlt hu
 refine Xa Y<|Xr e16<|J1<|Rq<|Xm Y<|OV (F7 Y Y (and1 _ hlt))<|OT (xP Y Y) (fun hp8=>?_) (fun hp8=>?_)
 rw[if_pos (by omega)]at hu
 refine Xr e16<|J3 Y<|Rq<|Xm Y<|OV (oQ Y Y (by omega) (shr1 _))<|OV (xJ Tryz.underlying3 Tryz.underlying118 Y (IntWalk.i64_in _ (by omega)))<|OV (D8 Y (K4 _ (by omega)))<|Aa e16<|Xa Y<|Xr e16<|J5<|Ak Y Y<|⟨?_,H1⟩
 rw[hu]
 rw[if_neg (by omega)]at hu
 refine Xr e16<|J4 Y<|J6<|Rq<|Xm Y<|OV (oQ Y Y (by omega) (shr1 _))<|OV (xJ Tryz.underlying3 Tryz.underlying118 Y (IntWalk.i64_in _ (by omega)))<|Xa Y<|Xr e16<|J5<|Ak Y Y<|⟨?_,H1⟩
 rw[hu]
theorem PC (gr:Nat) (A:Option Addr) (c:Nat) (b:List UInt8) (i e:Nat) (w0:World) (hR:Rdr w0 gr A c b i e):zP Tryz.prog 180 #[.pointer (some ⟨gr,0,none⟩)] w0 (fun r w'=>r=.tuple #[.int .i64 (e:Int),.int .i64 ((if e=0 then 0 else i:Nat):Int)]∧Hp w0 w' [] []):=by
 refine zE Tryz.func180 Tryz.ntmps180 Y<|cR e19 ?_
 have H:=Hp.old hR.row
 have hle:=hR.le
 have hln:=hR.len
 have hcp:=hR.cap
 have Hz:=Hp.refl w0
 refine Rq<|Xa Y<|Xa Y<|Xr e19<|J1<|Rq<|Xm Y<|Dy (yE Tryz.underlying175 Y) (by simp)<|Xr e19<|J4 Y<|J6<|J1<|Rq<|Xm Y<|Xc Y<|Xf mD Y<|OV (EL pR Y (H.cell (i:=0) Y Y))<|Aa e19<|OT (xP Y Y) (fun hp10=>?_) (fun hp10=>?_)
 have he:e=0:=by omega
 refine Xr e19<|J3 Y<|Rq<|Xa Y<|Xa Y<|Xr e19<|J5<|Ea Y Y Y ?_
 rw[if_pos he]
 subst he
 exact⟨Y,Hp.refl _⟩
 have he:e≠0:=by omega
 refine Xr e19<|J4 Y<|J6<|J1<|uT yG (by kernel_rfl) ?_
 rintro w1 hw1
 have H1:=Hp.drew H;rw[← hw1]at H1
 refine SV (zK Y)<|SV (yI Y)<|SV (EF mD Y)<|SV (EL pR Y (H1.cell (i:=0) Y Y))<|vJ e19<|SV (zK Y)<|SV (yI Y)<|SV (EF iU Y)<|SV (EL ty3 Y (H1.cell (i:=0) Y Y))<|vJ e19<|SV (zO Y)<|SV (zO Y)<|xU<|cR e19<|J5<|Ea Y Y Y ?_
 rw[if_neg he]
 exact⟨Y,by rw[hw1];exact(Hp.refl w0).drew⟩
theorem V6 (gr:Nat) (A:Option Addr) (c:Nat) (b:List UInt8) (i e:Nat) (w0:World) (hR:Rdr w0 gr A c b i e):zP Tryz.prog 105 #[.pointer (some ⟨gr,0,none⟩)] w0 (fun r w'=>r=.int .i64 ((if e=0∧i < b.length then 24 else e:Nat):Int)∧Hp w0 w' [] []):=by
 refine zE Tryz.func105 Tryz.ntmps105 Y<|cR e26 ?_
 have H:=Hp.old hR.row
 have hle:=hR.le
 have hln:=hR.len
 have hcp:=hR.cap
 have Hz:=Hp.refl w0
 refine Rq<|Xa Y<|Xr e26<|J1<|Rq<|Xm Y<|Dy (yE Tryz.underlying175 Y) (by simp)<|Xr e26<|J4 Y<|J6<|J1<|J1<|uT yG (by kernel_rfl) ?_
 rintro w1 hw1
 have H1:=Hp.drew H;rw[← hw1]at H1
 refine SV (zK Y)<|SV (yI Y)<|SV (EF mD Y)<|SV (EL pR Y (H1.cell (i:=0) Y Y))<|vJ e26<|vQ (xP Y Y) (fun hp9=>?_) (fun hp9=>?_)
 refine SV (zK Y)<|yQ Y<|SV (zK Y)<|vJ e26<|yQ Y<|SV (yI Y)<|yQ Y<|SV (EF iU Y)<|vJ e26<|yQ Y<|SV (EL ty3 Y (H1.cell (i:=0) Y Y))<|yQ Y<|SV (zK Y)<|vJ e26<|yQ Y<|SV (yI Y)<|yQ Y<|SV (EF eV Y)<|vJ e26<|yQ Y<|SV (EL xK Y (H1.cell (i:=0) Y Y))<|yQ Y<|SV (ES Tryz.underlying73 Y)<|vJ e26<|yQ Y<|vQ (zQ Y Y) (fun hp20=>?_) (fun hp20=>?_)
 refine SV (xS Y Y)<|xU<|cR e26<|J3 Y<|Rq<|Xa Y<|Xr e26<|J5<|Ak Y Y ?_
 rw[if_pos (by omega)]
 exact⟨Y,by rw[hw1];exact(Hp.refl w0).drew⟩
 refine SV (xS Y Y) ?_
 have m1:=()
 rotate_left 1
 refine SV (zK Y)<|yY Y<|vJ e26<|yY Y<|yY Y<|vJ e26<|yY Y<|yY Y<|vJ e26<|yY Y<|yY Y<|vJ e26<|yY Y<|yY Y<|vJ e26<|yY Y<|SV (wT Y Y) ?_
 have m1:=()
 rotate_left 1
 any_goals
  clear m1
  refine xU<|cR e26<|J4 Y<|J6<|Rq<|Xm Y<|Xc Y<|Xf mD Y<|OV (EL pR Y (H1.cell (i:=0) Y Y))<|Aa e26<|Xa Y<|Xr e26<|J5<|Ak Y Y ?_
  rw[if_neg (by omega)]
  exact⟨Y,by rw[hw1];exact(Hp.refl w0).drew⟩
end Go.Proofs.YtjoeklkmnfaabaaGreat
namespace Go.Proofs.YtjoeklkmnfaabaaGreat
open Go Go.RowKit
set_option linter.unusedVariables false
attribute [local irreducible] yT Ops zP Cd
end Go.Proofs.YtjoeklkmnfaabaaGreat
namespace Go.Proofs.YtjoeklkmnfaabaaGreat
open Go Go.RowKit
set_option linter.unusedVariables false
set_option linter.unusedSimpArgs false
theorem pow7 (i:Nat):2^(7*(i+1))=128*2^(7*i):=by rw[Nat.mul_add,Nat.pow_add];omega
theorem aS (v i:Nat):v % 128*2^(7*i)+v / 128*2^(7*(i+1))=v*2^(7*i):=by
 rw[pow7,← Nat.mul_assoc,← Nat.add_mul]
 congr 1
 omega
theorem KI (t:List UInt8) (v:Nat):∀ (i w:Nat),v*2^(7*i) < 2^64→(0 < i→0 < v)→i≤9→sL (enc v++t) i w=(w+v*2^(7*i),i+(enc v).length,0):=by
 induction v using Nat.strongRecOn with
 | _ v ih=>
  intro i w hv h0 hi
  have h9:i=9→v≤1:=by
   rintro rfl
   have:(2:Nat)^(7*9)=9223372036854775808:=by decide
   rw[this]at hv
   have:(2:Nat)^64=18446744073709551616:=by decide
   omega
  by_cases h:v < 128
  · rw[enc_lt h]
    simp only[List.cons_append,List.nil_append,sL,u8n (show v < 256 by omega),List.length_cons,List.length_nil]
    rw[if_neg (by omega),if_neg (by omega),if_neg (by omega),Nat.mod_eq_of_lt h]
  · have hc:(UInt8.ofNat (v % 128+128)).toNat=v % 128+128:=u8n (by omega)
    rw[bH (by omega)]
    simp only[List.cons_append,sL,hc,List.length_cons]
    have hle:v / 128*2^(7*(i+1))≤v*2^(7*i):=by have:=aS v i;omega
    rw[if_neg (by omega),if_pos (by omega),ih (v / 128) (by omega) (i+1) _ (by omega) (fun _=>by omega) (by omega)]
    have e1:(v % 128+128) % 128=v % 128:=by omega
    rw[e1,Nat.add_assoc w,aS,Nat.add_assoc,Nat.add_comm 1]
theorem kH (v:Nat) (t:List UInt8) (hv:v < 2^64):xM (enc v++t)=(v,(enc v).length,0):=by
 rw[DI,KI t v 0 0 (by simpa using hv) (by omega) (by omega)]
 simp
theorem E0 (n:Int) (h1:-9223372036854775808≤n) (h2:n≤9223372036854775807):zig n < 2^64:=by
 unfold zig
 split <;>omega
theorem QV (n:Int):unz (zig n)=n:=by
 unfold zig unz
 split <;>split <;>omega
section app
variable {P:Program} {ds:List Deferred} {Q:vN} {K:List Value→World→Prop} {all os:List Oper} {l:List Value} {w0 w w':World} {S S':List Nat} {es es':List Ent} {ty t:TypeId} {pos:String} {af:Array Edge} {d:Tmp} {v:Value} {op:Op}
 {zs cs:List Value} {agg:Bool} {x y:Operand}
end app
section rdw
variable {w w':World} {gr:Nat} {A:Option Addr} {c:Nat} {b:List UInt8} {i e:Nat}
end rdw
theorem tdivN (k:IntKind) (a b:Nat) (h:k.wrap ((a / b:Nat):Int)=((a / b:Nat):Int)):k.wrap (((a:Int)).tdiv (b:Int))=((a / b:Nat):Int):=h
theorem bW {b:List UInt8} {most:Int} {i e:Nat} (he:e≠0):wJ b most i e=(0,i,e):=by unfold wJ;rw[if_neg he]
theorem EH {b:List UInt8} {most:Int} {i:Nat} (h:(xM (b.drop i)).2.2≠0):wJ b most i 0=(0,i,(xM (b.drop i)).2.2):=by unfold wJ;rw[if_pos rfl,lR h];rfl
theorem EG {b:List UInt8} {most:Int} {i:Nat} (h:(xM (b.drop i)).2.2=0) (h2:max most 0 < ((xM (b.drop i)).1:Int)):wJ b most i 0=(0,i,22):=by unfold wJ;rw[if_pos rfl,lP h h2];rfl
theorem eJ {b:List UInt8} {most:Int} {i:Nat} (h:(xM (b.drop i)).2.2=0) (h2:¬max most 0 < ((xM (b.drop i)).1:Int)):wJ b most i 0=((xM (b.drop i)).1,i+(xM (b.drop i)).2.1,0):=by unfold wJ;rw[if_pos rfl,oD h h2]
end Go.Proofs.YtjoeklkmnfaabaaGreat
namespace Go.Proofs.YtjoeklkmnfaabaaGreat
set_option maxRecDepth 100000
set_option maxHeartbeats 4000000
open Go Go.RowKit
set_option linter.unusedVariables false
attribute [local irreducible] yT Ops zP Cd
theorem pI {b:List UInt8} {i e:Nat} (h:i≤b.length):(yK b i e).2.1≤b.length:=by
 unfold yK
 split
 have:=(pJ (b.drop i)).2.1
 rw[List.length_drop]at this
 simp only;omega
 exact h
theorem K3 (b:List UInt8) (most:Int) (i e:Nat):wJ b most i e=if max most 0 < ((yK b i e).1:Int) then(0,i,22) else yK b i e:=by
 have hbd:=pJ (b.drop i)
 unfold yK
 by_cases he:e=0
 simp only[he,if_true]
 by_cases h1:(xM (b.drop i)).2.2=0
 by_cases h2:max most 0 < ((xM (b.drop i)).1:Int)
 rw[EG h1 h2,if_pos h2]
 rw[eJ h1 h2,if_neg h2,h1]
 obtain⟨a1,a2⟩:=hbd.2.2.2.2.1 h1
 rw[EH h1,a1,a2,if_neg (by omega)]
 rfl
 rw[bW he]
 simp only[he,if_false]
 rw[if_neg (by omega)]
theorem DH {b:List UInt8} {i e:Nat} (h:(yK b i e).2.2≠0):(yK b i e).2.1=i:=by
 have hbd:=pJ (b.drop i)
 unfold yK at h ⊢
 split
 rename_i he
 rw[if_pos he]at h
 have:=(hbd.2.2.2.2.1 h).2
 simp only;omega
 rfl
theorem B8 {b:List UInt8} {most:Int} {i e:Nat} (h:i≤b.length):(wJ b most i e).2.1≤b.length∧(wJ b most i e).1 < 2^64∧((wJ b most i e).1:Int)≤max most 0∧((wJ b most i e).2.2≠0→(wJ b most i e).2.1=i):=by
 rw[K3]
 have hlt:=nU b i e
 have h2:=pI (b:=b) (e:=e) h
 have h3:=@DH b i e
 split
 simp;omega
 exact⟨h2,hlt,by omega,h3⟩
end Go.Proofs.YtjoeklkmnfaabaaGreat
namespace Go.Proofs.YtjoeklkmnfaabaaGreat
open Go Go.RowKit
set_option linter.unusedVariables false
set_option linter.unusedSimpArgs false
section
variable {w0 w w':World} {S:List Nat} {es es' es1 es2 R:List Ent}
end
section
variable {P:Program} {l:List Value} {w:World} {ty t:TypeId} {x y:Operand} {zs:List Value} {sz bytes:Nat} {agg:Bool}
end
section
variable {P:Program} {ds:List Deferred} {Q:vN} {K:List Value→World→Prop} {all os:List Oper} {l:List Value} {w0 w w':World} {S:List Nat} {es:List Ent} {ty src dst e:TypeId} {pos:String} {af:Array Edge} {d:Tmp} {x:Operand}
theorem nS (hs:P.underlying src=some .string) (hd:P.underlying dst=some (.slice e)) (he:P.underlying e=some (.int .u8)) (H:Hp w0 w S es) {s:List UInt8} (hx:ev l x=some (.string ⟨s.toArray⟩))
 (k:∀ w' g c,Hp w0 w' S es→Rd w' (some ⟨g,0,none⟩) s.length 1 (u8s s)→g=w.heap.size→w'.heap.size=w.heap.size+1→Ops P ds all K Q os (l.set d (.slice (some ⟨g,0,none⟩) s.length c)) w'):Ops P ds all K Q (⟨some d,.convert src dst x,ty,pos,af,none⟩::os) l w:=by
 have hr:=run_bytes_of_string (P:=P) w src dst e ⟨s.toArray⟩ hs hd he
 have hsz:(ByteArray.mk s.toArray).size=s.length:=by show s.toArray.size=_;simp
 rw[hsz]at hr
 refine zD (w':=w.drew.alloc (.cells (bytesRow ⟨s.toArray⟩ (grownCap w s.length 0 e)) e ((bytesRow ⟨s.toArray⟩ (grownCap w s.length 0 e)).size,(bytesRow ⟨s.toArray⟩ (grownCap w s.length 0 e)).size+1))) ?_ (k _ w.heap.size (grownCap w s.length 0 e) (H.drew.Nv _) ⟨yV _,?_,fun h=>by cases h⟩ Y ?_)
 · intro _ _ _ _
   simp[execOp,zV hx,hr]
 · intro a ha j u hu
   cases ha
   have hj:j < s.length:=by have:=lt_of_get hu;simpa[u8s]using this
   rw[Dn,Nat.zero_add]
   refine(World.cell?_alloc_mark w.drew _ e _ j).trans ?_
   rw[bytesRow_at _ _ j (by simpa using hj),← hu]
   simp[u8s,hj]
 · simp
theorem eI (hs:P.underlying src=some (.slice e)) (he:P.underlying e=some (.int .u8)) (hd:P.underlying dst=some .string) {A:Option Addr} {c:Nat} {s:List UInt8} (hx:ev l x=some (.slice A s.length c)) (hr:Rd w A s.length 1 (u8s s)):
 Ex P l (.convert src dst x) ty w (.value (.string ⟨s.toArray⟩)) w:=fun _ _ _ _=>by
 have h:(convert src dst (.slice A s.length c)).run P w=.ok (.string ⟨s.toArray⟩) w:=by
  cases A with
  | none=>
   have h0:=hr.nil rfl
   have:s=[]:=List.eq_nil_of_length_eq_zero h0
   subst this
   rw[run_convert_bytes_string w src dst e none _ c hs he hd]
   simp[Conv.bytesToString]
   rfl
  | some a=>exact run_convert_bytes_back w src dst e a c s hs he hd fun j hj=>hr.cells a rfl j _ (lX hj)
 simp[execOp,zV hx,h]
end
inductive Fv 
 | int (n:Int)
 | flag (x:Bool)
 | text (s:List UInt8)
 | bytes (s:List UInt8)
 | word (n:Nat)
 | count (n:Nat)
inductive Kd 
 | int
 | flag
 | text
 | bytes
 | word
 | count
def Fv.kd :Fv→Kd
 | .int _=> .int
 | .flag _=> .flag
 | .text _=> .text
 | .bytes _=> .bytes
 | .word _=> .word
 | .count _=> .count
def rI :Fv→List UInt8
 | .int n=>vX n
 | .flag x=>[if x then 1 else 0]
 | .text s=>xY s
 | .bytes s=>xY s
 | .word n=>enc n
 | .count n=>enc n
def wM :Fv→Bool
 | .text s=>decide (65535 < s.length)
 | .bytes s=>decide (65535 < s.length)
 | .count n=>decide (1024 < n)
 | _=>false
structure WS where
 out:List UInt8
 long:Bool
def iC (x:List UInt8) (st:WS):WS:=if st.long=true∨65536 < st.out.length+x.length then⟨st.out,true⟩ else⟨st.out++x,st.long⟩
def qL (f:Fv) (st:WS):WS:=if st.long=true then st else if wM f=true then⟨st.out,true⟩ else iC (rI f) st
def xX (fs:List Fv) (st:WS):WS:=fs.foldl (fun st f=>qL f st) st
theorem wW (a b:List Fv) (st:WS):xX (a++b) st=xX b (xX a st):=by simp[xX]
theorem dH (f:Fv) (st:WS):xX [f] st=qL f st:=rfl
theorem gO {fs:List Fv} {q:Nat} (h:q < fs.length) (st:WS):xX (fs.take (q+1)) st=qL fs[q] (xX (fs.take q) st):=by
 rw[List.take_add_one,List.getElem?_eq_getElem h,wW];rfl
theorem tI (fs:List Fv) (k n:Nat) (st:WS):xX ((fs.drop k).take n) (xX (fs.take k) st)=xX (fs.take (k+n)) st:=by
 rw[List.take_add,wW]
theorem oU {f:Fv} {st:WS} (h:st.long=true):qL f st=st:=if_pos h
theorem iD {f:Fv} {st:WS} (h:st.long=false) (h2:wM f=true):qL f st=⟨st.out,true⟩:=by unfold qL;rw[if_neg (by simp[h]),if_pos h2]
theorem mR {f:Fv} {st:WS} (h:st.long=false) (h2:wM f=false):qL f st=iC (rI f) st:=by unfold qL;rw[if_neg (by simp[h]),if_neg (by simp[h2])]
theorem bZ {fs:List Fv} {st:WS} (h:st.long=true):xX fs st=st:=by
 induction fs with
 | nil=>rfl
 | cons f fs ih=>
  show xX fs (qL f st)=st
  rw[oU h];exact ih
theorem QG {x:List UInt8} {st:WS} (h:st.out.length≤65536):(iC x st).out.length≤65536:=by
 unfold iC
 split
 · exact h
 · simp only[List.length_append];omega
theorem QH {f:Fv} {st:WS} (h:st.out.length≤65536):(qL f st).out.length≤65536:=by
 unfold qL
 split
 · exact h
 · split
   · exact h
   · exact QG h
theorem QI {fs:List Fv} {st:WS} (h:st.out.length≤65536):(xX fs st).out.length≤65536:=by
 induction fs generalizing st with
 | nil=>exact h
 | cons f fs ih=>exact ih (QH h)
def Oc (f:Fv) (st:WS):WS:=match f with
 | .int _ | .flag _ | .word _=>⟨st.out++rI f,st.long⟩
 | f=>if st.long=true∨wM f=true then⟨st.out,true⟩ else⟨st.out++rI f,false⟩
def qM (fs:List Fv) (st:WS):WS:=fs.foldl (fun st f=>Oc f st) st
theorem CM (a b:List Fv) (st:WS):qM (a++b) st=qM b (qM a st):=by simp[qM]
theorem JK {fs:List Fv} {q:Nat} (h:q < fs.length) (st:WS):qM (fs.take (q+1)) st=Oc fs[q] (qM (fs.take q) st):=by
 rw[List.take_add_one,List.getElem?_eq_getElem h,CM];rfl
theorem mL {x:List UInt8} {st:WS} (h:st.long=true∨wM (.bytes x)=true):qM [.bytes x] st=⟨st.out,true⟩:=if_pos h
theorem dJ {x:List UInt8} {st:WS} (h:st.long=false) (h2:wM (.bytes x)=false):qM [.bytes x] st=⟨st.out++xY x,false⟩:=if_neg (by simp[h,h2])
theorem mS {x:List UInt8} {st:WS} (h:st.long=true∨wM (.text x)=true):qM [.text x] st=⟨st.out,true⟩:=if_pos h
def FOk :Fv→Prop
 | .int n=>-9223372036854775808≤n∧n≤9223372036854775807
 | .word n=>n < 4294967296
 | _=>True
theorem gA {f:Fv} (h:FOk f) (h2:wM f=false):(rI f).length≤65545:=by
 cases f with
 | int n=>have:=uY (E0 n h.1 h.2);show(vX n).length≤_;rw[rG];omega
 | flag x=>show 1≤65545;omega
 | text s=>
  have h3:s.length≤65535:=by simpa[wM]using h2
  have:=uY (v:=s.length) (by omega)
  show(xY s).length≤_
  rw[rA,List.length_append];omega
 | bytes s=>
  have h3:s.length≤65535:=by simpa[wM]using h2
  have:=uY (v:=s.length) (by omega)
  show(xY s).length≤_
  rw[rA,List.length_append];omega
 | word n=>
  have h1:n < 4294967296:=h
  have:=uY (v:=n) (by omega);show(enc n).length≤_;omega
 | count n=>
  have h3:n≤1024:=by simpa[wM]using h2
  have:=uY (v:=n) (by omega);show(enc n).length≤_;omega
def rW (a b:WS):Prop:=(a.long=true∧(b.long=true∨65536 < b.out.length))∨(a.long=false∧b.long=false∧a.out=b.out∧a.out.length≤65536)
theorem JJ {f:Fv} {st:WS} (h:st.long=true):(Oc f st).long=true:=by
 cases f <;>simp[Oc,h]
theorem JI {f:Fv} {st:WS}:st.out.length≤(Oc f st).out.length:=by
 cases f with
 | int n=>show _≤(st.out++_).length;simp
 | flag x=>show _≤(st.out++_).length;simp
 | text s=>show _≤(if _ then _ else _:WS).out.length;split <;>simp
 | bytes s=>show _≤(if _ then _ else _:WS).out.length;split <;>simp
 | word n=>show _≤(st.out++_).length;simp
 | count n=>show _≤(if _ then _ else _:WS).out.length;split <;>simp
theorem LE {a b:WS} (f:Fv) (h:rW a b):rW (qL f a) (Oc f b):=by
 rcases h with ⟨h1,h2⟩ | ⟨h1,h2,h3,h4⟩
 · rw[oU h1]
   refine .inl ⟨h1,?_⟩
   rcases h2 with h2 | h2
   · exact .inl (JJ h2)
   · exact .inr (Nat.lt_of_lt_of_le h2 JI)
 · have key:wM f=false→rW (iC (rI f) a) ⟨b.out++rI f,false⟩:=by
    intro _
    unfold iC
    split
    · rename_i h
      refine .inl ⟨Y,.inr ?_⟩
      rcases h with h | h
      · rw[h1]at h;cases h
      · simp only[List.length_append,← h3];exact h
    · rename_i h
      have:=not_or.1 h
      exact .inr ⟨h1,Y,by simp[h3],by simp only[List.length_append];omega⟩
   by_cases ht:wM f=true
   · rw[iD h1 ht]
     refine .inl ⟨Y,.inl ?_⟩
     cases f with
     | int n=>cases ht
     | flag x=>cases ht
     | text s=>show(if _ then _ else _:WS).long=true;rw[if_pos (.inr ht)]
     | bytes s=>show(if _ then _ else _:WS).long=true;rw[if_pos (.inr ht)]
     | word n=>cases ht
     | count n=>show(if _ then _ else _:WS).long=true;rw[if_pos (.inr ht)]
   · have ht':wM f=false:=by simpa using ht
     rw[mR h1 ht']
     have hv:Oc f b=⟨b.out++rI f,false⟩:=by
      cases f with
      | int n=>show(⟨_,b.long⟩:WS)=_;rw[h2]
      | flag x=>show(⟨_,b.long⟩:WS)=_;rw[h2]
      | text s=>show(if _ then _ else _:WS)=_;rw[if_neg (by simp[h2,ht'])]
      | bytes s=>show(if _ then _ else _:WS)=_;rw[if_neg (by simp[h2,ht'])]
      | word n=>show(⟨_,b.long⟩:WS)=_;rw[h2]
      | count n=>show(if _ then _ else _:WS)=_;rw[if_neg (by simp[h2,ht'])]
     rw[hv]
     exact key ht'
theorem LF {a b:WS} (fs:List Fv) (h:rW a b):rW (xX fs a) (qM fs b):=by
 induction fs generalizing a b with
 | nil=>exact h
 | cons f fs ih=>exact ih (LE f h)
def tT (b:List UInt8) (i e:Nat):Nat×Nat×Nat:=if 4294967295 < (yK b i e).1 then(0,i,21) else yK b i e
def rdF (k:Kd) (b:List UInt8) (i e:Nat):Fv×Nat×Nat:=match k with
 | .word=>(.word (tT b i e).1,(tT b i e).2)
 | .count=>(.count (wJ b 1024 i e).1,(wJ b 1024 i e).2)
 | .int=>(.int (unz (yK b i e).1),(yK b i e).2)
 | .flag=>(.flag (tY b i e).1,(tY b i e).2)
 | .text=>(.text (yF b 65535 i e).1,(yF b 65535 i e).2)
 | .bytes=>(.bytes (yF b 65535 i e).1,(yF b 65535 i e).2)
def vS :List Kd→List UInt8→Nat→Nat→List Fv×Nat×Nat
 | [],_,i,e=>([],i,e)
 | k::ks,b,i,e=>((rdF k b i e).1::(vS ks b (rdF k b i e).2.1 (rdF k b i e).2.2).1,(vS ks b (rdF k b i e).2.1 (rdF k b i e).2.2).2)
theorem nP :∀ (a c:List Kd) (b:List UInt8) (i e:Nat),vS (a++c) b i e=((vS a b i e).1++(vS c b (vS a b i e).2.1 (vS a b i e).2.2).1,(vS c b (vS a b i e).2.1 (vS a b i e).2.2).2)
 | [],c,b,i,e=>rfl
 | k::a,c,b,i,e=>by
  simp only[List.cons_append,vS,nP a c]
theorem JY {a c:List Kd} {b:List UInt8} {i e i1 e1 i2 e2:Nat} {f1 f2:List Fv} (h1:vS a b i e=(f1,i1,e1)) (h2:vS c b i1 e1=(f2,i2,e2)):vS (a++c) b i e=(f1++f2,i2,e2):=by
 rw[nP,h1]
 simp only[h2]
theorem gY (k:Kd) (b:List UInt8) (i e:Nat):vS [k] b i e=([(rdF k b i e).1],(rdF k b i e).2):=rfl
theorem C0 :∀ (ks:List Kd) (b:List UInt8) (i e:Nat),(vS ks b i e).1.map Fv.kd=ks
 | [],_,_,_=>rfl
 | k::ks,b,i,e=>by
  simp only[vS,List.map_cons]
  rw[C0 ks]
  cases k <;>rfl
def zF :Kd→Fv
 | .int=> .int 0
 | .flag=> .flag false
 | .text=> .text []
 | .bytes=> .bytes []
 | .word=> .word 0
 | .count=> .count 0
theorem AR {b:List UInt8} {i e:Nat} (h:e≠0):tT b i e=(0,i,e):=by
 have h1:yK b i e=(0,i,e):=by unfold yK;rw[if_neg h]
 unfold tT
 rw[h1,if_neg (by show ¬4294967295 < 0;decide)]
theorem eR {k:Kd} {b:List UInt8} {i e:Nat} (h:e≠0):rdF k b i e=(zF k,i,e):=by
 cases k
 · show(Fv.int (unz (yK b i e).1),(yK b i e).2)=_
   unfold yK;rw[if_neg h];show(Fv.int (unz 0),i,e)=(Fv.int 0,i,e);rw[show unz 0=0 by simp[unz]]
 · show(Fv.flag (tY b i e).1,(tY b i e).2)=_
   unfold tY;rw[if_neg h];rfl
 · show(Fv.text (yF b 65535 i e).1,(yF b 65535 i e).2)=_
   unfold yF;rw[if_neg h];rfl
 · show(Fv.bytes (yF b 65535 i e).1,(yF b 65535 i e).2)=_
   unfold yF;rw[if_neg h];rfl
 · show(Fv.word (tT b i e).1,(tT b i e).2)=_
   rw[AR h];rfl
 · show(Fv.count (wJ b 1024 i e).1,(wJ b 1024 i e).2)=_
   unfold wJ;rw[if_neg h];rfl
theorem mT {b:List UInt8} {i e:Nat} (h:i≤b.length):(yF b 65535 i e).2.1≤b.length∧(yF b 65535 i e).1.length≤b.length:=by
 unfold yF
 split
 · have h1:=(aE (b.drop i) 65535).1
   rw[List.length_drop]at h1
   refine⟨by simp only;omega,?_⟩
   simp only
   unfold vE
   split
   · simp
   · split
     · simp
     · simp only[List.length_take,List.length_drop];omega
 · exact⟨h,by simp⟩
theorem DZ {b:List UInt8} {i e:Nat} (h:i≤b.length):(tY b i e).2.1≤b.length:=by
 unfold tY
 split
 · have h1:=(KU (b.drop i)).1
   rw[List.length_drop]at h1
   simp only;omega
 · exact h
theorem CH {b:List UInt8} {i e:Nat} (h:i≤b.length):(tT b i e).2.1≤b.length:=by
 unfold tT
 split
 · exact h
 · exact pI h
theorem UZ {k:Kd} {b:List UInt8} {i e:Nat} (h:i≤b.length):(rdF k b i e).2.1≤b.length:=by
 cases k
 · exact pI h
 · exact DZ h
 · exact(mT h).1
 · exact(mT h).1
 · exact CH h
 · exact(B8 h).1
theorem LW {v:Nat} (h:v < 2^64):-9223372036854775808≤unz v∧unz v≤9223372036854775807:=by
 unfold unz
 split <;>omega
def FP (w:World) (ok:Nat→Prop) (f:Fv) (v:Value):Prop:=match f with
 | .int n=>v=.int .i64 n∧-9223372036854775808≤n∧n≤9223372036854775807
 | .flag x=>v=.bool x
 | .text s=>v=yC s
 | .bytes s=>∃ (B:Option Addr) (c:Nat),v=.slice B s.length c∧Rd w B s.length 1 (u8s s)∧(0 < s.length→∀ p,B=some p→ok p.block)
 | .word n=>v=.int .u32 (n:Int)∧n < 4294967296
 | .count _=>v=.bool false
theorem Rd.apt {w w':World} {S:List Nat} {es:List Ent} {B:Option Addr} {n z:Nat} {xs:List Value} (hr:Rd w B n z xs) (hn:0 < n*z) (ha:∀ p,B=some p→p.block∉S) (H:Hp w w' S es):∀ p,B=some p→p.block∉bl es:=by
 intro p hp hb
 obtain⟨⟨g,T,cs⟩,he,hg⟩:=List.mem_filterMap.1 hb
 obtain⟨i,hi⟩:=List.getElem?_of_mem he
 simp only at hg
 subst hg
 have h1:=H.place hi
 have h2:0 < xs.length:=by rw[hr.len];exact hn
 have h3:=World.block_lt_of_cell? w _ (hr.cells p hp 0 _ (List.getElem?_eq_getElem h2))
 rw[Addr.add_zero']at h3
 rcases h1 with h1 | h1
 · exact ha p hp h1
 · omega
section
variable {w w':World} {ok ok':Nat→Prop} {S:List Nat} {es es':List Ent} {f:Fv} {v:Value}
theorem FP.mono (h:FP w ok f v) (hs:∀ b,ok b→ok' b):FP w ok' f v:=by
 cases f with
 | bytes s=>
  obtain⟨B,c,h1,h2,h3⟩:=h
  exact⟨B,c,h1,h2,fun h0 p hp=>hs _ (h3 h0 p hp)⟩
 | _=>exact h
theorem FP.to (h:FP w ok f v) (H:Hp w w' S es) (hs:∀ b,ok b→b∉S):FP w' (fun b=>ok b∧b∉bl es) f v:=by
 cases f with
 | bytes s=>
  obtain⟨B,c,h1,h2,h3⟩:=h
  by_cases h0:0 < s.length
  · exact⟨B,c,h1,h2.to H fun p hp=>hs _ (h3 h0 p hp),fun _ p hp=>⟨h3 h0 p hp,h2.apt (by omega) (fun p hp=>hs _ (h3 h0 p hp)) H p hp⟩⟩
  · have:s=[]:=List.eq_nil_of_length_eq_zero (by omega)
    subst this
    exact⟨B,c,h1,⟨Y,fun _ _ _ _ hu=>by simp[u8s]at hu,fun _=>Y⟩,fun h=>absurd h (by simp)⟩
 | _=>exact h
theorem FP.fok (h:FP w ok f v):FOk f:=by
 cases f with
 | int n=>exact h.2
 | word n=>exact h.2
 | _=>trivial
theorem FP.one (h:FP w ok f v):v.oneCell'=true:=by
 cases f with
 | int n=>rw[h.1];rfl
 | word n=>rw[h.1];rfl
 | flag x=>rw[show v=.bool x from h];rfl
 | text s=>rw[show v=yC s from h];rfl
 | bytes s=>obtain⟨B,c,h1,_⟩:=h;rw[h1];rfl
 | count n=>rw[show v=.bool false from h];rfl
end
abbrev FC (w:World) (es:List Ent) (f:Fv) (v:Value):Prop:=FP w (fun b=>b∉bl es) f v
def Tw (w:World) (b:Nat):Prop:=∃ arr U,w.heap[b]? =some (.cells arr U (0,0))
theorem Tw.to {w w':World} {S:List Nat} {es:List Ent} {b:Nat} (h:Tw w b) (H:Hp w w' S es) (hb:b∉S):Tw w' b:=by
 obtain⟨arr,U,h⟩:=h
 exact⟨arr,U,H.keep h hb⟩
def Fr (w:World) (n:Nat) (es:List Ent) (b:Nat):Prop:=n≤b∧b∉bl es∧Tw w b
theorem FC.to {w w':World} {es es':List Ent} {f:Fv} {v:Value} (h:FC w es f v) (H:Hp w w' (bl es) es'):FC w' es' f v:=(FP.to h H fun _ h=>h).mono fun _ h=>h.2
structure FPs (w:World) (ok:Nat→Prop) (fs:List Fv) (vs:List Value):Prop where
 len:vs.length=fs.length
 each:∀ i (h:i < fs.length),∃ v,vs[i]? =some v∧FP w ok fs[i] v
abbrev YU (w:World) (es:List Ent) (fs:List Fv) (vs:List Value):Prop:=FPs w (fun b=>b∉bl es) fs vs
abbrev NFs (w:World) (n:Nat) (es:List Ent) (fs:List Fv) (vs:List Value):Prop:=FPs w (Fr w n es) fs vs
section
variable {w w':World} {ok ok':Nat→Prop} {S:List Nat} {es es':List Ent} {fs gs:List Fv} {vs us:List Value} {n:Nat}
theorem FPs.nil :FPs w ok [] []:=⟨rfl,fun i h=>by cases h⟩
theorem FPs.one {f:Fv} {v:Value} (h:FP w ok f v):FPs w ok [f] [v]:=⟨rfl,fun i hi=>by
 have:i=0:=by simp at hi;omega
 subst this
 exact⟨v,Y,h⟩⟩
theorem FPs.mono (h:FPs w ok fs vs) (hs:∀ b,ok b→ok' b):FPs w ok' fs vs:=⟨h.len,fun i hi=>by
 obtain⟨v,h1,h2⟩:=h.each i hi
 exact⟨v,h1,h2.mono hs⟩⟩
theorem FPs.to (h:FPs w ok fs vs) (H:Hp w w' S es) (hs:∀ b,ok b→b∉S):FPs w' (fun b=>ok b∧b∉bl es) fs vs:=⟨h.len,fun i hi=>by
 obtain⟨v,h1,h2⟩:=h.each i hi
 exact⟨v,h1,h2.to H hs⟩⟩
theorem NFs.to (h:NFs w n es fs vs) (H:Hp w w' (bl es) es'):NFs w' n es' fs vs:=(FPs.to h H fun _ h=>h.2.1).mono fun _ h=>⟨h.1.1,h.2,h.1.2.2.to H h.1.2.1⟩
theorem FPs.app (h:FPs w ok fs vs) (h2:FPs w ok gs us):FPs w ok (fs++gs) (vs++us):=by
 refine⟨by simp[h.len,h2.len],fun i hi=>?_⟩
 by_cases hin:i < fs.length
 · rw[List.getElem_append_left hin]
   obtain⟨v,q1,q2⟩:=h.each i hin
   exact⟨v,by rw[List.getElem?_append_left (by rw[h.len];exact hin)];exact q1,q2⟩
 · rw[List.getElem_append_right (by omega)]
   have hi2:i - fs.length < gs.length:=by simp only[List.length_append]at hi;omega
   obtain⟨v,q1,q2⟩:=h2.each _ hi2
   exact⟨v,by rw[List.getElem?_append_right (by rw[h.len];omega),h.len];exact q1,q2⟩
theorem FPs.fok (h:FPs w ok fs vs):∀ f∈fs,FOk f:=by
 intro f hf
 obtain⟨i,hi,rfl⟩:=List.getElem_of_mem hf
 obtain⟨v,_,h2⟩:=h.each i hi
 exact h2.fok
theorem FPs.ones (h:FPs w ok fs vs):vs.all (·.oneCell')=true:=by
 rw[List.all_eq_true]
 intro v hv
 obtain⟨i,hi,rfl⟩:=List.getElem_of_mem hv
 obtain⟨u,h1,h2⟩:=h.each i (by rw[← h.len];exact hi)
 rw[List.getElem?_eq_getElem hi]at h1
 cases h1
 exact h2.one
end
theorem FQ {fs:List Fv} {k:Kd} (h:fs.map Fv.kd=[k]):∃ f,fs=[f]∧f.kd=k:=by
 match fs,h with
 | [f],h=>exact⟨f,rfl,by simpa using h⟩
theorem R2 {fs:List Fv} (h:fs.map Fv.kd=[.int]):∃ x,fs=[.int x]:=by
 obtain⟨f,rfl,h⟩:=FQ h
 cases f <;>first | exact⟨_,rfl⟩ | cases h
theorem NA {fs:List Fv} (h:fs.map Fv.kd=[.text]):∃ x,fs=[.text x]:=by
 obtain⟨f,rfl,h⟩:=FQ h
 cases f <;>first | exact⟨_,rfl⟩ | cases h
theorem aX {fs:List Fv} (h:fs.map Fv.kd=[.bytes]):∃ x,fs=[.bytes x]:=by
 obtain⟨f,rfl,h⟩:=FQ h
 cases f <;>first | exact⟨_,rfl⟩ | cases h
theorem FPs.head {w:World} {ok:Nat→Prop} {f:Fv} {vs:List Value} (h:FPs w ok [f] vs):∃ v,vs=[v]∧FP w ok f v:=by
 obtain⟨v,h1,h2⟩:=h.each 0 (by simp)
 have hl:=h.len
 match vs,hl,h1 with
 | [x],_,h1=>exact⟨v,by simpa using h1,h2⟩
theorem Rd.fc {w0 w:World} {S:List Nat} {es:List Ent} {B:Option Addr} {s:List UInt8} (h:Rd w0 B s.length 1 (u8s s)) (H:Hp w0 w S es) (ha:0 < s.length→∀ p,B=some p→p.block∉S):Rd w B s.length 1 (u8s s):=by
 by_cases h0:0 < s.length
 · exact h.to H (ha h0)
 · have:s=[]:=List.eq_nil_of_length_eq_zero (by omega)
   subst this
   exact⟨Y,fun _ _ _ _ hu=>by simp[u8s]at hu,fun _=>Y⟩
theorem fN {w0 w:World} {S:List Nat} {es:List Ent} (H:Hp w0 w S es) {g:Nat} (hg:w.heap.size≤g):g∉bl es:=by
 intro hb
 obtain⟨⟨g2,T2,cs2⟩,hm,hg2⟩:=List.mem_filterMap.1 hb
 obtain⟨j,hj⟩:=List.getElem?_of_mem hm
 simp only at hg2
 subst hg2
 have:=H.lt hj
 omega
theorem CJ {fs:List Fv} {q:Nat} (h:q < fs.length) (h2:wM fs[q]=true) (st:WS):xX fs st=⟨(xX (fs.take q) st).out,true⟩:=by
 have h3:xX fs st=xX (fs.drop (q+1)) (xX (fs.take (q+1)) st):=by rw[← wW,List.take_append_drop]
 rw[h3,gO h]
 generalize xX (fs.take q) st=s1
 have h4:qL fs[q] s1=⟨s1.out,true⟩:=by
  cases hl:s1.long with
  | true=>rw[oU hl,← hl]
  | false=>exact iD hl h2
 rw[h4,bZ rfl]
def At (cs:List Value) (o:Nat) (vs:List Value):Prop:=∀ j u,vs[j]? =some u→cs[o+j]? =some u
def zC :Kd→Value
 | .int=> .int .i64 0
 | .flag=> .bool false
 | .text=> .string ByteArray.empty
 | .bytes=> .slice none 0 0
 | .word=> .int .u32 0
 | .count=> .bool false
def zCs (ks:List Kd):List Value:=ks.map zC
theorem zFP (w:World) (ok:Nat→Prop) (k:Kd):FP w ok (zF k) (zC k):=by
 cases k
 · exact⟨Y,by decide,by decide⟩
 · rfl
 · rfl
 · exact⟨none,0,Y,Rd.none_ _ _,fun h=>absurd h (by simp)⟩
 · exact⟨Y,by decide⟩
 · rfl
theorem pB {cs vs:List Value} {o:Nat} (h:o+vs.length≤cs.length) (j:Nat):(zH cs o vs)[j]? =if j < o then cs[j]? else if j < o+vs.length then vs[j - o]? else cs[j]?:=by
 unfold zH
 by_cases h1:j < o
 · rw[if_pos h1,List.append_assoc,List.getElem?_append_left (by rw[List.length_take];omega),List.getElem?_take_of_lt h1]
 · rw[if_neg h1,List.append_assoc,List.getElem?_append_right (by rw[List.length_take];omega),List.length_take,Nat.min_eq_left (by omega)]
   by_cases h2:j < o+vs.length
   · rw[if_pos h2,List.getElem?_append_left (by omega)]
   · rw[if_neg h2,List.getElem?_append_right (by omega),List.getElem?_drop]
     congr 1;omega
theorem aO {cs a c:List Value} {o:Nat} (h:o+a.length+c.length≤cs.length):zH (zH cs o a) (o+a.length) c=zH cs o (a++c):=by
 apply List.ext_getElem?
 intro j
 have e1:o+(a++c).length≤cs.length:=by rw[List.length_append];omega
 have e2:o+a.length≤cs.length:=by omega
 have e3:(o+a.length)+c.length≤(zH cs o a).length:=by rw[vH e2];exact h
 rw[pB e3,pB e1,pB e2]
 by_cases h1:j < o
 · rw[if_pos (by omega),if_pos h1,if_pos h1]
 · rw[if_neg h1,if_neg h1,List.length_append]
   by_cases h2:j < o+a.length
   · rw[if_pos h2,if_pos h2,if_pos (by omega),List.getElem?_append_left (by omega)]
   · rw[if_neg h2,if_neg h2]
     by_cases h3:j < o+a.length+c.length
     · rw[if_pos h3,if_pos (by omega),List.getElem?_append_right (by omega)]
       congr 1;omega
     · rw[if_neg h3,if_neg (by omega)]
theorem kF (cs:List Value) (o:Nat):zH cs o []=cs:=by simp[zH]
theorem At.behind {cs a c:List Value} {o:Nat} (h:At cs (o+a.length) c) (h2:o+a.length≤cs.length):At (zH cs o a) (o+a.length) c:=by
 intro j u hu
 rw[pB h2,if_neg (by omega),if_neg (by omega)]
 exact h j u hu
theorem iJ {q:Nat} {k:Kd} {b:List UInt8} {i e i1 e1 i2 e2:Nat} {fd:List Fv} {f:Fv} (h:vS (List.replicate q k) b i e=(fd,i1,e1)) (h2:rdF k b i1 e1=(f,i2,e2)):vS (List.replicate (q+1) k) b i e=(fd++[f],i2,e2):=by
 rw[List.replicate_succ']
 refine JY h ?_
 rw[gY,h2]
theorem JZ {b:List UInt8} {i e i2 e2:Nat} {fd:List Fv} (h:vS [.bytes] b i e=(fd,i2,e2)):∃ t,fd=[.bytes t]∧rdF .text b i e=(.text t,i2,e2):=by
 rw[gY]at h
 simp only[Prod.mk.injEq]at h
 refine⟨(yF b 65535 i e).1,h.1.symm,?_⟩
 show(Fv.text (yF b 65535 i e).1,(yF b 65535 i e).2)=_
 have:(yF b 65535 i e).2=(i2,e2):=h.2
 rw[this]
theorem iH {cs us:List Value} {o q:Nat} {v:Value} (hq:us.length=q) (h:o+q < cs.length):(zH cs o us).set (o+q) v=zH cs o (us++[v]):=by
 subst hq
 rw[← aO (by simp only[List.length_cons,List.length_nil];omega),fA (by rw[vH (by omega)];exact h)]
theorem mX {cs us:List Value} {o q:Nat} {v:Value} (hq:us.length=q) (h:cs[o+q]? =some v):zH cs o (us++[v])=zH cs o us:=by
 have hl:=lt_of_get h
 rw[← iH hq hl]
 apply List.ext_getElem?
 intro k
 rw[List.getElem?_set]
 split
 · rename_i hk
   subst hk
   rw[if_pos (by rw[vH (by omega)];exact hl),pB (by omega),if_neg (by omega),if_neg (by omega),h]
 · rfl
theorem CX {cs us:List Value} {o q:Nat} (hq:us.length=q) (hf:o+q≤cs.length):(zH cs o us)[o+q]? =cs[o+q]?:=by
 rw[pB (by omega),if_neg (by omega),if_neg (by omega)]
structure Cl (w:World) (S:List Nat) (a:Addr) (vs:List Value):Prop where
 cell:∀ j u,vs[j]? =some u→w.cell? (a.add j)=some u
 apart:0 < vs.length→a.block∉S
theorem sK (a:Addr) (j:Nat):(a.add j).block=a.block:=by unfold Addr.add;split <;>rfl
theorem kW {w w':World} {S:List Nat} {es:List Ent} {p:Addr} {u:Value} (h:w.cell? p=some u) (H:Hp w w' S es) (hp:p.block∉S):w'.cell? p=some u:=by
 have hlt:=World.block_lt_of_cell? w _ h
 rw[World.cell?_of_block (w:=w)]
 · exact h
 · exact H.frame _ hlt hp
theorem PV {w w':World} {S:List Nat} {es:List Ent} {p:Addr} {u:Value} (h:w.cell? p=some u) (H:Hp w w' S es) (hp:p.block∉S):p.block∉bl es:=by
 intro hb
 obtain⟨⟨g,T,cs⟩,he,hg⟩:=List.mem_filterMap.1 hb
 obtain⟨i,hi⟩:=List.getElem?_of_mem he
 simp only at hg
 subst hg
 have h3:=World.block_lt_of_cell? w _ h
 rcases H.place hi with h1 | h1
 · exact hp h1
 · omega
theorem Cl.to {w w':World} {S:List Nat} {es:List Ent} {a:Addr} {vs:List Value} (h:Cl w S a vs) (H:Hp w w' S es):Cl w' (bl es) a vs:=by
 refine⟨fun j u hu=>kW (h.cell j u hu) H ?_,fun h0=>?_⟩
 · rw[sK];exact h.apart (Nat.zero_lt_of_lt (lt_of_get hu))
 · have:=PV (h.cell 0 _ (List.getElem?_eq_getElem h0)) H (by rw[sK];exact h.apart h0)
   rwa [sK]at this
theorem Cl.part {w:World} {S:List Nat} {a:Addr} {vs us:List Value} {o:Nat} (h:Cl w S a vs) (hat:At vs o us):Cl w S (a.add o) us:=by
 refine⟨fun j u hu=>?_,fun h0=>?_⟩
 · rw[tQ];exact h.cell _ _ (hat j u hu)
 · rw[sK];exact h.apart (by have:=lt_of_get (hat 0 _ (List.getElem?_eq_getElem h0));omega)
theorem Hp.cl {w0 w:World} {S:List Nat} {es:List Ent} {i g:Nat} {T:TypeId} {cs:List Value} (H:Hp w0 w S es) (he:es[i]? =some (some g,T,cs)) {S':List Nat} (hg:g∉S'):Cl w S' ⟨g,0,none⟩ cs:=by
 refine⟨fun j u hu=>?_,fun _=>hg⟩
 rw[Dn,Nat.zero_add];exact H.cell he hu
theorem At.self (cs:List Value):At cs 0 cs:=fun j u hu=>by rw[Nat.zero_add];exact hu
theorem At.trans {cs us vs:List Value} {o p:Nat} (h1:At cs o us) (h2:At us p vs):At cs (o+p) vs:=fun j u hu=>by rw[Nat.add_assoc];exact h1 _ _ (h2 j u hu)
def iM (a:Addr) (o n:Nat):List Value:=(List.range n).map fun i=> .pointer (some (a.add (o+i)))
theorem aQ {a:Addr} {o n i:Nat} (h:i < n):(iM a o n)[i]? =some (.pointer (some (a.add (o+i)))):=by simp[iM,h]
theorem BF (a:Addr) (o n:Nat):(iM a o n).length=n:=by simp[iM]
def fB (g o n:Nat):List Value:=(List.range n).map fun i=> .pointer (some ⟨g,o+i,none⟩)
theorem dY {g o n i:Nat} (h:i < n):(fB g o n)[i]? =some (.pointer (some ⟨g,o+i,none⟩)):=by simp[fB,h]
theorem eD (g o n:Nat):(fB g o n).length=n:=by simp[fB]
@[reducible] def pw (gp:Nat) (g:Option Nat) (cap:Nat) (sp:List Value) (st:WS):List Ent:=[(some gp,178,[.pointer none,.slice (hd g) st.out.length cap,.bool st.long,.int .i64 0]),(g,5,u8s st.out++sp)]
@[reducible] def pr (gp gr:Nat) (g:Option Nat) (c:Nat) (sp:List Value) (b:List UInt8) (i e:Nat):List Ent:=[(some gp,178,[.pointer (some ⟨gr,0,none⟩),.slice none 0 0,.bool false,.int .i64 0]),(some gr,219,rc (hd g) b c i e),(g,5,u8s b++sp)]
@[reducible] def vw (gp:Nat) (g:Option Nat) (cap:Nat) (sp:List Value) (st:WS):List Ent:=[(some gp,167,[.slice (hd g) st.out.length cap,.pointer none,.bool st.long]),(g,5,u8s st.out++sp)]
structure POk (m:Nat) (g:Option Nat) (cap:Nat) (sp:List Value) (st:WS):Prop where
 le:st.out.length≤cap
 room:cap*1≤(u8s st.out++sp).length
 nil:g=none→cap=0
 most:st.out.length≤m
theorem POk.mono {m m':Nat} {g:Option Nat} {cap:Nat} {sp:List Value} {st:WS} (h:POk m g cap sp st) (hm:m≤m'):POk m' g cap sp st:=⟨h.1,h.2,h.3,Nat.le_trans h.4 hm⟩
structure Th where
 X:Type
 sz:Nat
 mx:Nat
 zs:List Value
 fl:X→List Fv
 rd:List UInt8→Nat→Nat→X×Nat×Nat
 M:World→(Nat→Prop)→X→List Value→Prop
 z:X
 zM:∀ w ok,M w ok z zs
 zlen:zs.length=sz
 zone:zs.all (·.oneCell')=true
 len:∀ {w ok x vs},M w ok x vs→vs.length=sz
 mono:∀ {w ok ok' x vs},M w ok x vs→(∀ b,ok b→ok' b)→M w ok' x vs
 to:∀ {w w' ok x vs S es},M w ok x vs→Hp w w' S es→(∀ b,ok b→b∉S)→M w' (fun b=>ok b∧b∉bl es) x vs
 good:∀ {w ok x vs},M w ok x vs→∀ f∈fl x,FOk f
 ones:∀ {w ok x vs},M w ok x vs→vs.all (·.oneCell')=true
 bad:∀ {b i e},e≠0→(rd b i e).2=(i,e)
 le:∀ {b i e},i≤b.length→(rd b i e).2.1≤b.length
theorem aL :∀ (ks:List Kd) {b:List UInt8} {i e:Nat},e≠0→(vS ks b i e).2=(i,e)
 | [],_,_,_,_=>rfl
 | k::ks,b,i,e,h=>by
  show(vS ks b (rdF k b i e).2.1 (rdF k b i e).2.2).2=_
  rw[eR h]
  exact aL ks h
theorem CZ :∀ (ks:List Kd) {b:List UInt8} {i e:Nat},i≤b.length→(vS ks b i e).2.1≤b.length
 | [],_,_,_,h=>h
 | k::ks,b,i,e,h=>CZ ks (UZ h)
theorem zC_one (k:Kd):(zC k).oneCell'=true:=by cases k <;>rfl
theorem zFPs (w:World) (ok:Nat→Prop) (ks:List Kd):FPs w ok (ks.map zF) (zCs ks):=⟨by simp[zCs],fun i h=>by
 simp only[List.length_map]at h
 exact⟨zC ks[i],by simp[zCs,h],by simpa using zFP w ok ks[i]⟩⟩
@[reducible] def Th.flat (ks : List Kd) : Th where
  X := List Fv
  sz := ks.length
  mx := 65545 * ks.length
  zs := zCs ks
  fl x := x
  rd := vS ks
  M w ok x vs := x.map Fv.kd = ks ∧ FPs w ok x vs
  z := ks.map zF
  zM w ok := ⟨by rw [List.map_map]; conv => rhs; rw [← List.map_id ks]
                 exact List.map_congr_left fun k _ => by cases k <;> rfl, zFPs w ok ks⟩
  zlen := by simp [zCs]
  zone := by rw [zCs, List.all_map, List.all_eq_true]; intro k _; exact zC_one k
  len h := by rw [h.2.len, ← h.1]; simp
  mono h hs := ⟨h.1, h.2.mono hs⟩
  to h H hs := ⟨h.1, h.2.to H hs⟩
  good h := h.2.fok
  ones h := h.2.ones
  bad h := aL ks h
  le h := CZ ks h
@[reducible] def Th.pair (A B:Th):Th where
 X:=A.X×B.X
 sz:=A.sz+B.sz
 mx:=A.mx+B.mx
 zs:=A.zs++B.zs
 fl x:=A.fl x.1++B.fl x.2
 rd b i e:=(((A.rd b i e).1,(B.rd b (A.rd b i e).2.1 (A.rd b i e).2.2).1),(B.rd b (A.rd b i e).2.1 (A.rd b i e).2.2).2)
 M w ok x vs:=A.M w ok x.1 (vs.take A.sz)∧B.M w ok x.2 (vs.drop A.sz)∧A.sz≤vs.length
 z:=(A.z,B.z)
 zM w ok:=⟨by rw[← A.zlen,List.take_left];exact A.zM w ok,by rw[← A.zlen,List.drop_left];exact B.zM w ok,by rw[List.length_append,A.zlen];omega⟩
 zlen:=by rw[List.length_append,A.zlen,B.zlen]
 zone:=by rw[List.all_append,A.zone,B.zone];rfl
 len h:=by
  have h2:=B.len h.2.1
  have h3:=h.2.2
  rw[List.length_drop]at h2
  omega
 mono h hs:=⟨A.mono h.1 hs,B.mono h.2.1 hs,h.2.2⟩
 to h H hs:=⟨A.to h.1 H hs,B.to h.2.1 H hs,h.2.2⟩
 good h f hf:=by
  rcases List.mem_append.1 hf with hf | hf
  · exact A.good h.1 f hf
  · exact B.good h.2.1 f hf
 ones {w ok x vs} h:=by
  have h1:=A.ones h.1
  have h2:=B.ones h.2.1
  rw[← List.take_append_drop A.sz vs,List.all_append,h1,h2];rfl
 bad {b i e} h:=by
  have h1:=A.bad (b:=b) (i:=i) h
  show(B.rd _ _ _).2=_
  rw[h1];exact B.bad h
 le h:=B.le (A.le h)
def qP (w:World) (a:Addr):Prop:=Tw w a.block
theorem qP.to {w w':World} {S:List Nat} {es:List Ent} {a:Addr} (h:qP w a) (H:Hp w w' S es) (ha:a.block∉S):qP w' a:=by
 obtain⟨arr,U,h⟩:=h
 exact⟨arr,U,H.keep h ha⟩
theorem qP.add {w:World} {a:Addr} (h:qP w a) (k:Nat):qP w (a.add k):=by unfold qP;rw[sK];exact h
@[reducible] def LG (a:Addr):Value:=.pointer (some a)
@[reducible] def Ptr0 (g:Nat):Value:=.pointer (some ⟨g,0,none⟩)
def nI (gp:Nat) (st:WS) (w0:World) (S:List Nat) (w':World):Prop:=∃ g cap sp,POk 65536 g cap sp st∧Hp w0 w' S (pw gp g cap sp st)
def GE (P:Program) (f:FuncId) (A:Th) (tw:Bool):Prop:=
 ∀ (gp:Nat) (g:Option Nat) (cap:Nat) (sp:List Value) (st:WS) (a:Addr) (x:A.X) (vs:List Value) (w0:World),Hp w0 w0 (bl (pw gp g cap sp st)) (pw gp g cap sp st)→POk 65536 g cap sp st→
  A.M w0 (fun b=>b∉bl (pw gp g cap sp st)) x vs→Cl w0 (bl (pw gp g cap sp st)) a vs→(tw=true→qP w0 a)→
  zP P f #[Ptr0 gp,LG a] w0 (fun _ w'=>nI gp (xX (A.fl x) st) w0 (bl (pw gp g cap sp st)) w')
def P9 (P:Program) (f:FuncId) (k:Kd):Prop:=
 ∀ (gp:Nat) (g:Option Nat) (cap:Nat) (sp:List Value) (st:WS) (a:Addr) (o m c:Nat) (x:List Fv) (vs:List Value) (w0:World) (A:Option Addr),m≤1000000→Hp w0 w0 (bl (pw gp g cap sp st)) (pw gp g cap sp st)→POk 65536 g cap sp st→
  (Th.flat (List.replicate m k)).M w0 (fun b=>b∉bl (pw gp g cap sp st)) x vs→Cl w0 (bl (pw gp g cap sp st)) (a.add o) vs→Rd w0 A m 1 (iM a o m)→(∀ p,A=some p→p.block∉bl (pw gp g cap sp st))→
  zP P f #[Ptr0 gp,.slice A m c] w0 (fun _ w'=>nI gp (xX x st) w0 (bl (pw gp g cap sp st)) w')
@[reducible] def vwo (gp:Nat) (g:Option Nat) (cap:Nat) (sp:List Value) (st:WS) (go:Nat) (T:TypeId) (cs:List Value):List Ent:=vw gp g cap sp st++[(some go,T,cs)]
def gJ (m:Nat) (gp:Nat) (a:WS) (go:Nat) (T:TypeId) (cs:List Value) (w0:World) (S:List Nat) (w':World):Prop:=∃ st g cap sp,rW a st∧POk m g cap sp st∧Hp w0 w' S (vwo gp g cap sp st go T cs)
def gI (P:Program) (f:FuncId) (A:Th):Prop:=
 ∀ (gp go o:Nat) (g:Option Nat) (cap:Nat) (sp:List Value) (st:WS) (T:TypeId) (cs:List Value) (x:A.X) (vs:List Value) (w0:World) (m:Nat) (a:WS),Hp w0 w0 (bl (vwo gp g cap sp st go T cs)) (vwo gp g cap sp st go T cs)→m+A.mx≤1000000000→POk m g cap sp st→rW a st→
  A.M w0 (fun b=>b∉bl (vwo gp g cap sp st go T cs)) x vs→At cs o vs→
  zP P f #[Ptr0 gp,LG ⟨go,o,none⟩] w0 (fun _ w'=>gJ (m+A.mx) gp (xX (A.fl x) a) go T cs w0 (bl (vwo gp g cap sp st go T cs)) w')
def P7 (P:Program) (f:FuncId) (k:Kd):Prop:=
 ∀ (gp go o n c:Nat) (g:Option Nat) (cap:Nat) (sp:List Value) (st:WS) (T:TypeId) (cs:List Value) (x:List Fv) (vs:List Value) (w0:World) (m:Nat) (a:WS) (A:Option Addr),n≤1000000→Hp w0 w0 (bl (vwo gp g cap sp st go T cs)) (vwo gp g cap sp st go T cs)→m+65545*n≤1000000000→POk m g cap sp st→rW a st→
  (Th.flat (List.replicate n k)).M w0 (fun b=>b∉bl (vwo gp g cap sp st go T cs)) x vs→At cs o vs→Rd w0 A n 1 (fB go o n)→(∀ p,A=some p→p.block∉bl (vwo gp g cap sp st go T cs))→
  zP P f #[Ptr0 gp,.slice A n c] w0 (fun _ w'=>gJ (m+65545*n) gp (xX x a) go T cs w0 (bl (vwo gp g cap sp st go T cs)) w')
abbrev AO :=Nat→Nat→List Ent
def nH (R:AO) (A:Th) (go o:Nat) (T:TypeId) (cs:List Value) (b:List UInt8) (i e:Nat) (n:Nat) (w0:World) (S:List Nat) (w':World):Prop:=
 ∃ us,us.length=A.sz∧us.all (·.oneCell')=true∧Hp w0 w' S (R (A.rd b i e).2.1 (A.rd b i e).2.2++[(some go,T,zH cs o us)])∧
  ((A.rd b i e).2.2=0→A.M w' (Fr w' n (R (A.rd b i e).2.1 (A.rd b i e).2.2++[(some go,T,zH cs o us)])) (A.rd b i e).1 us)
def JA (P:Program) (f:FuncId) (R:AO) (gp:Nat) (b:List UInt8) (A:Th):Prop:=
 ∀ (go o i e:Nat) (T:TypeId) (cs:List Value) (w0:World),Hp w0 w0 (bl (R i e++[(some go,T,cs)])) (R i e++[(some go,T,cs)])→i≤b.length→At cs o A.zs→o+A.sz≤cs.length→
  zP P f #[Ptr0 gp,LG ⟨go,o,none⟩] w0 (fun _ w'=>nH R A go o T cs b i e w0.heap.size w0 (bl (R i e++[(some go,T,cs)])) w')
def EX (P:Program) (f:FuncId) (R:AO) (gp:Nat) (b:List UInt8) (k:Kd):Prop:=
 ∀ (go o n c i e:Nat) (T:TypeId) (cs:List Value) (w0:World) (A:Option Addr),n≤1000000→Hp w0 w0 (bl (R i e++[(some go,T,cs)])) (R i e++[(some go,T,cs)])→i≤b.length→At cs o (zCs (List.replicate n k))→o+n≤cs.length→Rd w0 A n 1 (fB go o n)→(∀ p,A=some p→p.block∉bl (R i e++[(some go,T,cs)]))→
  zP P f #[Ptr0 gp,.slice A n c] w0 (fun _ w'=>nH R (Th.flat (List.replicate n k)) go o T cs b i e w0.heap.size w0 (bl (R i e++[(some go,T,cs)])) w')
theorem dT {R:AO} {ks:List Kd} {go o:Nat} {T:TypeId} {cs:List Value} {b:List UInt8} {i e n:Nat} {w0 w':World} {S:List Nat}
 (h:∃ fd i1 e1 us,vS ks b i e=(fd,i1,e1)∧i1≤b.length∧NFs w' n (R i1 e1++[(some go,T,zH cs o us)]) fd us∧Hp w0 w' S (R i1 e1++[(some go,T,zH cs o us)])):nH R (Th.flat ks) go o T cs b i e n w0 S w':=by
 obtain⟨fd,i1,e1,us,hr,hi,hF,H⟩:=h
 have hr':(Th.flat ks).rd b i e=(fd,i1,e1):=hr
 have hk:=C0 ks b i e
 rw[hr]at hk
 unfold nH
 rw[hr']
 exact⟨us,by rw[hF.len];show fd.length=ks.length;rw[← hk];simp,hF.ones,H,fun _=>⟨hk,hF⟩⟩
theorem KR {w w':World} {gr:Nat} {e0:TypeId×List Value} {es:List Ent} (H:Hp w w' [gr] ((some gr,e0)::es)) {i:Nat} {g:Option Nat} {T:TypeId} {cs:List Value} (he:es[i]? =some (g,T,cs)):∀ p,hd g=some p→w.heap.size≤p.block:=by
 refine lK H (i+1) he ?_
 intro p hp hb
 cases g with
 | none=>cases hp
 | some x=>
  cases hp
  simp only[List.mem_singleton]at hb
  subst hb
  have:=H.apart 0 (i+1) _ _ x rfl he rfl rfl
  omega
theorem FP.zero {w w':World} {ok ok':Nat→Prop} {v:Value} (h:FP w ok (.bytes []) v):FP w' ok' (.bytes []) v:=by
 obtain⟨B,c,h1,h2,_⟩:=h
 exact⟨B,c,h1,⟨Y,fun _ _ _ _ hu=>by simp[u8s]at hu,fun _=>Y⟩,fun h=>absurd h (by simp)⟩
theorem Fr.to {A:Th} {w w':World} {n:Nat} {es es':List Ent} {x:A.X} {vs:List Value} (h:A.M w (Fr w n es) x vs) (H:Hp w w' (bl es) es'):A.M w' (Fr w' n es') x vs:=
 A.mono (A.to h H fun _ h=>h.2.1) fun _ h=>⟨h.1.1,h.2,h.1.2.2.to H h.1.2.1⟩
theorem Hp.tw {w0 w:World} {S:List Nat} {es:List Ent} {i:Nat} {g:Option Nat} {T:TypeId} {cs:List Value} (H:Hp w0 w S es) (he:es[i]? =some (g,T,cs)):∀ p,hd g=some p→Tw w p.block:=by
 intro p hp
 cases g with
 | none=>cases hp
 | some x=>cases hp;exact⟨_,_,H.at he⟩
theorem GG {n q:Nat} {k:Kd} (h:q < n):(zCs (List.replicate n k))[q]? =some (zC k):=by simp[zCs,h]
def LH (P:Program) (f:FuncId) (A:Th):Prop:=∀ gp gr gb cb sb b,b.length≤cb→b.length≤65536→JA P f (pr gp gr gb cb sb b) gp b A
def UP (P:Program) (f:FuncId) (k:Kd):Prop:=∀ gp gr gb cb sb b,b.length≤cb→b.length≤65536→EX P f (pr gp gr gb cb sb b) gp b k
end Go.Proofs.YtjoeklkmnfaabaaGreat
namespace Go.Proofs.YtjoeklkmnfaabaaGreat
set_option maxRecDepth 100000
set_option maxHeartbeats 4000000
open Go Go.RowKit
set_option linter.unusedVariables false
attribute [local irreducible] yT Ops zP Cd
theorem GZ (gp:Nat) (g:Option Nat) (cap:Nat) (sp:List Value) (st:WS) (w0:World) (H0:Hp w0 w0 (bl (pw gp g cap sp st)) (pw gp g cap sp st)):zP Tryz.prog 146 #[.pointer (some ⟨gp,0,none⟩)] w0 (fun r w'=>r=.bool st.long∧Hp w0 w' (bl (pw gp g cap sp st)) (pw gp g cap sp st)):=by
 refine zE Tryz.func146 Tryz.ntmps146 Y<|cR e31 ?_
 have H:=H0
 refine Rq<|Xa Y<|Xr e31<|J1<|Rq<|Xm Y<|Xc Y<|Xf tM Y<|OV (EL pV Y (H.cell (i:=0) Y Y))<|Aa e31<|Ij (yE Tryz.underlying175 Y) (Y)<|Xr e31<|J3 Y<|Rq<|Xm Y<|Xc Y<|Xf pZ Y<|OV (EL ty4 Y (H.cell (i:=0) Y Y))<|Aa e31<|Xa Y<|Xr e31<|J5<|Ak Y Y<|⟨Y,H⟩
theorem MW (gp:Nat) (g:Option Nat) (cap:Nat) (sp:List Value) (st:WS) (w0:World) (H0:Hp w0 w0 (bl (pw gp g cap sp st)) (pw gp g cap sp st)) (hP:POk 65536 g cap sp st) (A:Option Addr) (x:List UInt8) (c:Nat) (hr:Rd w0 A x.length 1 (u8s x)) (ha:∀ p,A=some p→p.block∉bl (pw gp g cap sp st)) (hx:x.length≤1000000000):zP Tryz.prog 147 #[.pointer (some ⟨gp,0,none⟩),.slice A x.length c] w0 (fun r w'=>∃ g1 cap1 sp1,POk 65536 g1 cap1 sp1 (iC x st)∧Hp w0 w' (bl (pw gp g cap sp st)) (pw gp g1 cap1 sp1 (iC x st))):=by
 refine zE Tryz.func147 Tryz.ntmps147 Y<|cR e31 ?_
 have H:=H0
 obtain⟨Ej,Jg⟩:=st
 have Dh:=hP.most
 simp only at Dh
 refine J1<|J1 ?_
 cases Jg
 refine J2<|Xm Y<|Xc Y<|Xf pZ Y<|OV (EL ty4 Y (H.cell (i:=0) Y Y))<|Aa e31<|Xm Y<|OY Y<|Xm Y<|Aa e31<|OY Y<|OV (ES Tryz.underlying73 Y)<|OY Y<|Xm Y<|Aa e31<|OY Y<|Xc Y<|OY Y<|Xf eW Y<|Aa e31<|OY Y<|OV (EL xK Y (H.cell (i:=0) Y Y))<|OY Y<|OV (ES Tryz.underlying73 Y)<|Aa e31<|OY Y<|OV (uW Y Y (IntWalk.i64_in _ (by dsimp only;omega)))<|OY Y<|OT (yO Y Y) (fun hp17=>?_) (fun hp17=>?_)
 dsimp only at hp17
 refine Xu Y Y<|Xr e31<|J3 Y<|Rq<|Xm Y<|Xc Y<|Xf pZ Y<|OW ty4 H 0 Y Y Y Y (by first|exact NL Y|simp[zH]) Y<|fun w1 H1=>Xr e31<|J5<|rQ Y ?_
 have hw:iC x ⟨Ej,false⟩=⟨Ej,true⟩:=if_pos (.inr (by show 65536 < Ej.length+x.length;omega))
 rw[hw]
 exact⟨g,cap,sp,⟨hP.1,hP.2,hP.3,hP.4⟩,H1⟩
 dsimp only at hp17
 refine Xu Y Y<|Xr e31<|J4 Y<|J6<|J2<|Xm Y<|Xm Y<|Xc Y<|Xf eW Y<|Aa e31<|OV (EL xK Y (H.cell (i:=0) Y Y))<|Xm Y<|lC Tryz.underlying73 ty5 H 1 (L:=Ej) (M:=x) (g:=g) (sp:=sp) Y Y hP.room hP.le hP.nil Y (hr.to H ha) (by have:=hP.most;simp only at this;omega)<|fun w1 g3 cap3 sp3 H1 hmc3 hcap3 hg3=>Xc Y<|Aa e31<|Xf eW Y<|OW xK H1 0 Y Y Y Y (by first|exact NL Y|simp[zH]) Y<|fun w2 H2=>Xr e31<|zA<|yN Y ?_
 have hw:iC x ⟨Ej,false⟩=⟨Ej++x,false⟩:=if_neg (by rintro(h | h);cases h;have:65536 < Ej.length+x.length:=h;omega)
 rw[hw]
 exact⟨g3,cap3,sp3,⟨hmc3,hcap3,hg3,by show(Ej++x).length≤_;rw[List.length_append];omega⟩,H2⟩
 refine J2<|Xm Y<|Xc Y<|Xf pZ Y<|OV (EL ty4 Y (H.cell (i:=0) Y Y))<|Aa e31<|Xm Y<|Oz 9 Y<|Aa e31<|Xt Y Y<|Xr e31<|J3 Y<|Rq<|Xm Y<|Xc Y<|Xf pZ Y<|OW ty4 H 0 Y Y Y Y (by first|exact NL Y|simp[zH]) Y<|fun w1 H1=>Xr e31<|J5<|rQ Y ?_
 have hw:iC x ⟨Ej,true⟩=⟨Ej,true⟩:=if_pos (.inl rfl)
 rw[hw]
 exact⟨g,cap,sp,hP,H1⟩
theorem U4 (gp:Nat) (g0:Option Nat) (cap0:Nat) (sp0:List Value) (st:WS) (a:Addr) (o m c:Nat) (fd:List Fv) (vs:List Value) (w0:World) (H0:Hp w0 w0 (bl (pw gp g0 cap0 sp0 st)) (pw gp g0 cap0 sp0 st)) (hP:POk 65536 g0 cap0 sp0 st) (A:Option Addr) (hm:m≤1000000) (hk:fd.map Fv.kd=List.replicate m .int) (hF:YU w0 (pw gp g0 cap0 sp0 st) fd vs) (hC:Cl w0 (bl (pw gp g0 cap0 sp0 st)) (a.add o) vs) (hA:Rd w0 A m 1 (iM a o m)) (hS:∀ p,A=some p→p.block∉bl (pw gp g0 cap0 sp0 st)):zP Tryz.prog 106 #[.pointer (some ⟨gp,0,none⟩),.slice A m c] w0 (fun _ w'=>nI gp (xX fd st) w0 (bl (pw gp g0 cap0 sp0 st)) w'):=by
 refine zE Tryz.func106 Tryz.ntmps106 Y<|cR e35 ?_
 have H:=H0
 have hlen:fd.length=m:=by have:=congrArg List.length hk;simpa using this
 refine Rq<|Xm Y<|OV (ES Tryz.underlying220 Y)<|Xm Y<|Xr e35<|J7<|zU (fun nQ lQ w=>∃ (q:Nat) (y:Int) (g:Option Nat) (cap:Nat) (sp:List Value),m - q=nQ∧xN (Dj [(0,.pointer (some ⟨gp,0,none⟩)),(6,.slice A m c),(7,.int .i64 m),(8,.int .i64 y)] 0 35) lQ∧y=q∧q≤m∧POk 65536 g cap sp (xX (fd.take q) st)∧Hp w0 w (bl (pw gp g0 cap0 sp0 st)) (pw gp g cap sp (xX (fd.take q) st))) (m) ?_ ?_
 exact⟨0,_,g0,cap0,sp0,Y,(Dv Y Y Y Y Y),Y,Nat.zero_le _,hP,H⟩
 rintro nQ lQ w1 ⟨q,y,g,cap,sp,rfl,hfit,rfl,hq,hP,H1⟩
 obtain⟨j,rfl⟩:=hfit.open
 refine cR e35 ?_
 clear hfit
 refine Rq<|OT (zQ Y Y) (fun hp9=>?_) (fun hp9=>?_)
 have Cb:q < m:=by omega
 have Qz:q < fd.length:=by omega
 obtain⟨v,hv1,hv2⟩:=hF.each q Qz
 have hsn:=gO Qz st
 have hcq:w0.cell? (a.add (o+q))=some v:=by have:=hC.cell q v hv1;rwa [tQ]at this
 have hbq:(a.add (o+q)).block∉bl (pw gp g0 cap0 sp0 st):=by rw[sK];have:=hC.apart (by have:=hF.len;omega);rwa [sK]at this
 obtain⟨pa,hpa⟩:=hA.some_ (by omega)
 subst hpa
 have hkd:fd[q].kd=.int:=by
  have:=congrArg (fun l=>l[q]?) hk
  simpa[Qz,Cb]using this
 obtain⟨nn,YZ⟩:∃ x,fd[q]=.int x:=by
  generalize fd[q]=fq at hkd
  cases fq <;>first | exact⟨_,rfl⟩ | cases hkd
 rw[YZ]at hv2 hsn
 obtain⟨rfl,hn1,hn2⟩:=hv2
 obtain⟨st1,hst⟩:∃ x,xX (fd.take q) st=x:=⟨_,rfl⟩
 rw[hst]at hsn H1 hP
 refine Xr e35<|J1<|J3 Y<|J6<|J1<|J7<|Rq<|OV (EI Tryz.underlying220 tK Y Y Y Cb (Nat.mul_one _))<|OV (EL tK Y ((hA.to H1 hS).cells pa Y q _ (aQ Cb)))<|Xa Y<|Xr e35<|J7<|Rq<|Xm Y ?_
 have hk:=GZ gp g cap sp st1 _ H1.here
 refine OC (EC IJ Y) hk<|fun w2 Hd=>have H2:=H1.all Hd;Xa Y<|Xr e35<|wU Y (fun Ox=>?_) (fun Ox=>?_)
 rw[oU Ox]at hsn
 refine J6<|zA (zB ?_)
 refine zA (zB ?_)
 refine J2<|OV (zL Y Y (IntWalk.i64_in _ (by omega)))<|Xm Y<|Xr e35<|zA (zI ?_)
 exact⟨m - (q+1),by omega,q+1,_,g,cap,sp,Y,(Dv Y Y Y Y Y),Y,by omega,by rw[hsn];exact hP,by rw[hsn];exact H2⟩
 rw[mR Ox rfl]at hsn
 refine Rq<|Xm Y<|Xc Y<|Xf tM Y<|OV (EL pV Y (H2.cell (i:=0) Y Y))<|Aa e35<|Ij (yE Tryz.underlying175 Y) (Y)<|Xa Y<|Xr e35<|J3 Y<|J2<|Xm Y<|Xm Y<|Xc Y<|OV (EL ty3 Y (kW hcq H2 hbq))<|Aa e35 ?_
 have hxl:(vX nn).length≤1000000000:=by have:=gA (f:=.int nn) ⟨hn1,hn2⟩ rfl;exact Nat.le_trans this (by decide)
 refine yW (EC gf148 Y) (SH nn _ hn1 hn2)<|fun w3 g1 c1 sp1 hm1 hc1 hg1 Hd=>have H3:=H2.call0 Hd;?_
 have HQ:Hp w0 w3 _ (pw gp g cap sp st1++[(g1,5,u8s (vX nn)++sp1)]):=H3
 have hk:=MW gp g cap sp st1 _ (HQ.less (es:=pw gp g cap sp st1) (R:=[(g1,5,u8s (vX nn)++sp1)])).here hP (hd g1) (vX nn) c1 (HQ.rd (i:=2) (o:=g1) (xs:=u8s (vX nn)) (sp:=sp1) rfl (yV _) (by decide)) (qA HQ (i:=0) rfl) hxl
 refine OQ (EC T4 Y) hk ?_
 rintro _ w4 ⟨g,cap,sp,hP,Hd⟩
 have H4:=Hp.less (es:=pw gp g cap sp _) (R:=[(g1,5,u8s (vX nn)++sp1)]) (HQ.front Hd)
 refine Xr e35<|zA (zB ?_)
 refine zA (zB ?_)
 refine J2<|OV (zL Y Y (IntWalk.i64_in _ (by omega)))<|Xm Y<|Xr e35<|zA (zI ?_)
 exact⟨m - (q+1),by omega,q+1,_,g,cap,sp,Y,(Dv Y Y Y Y Y),Y,by omega,by rw[hsn];exact hP,by rw[hsn];exact H4⟩
 have hqm:q=m:=by omega
 subst hqm
 rw[List.take_of_length_le (by omega)]at H1 hP
 refine Xr e35<|J1<|J4 Y<|J8<|zT<|zS<|zA<|yN Y<|⟨g,cap,sp,hP,H1⟩
theorem jO :P9 Tryz.prog 106 .int:=fun gp g cap sp st a o m c x vs w0 A hm H0 hP hM hC hA hS=>U4 gp g cap sp st a o m c x vs w0 H0 hP A hm hM.1 hM.2 hC hA hS
theorem C7 (gp:Nat) (g0:Option Nat) (cap0:Nat) (sp0:List Value) (st:WS) (a:Addr) (fd:List Fv) (vs:List Value) (w0:World) (H0:Hp w0 w0 (bl (pw gp g0 cap0 sp0 st)) (pw gp g0 cap0 sp0 st)) (hP:POk 65536 g0 cap0 sp0 st) (hk:fd.map Fv.kd=[.bytes]) (hF:YU w0 (pw gp g0 cap0 sp0 st) fd vs) (hC:Cl w0 (bl (pw gp g0 cap0 sp0 st)) a vs):zP Tryz.prog 150 #[.pointer (some ⟨gp,0,none⟩),.pointer (some a)] w0 (fun _ w'=>nI gp (xX fd st) w0 (bl (pw gp g0 cap0 sp0 st)) w'):=by
 refine zE Tryz.func150 Tryz.ntmps150 Y<|cR e35 ?_
 have H:=H0
 obtain⟨x,rfl⟩:=aX hk
 obtain⟨v,rfl,hv2⟩:=hF.head
 have hcq:w0.cell? a=some v:=by have:=hC.cell 0 v rfl;rwa [Addr.add_zero']at this
 have hbq:=hC.apart (by simp)
 obtain⟨B,c,Ry,hrd,hap⟩:=hv2
 subst Ry
 refine J7<|Rq<|Xm Y ?_
 have hk:=GZ gp g0 cap0 sp0 st _ H.here
 refine OC (EC IJ Y) hk<|fun w1 Hd=>have H1:=H.all Hd;Xa Y<|Xr e35<|wU Y (fun Oy=>?_) (fun Oy=>?_)
 refine J6<|zA (zB ?_)
 refine zA<|yN Y ?_
 rw[dH,oU Oy]
 exact⟨g0,cap0,sp0,hP,H1⟩
 refine Rq<|Xm Y<|Xc Y<|Xf tM Y<|OV (EL pV Y (H1.cell (i:=0) Y Y))<|Aa e35<|Dy (uX Tryz.underlying175 Y) (by simp)<|Xa Y<|Xr e35<|J4 Y<|Rq<|Xm Y<|Xc Y<|OV (EL xK Y (kW hcq H1 hbq))<|OV (ES Tryz.underlying73 Y)<|Aa e35<|OT (yO Y Y) (fun Ep=>?_) (fun Ep=>?_)
 refine Xa Y<|Xr e35<|J3 Y<|J2<|Xm Y<|Xc Y<|Xf pZ Y<|OW ty4 H1 0 Y Y Y Y (by first|exact NL Y|simp[zH]) Y<|fun w2 H2=>Xr e35<|zA (zB ?_)
 refine zA<|yN Y ?_
 rw[dH,iD Oy (by simp[wM];omega)]
 exact⟨g0,cap0,sp0,⟨hP.1,hP.2,hP.3,hP.4⟩,H2⟩
 refine Xa Y<|Xr e35<|J4 Y<|J2<|Xm Y<|Xm Y<|Xc Y<|OV (EL xK Y (kW hcq H1 hbq))<|Aa e35 ?_
 have hxl:(xY x).length≤1000000000:=by have:=gA (f:=.bytes x) trivial (by simp[wM];omega);exact Nat.le_trans this (by decide)
 refine yW (EC gf184 Y) (LZ B x c _ (hrd.fc H1 hap) (by omega))<|fun w2 g1 c1 sp1 hm1 hc1 hg1 Hd=>have H2:=H1.call0 Hd;?_
 have HQ:Hp w0 w2 _ (pw gp g0 cap0 sp0 st++[(g1,5,u8s (xY x)++sp1)]):=H2
 have hk:=MW gp g0 cap0 sp0 st _ (HQ.less (es:=pw gp g0 cap0 sp0 st) (R:=[(g1,5,u8s (xY x)++sp1)])).here hP (hd g1) (xY x) c1 (HQ.rd (i:=2) (o:=g1) (xs:=u8s (xY x)) (sp:=sp1) rfl (yV _) (by decide)) (qA HQ (i:=0) rfl) hxl
 refine OQ (EC T4 Y) hk ?_
 rintro _ w3 ⟨g,cap,sp,hP,Hd⟩
 have H3:=Hp.less (es:=pw gp g cap sp _) (R:=[(g1,5,u8s (xY x)++sp1)]) (HQ.front Hd)
 refine Xr e35<|zA (zB ?_)
 refine zA<|yN Y ?_
 rw[dH,mR Oy (by simp[wM];omega)]
 exact⟨g,cap,sp,hP,H3⟩
theorem C9 :GE Tryz.prog 150 (Th.flat [.bytes]) false:=fun gp g cap sp st a x vs w0 H0 hP hM hC _=>C7 gp g cap sp st a x vs w0 H0 hP hM.1 hM.2 hC
theorem RO (gp:Nat) (g0:Option Nat) (cap0:Nat) (sp0:List Value) (st:WS) (a:Addr) (o m c:Nat) (fd:List Fv) (vs:List Value) (w0:World) (H0:Hp w0 w0 (bl (pw gp g0 cap0 sp0 st)) (pw gp g0 cap0 sp0 st)) (hP:POk 65536 g0 cap0 sp0 st) (A:Option Addr) (hm:m≤1000000) (hk:fd.map Fv.kd=List.replicate m .text) (hF:YU w0 (pw gp g0 cap0 sp0 st) fd vs) (hC:Cl w0 (bl (pw gp g0 cap0 sp0 st)) (a.add o) vs) (hA:Rd w0 A m 1 (iM a o m)) (hS:∀ p,A=some p→p.block∉bl (pw gp g0 cap0 sp0 st)):zP Tryz.prog 151 #[.pointer (some ⟨gp,0,none⟩),.slice A m c] w0 (fun _ w'=>nI gp (xX fd st) w0 (bl (pw gp g0 cap0 sp0 st)) w'):=by
 refine zE Tryz.func151 Tryz.ntmps151 Y<|cR e44 ?_
 have H:=H0
 have hlen:fd.length=m:=by have:=congrArg List.length hk;simpa using this
 refine Rq<|Xm Y<|OV (ES Tryz.underlying252 Y)<|Xm Y<|Xr e44<|J7<|zU (fun nQ lQ w=>∃ (q:Nat) (y:Int) (g:Option Nat) (cap:Nat) (sp:List Value),m - q=nQ∧xN (Dj [(0,.pointer (some ⟨gp,0,none⟩)),(7,.slice A m c),(8,.int .i64 m),(9,.int .i64 y)] 0 44) lQ∧y=q∧q≤m∧POk 65536 g cap sp (xX (fd.take q) st)∧Hp w0 w (bl (pw gp g0 cap0 sp0 st)) (pw gp g cap sp (xX (fd.take q) st))) (m) ?_ ?_
 exact⟨0,_,g0,cap0,sp0,Y,(Dv Y Y Y Y Y),Y,Nat.zero_le _,hP,H⟩
 rintro nQ lQ w1 ⟨q,y,g,cap,sp,rfl,hfit,rfl,hq,hP,H1⟩
 obtain⟨j,rfl⟩:=hfit.open
 refine cR e44 ?_
 clear hfit
 refine Rq<|OT (zQ Y Y) (fun hp10=>?_) (fun hp10=>?_)
 have Cb:q < m:=by omega
 have Qz:q < fd.length:=by omega
 obtain⟨v,hv1,hv2⟩:=hF.each q Qz
 have hsn:=gO Qz st
 have hcq:w0.cell? (a.add (o+q))=some v:=by have:=hC.cell q v hv1;rwa [tQ]at this
 have hbq:(a.add (o+q)).block∉bl (pw gp g0 cap0 sp0 st):=by rw[sK];have:=hC.apart (by have:=hF.len;omega);rwa [sK]at this
 obtain⟨pa,hpa⟩:=hA.some_ (by omega)
 subst hpa
 have hkd:fd[q].kd=.text:=by
  have:=congrArg (fun l=>l[q]?) hk
  simpa[Qz,Cb]using this
 obtain⟨s,YZ⟩:∃ x,fd[q]=.text x:=by
  generalize fd[q]=fq at hkd
  cases fq <;>first | exact⟨_,rfl⟩ | cases hkd
 rw[YZ]at hv2 hsn
 have Ry:v=yC s:=hv2
 subst Ry
 obtain⟨st1,hst⟩:∃ x,xX (fd.take q) st=x:=⟨_,rfl⟩
 have hcut:=CJ Qz (st:=st)
 rw[YZ,hst]at hcut
 rw[hst]at hsn H1 hP
 refine Xr e44<|J1<|J3 Y<|J6<|J1<|J7<|Rq<|OV (EI Tryz.underlying252 aB Y Y Y Cb (Nat.mul_one _))<|OV (EL aB Y ((hA.to H1 hS).cells pa Y q _ (aQ Cb)))<|Xa Y<|Xr e44<|J1<|Rq<|Xm Y<|Xc Y<|Xf tM Y<|OV (EL pV Y (H1.cell (i:=0) Y Y))<|Aa e44<|Ij (yE Tryz.underlying175 Y) (Y)<|Xm Y<|Aa e44<|OY Y<|Xm Y<|OY Y<|Xc Y<|Aa e44<|OY Y<|OV (EL ty9 Y (kW hcq H1 hbq))<|OY Y<|OV (oR Tryz.underlying9 Y) ?_
 rw[gV]
 refine Aa e44<|OY Y<|OT (yO Y Y) (fun hp23=>?_) (fun hp23=>?_)
 refine Xt Y Y<|Xr e44<|J3 Y<|Rq<|Xm Y<|Xc Y<|Xf pZ Y<|OW ty4 H1 0 Y Y Y Y (by first|exact NL Y|simp[zH]) Y<|fun w2 H2=>Xr e44<|J5<|BR<|yR<|BR<|rQ Y ?_
 rw[hcut (by simp[wM];omega)]
 exact⟨g,cap,sp,⟨hP.1,hP.2,hP.3,hP.4⟩,H2⟩
 have hnl:wM (.text s)=false:=by simp[wM];omega
 refine Xt Y Y<|Xr e44<|J4 Y<|J6<|Rq<|Xm Y<|Xc Y<|OV (EL ty9 Y (kW hcq H1 hbq)) ?_
 have hgn:=fN H1 (g:=w1.heap.size) (Nat.le_refl _)
 refine nS Tryz.underlying9 Tryz.underlying73 Tryz.underlying5 H1 (s:=s) Y<|fun w2 gs cs1 HB hrs hgs hsz=>?_
 rw[← hgs]at hgn
 have H2:=HB.here
 refine Aa e44<|OA xK H2<|fun w3 gb H3 hgb=>OW xK H3 2 Y Y Y Y (by first|exact NL Y|simp[zH]) Y<|fun w4 H4=>Xr e44<|Rq<|Xm Y ?_
 have HQ:Hp _ w4 _ (pw gp g cap sp st1++[(some gb,73,[Value.slice (some ⟨gs,0,none⟩) s.length cs1])]):=H4
 have Ht:=qA (es1:=pw gp g cap sp st1) (R:=[(some gb,73,[Value.slice (some ⟨gs,0,none⟩) s.length cs1])]) HQ (i:=0) (g:=some gb) rfl ⟨gb,0,none⟩ rfl
 have hk:=C7 gp g cap sp st1 ⟨gb,0,none⟩ [.bytes s] [Value.slice (some ⟨gs,0,none⟩) s.length cs1] _ HQ.less.here hP rfl (FPs.one (f:=.bytes s) ⟨_,_,rfl,hrs.fc HQ.less (fun _ p hp=>by cases hp;exact hgn),fun h0=>bK hrs h0 (fun p hp=>by cases hp;exact hgn) HQ.less⟩) (HQ.cl (i:=2) rfl Ht)
 refine OQ (EC AG Y) hk ?_
 rintro _ w5 ⟨g,cap,sp,hP,Hd⟩
 have H5:=(HB.all (HQ.front Hd)).pick [0,1] (by decide)
 refine Xr e44<|Rq<|Xm Y<|Xc Y<|Xf tM Y<|OV (EL pV Y (H5.cell (i:=0) Y Y))<|Aa e44<|Dy (uX Tryz.underlying175 Y) (by simp)<|Xr e44<|J4 Y<|J6<|zA (zB ?_)
 refine J2<|OV (zL Y Y (IntWalk.i64_in _ (by omega)))<|Xm Y<|Xr e44<|zA (zI ?_)
 exact⟨m - (q+1),by omega,q+1,_,g,cap,sp,Y,(Dv Y Y Y Y Y),Y,by omega,by rw[hsn];exact hP,by rw[hsn];exact H5⟩
 have hqm:q=m:=by omega
 subst hqm
 rw[List.take_of_length_le (by omega)]at H1 hP
 refine Xr e44<|J1<|J4 Y<|J8<|zT<|zS<|zA<|yN Y<|⟨g,cap,sp,hP,H1⟩
theorem RR :P9 Tryz.prog 151 .text:=fun gp g cap sp st a o m c x vs w0 A hm H0 hP hM hC hA hS=>RO gp g cap sp st a o m c x vs w0 H0 hP A hm hM.1 hM.2 hC hA hS
end Go.Proofs.YtjoeklkmnfaabaaGreat
namespace Go.Proofs.YtjoeklkmnfaabaaGreat
set_option maxRecDepth 100000
set_option maxHeartbeats 4000000
open Go Go.RowKit
set_option linter.unusedVariables false
attribute [local irreducible] yT Ops zP Cd
theorem G0 (gp gr:Nat) (gb:Option Nat) (cb:Nat) (sb:List Value) (b:List UInt8) (i e:Nat) (w0:World) (H0:Hp w0 w0 (bl (pr gp gr gb cb sb b i e)) (pr gp gr gb cb sb b i e)) (hcb:b.length≤cb) (hbl:b.length≤65536) (hi:i≤b.length):zP Tryz.prog 146 #[.pointer (some ⟨gp,0,none⟩)] w0 (fun r w'=>r=.bool (decide (e≠0))∧Hp w0 w' (bl (pr gp gr gb cb sb b i e)) (pr gp gr gb cb sb b i e)):=by
 refine zE Tryz.func146 Tryz.ntmps146 Y<|cR e31 ?_
 have H:=H0
 refine Rq<|Xa Y<|Xr e31<|J1<|Rq<|Xm Y<|Xc Y<|Xf tM Y<|OV (EL pV Y (H.cell (i:=0) Y Y))<|Aa e31<|Dy (yE Tryz.underlying175 Y) (by simp)<|Xr e31<|J4 Y<|J6<|Rq<|Xm Y<|Xc Y<|Xf tM Y<|OV (EL pV Y (H.cell (i:=0) Y Y))<|Aa e31<|OC (EC gf180 Y) (PC gr (hd gb) cb b i e _ (BE H (j:=1) (k:=2) Y Y (by decide) hcb (by omega) hi))<|fun w1 Hd=>have H1:=H.call0 Hd;Xm Y<|Xe Y Y<|Xe Y Y<|Aa e31<|Xa Y<|Xa Y<|Xr e31<|Rq<|Xm Y<|OT (yS Y Y) (fun hp23=>?_) (fun hp23=>?_)
 have he:e≠0:=by omega
 refine Xm Y<|Aa e31<|Oz 5 Y<|Aa e31<|Xt Y Y<|Xa Y<|Xr e31<|J5<|Ak Y Y<|⟨by rw[decide_eq_true he],H1.pick [0,1,2] (by decide)⟩
 have he:e=0:=by omega
 refine Xm Y<|Aa e31<|OY Y<|Xm Y<|OY Y<|Xc Y<|Aa e31<|OY Y<|Xf IP Y<|OY Y<|OV (EL pR Y (H1.cell (i:=0) Y Y))<|Aa e31<|OY Y<|Dy (yS Y Y) (by simp)<|Xu Y Y<|Xa Y<|Xr e31<|J5<|Ak Y Y<|⟨by rw[decide_eq_false (by omega)],H1.pick [0,1,2] (by decide)⟩
theorem U5 (gp gr go o:Nat) (gb:Option Nat) (cb:Nat) (sb:List Value) (b:List UInt8) (i e:Nat) (T:TypeId) (cs:List Value) (w0:World) (H0:Hp w0 w0 (bl (pr gp gr gb cb sb b i e++[(some go,T,cs)])) (pr gp gr gb cb sb b i e++[(some go,T,cs)])) (hcb:b.length≤cb) (hbl:b.length≤65536) (hi:i≤b.length) (m:Nat) (hat:At cs o (zCs (List.replicate m .int))) (A:Option Addr) (c:Nat) (hm:m≤1000000) (hA:Rd w0 A m 1 (fB go o m)) (hS:∀ p,A=some p→p.block∉bl (pr gp gr gb cb sb b i e++[(some go,T,cs)])):zP Tryz.prog 106 #[.pointer (some ⟨gp,0,none⟩),.slice A m c] w0 (fun r w'=>∃ fd i1 e1 us,vS (List.replicate m .int) b i e=(fd,i1,e1)∧i1≤b.length∧NFs w' w0.heap.size (pr gp gr gb cb sb b i1 e1++[(some go,T,zH cs o us)]) fd us∧Hp w0 w' (bl (pr gp gr gb cb sb b i e++[(some go,T,cs)])) (pr gp gr gb cb sb b i1 e1++[(some go,T,zH cs o us)])):=by
 refine zE Tryz.func106 Tryz.ntmps106 Y<|cR e35 ?_
 have H:=H0
 refine Rq<|Xm Y<|OV (ES Tryz.underlying220 Y)<|Xm Y<|Xr e35<|J7<|zU (fun nQ lQ w=>∃ (q:Nat) (y:Int) (i1 e1:Nat) (us:List Value) (fd:List Fv),m - q=nQ∧xN (Dj [(0,.pointer (some ⟨gp,0,none⟩)),(6,.slice A m c),(7,.int .i64 m),(8,.int .i64 y)] 0 35) lQ∧y=q∧q≤m∧us.length=q∧vS (List.replicate q .int) b i e=(fd,i1,e1)∧i1≤b.length∧NFs w w0.heap.size (pr gp gr gb cb sb b i1 e1++[(some go,T,zH cs o us)]) fd us∧Hp w0 w (bl (pr gp gr gb cb sb b i e++[(some go,T,cs)])) (pr gp gr gb cb sb b i1 e1++[(some go,T,zH cs o us)])) (m) ?_ ?_
 exact⟨0,_,i,e,[],[],Y,(Dv Y Y Y Y Y),Y,Nat.zero_le _,Y,Y,hi,FPs.nil,by rw[kF];exact H⟩
 rintro nQ lQ w1 ⟨q,y,i1,e1,us,fd,rfl,hfit,rfl,hq,hus,hrd,hi1,hF,H1⟩
 obtain⟨j,rfl⟩:=hfit.open
 refine cR e35 ?_
 clear hfit
 refine Rq<|OT (zQ Y Y) (fun hp9=>?_) (fun hp9=>?_)
 have Cb:q < m:=by omega
 have hcq:cs[o+q]? =some (.int .i64 0):=hat q _ (GG Cb)
 have hfit:=lt_of_get hcq
 have hkeep:=CX (cs:=cs) hus (Nat.le_of_lt hfit)
 rw[hcq]at hkeep
 obtain⟨pa,hpa⟩:=hA.some_ (by omega)
 subst hpa
 have HB:=H1
 replace H1:=HB.here
 refine Xr e35<|J1<|J3 Y<|J6<|J1<|J7<|Rq<|OV (EI Tryz.underlying220 tK Y Y Y Cb (Nat.mul_one _))<|OV (EL tK Y ((hA.to (HB.all H1) hS).cells pa Y q _ (dY Cb)))<|Xa Y<|Xr e35<|J7<|Rq<|Xm Y ?_
 have hk:=G0 gp gr gb cb sb b i1 e1 _ (Hp.less (es:=pr gp gr gb cb sb b i1 e1) (R:=[(some go,T,zH cs o us)]) H1).here hcb hbl hi1
 refine OC (EC IJ Y) hk<|fun w2 Hd=>have H2:=Hp.front (R:=[(some go,T,zH cs o us)]) H1 Hd;Xa Y<|Xr e35<|wU Y (fun Ox=>?_) (fun Ox=>?_)
 refine J6<|zA (zB ?_)
 refine zA (zB ?_)
 refine J2<|OV (zL Y Y (IntWalk.i64_in _ (by omega)))<|Xm Y<|Xr e35<|zA (zI ?_)
 first
 | (have hb0:=Ox;simp only[decide_eq_true_eq]at hb0;have hbad:=eR (k:=.int) (b:=b) (i:=i1) (e:=e1) (by simpa using hb0);exact⟨m - (q+1),by omega,q+1,_,i1,e1,us++[Value.int .i64 0],_,rfl,(Dv rfl rfl rfl rfl rfl),rfl,by omega,by simp[hus],iJ hrd hbad,hi1,by rw[mX hus hcq];exact(hF.to H2).app (FPs.one ⟨rfl,by decide,by decide⟩),by rw[mX hus hcq];exact HB.all H2⟩)
 | (have hrow:=iH (cs:=cs) (o:=o) (v:=Value.int .i64 (unz (yK b i1 e1).1)) hus hfit;have HN:=(show ∀ (wa wb:World) (SS:List Nat),Hp wa wb SS (pr gp gr gb cb sb b ((yK b i1 e1).2.1) ((yK b i1 e1).2.2)++[(some go,T,(zH cs o us).set (o+q) (Value.int .i64 (unz (yK b i1 e1).1)))])→Hp wa wb SS (pr gp gr gb cb sb b ((yK b i1 e1).2.1) ((yK b i1 e1).2.2)++[(some go,T,zH cs o (us++[Value.int .i64 (unz (yK b i1 e1).1)]))]) from fun wa wb SS h=>by rw[hrow]at h;exact h) _ _ _ H2;exact⟨m - (q+1),by omega,q+1,_,_,_,us++[Value.int .i64 (unz (yK b i1 e1).1)],_,rfl,(Dv rfl rfl rfl rfl rfl),rfl,by omega,by simp[hus],iJ hrd rfl,pI hi1,(hF.to HN).app (FPs.one ⟨rfl,LW (nU b i1 e1)⟩),HB.all HN⟩)
 refine Rq<|Xm Y<|Xc Y<|Xf tM Y<|OV (EL pV Y (H2.cell (i:=0) Y Y))<|Aa e35<|Dy (yE Tryz.underlying175 Y) (by simp)<|Xa Y<|Xr e35<|J4 Y<|J2<|Xm Y<|Xm Y<|Xc Y<|Xf tM Y<|Aa e35<|OV (EL pV Y (H2.cell (i:=0) Y Y))<|OC (EC gf149 Y) (VH gr (hd gb) cb b i1 e1 _ (BE H2 (j:=1) (k:=2) Y Y (by decide) hcb (by omega) hi1))<|fun w3 Hd=>?_
 have H3:=(H2.call1 (i:=1) rfl Hd).pick [0,4,2,3] (by decide)
 refine Xc Y<|OW ty3 H3 3 Y Y Y Y (by rw[vH (by omega)];omega) Y<|fun w4 H4=>Xr e35<|zA (zB ?_)
 refine zA (zB ?_)
 refine J2<|OV (zL Y Y (IntWalk.i64_in _ (by omega)))<|Xm Y<|Xr e35<|zA (zI ?_)
 first
 | (have hb0:=Ox;simp only[decide_eq_true_eq]at hb0;have hbad:=eR (k:=.int) (b:=b) (i:=i1) (e:=e1) (by simpa using hb0);exact⟨m - (q+1),by omega,q+1,_,i1,e1,us++[Value.int .i64 0],_,rfl,(Dv rfl rfl rfl rfl rfl),rfl,by omega,by simp[hus],iJ hrd hbad,hi1,by rw[mX hus hcq];exact(hF.to H4).app (FPs.one ⟨rfl,by decide,by decide⟩),by rw[mX hus hcq];exact HB.all H4⟩)
 | (have hrow:=iH (cs:=cs) (o:=o) (v:=Value.int .i64 (unz (yK b i1 e1).1)) hus hfit;have HN:=(show ∀ (wa wb:World) (SS:List Nat),Hp wa wb SS (pr gp gr gb cb sb b ((yK b i1 e1).2.1) ((yK b i1 e1).2.2)++[(some go,T,(zH cs o us).set (o+q) (Value.int .i64 (unz (yK b i1 e1).1)))])→Hp wa wb SS (pr gp gr gb cb sb b ((yK b i1 e1).2.1) ((yK b i1 e1).2.2)++[(some go,T,zH cs o (us++[Value.int .i64 (unz (yK b i1 e1).1)]))]) from fun wa wb SS h=>by rw[hrow]at h;exact h) _ _ _ H4;exact⟨m - (q+1),by omega,q+1,_,_,_,us++[Value.int .i64 (unz (yK b i1 e1).1)],_,rfl,(Dv rfl rfl rfl rfl rfl),rfl,by omega,by simp[hus],iJ hrd rfl,pI hi1,(hF.to HN).app (FPs.one ⟨rfl,LW (nU b i1 e1)⟩),HB.all HN⟩)
 have hqm:q=m:=by omega
 subst hqm
 refine Xr e35<|J1<|J4 Y<|J8<|zT<|zS<|zA<|yN Y<|⟨fd,i1,e1,us,hrd,hi1,hF,H1⟩
theorem BH {P:Program} {ds:List Deferred} {Q:vN} {K:List Value→World→Prop} {all os:List Oper} {l:List Value} {w:World} {op:Op} {ty:TypeId} {pos:String} {af:Array Edge} {d:Tmp} {f:FuncId} {args:Array Value} {n:Nat} {X:Option Nat→Nat→List Value→World→Prop}
 (hx:Ex P l op ty w (.enter f args) w) (hc:zP P f args w fun r w'=>∃ g cap sp,r=.slice (hd g) n cap∧X g cap sp w')
 (h:∀ w' g cap sp,X g cap sp w'→Ops P ds all K Q os (l.set d (.slice (hd g) n cap)) w'):Ops P ds all K Q (⟨some d,op,ty,pos,af,none⟩::os) l w:=
 tE hx hc fun r w' ⟨g,cap,sp,h1,h2⟩=>by rw[h1];exact h w' g cap sp h2
theorem C8 (gp gr go o:Nat) (gb:Option Nat) (cb:Nat) (sb:List Value) (b:List UInt8) (i e:Nat) (T:TypeId) (cs:List Value) (w0:World) (H0:Hp w0 w0 (bl (pr gp gr gb cb sb b i e++[(some go,T,cs)])) (pr gp gr gb cb sb b i e++[(some go,T,cs)])) (hcb:b.length≤cb) (hbl:b.length≤65536) (hi:i≤b.length) (v:Value) (hv2:FP w0 (fun _=>True) (.bytes []) v) (hcq:cs[o]? =some v):zP Tryz.prog 150 #[.pointer (some ⟨gp,0,none⟩),.pointer (some ⟨go,o,none⟩)] w0 (fun r w'=>∃ fd i1 e1 us,vS [.bytes] b i e=(fd,i1,e1)∧i1≤b.length∧NFs w' w0.heap.size (pr gp gr gb cb sb b i1 e1++[(some go,T,zH cs o us)]) fd us∧Hp w0 w' (bl (pr gp gr gb cb sb b i e++[(some go,T,cs)])) (pr gp gr gb cb sb b i1 e1++[(some go,T,zH cs o us)])):=by
 refine zE Tryz.func150 Tryz.ntmps150 Y<|cR e35 ?_
 have H:=H0
 have hfit:=lt_of_get hcq
 refine J7<|Rq<|Xm Y ?_
 have hk:=G0 gp gr gb cb sb b i e _ (Hp.less (es:=pr gp gr gb cb sb b i e) (R:=[(some go,T,cs)]) H).here hcb hbl hi
 refine OC (EC IJ Y) hk<|fun w1 Hd=>have H1:=Hp.front (R:=[(some go,T,cs)]) H Hd;Xa Y<|Xr e35<|wU Y (fun Oy=>?_) (fun Oy=>?_)
 refine J6<|zA (zB ?_)
 refine zA<|yN Y ?_
 have hbad:=eR (k:=.bytes) (b:=b) (i:=i) (e:=e) (by simpa using Oy)
 have hrow:=mX (cs:=cs) (us:=[]) (o:=o) (q:=0) rfl hcq
 rw[kF]at hrow
 exact⟨[.bytes []],i,e,[v],by rw[gY,hbad];rfl,hi,by rw[show[v]=[]++[v] from Y,hrow];exact FPs.one hv2.zero,by rw[show[v]=[]++[v] from Y,hrow];exact H1⟩
 refine Rq<|Xm Y<|Xc Y<|Xf tM Y<|OV (EL pV Y (H1.cell (i:=0) Y Y))<|Aa e35<|Ij (uX Tryz.underlying175 Y) (by simp)<|Xa Y<|Xr e35<|J3 Y<|J2<|Xm Y<|Xm Y<|Xc Y<|Xf tM Y<|Aa e35<|OV (EL pV Y (H1.cell (i:=0) Y Y))<|BH (EC gf183 Y) (QW gr (hd gb) cb b i e _ (BE H1 (j:=1) (k:=2) Y Y (by decide) hcb (by omega) hi) 65535 (by decide) (by decide)) ?_
 intro w2 g1 c1 s1 ⟨hm1,hc1,hg1,Hd⟩
 have hsz0:=H1.size
 have H2:=(H1.call1 (i:=1) rfl Hd).pick [0,4,2,3,5] (by decide)
 refine Xc Y<|OW xK H2 3 Y Y Y Y hfit Y<|fun w3 H3=>Xr e35<|zA (zB ?_)
 refine zA<|yN Y ?_
 have hrow:=(fA (v:=(.slice (hd g1) (yF b 65535 i e).1.length c1)) hfit).symm
 have HN:=(show ∀ (wa wb:World) (SS:List Nat),Hp wa wb SS ((pr gp gr gb cb sb b ((yF b 65535 i e).2.1) ((yF b 65535 i e).2.2)++[(some go,T,cs.set o (.slice (hd g1) (yF b 65535 i e).1.length c1))])++[(g1,5,u8s (yF b 65535 i e).1++s1)])→Hp wa wb SS ((pr gp gr gb cb sb b ((yF b 65535 i e).2.1) ((yF b 65535 i e).2.2)++[(some go,T,zH cs o [(.slice (hd g1) (yF b 65535 i e).1.length c1)])])++[(g1,5,u8s (yF b 65535 i e).1++s1)]) from fun wa wb SS h=>by rw[hrow]at h;exact h) _ _ _ H3
 exact⟨_,_,_,[(.slice (hd g1) (yF b 65535 i e).1.length c1)],Y,(mT hi).1,FPs.one ⟨hd g1,c1,Y,HN.rd (i:=4) (o:=g1) (xs:=u8s (yF b 65535 i e).1) (sp:=s1) Y (yV _) (by decide),fun _ p hp=>⟨Nat.le_trans hsz0 (KR Hd (i:=0) Y p hp),qA (es1:=pr gp gr gb cb sb b ((yF b 65535 i e).2.1) ((yF b 65535 i e).2.2)++[(some go,T,zH cs o [(.slice (hd g1) (yF b 65535 i e).1.length c1)])]) (R:=[(g1,5,u8s (yF b 65535 i e).1++s1)]) HN (i:=0) Y p hp,HN.tw (i:=4) Y p hp⟩⟩,HN.less⟩
theorem RQ (gp gr go o:Nat) (gb:Option Nat) (cb:Nat) (sb:List Value) (b:List UInt8) (i e:Nat) (T:TypeId) (cs:List Value) (w0:World) (H0:Hp w0 w0 (bl (pr gp gr gb cb sb b i e++[(some go,T,cs)])) (pr gp gr gb cb sb b i e++[(some go,T,cs)])) (hcb:b.length≤cb) (hbl:b.length≤65536) (hi:i≤b.length) (m:Nat) (hat:At cs o (zCs (List.replicate m .text))) (A:Option Addr) (c:Nat) (hm:m≤1000000) (hA:Rd w0 A m 1 (fB go o m)) (hS:∀ p,A=some p→p.block∉bl (pr gp gr gb cb sb b i e++[(some go,T,cs)])):zP Tryz.prog 151 #[.pointer (some ⟨gp,0,none⟩),.slice A m c] w0 (fun r w'=>∃ fd i1 e1 us,vS (List.replicate m .text) b i e=(fd,i1,e1)∧i1≤b.length∧NFs w' w0.heap.size (pr gp gr gb cb sb b i1 e1++[(some go,T,zH cs o us)]) fd us∧Hp w0 w' (bl (pr gp gr gb cb sb b i e++[(some go,T,cs)])) (pr gp gr gb cb sb b i1 e1++[(some go,T,zH cs o us)])):=by
 refine zE Tryz.func151 Tryz.ntmps151 Y<|cR e44 ?_
 have H:=H0
 refine Rq<|Xm Y<|OV (ES Tryz.underlying252 Y)<|Xm Y<|Xr e44<|J7<|zU (fun nQ lQ w=>∃ (q:Nat) (y:Int) (i1 e1:Nat) (us:List Value) (fd:List Fv),m - q=nQ∧xN (Dj [(0,.pointer (some ⟨gp,0,none⟩)),(7,.slice A m c),(8,.int .i64 m),(9,.int .i64 y)] 0 44) lQ∧y=q∧q≤m∧us.length=q∧vS (List.replicate q .text) b i e=(fd,i1,e1)∧i1≤b.length∧NFs w w0.heap.size (pr gp gr gb cb sb b i1 e1++[(some go,T,zH cs o us)]) fd us∧Hp w0 w (bl (pr gp gr gb cb sb b i e++[(some go,T,cs)])) (pr gp gr gb cb sb b i1 e1++[(some go,T,zH cs o us)])) (m) ?_ ?_
 exact⟨0,_,i,e,[],[],Y,(Dv Y Y Y Y Y),Y,Nat.zero_le _,Y,Y,hi,FPs.nil,by rw[kF];exact H⟩
 rintro nQ lQ w1 ⟨q,y,i1,e1,us,fd,rfl,hfit,rfl,hq,hus,hrd,hi1,hF,H1⟩
 obtain⟨j,rfl⟩:=hfit.open
 refine cR e44 ?_
 clear hfit
 refine Rq<|OT (zQ Y Y) (fun hp10=>?_) (fun hp10=>?_)
 have Cb:q < m:=by omega
 have hcq:cs[o+q]? =some (.string ⟨([]:List UInt8).toArray⟩):=hat q _ (GG Cb)
 have hfit:=lt_of_get hcq
 have hkeep:=CX (cs:=cs) hus (Nat.le_of_lt hfit)
 rw[hcq]at hkeep
 obtain⟨pa,hpa⟩:=hA.some_ (by omega)
 subst hpa
 have HB:=H1
 replace H1:=HB.here
 have HB1:=HB
 refine Xr e44<|J1<|J3 Y<|J6<|J1<|J7<|Rq<|OV (EI Tryz.underlying252 aB Y Y Y Cb (Nat.mul_one _))<|OV (EL aB Y ((hA.to (HB.all H1) hS).cells pa Y q _ (dY Cb)))<|Xa Y<|Xr e44<|J1<|Rq<|Xm Y<|Xc Y<|Xf tM Y<|OV (EL pV Y (H1.cell (i:=0) Y Y))<|Aa e44<|Dy (yE Tryz.underlying175 Y) (by simp)<|Xm Y<|Aa e44<|Oz 5 Y<|Aa e44<|Xu Y Y<|Xr e44<|J4 Y<|J6<|Rq<|Xm Y ?_
 refine Xc Y<|OV (EL ty9 Y (H1.cell (i:=3) Y hkeep)) ?_
 have hgn:=fN H1 (g:=w1.heap.size) (Nat.le_refl _)
 refine nS Tryz.underlying9 Tryz.underlying73 Tryz.underlying5 H1 (s:=[]) Y<|fun w2 gs cs1 HB2 hrs hgs hsz=>?_
 replace hF:=hF.to HB2
 replace HB:=HB1.all HB2
 have H2:=HB.here
 refine Aa e44<|OA xK H2<|fun w3 gv H3 hgv=>OW xK H3 4 Y Y Y Y (by decide) Y<|fun w4 H4=>Xr e44<|Rq<|Xm Y ?_
 have HQ:Hp _ w4 _ ((pr gp gr gb cb sb b i1 e1++[(some gv,73,[Value.slice (some ⟨gs,0,none⟩) ([]:List UInt8).length cs1])])++[(some go,T,zH cs o us)]):=H4.pick [0,1,2,4,3] (by decide)
 have hk:=C8 gp gr gv 0 gb cb sb b i1 e1 73 [Value.slice (some ⟨gs,0,none⟩) ([]:List UInt8).length cs1] _ HQ.less.here hcb hbl hi1 _ ⟨_,_,rfl,⟨rfl,fun _ _ _ _ hu=>by simp[u8s]at hu,fun _=>rfl⟩,fun h0=>absurd h0 (by simp)⟩ rfl
 refine OQ (EC AG Y) hk ?_
 rintro _ w5 ⟨fdn,i2,e2,un,hrn,hi2,hFn,Hd⟩
 have hrn2:=JZ hrn
 obtain⟨tx,hfn,hrt⟩:=hrn2
 subst hfn
 obtain⟨vn,hun,hvn⟩:=hFn.head
 subst hun
 obtain⟨Bn,cn,hvs,hrdn,hapn⟩:=hvn
 subst hvs
 have HX:=HQ.front Hd
 have H5:Hp _ w5 _ (pr gp gr gb cb sb b i2 e2++[(some go,T,zH cs o us),(some gv,73,[Value.slice Bn tx.length cn])]):=HX.pick [0,1,2,4,3] (by decide)
 refine Xr e44<|Rq<|Xm Y<|Xc Y<|Xf tM Y<|OV (EL pV Y (H5.cell (i:=0) Y Y))<|Aa e44<|Ij (uX Tryz.underlying175 Y) (by simp)<|Xr e44<|J3 Y<|J2<|Xm Y<|OV (EL xK Y (H5.cell (i:=4) Y Y))<|OV (eI Tryz.underlying73 Tryz.underlying5 Tryz.underlying9 Y hrdn)<|Xc Y<|Aa e44<|OW ty9 H5 3 Y Y Y Y (by rw[vH (by omega)];omega) Y<|fun w6 H6=>Xr e44<|zA (zB ?_)
 refine J2<|OV (zL Y Y (IntWalk.i64_in _ (by omega)))<|Xm Y<|Xr e44<|zA (zI ?_)
 have hrow:=iH (cs:=cs) (o:=o) (v:=(.string ⟨tx.toArray⟩)) hus hfit
 have HN:=(show ∀ (wa wb:World) (SS:List Nat),Hp wa wb SS ((pr gp gr gb cb sb b i2 e2++[(some go,T,(zH cs o us).set (o+q) (.string ⟨tx.toArray⟩))])++[(some gv,73,[Value.slice Bn tx.length cn])])→Hp wa wb SS ((pr gp gr gb cb sb b i2 e2++[(some go,T,zH cs o (us++[(.string ⟨tx.toArray⟩)]))])++[(some gv,73,[Value.slice Bn tx.length cn])]) from fun wa wb SS h=>by rw[hrow]at h;exact h) _ _ _ H6
 replace HN:=HN.less
 exact⟨m - (q+1),by omega,q+1,_,i2,e2,us++[(.string ⟨tx.toArray⟩)],_,Y,(Dv Y Y Y Y Y),Y,by omega,by simp[hus],iJ hrd hrt,hi2,(hF.to HN).app (FPs.one (f:=.text tx) (show _=_ from Y)),HB.all HN⟩
 have hqm:q=m:=by omega
 subst hqm
 refine Xr e44<|J1<|J4 Y<|J8<|zT<|zS<|zA<|yN Y<|⟨fd,i1,e1,us,hrd,hi1,hF,H1⟩
theorem jP :UP Tryz.prog 106 .int:=fun gp gr gb cb sb b hcb hbl go o n c i e T cs w0 A hn H0 hi hat _ hA hS=>(U5 gp gr go o gb cb sb b i e T cs w0 H0 hcb hbl hi n hat A c hn hA hS).mono fun _ _ h=>dT h
theorem RS :UP Tryz.prog 151 .text:=fun gp gr gb cb sb b hcb hbl go o n c i e T cs w0 A hn H0 hi hat _ hA hS=>(RQ gp gr go o gb cb sb b i e T cs w0 H0 hcb hbl hi n hat A c hn hA hS).mono fun _ _ h=>dT h
theorem DA :LH Tryz.prog 150 (Th.flat [.bytes]):=fun gp gr gb cb sb b hcb hbl go o i e T cs w0 H0 hi hat _=>(C8 gp gr go o gb cb sb b i e T cs w0 H0 hcb hbl hi _ (zFP _ _ .bytes) (by have:=hat 0 _ rfl;rwa [Nat.add_zero]at this)).mono fun _ _ h=>dT h
end Go.Proofs.YtjoeklkmnfaabaaGreat
namespace Go.Proofs.YtjoeklkmnfaabaaGreat
open Go Go.RowKit
set_option linter.unusedVariables false
set_option linter.unusedSimpArgs false
theorem FPs.part {w:World} {ok:Nat→Prop} {fs:List Fv} {vs:List Value} (h:FPs w ok fs vs) (k n:Nat):FPs w ok ((fs.drop k).take n) ((vs.drop k).take n):=by
 refine⟨by simp[h.len],fun i hi=>?_⟩
 simp only[List.length_take,List.length_drop]at hi
 obtain⟨v,q1,q2⟩:=h.each (k+i) (by omega)
 refine⟨v,?_,by simpa using q2⟩
 rw[List.getElem?_take_of_lt (by omega),List.getElem?_drop]
 exact q1
theorem Th.part {ks:List Kd} {w:World} {ok:Nat→Prop} {x:List Fv} {vs:List Value} (h:(Th.flat ks).M w ok x vs) (k n:Nat):(Th.flat ((ks.drop k).take n)).M w ok ((x.drop k).take n) ((vs.drop k).take n):=
 ⟨by rw[← h.1];simp[List.map_drop,List.map_take],h.2.part k n⟩
theorem Th.whole {ks:List Kd} {w:World} {ok:Nat→Prop} {x:List Fv} {vs:List Value} (h:(Th.flat ks).M w ok x vs):x.take ks.length=x:=List.take_of_length_le (by rw[← h.1];simp)
theorem At.sub (vs:List Value) (k n:Nat):At vs k ((vs.drop k).take n):=fun j u hu=>by
 rw[List.getElem?_take]at hu
 split at hu
 · rwa [List.getElem?_drop]at hu
 · cases hu
section
variable {P:Program} {l:List Value} {w:World} {ty t:TypeId} {x:Operand}
end
structure Ob (tw:Bool) (gp:Nat) (a:Addr) (w0:World) (S:List Nat) (w:World) (st:WS) (T:Th) (x:T.X) (vs:List Value) (g:Option Nat) (cap:Nat) (sp:List Value):Prop where
 H:Hp w0 w S (pw gp g cap sp st)
 P:POk 65536 g cap sp st
 M:T.M w (fun b=>b∉bl (pw gp g cap sp st)) x vs
 C:Cl w (bl (pw gp g cap sp st)) a vs
 tw_:tw=true→qP w a∧0 < vs.length
section
variable {P:Program} {f:FuncId} {tw tv:Bool} {gp o:Nat} {a:Addr} {w0 w w1:World} {S:List Nat} {st st1:WS} {T A:Th} {x:T.X} {y:A.X} {vs us:List Value} {g g1:Option Nat} {cap cap1:Nat} {sp sp1:List Value} {k:Kd} {ys:List Fv} {gs n:Nat} {PT:TypeId}
theorem Ob.next (h:Ob tw gp a w0 S w st T x vs g cap sp) (hP:POk 65536 g1 cap1 sp1 st1) (Hd:Hp w w1 (bl (pw gp g cap sp st)) (pw gp g1 cap1 sp1 st1)):Ob tw gp a w0 S w1 st1 T x vs g1 cap1 sp1:=
 ⟨h.H.all Hd,hP,T.mono (T.to h.M Hd fun _ h=>h) fun _ h=>h.2,h.C.to Hd,fun ht=>⟨(h.tw_ ht).1.to Hd (h.C.apart (h.tw_ ht).2),(h.tw_ ht).2⟩⟩
theorem Ob.one (h:Ob tw gp a w0 S w st T x vs g cap sp) (hc:GE P f A tv) (ht:tv=true→tw=true) (hp:∀ w ok,T.M w ok x vs→A.M w ok y us) (hat:At vs o us):
 zP P f #[Ptr0 gp,LG (a.add o)] w (fun _ w1=>∃ g1 cap1 sp1,Ob tw gp a w0 S w1 (xX (A.fl y) st) T x vs g1 cap1 sp1):=
 (hc gp g cap sp st (a.add o) y us w h.H.here h.P (hp _ _ h.M) (h.C.part hat) (fun h1=>(h.tw_ (ht h1)).1.add o)).mono fun _ _ ⟨g1,cap1,sp1,hP,Hd⟩=>⟨g1,cap1,sp1,h.next hP Hd⟩
theorem Ob.grp (h:Ob tw gp a w0 S w st T x vs g cap sp) (hc:P9 P f k) (H1:Hp w w1 (bl (pw gp g cap sp st)) (pw gp g cap sp st++[(some gs,PT,iM a o n)])) (hn:n≤1000000) (hp:∀ w ok,T.M w ok x vs→(Th.flat (List.replicate n k)).M w ok ys us) (hat:At vs o us):
 zP P f #[Ptr0 gp,.slice (hd (some gs)) n n] w1 (fun _ w2=>∃ g1 cap1 sp1,Ob tw gp a w0 S w2 (xX ys st) T x vs g1 cap1 sp1):=by
 have hM:=T.to h.M H1.less fun _ h=>h
 have hC:=h.C.to H1.less
 refine(hc gp g cap sp st a o n n ys us w1 _ hn H1.less.here h.P (hp _ _ (T.mono hM fun _ h=>h.2)) (hC.part hat) (H1.rd (i:=2) (o:=some gs) (xs:=iM a o n) (T:=PT) (sp:=[]) (by rw[List.append_nil];rfl) (by simp[BF]) (by decide)) (qA H1 (i:=0) Y)).mono ?_
 rintro _ w2 ⟨g1,cap1,sp1,hP,Hd⟩
 exact⟨g1,cap1,sp1,h.next hP (H1.front Hd).less⟩
end
theorem Ob.out {tw:Bool} {gp:Nat} {a:Addr} {w0 w:World} {S:List Nat} {st s2:WS} {T:Th} {x:T.X} {vs:List Value} {g:Option Nat} {cap:Nat} {sp:List Value} (h:Ob tw gp a w0 S w st T x vs g cap sp) (e:st=s2):nI gp s2 w0 S w:=by subst e;exact⟨g,cap,sp,h.P,h.H⟩
theorem At.cast {cs us:List Value} {o o':Nat} (h:At cs o us) (e:o=o'):At cs o' us:=by subst e;exact h
structure Hf (gp go o:Nat) (w0:World) (S:List Nat) (w:World) (m:Nat) (a st:WS) (T:Th) (x:T.X) (vs:List Value) (U:TypeId) (cs:List Value) (g:Option Nat) (cap:Nat) (sp:List Value):Prop where
 H:Hp w0 w S (vwo gp g cap sp st go U cs)
 P:POk m g cap sp st
 L:rW a st
 M:T.M w (fun b=>b∉bl (vwo gp g cap sp st go U cs)) x vs
 at_:At cs o vs
section
variable {P:Program} {f:FuncId} {gp go o p:Nat} {w0 w w1:World} {S:List Nat} {st st1 a a1:WS} {T A:Th} {x:T.X} {y:A.X} {vs us cs:List Value} {g g1:Option Nat} {cap cap1:Nat} {sp sp1:List Value} {k:Kd} {ys:List Fv} {gs n m m1:Nat} {U PT:TypeId}
theorem Hf.next (h:Hf gp go o w0 S w m a st T x vs U cs g cap sp) (hL:rW a1 st1) (hP:POk m1 g1 cap1 sp1 st1) (Hd:Hp w w1 (bl (vwo gp g cap sp st go U cs)) (vwo gp g1 cap1 sp1 st1 go U cs)):Hf gp go o w0 S w1 m1 a1 st1 T x vs U cs g1 cap1 sp1:=
 ⟨h.H.all Hd,hP,hL,T.mono (T.to h.M Hd fun _ h=>h) fun _ h=>h.2,h.at_⟩
theorem Hf.one (h:Hf gp go o w0 S w m a st T x vs U cs g cap sp) (hc:gI P f A) (hm:m+A.mx≤1000000000) (hp:∀ w ok,T.M w ok x vs→A.M w ok y us) (hat:At vs p us):
 zP P f #[Ptr0 gp,LG ⟨go,o+p,none⟩] w (fun _ w1=>∃ st1 g1 cap1 sp1,Hf gp go o w0 S w1 (m+A.mx) (xX (A.fl y) a) st1 T x vs U cs g1 cap1 sp1):=
 (hc gp go (o+p) g cap sp st U cs y us w m a h.H.here hm h.P h.L (hp _ _ h.M) (h.at_.trans hat)).mono fun _ _ ⟨st1,g1,cap1,sp1,hL,hP,Hd⟩=>⟨st1,g1,cap1,sp1,h.next hL hP Hd⟩
theorem Hf.grp (h:Hf gp go o w0 S w m a st T x vs U cs g cap sp) (hc:P7 P f k) (H1:Hp w w1 (bl (vwo gp g cap sp st go U cs)) (vwo gp g cap sp st go U cs++[(some gs,PT,fB go (o+p) n)])) (hn:n≤1000000) (hm:m+65545*n≤1000000000)
 (hp:∀ w ok,T.M w ok x vs→(Th.flat (List.replicate n k)).M w ok ys us) (hat:At vs p us):
 zP P f #[Ptr0 gp,.slice (hd (some gs)) n n] w1 (fun _ w2=>∃ st1 g1 cap1 sp1,Hf gp go o w0 S w2 (m+65545*n) (xX ys a) st1 T x vs U cs g1 cap1 sp1):=by
 have hM:=T.to h.M H1.less fun _ h=>h
 refine(hc gp go (o+p) n n g cap sp st U cs ys us w1 m a _ hn H1.less.here hm h.P h.L (hp _ _ (T.mono hM fun _ h=>h.2)) (h.at_.trans hat) (H1.rd (i:=3) (o:=some gs) (xs:=fB go (o+p) n) (T:=PT) (sp:=[]) (by rw[List.append_nil];rfl) (by simp[eD]) (by decide)) (qA H1 (i:=0) Y)).mono ?_
 rintro _ w2 ⟨st1,g1,cap1,sp1,hL,hP,Hd⟩
 exact⟨st1,g1,cap1,sp1,h.next hL hP (H1.front Hd).less⟩
theorem Hf.re {m2:Nat} (h:Hf gp go o w0 S w m a st T x vs U cs g cap sp) (e:m=m2):Hf gp go o w0 S w m2 a st T x vs U cs g cap sp:=by subst e;exact h
theorem Hf.Rl {m2:Nat} (h:Hf gp go o w0 S w m a st T x vs U cs g cap sp) (e:a=a1) (em:m=m2):gJ m2 gp a1 go U cs w0 S w:=by subst e em;exact⟨st,g,cap,sp,h.L,h.P,h.H⟩
end
structure Jy (R:AO) (go o:Nat) (U:TypeId) (cs:List Value) (b:List UInt8) (i0 e0 n:Nat) (w0:World) (S:List Nat) (w:World) (A:Th) (us:List Value) (i e:Nat):Prop where
 rd:(A.rd b i0 e0).2=(i,e)
 ul:us.length=A.sz
 Ym:us.all (·.oneCell')=true
 H:Hp w0 w S (R i e++[(some go,U,zH cs o us)])
 M:e=0→A.M w (Fr w n (R i e++[(some go,U,zH cs o us)])) (A.rd b i0 e0).1 us
 le:i≤b.length
 nle:n≤w.heap.size
section
variable {P:Program} {f:FuncId} {R:AO} {gp go o q:Nat} {U PT:TypeId} {cs us:List Value} {b:List UInt8} {i0 e0 i e n:Nat} {w0 w w1:World} {S:List Nat} {A B:Th} {ks js:List Kd} {k:Kd} {m gs r:Nat}
theorem Jy.out (h:Jy R go o U cs b i0 e0 n w0 S w A us i e):nH R A go o U cs b i0 e0 n w0 S w:=by
 obtain⟨h1,h2,h3,h4,h5,h6,h7⟩:=h
 refine⟨us,h2,h3,?_,?_⟩
 · rw[h1];exact h4
 · intro h0
   rw[h1]at h0
   have:=h5 h0
   rw[h1]
   exact this
theorem Jy.start (H0:Hp w0 w0 S (R i0 e0++[(some go,U,cs)])) (hi:i0≤b.length):Jy R go o U cs b i0 e0 w0.heap.size w0 S w0 (Th.flat []) [] i0 e0:=
 ⟨rfl,rfl,rfl,by rw[kF];exact H0,fun _=>⟨rfl,FPs.nil⟩,hi,Nat.le_refl _⟩
theorem Jy.step (h:Jy R go o U cs b i0 e0 n w0 S w A us i e) (hq:A.sz=q) (hfit:o+q+B.sz≤cs.length) {w1 w2:World} (H1:Hp w w1 (bl (R i e++[(some go,U,zH cs o us)])) (R i e++[(some go,U,zH cs o us)]))
 (Hd:nH R B go (o+q) U (zH cs o us) b i e w1.heap.size w1 (bl (R i e++[(some go,U,zH cs o us)])) w2):∃ Uz i2 e2,Jy R go o U cs b i0 e0 n w0 S w2 (Th.pair A B) (us++Uz) i2 e2:=by
 subst hq
 obtain⟨Uz,hl2,ho2,H2,hM2⟩:=Hd
 have Qy:=h.ul
 have hput:zH (zH cs o us) (o+A.sz) Uz=zH cs o (us++Uz):=by rw[← Qy];exact aO (by omega)
 rw[hput]at H2 hM2
 have hrd:((Th.pair A B).rd b i0 e0).2=(B.rd b i e).2:=by
  show(B.rd b (A.rd b i0 e0).2.1 (A.rd b i0 e0).2.2).2=_
  rw[h.rd]
 have hrd1:((Th.pair A B).rd b i0 e0).1=((A.rd b i0 e0).1,(B.rd b i e).1):=by
  show((A.rd b i0 e0).1,(B.rd b (A.rd b i0 e0).2.1 (A.rd b i0 e0).2.2).1)=_
  rw[h.rd]
 have Bc:=H1.all H2
 have hsz1:=H1.size
 have hsz2:=H2.size
 have hn:=h.nle
 refine⟨Uz,(B.rd b i e).2.1,(B.rd b i e).2.2,hrd,by rw[List.length_append,Qy,hl2],by rw[List.all_append,h.Ym,ho2];rfl,h.H.all Bc,?_,B.le h.le,by omega⟩
 intro h0
 have he:e=0:=by
  apply Classical.byContradiction
  intro hne
  have:=B.bad (b:=b) (i:=i) hne
  rw[this]at h0
  exact hne h0
 rw[hrd1]
 have hA:=Fr.to (h.M he) Bc
 refine⟨?_,?_,by simp only[List.length_append];omega⟩
 · rw[← Qy,List.take_left]
   exact hA
 · rw[← Qy,List.drop_left]
   exact B.mono (hM2 h0) fun _ h=>⟨by have:=h.1;omega,h.2⟩
theorem KT {w:World} {ok:Nat→Prop} {x y:List Fv} {vs:List Value} (h1:(Th.flat ks).M w ok x (vs.take ks.length)) (h2:(Th.flat js).M w ok y (vs.drop ks.length)):(Th.flat (ks++js)).M w ok (x++y) vs:=by
 refine⟨by rw[List.map_append,h1.1,h2.1],?_⟩
 have:=h1.2.app h2.2
 rwa [List.take_append_drop]at this
@[reducible] def fapp (a b:List Fv):List Fv:=a++b
theorem Jy.Ew (h:Jy R go o U cs b i0 e0 n w0 S w (Th.pair (Th.flat ks) (Th.flat js)) us i e):Jy R go o U cs b i0 e0 n w0 S w (Th.flat (ks++js)) us i e:=by
 have hx:(Th.flat (ks++js)).rd b i0 e0=(fapp ((Th.pair (Th.flat ks) (Th.flat js)).rd b i0 e0).1.1 ((Th.pair (Th.flat ks) (Th.flat js)).rd b i0 e0).1.2,((Th.pair (Th.flat ks) (Th.flat js)).rd b i0 e0).2):=nP ks js b i0 e0
 refine⟨by rw[hx];exact h.rd,by rw[h.ul];exact List.length_append.symm,h.Ym,h.H,fun h0=>?_,h.le,h.nle⟩
 have:=h.M h0
 rw[hx]
 exact KT this.1 this.2.1
theorem Jy.one (h:Jy R go o U cs b i0 e0 n w0 S w A us i e) (hc:JA P f R gp b B) (hq:A.sz=q) (hfit:o+q+B.sz≤cs.length) (hat:At cs (o+q) B.zs):
 zP P f #[Ptr0 gp,LG ⟨go,o+q,none⟩] w (fun _ w1=>∃ Uz i2 e2,Jy R go o U cs b i0 e0 n w0 S w1 (Th.pair A B) (us++Uz) i2 e2):=by
 have Qy:=h.ul
 refine(hc go (o+q) i e U (zH cs o us) w h.H.here h.le ?_ ?_).mono fun _ w1 hd=>h.step hq hfit h.H.here hd
 · rw[← hq,← Qy]at hat ⊢
   exact At.behind hat (by omega)
 · rw[vH (by omega)];exact hfit
theorem Jy.grp (h:Jy R go o U cs b i0 e0 n w0 S w A us i e) (hc:EX P f R gp b k) (hq:A.sz=q) (H1:Hp w w1 (bl (R i e++[(some go,U,zH cs o us)])) (R i e++[(some go,U,zH cs o us)]++[(some gs,PT,fB go (o+q) m)])) (hm:m≤1000000)
 (hfit:o+q+m≤cs.length) (hat:At cs (o+q) (zCs (List.replicate m k))) (hR:(R i e++[(some go,U,zH cs o us)]).length=r) (hz:(Th.flat (List.replicate m k)).sz=m):
 zP P f #[Ptr0 gp,.slice (hd (some gs)) m m] w1 (fun _ w2=>∃ Uz i2 e2,Jy R go o U cs b i0 e0 n w0 S w2 (Th.pair A (Th.flat (List.replicate m k))) (us++Uz) i2 e2):=by
 have Qy:=h.ul
 refine(hc go (o+q) m m i e U (zH cs o us) w1 _ hm H1.less.here h.le ?_ ?_ (H1.rd (i:=r) (o:=some gs) (xs:=fB go (o+q) m) (T:=PT) (sp:=[]) ?_ (by simp[eD]) (by decide)) (qA H1 (i:=0) Y)).mono fun _ w2 hd=>h.step hq (by rw[hz];exact hfit) H1.less hd
 · rw[← hq,← Qy]at hat ⊢
   exact At.behind hat (by omega)
 · rw[vH (by omega)];exact hfit
 · rw[List.getElem?_append_right (by omega),hR];simp
end
def sY (st:WS):List UInt8:=if st.long=true then[] else st.out
def errOf (st:WS):Nat:=if st.long=true then 22 else 0
@[reducible] def W0 :WS:=⟨[],false⟩
def I7 (w0 w':World) (r:Value) (st:WS):Prop:=
 ∃ g cap sp,r=.tuple #[.slice (hd g) (sY st).length cap,.int .i64 (errOf st:Int)]∧(sY st).length≤cap∧cap*1≤(u8s (sY st)++sp).length∧(g=none→cap=0)∧(sY st).length≤65536∧Hp w0 w' [] [(g,5,u8s (sY st)++sp)]
def Gy (A:Th) (b:List UInt8):Nat:=if 65536 < b.length then 22 else if(A.rd b 0 0).2.2≠0 then(A.rd b 0 0).2.2 else if(A.rd b 0 0).2.1 < b.length then 24 else 0
def N5 (A:Th) (b:List UInt8):A.X:=if Gy A b=0 then(A.rd b 0 0).1 else A.z
def UO (A:Th) (b:List UInt8) (w0 w':World) (r:Value):Prop:=
 ∃ cells,r=.tuple #[.agg cells.toArray,.int .i64 (Gy A b:Int)]∧A.M w' (fun p=>w0.heap.size≤p∧Tw w' p) (N5 A b) cells∧Hp w0 w' [] []
section
variable {P:Program} {fn:Func} {l:List Value} {w w0:World} {R:Value→World→Prop} {zs:List Value} {sz bytes:Nat}
theorem Hp.cells {S:List Nat} {es:List Ent} (H:Hp w0 w S es) {i g:Nat} {T:TypeId} {cs:List Value} (he:es[i]? =some (some g,T,cs)):∀ j u,cs[j]? =some u→w.cell? ((⟨g,0,none⟩:Addr).add j)=some u:=fun j u hu=>by
 rw[Dn,Nat.zero_add];exact H.cell he hu
end
theorem LD {a st:WS} (h:rW a st):(st.long=true∨65536 < st.out.length→a.long=true)∧(¬(st.long=true∨65536 < st.out.length)→a.long=false∧a.out=st.out):=by
 rcases h with ⟨h1,h2⟩ | ⟨h1,h2,h3,h4⟩
 · exact⟨fun _=>h1,fun h=>absurd h2 h⟩
 · refine⟨fun h=>?_,fun _=>⟨h1,h3⟩⟩
   rcases h with h | h
   · rw[h2]at h;cases h
   · rw[← h3]at h;omega
theorem mJ {st:WS} (h:st.long=true):sY st=[]∧errOf st=22:=⟨if_pos h,if_pos h⟩
theorem hU {st:WS} (h:st.long=false):sY st=st.out∧errOf st=0:=⟨if_neg (by simp[h]),if_neg (by simp[h])⟩
theorem IC {A:Th} {b:List UInt8} (h:Gy A b=0):N5 A b=(A.rd b 0 0).1∧¬65536 < b.length∧(A.rd b 0 0).2.2=0∧¬(A.rd b 0 0).2.1 < b.length:=by
 refine⟨if_pos h,?_⟩
 unfold Gy at h
 split at h
 · cases h
 · split at h
   · omega
   · split at h
     · cases h
     · rename_i h1 h2 h3;exact⟨h1,by omega,h3⟩
theorem N4 {A:Th} {b:List UInt8} (h:Gy A b≠0):N5 A b=A.z:=if_neg h
theorem SU {A:Th} {b:List UInt8} {x:A.X} {i e:Nat} (h:b.length≤65536) (hx:A.rd b 0 0=(x,i,e)):Gy A b=if e=0∧i < b.length then 24 else e:=by
 unfold Gy
 rw[if_neg (by omega),hx]
 simp only
 split
 · rw[if_neg (by omega)]
 · split
   · rw[if_pos ⟨by omega,by assumption⟩]
   · rw[if_neg (by omega)];omega
theorem FN {cs us:List Value} (h:us.length=cs.length):zH cs 0 us=us:=by
 unfold zH
 rw[List.drop_of_length_le (by omega)]
 simp
theorem DG {P:Program} {ds:List Deferred} {Q:vN} {K:List Value→World→Prop} {all os:List Oper} {l:List Value} {w:World} {op:Op} {ty:TypeId} {pos:String} {af:Array Edge} {d:Tmp}
 {f:FuncId} {args:Array Value} {st:WS} (hx:Ex P l op ty w (.enter f args) w) (hc:zP P f args w fun r w'=>I7 w w' r st)
 (h:∀ w' g cap sp,(sY st).length≤cap→cap*1≤(u8s (sY st)++sp).length→(g=none→cap=0)→(sY st).length≤65536→Hp w w' [] [(g,5,u8s (sY st)++sp)]→Ops P ds all K Q os (l.set d (.tuple #[.slice (hd g) (sY st).length cap,.int .i64 (errOf st:Int)])) w'):
 Ops P ds all K Q (⟨some d,op,ty,pos,af,none⟩::os) l w:=
 tE hx hc fun r w' ⟨g,cap,sp,h1,h2,h3,h4,h5,h6⟩=>by rw[h1];exact h w' g cap sp h2 h3 h4 h5 h6
theorem BI {P:Program} {ds:List Deferred} {Q:vN} {K:List Value→World→Prop} {all os:List Oper} {l:List Value} {w:World} {op:Op} {ty:TypeId} {pos:String} {af:Array Edge} {d:Tmp}
 {f:FuncId} {args:Array Value} {A:Th} {b:List UInt8} (hx:Ex P l op ty w (.enter f args) w) (hc:zP P f args w fun r w'=>UO A b w w' r)
 (h:∀ w' cells,A.M w' (fun p=>w.heap.size≤p∧Tw w' p) (N5 A b) cells→Hp w w' [] []→Ops P ds all K Q os (l.set d (.tuple #[.agg cells.toArray,.int .i64 (Gy A b:Int)])) w'):
 Ops P ds all K Q (⟨some d,op,ty,pos,af,none⟩::os) l w:=
 tE hx hc fun r w' ⟨cells,h1,h2,h3⟩=>by rw[h1];exact h w' cells h2 h3

theorem fY (s t:List UInt8) (hs:s.length≤65535):vE (xY s++t) 65535=(s,(xY s).length,0):=by
 have h1:xM (xY s++t)=(s.length,(enc s.length).length,0):=by
  rw[rA,List.append_assoc];exact kH _ _ (by omega)
 have h2:zZ (xY s++t) 65535=(s.length,(enc s.length).length,0):=by
  rw[oD (by rw[h1]) (by rw[h1];simp only;omega),h1]
 unfold vE
 rw[h2]
 simp only[ne_eq,not_true,if_false]
 rw[if_neg (by rw[rA];simp),rA,List.append_assoc,List.drop_left,List.take_left,List.length_append]
theorem OO {f:Fv} {b t:List UInt8} {i:Nat} (hf:FOk f) (h2:wM f=false) (h:b.drop i=rI f++t):rdF f.kd b i 0=(f,i+(rI f).length,0):=by
 cases f with
 | int n=>
  show(Fv.int (unz (yK b i 0).1),(yK b i 0).2)=_
  have hs:yK b i 0=(zig n,i+(enc (zig n)).length,0):=by
   unfold yK
   rw[if_pos rfl,h]
   simp only[rI]
   rw[rG,kH _ _ (E0 n hf.1 hf.2)]
  rw[hs]
  simp only[QV,rI]
  rw[rG]
 | flag v=>
  show(Fv.flag (tY b i 0).1,(tY b i 0).2)=_
  have hs:tY b i 0=(v,i+1,0):=by
   unfold tY
   rw[if_pos rfl,h]
   cases v <;>rfl
  rw[hs]
  rfl
 | text s=>
  show(Fv.text (yF b 65535 i 0).1,(yF b 65535 i 0).2)=_
  have hl:s.length≤65535:=by have:=of_decide_eq_false h2;omega
  have hs:yF b 65535 i 0=(s,i+(xY s).length,0):=by
   unfold yF
   rw[if_pos rfl,h]
   simp only[rI]
   rw[fY s t hl]
  rw[hs]
  rfl
 | bytes s=>
  show(Fv.bytes (yF b 65535 i 0).1,(yF b 65535 i 0).2)=_
  have hl:s.length≤65535:=by have:=of_decide_eq_false h2;omega
  have hs:yF b 65535 i 0=(s,i+(xY s).length,0):=by
   unfold yF
   rw[if_pos rfl,h]
   simp only[rI]
   rw[fY s t hl]
  rw[hs]
  rfl
 | word n=>
  show(Fv.word (tT b i 0).1,(tT b i 0).2)=_
  have hn:n < 4294967296:=hf
  have hs:yK b i 0=(n,i+(enc n).length,0):=by
   unfold yK
   rw[if_pos rfl,h]
   simp only[rI]
   rw[kH _ _ (by omega)]
  unfold tT
  rw[hs,if_neg (by simp only;omega)]
  rfl
 | count n=>
  show(Fv.count (wJ b 1024 i 0).1,(wJ b 1024 i 0).2)=_
  have hl:n≤1024:=by have:=of_decide_eq_false h2;omega
  have h1:xM (b.drop i)=(n,(enc n).length,0):=by
   rw[h]
   simp only[rI]
   rw[kH _ _ (by omega)]
  rw[eJ (by rw[h1]) (by rw[h1];simp only;omega),h1]
  rfl
theorem LP (f:Fv) (st:WS):st.out <+:(qL f st).out:=by
 unfold qL
 split
 · exact List.prefix_refl _
 · split
   · exact List.prefix_refl _
   · unfold iC
     split
     · exact List.prefix_refl _
     · exact List.prefix_append _ _
theorem CI :∀ (fs:List Fv) (st:WS),st.out <+:(xX fs st).out
 | [],_=>List.prefix_refl _
 | f::fs,st=>(LP f st).trans (CI fs (qL f st))
theorem E7 {a c:List Fv} {st:WS} (h:(xX (a++c) st).long=false):(xX a st).long=false:=by
 rw[wW]at h
 cases hl:(xX a st).long with
 | false=>rfl
 | true=>rw[bZ hl,hl]at h;cases h
theorem JG {f:Fv} {st:WS} (h0:st.long=false) (h:(qL f st).long=false):wM f=false∧qL f st=⟨st.out++rI f,false⟩:=by
 cases ht:wM f with
 | true=>rw[iD h0 ht]at h;cases h
 | false=>
  refine⟨Y,?_⟩
  rw[mR h0 ht]at h ⊢
  unfold iC at h ⊢
  split at h
  · cases h
  · rename_i hn
    rw[if_neg hn,h0]
theorem PI {a c b:List UInt8} (h:a++c <+:b):∃ t,b.drop a.length=c++t:=by
 obtain⟨t,rfl⟩:=h
 exact⟨t,by rw[List.append_assoc,List.drop_left]⟩
theorem I3 :∀ (x:List Fv),(∀ f∈x,FOk f)→∀ (st:WS) (b:List UInt8),st.long=false→(xX x st).long=false→(xX x st).out <+:b→vS (x.map Fv.kd) b st.out.length 0=(x,(xX x st).out.length,0)
 | [],_,_,_,_,_,_=>rfl
 | f::fs,hok,st,b,h0,hl,hp=>by
  have hl1:(qL f st).long=false:=E7 (a:=[f]) (c:=fs) hl
  obtain⟨h2,h3⟩:=JG h0 hl1
  have hp1:st.out++rI f <+:b:=by
   have:=(CI fs (qL f st)).trans hp
   rw[h3]at this
   exact this
  obtain⟨t,ht⟩:=PI hp1
  have hr:=OO (hok f (List.mem_cons_self ..)) h2 ht
  have hs:xX (f::fs) st=xX fs (qL f st):=rfl
  have ih:=I3 fs (fun g hg=>hok g (List.mem_cons_of_mem _ hg)) (qL f st) b hl1 (by rw[← hs];exact hl) (by rw[← hs];exact hp)
  have hlen:(qL f st).out.length=st.out.length+(rI f).length:=by rw[h3];simp
  rw[hlen]at ih
  rw[hs]
  show((rdF f.kd b st.out.length 0).1::(vS (fs.map Fv.kd) b (rdF f.kd b st.out.length 0).2.1 (rdF f.kd b st.out.length 0).2.2).1,(vS (fs.map Fv.kd) b (rdF f.kd b st.out.length 0).2.1 (rdF f.kd b st.out.length 0).2.2).2)=_
  rw[hr]
  simp only
  rw[ih]
section
variable {A:Th} {w:World} {ok:Nat→Prop} {x:A.X} {vs:List Value}
theorem U6 (st:List Fv):(sY (xX st W0)).length≤65536:=by
 have h:=QI (fs:=st) (st:=W0) (Nat.zero_le _)
 unfold sY
 split
 · exact Nat.zero_le _
 · exact h
end
end Go.Proofs.YtjoeklkmnfaabaaGreat
namespace Go.Proofs.YtjoeklkmnfaabaaGreat
set_option maxRecDepth 100000
set_option maxHeartbeats 4000000
open Go Go.RowKit
set_option linter.unusedVariables false
attribute [local irreducible] yT Ops zP Cd
theorem MX :wY Tryz.prog 178=some [(0,1),(1,1),(2,1),(3,1)]:=by kernel_rfl
theorem U1 :wY Tryz.prog 167=some [(0,1),(1,1),(2,1)]:=by kernel_rfl
theorem Yh :wY Tryz.prog 81=some [(0,1),(1,1),(2,2),(4,4),(8,2),(10,4),(14,1),(15,1)]:=by kernel_rfl
theorem CD (fl:List Fv) (fc:FuncId) (Un:List Value) (w0:World) (hg:yB Tryz.prog fc=true) (hfc:∀ gp w1,Hp w0 w1 [] (pw gp none 0 [] W0)→zP Tryz.prog fc (Ptr0 gp::Un).toArray w1 (fun _ w'=>nI gp (xX fl W0) w1 (bl (pw gp none 0 [] W0)) w')):zP Tryz.prog 70 #[.func (.func fc) #[] Un.toArray] w0 (fun r w'=>I7 w0 w' r (xX fl W0)):=by
 refine zE Tryz.func70 Tryz.ntmps70 Y<|cR e18 ?_
 have H:=Hp.refl w0
 refine Rq<|Xa Y<|Xa Y<|Xr e18<|Rq<|OV (EB TK MX Y Y)<|yA Y Y H<|fun w1 g1 H1 hg1=>Xa Y<|Xr e18<|Rq<|Xm Y<|Xm Y ?_
 have HP:Hp w0 w1 [] (pw g1 none 0 [] W0):=Hp.nil H1 5
 refine OQ (xI hg Y Y) (hfc _ _ HP) ?_
 rintro _ w2 ⟨g,cap,sp,hP,Hd⟩
 obtain⟨st,hst⟩:∃ st,xX fl W0=st:=⟨_,rfl⟩
 rw[hst]at hP Hd
 have H2:=HP.all Hd
 refine Xr e18<|J1<|Rq<|Xm Y<|Xc Y<|Xf pZ Y<|OV (EL ty4 Y (H2.cell (i:=0) Y Y))<|Xr e18<|wU Y (fun YA=>?_) (fun YA=>?_)
 obtain⟨q1,q2⟩:=mJ YA
 refine Rq<|Xa Y<|Xa Y<|Xr e18<|J5<|Ea Y Y Y ?_
 rw[hst]
 exact⟨none,0,[],by rw[q1,q2];rfl,by rw[q1];exact Nat.le_refl 0,Nat.zero_le _,fun _=>Y,by rw[q1];decide,by rw[q1];exact Hp.nil (H2.pick [] (by decide)) 5⟩
 obtain⟨q1,q2⟩:=hU YA
 refine J6<|Rq<|Xm Y<|Xc Y<|Xf eW Y<|OV (EL xK Y (H2.cell (i:=0) Y Y))<|Aa e18<|Xa Y<|Xa Y<|Xr e18<|J5<|Ea Y Y Y ?_
 rw[hst]
 exact⟨g,cap,sp,by rw[q1,q2];rfl,by rw[q1];exact hP.le,by rw[q1];exact hP.room,hP.nil,by rw[q1];exact hP.most,by rw[q1];exact H2.pick [1] (by decide)⟩
theorem JX (A:Th) (AA:Option Addr) (b:List UInt8) (c:Nat) (go:Nat) (U:TypeId) (cs:List Value) (fc:FuncId) (Un:List Value) (w0:World) (H0:Hp w0 w0 [go] [(some go,U,cs)]) (hcs:cs.length=A.sz) (hr:Rd w0 AA b.length 1 (u8s b)) (hra:0 < b.length→∀ a,AA=some a→a.block∉[go]) (hg:yB Tryz.prog fc=true) (hfc:∀ gp gr gb cb sb w1,b.length≤cb→b.length≤65536→Hp w0 w1 [go] (pr gp gr gb cb sb b 0 0++[(some go,U,cs)])→zP Tryz.prog fc (Ptr0 gp::Un).toArray w1 (fun _ w'=>nH (pr gp gr gb cb sb b) A go 0 U cs b 0 0 w1.heap.size w1 (bl (pr gp gr gb cb sb b 0 0++[(some go,U,cs)])) w')):zP Tryz.prog 63 #[.slice AA b.length c,.func (.func fc) #[] Un.toArray] w0 (fun r w'=>r=.int .i64 (Gy A b:Int)∧∃ cs',cs'.length=A.sz∧Hp w0 w' [go] [(some go,U,cs')]∧(Gy A b=0→A.M w' (fun p=>w0.heap.size≤p∧p∉[go]∧Tw w' p) (A.rd b 0 0).1 cs')):=by
 refine zE Tryz.func63 Tryz.ntmps63 Y<|cR e30 ?_
 have H:=H0
 refine Rq<|Xa Y<|Xr e30<|J1<|Rq<|Xm Y<|OV (ES Tryz.underlying73 Y)<|OT (yO Y Y) (fun hp8=>?_) (fun hp8=>?_)
 have he:Gy A b=22:=if_pos (by omega)
 refine Xr e30<|J3 Y<|Rq<|Xa Y<|Xr e30<|J5<|Ak Y Y<|⟨by rw[he];rfl,cs,hcs,H,fun h=>by rw[he]at h;cases h⟩
 have hbl:b.length≤65536:=by omega
 refine Xr e30<|J4 Y<|J6<|Rq<|Xm Y<|R1 (EC gf104 Y) (R7 AA b c _ (hr.fc H hra) (by omega))<|fun w1 gr g cap sp hcb hroom hnil Hd=>have H1:=H.call0 Hd;OV (EB TK MX Y Y)<|yA Y Y H1<|fun w2 g2 H2 hg2=>Aa e30 ?_
 obtain⟨gpn,hgpn⟩:∃ x,x=g2:=⟨_,rfl⟩
 subst hgpn
 refine Xa Y<|Xr e30<|Rq<|Xm Y<|Xm Y ?_
 have HX:Hp w0 w2 [go] (pr gpn gr g cap sp b 0 0++[(some go,U,cs)]):=H2.pick [3,1,2,0] (by decide)
 refine OQ (xI hg Y Y) (hfc gpn gr g cap sp _ hcb hbl HX) ?_
 rintro _ w3 ⟨us,Qy,hone,Hd,hM⟩
 obtain⟨⟨x,i,e⟩,hx⟩:∃ y,A.rd b 0 0=y:=⟨_,rfl⟩
 rw[hx]at Hd hM
 simp only at Hd hM
 have hil:i≤b.length:=by have:=A.le (b:=b) (i:=0) (e:=0) (Nat.zero_le _);rw[hx]at this;exact this
 have hpu:zH cs 0 us=us:=by
  unfold zH
  rw[List.drop_of_length_le (by omega)]
  simp
 rw[hpu]at Hd hM
 have hsz:=HX.size
 have H3:=HX.all Hd
 refine Xr e30<|J1<|Rq<|Xm Y<|Xc Y<|Xf IP Y<|OV (EL pR Y (H3.cell (i:=0) Y Y))<|Aa e30<|Dy (yS Y Y) (by simp)<|Xr e30<|J4 Y<|J6<|Rq<|Xm Y<|Xc Y<|Xf tM Y<|OV (EL pV Y (H3.cell (i:=0) Y Y))<|Aa e30<|OC (EC gf105 Y) (V6 gr (hd g) cap b i e _ (BE H3 (j:=1) (k:=2) Y Y (by decide) hcb (by omega) hil))<|fun w4 He=>have hMe:=fun h0=>Fr.to (hM h0) (H3.here.call0 He);have H4:=H3.call0 He;Xa Y<|Xr e30<|J5<|Ak Y Y ?_
 have he:Gy A b=if e=0∧i < b.length then 24 else e:=by
  unfold Gy
  rw[if_neg (by omega),hx]
  simp only
  split
  · rw[if_neg (by omega)]
  · split
    · rw[if_pos ⟨by omega,by assumption⟩]
    · rw[if_neg (by omega)];omega
 refine⟨by rw[he],us,Qy,H4.pick [3] (by decide),fun h0=>?_⟩
 rw[he]at h0
 have he0:e=0:=by split at h0 <;>omega
 have h2:=hMe he0
 rw[hx]
 exact A.mono h2 fun p hp=>⟨by have:=hp.1;omega,fun hq=>hp.2.1 (by simp only[List.mem_singleton]at hq;subst hq;simp[bl]),hp.2.2⟩
end Go.Proofs.YtjoeklkmnfaabaaGreat
namespace Go.Proofs.YtjoeklkmnfaabaaGreat
open Go Go.RowKit
set_option linter.unusedVariables false
attribute [local irreducible] yT Ops zP Cd
@[reducible] def oW :Th:=Th.flat [.int,.int]
@[reducible] def gU :Th:=Th.flat [.int,.int,.int,.bytes]
@[reducible] def kA :Th:=Th.flat [.int,.bytes]
@[reducible] def lZ :Th:=Th.flat [.int,.text,.int,.int]
@[reducible] def rM :Th:=Th.flat [.int,.int,.int,.int,.int,.int,.int,.bytes,.int,.bytes,.int,.text,.int,.int,.int,.int]
end Go.Proofs.YtjoeklkmnfaabaaGreat
namespace Go.Proofs.YtjoeklkmnfaabaaGreat
set_option maxRecDepth 100000
set_option maxHeartbeats 4000000
open Go Go.RowKit
set_option linter.unusedVariables false
attribute [local irreducible] yT Ops zP Cd
theorem KC (gp:Nat) (g:Option Nat) (cap:Nat) (sp:List Value) (st:WS) (a:Addr) (x:oW.X) (vs:List Value) (w0:World) (H0:Hp w0 w0 (bl (pw gp g cap sp st)) (pw gp g cap sp st)) (hP:POk 65536 g cap sp st) (hM:oW.M w0 (fun b=>b∉bl (pw gp g cap sp st)) x vs) (hC:Cl w0 (bl (pw gp g cap sp st)) a vs) (htw:false=true→qP w0 a):zP Tryz.prog 107 #[.pointer (some ⟨gp,0,none⟩),.pointer (some a)] w0 (fun _ w'=>nI gp (xX (oW.fl x) st) w0 (bl (pw gp g cap sp st)) w'):=by
 refine zE Tryz.func107 Tryz.ntmps107 Y<|cR e13 ?_
 have HS:Ob false gp a w0 (bl (pw gp g cap sp st)) w0 st oW x vs g cap sp:=⟨H0,hP,hM,hC,fun h=>⟨htw h,by have hl:=oW.len hM;change vs.length=2 at hl;omega⟩⟩
 have H:=HS.H.here
 refine zR 8 [(true,0),(true,1),(true,2),(true,3),(true,4),(true,5),(true,6),(false,7),(false,8)] H [0,1] yG (by decide) (by kernel_rfl) ?_
 rintro w1 hw1
 have H1:=Hp.drew H;rw[← hw1]at H1
 refine Zm Y Y<|Zm Y Y<|Zc Y Y<|cZ e13<|MP Y<|MV (fun wz hz=>yJ sT Y)<|Zm Y Y<|Zc Y Y<|cZ e13<|MP Y<|MV (fun wz hz=>yJ qD Y)<|MO Y<|zG Tryz.underlying220 tK H1 Y (by decide) Y<|fun w2 g2 H2 hg2=>OE<|⟨fun hne=>H2.pick [0,1] (by decide),?_⟩
 refine cZ e13<|MO Y<|OQ (EC pX Y) (HS.grp (o:=0) jO H2 (by decide) (fun _ _ hM=>(Th.part hM 0 2)) (At.cast (At.trans (At.self _) (At.sub _ 0 2)) (by decide))) ?_
 rintro _ w3 ⟨g,cap,sp,HS⟩
 have H3:=HS.H.here
 refine OE ?_
 refine⟨fun hne=>absurd Y hne,?_⟩
 refine cZ e13<|ME<|cR e13<|zA<|yN Y ?_
 have hw0:List.take 2 x=x:=Th.whole hM
 refine HS.out ?_
 show _=xX (x) st
 simp only[List.drop_zero,tI,wW,Nat.reduceAdd,hw0]
theorem aT :GE Tryz.prog 107 oW false:=KC
theorem KD (gp gr:Nat) (gb:Option Nat) (cb:Nat) (sb:List Value) (b:List UInt8) (hcb:b.length≤cb) (hbl:b.length≤65536) (go o i e:Nat) (U:TypeId) (cs:List Value) (w0:World) (H0:Hp w0 w0 (bl (pr gp gr gb cb sb b i e++[(some go,U,cs)])) (pr gp gr gb cb sb b i e++[(some go,U,cs)])) (hi:i≤b.length) (hat:At cs o oW.zs) (hfit:o+oW.sz≤cs.length):zP Tryz.prog 107 #[.pointer (some ⟨gp,0,none⟩),.pointer (some ⟨go,o,none⟩)] w0 (fun _ w'=>nH (pr gp gr gb cb sb b) oW go o U cs b i e w0.heap.size w0 (bl (pr gp gr gb cb sb b i e++[(some go,U,cs)])) w'):=by
 refine zE Tryz.func107 Tryz.ntmps107 Y<|cR e13 ?_
 change o+2≤cs.length at hfit
 have HS:=Jy.start (R:=pr gp gr gb cb sb b) (o:=o) H0 hi
 have H:=HS.H.here
 refine zR 8 [(true,0),(true,1),(true,2),(true,3),(true,4),(true,5),(true,6),(false,7),(false,8)] H [0,1,2,3] yG (by decide) (by kernel_rfl) ?_
 rintro w1 hw1
 have H1:=Hp.drew H;rw[← hw1]at H1
 refine Zm Y Y<|Zm Y Y<|Zc Y Y<|cZ e13<|Zf Y sT Y<|Zm Y Y<|Zc Y Y<|cZ e13<|Zf Y qD Y<|MO Y<|zG Tryz.underlying220 tK H1 Y (by decide) Y<|fun w2 g2 H2 hg2=>OE<|⟨fun hne=>H2.pick [0,1,2,3] (by decide),?_⟩
 refine cZ e13<|MO Y<|OQ (EC pX Y) (HS.grp (q:=0) (jP gp gr gb cb sb b hcb hbl) (by decide) H2 (by decide) (show o+0+2≤_ by omega) (At.cast (hat.trans (At.sub _ 0 2)) Y) Y Y) ?_
 rintro _ w3 ⟨us,i1,e1,HS⟩
 replace HS:=HS.Ew
 have H3:=HS.H.here
 refine OE ?_
 refine⟨fun hne=>absurd Y hne,?_⟩
 refine cZ e13<|ME<|cR e13<|zA<|yN Y<|HS.out
theorem aU :LH Tryz.prog 107 oW:=KD
theorem RK (gp:Nat) (g:Option Nat) (cap:Nat) (sp:List Value) (st:WS) (a:Addr) (x:gU.X) (vs:List Value) (w0:World) (H0:Hp w0 w0 (bl (pw gp g cap sp st)) (pw gp g cap sp st)) (hP:POk 65536 g cap sp st) (hM:gU.M w0 (fun b=>b∉bl (pw gp g cap sp st)) x vs) (hC:Cl w0 (bl (pw gp g cap sp st)) a vs) (htw:false=true→qP w0 a):zP Tryz.prog 108 #[.pointer (some ⟨gp,0,none⟩),.pointer (some a)] w0 (fun _ w'=>nI gp (xX (gU.fl x) st) w0 (bl (pw gp g cap sp st)) w'):=by
 refine zE Tryz.func108 Tryz.ntmps108 Y<|cR e20 ?_
 have HS:Ob false gp a w0 (bl (pw gp g cap sp st)) w0 st gU x vs g cap sp:=⟨H0,hP,hM,hC,fun h=>⟨htw h,by have hl:=gU.len hM;change vs.length=4 at hl;omega⟩⟩
 have H:=HS.H.here
 refine Rq<|Xm Y<|Xm Y<|Xc Y<|Aa e20<|OV (yJ vB Y)<|zG Tryz.underlying220 tK H Y (by decide) Y<|fun w1 g1 H1 hg1=>OQ (EC pX Y) (HS.grp (o:=0) jO H1 (by decide) (fun _ _ hM=>(Th.part hM 0 1)) (At.cast (At.trans (At.self _) (At.sub _ 0 1)) (by decide))) ?_
 rintro _ w2 ⟨g,cap,sp,HS⟩
 have H2:=HS.H.here
 refine Xr e20<|Rq<|Xm Y<|Xm Y<|Xc Y<|Aa e20<|OV (yJ tZ Y)<|OQ (EC IN Y) (HS.one (o:=1) aT (by decide) (fun _ _ hM=>(Th.part hM 1 2)) (At.cast (At.trans (At.self _) (At.sub _ 1 2)) (by decide))) ?_
 rintro _ w3 ⟨g,cap,sp,HS⟩
 have H3:=HS.H.here
 refine Xr e20<|J2<|Xm Y<|Xm Y<|Xc Y<|Aa e20<|OV (yJ sS Y)<|OQ (EC AG Y) (HS.one (o:=3) C9 (by decide) (fun _ _ hM=>(Th.part hM 3 1)) (At.cast (At.trans (At.self _) (At.sub _ 3 1)) (by decide))) ?_
 rintro _ w4 ⟨g,cap,sp,HS⟩
 have H4:=HS.H.here
 refine Xr e20<|zA<|yN Y ?_
 have hw0:List.take 4 x=x:=Th.whole hM
 refine HS.out ?_
 show _=xX (x) st
 simp only[List.drop_zero,tI,wW,Nat.reduceAdd,hw0]
theorem RM :GE Tryz.prog 108 gU false:=RK
theorem RL (gp gr:Nat) (gb:Option Nat) (cb:Nat) (sb:List Value) (b:List UInt8) (hcb:b.length≤cb) (hbl:b.length≤65536) (go o i e:Nat) (U:TypeId) (cs:List Value) (w0:World) (H0:Hp w0 w0 (bl (pr gp gr gb cb sb b i e++[(some go,U,cs)])) (pr gp gr gb cb sb b i e++[(some go,U,cs)])) (hi:i≤b.length) (hat:At cs o gU.zs) (hfit:o+gU.sz≤cs.length):zP Tryz.prog 108 #[.pointer (some ⟨gp,0,none⟩),.pointer (some ⟨go,o,none⟩)] w0 (fun _ w'=>nH (pr gp gr gb cb sb b) gU go o U cs b i e w0.heap.size w0 (bl (pr gp gr gb cb sb b i e++[(some go,U,cs)])) w'):=by
 refine zE Tryz.func108 Tryz.ntmps108 Y<|cR e20 ?_
 change o+4≤cs.length at hfit
 have HS:=Jy.start (R:=pr gp gr gb cb sb b) (o:=o) H0 hi
 have H:=HS.H.here
 refine Rq<|Xm Y<|Xm Y<|Xc Y<|Aa e20<|Xf vB Y<|zG Tryz.underlying220 tK H Y (by decide) Y<|fun w1 g1 H1 hg1=>OQ (EC pX Y) (HS.grp (q:=0) (jP gp gr gb cb sb b hcb hbl) (by decide) H1 (by decide) (show o+0+1≤_ by omega) (At.cast (hat.trans (At.sub _ 0 1)) Y) Y Y) ?_
 rintro _ w2 ⟨us,i1,e1,HS⟩
 replace HS:=HS.Ew
 have H2:=HS.H.here
 refine Xr e20<|Rq<|Xm Y<|Xm Y<|Xc Y<|Aa e20<|Xf tZ Y<|OQ (EC IN Y) (HS.one (q:=1) (aU gp gr gb cb sb b hcb hbl) (by decide) (show o+1+2≤_ by omega) (At.cast (hat.trans (At.sub _ 1 2)) Y)) ?_
 rintro _ w3 ⟨us,i1,e1,HS⟩
 replace HS:=HS.Ew
 have H3:=HS.H.here
 refine Xr e20<|J2<|Xm Y<|Xm Y<|Xc Y<|Aa e20<|Xf sS Y<|OQ (EC AG Y) (HS.one (q:=3) (DA gp gr gb cb sb b hcb hbl) (by decide) (show o+3+1≤_ by omega) (At.cast (hat.trans (At.sub _ 3 1)) Y)) ?_
 rintro _ w4 ⟨us,i1,e1,HS⟩
 replace HS:=HS.Ew
 have H4:=HS.H.here
 refine Xr e20<|zA<|yN Y<|HS.out
theorem RN :LH Tryz.prog 108 gU:=RL
theorem M1 (gp:Nat) (g:Option Nat) (cap:Nat) (sp:List Value) (st:WS) (a:Addr) (x:kA.X) (vs:List Value) (w0:World) (H0:Hp w0 w0 (bl (pw gp g cap sp st)) (pw gp g cap sp st)) (hP:POk 65536 g cap sp st) (hM:kA.M w0 (fun b=>b∉bl (pw gp g cap sp st)) x vs) (hC:Cl w0 (bl (pw gp g cap sp st)) a vs) (htw:false=true→qP w0 a):zP Tryz.prog 109 #[.pointer (some ⟨gp,0,none⟩),.pointer (some a)] w0 (fun _ w'=>nI gp (xX (kA.fl x) st) w0 (bl (pw gp g cap sp st)) w'):=by
 refine zE Tryz.func109 Tryz.ntmps109 Y<|cR e15 ?_
 have HS:Ob false gp a w0 (bl (pw gp g cap sp st)) w0 st kA x vs g cap sp:=⟨H0,hP,hM,hC,fun h=>⟨htw h,by have hl:=kA.len hM;change vs.length=2 at hl;omega⟩⟩
 have H:=HS.H.here
 refine Rq<|Xm Y<|Xm Y<|Xc Y<|Aa e15<|OV (yJ wE Y)<|zG Tryz.underlying220 tK H Y (by decide) Y<|fun w1 g1 H1 hg1=>OQ (EC pX Y) (HS.grp (o:=0) jO H1 (by decide) (fun _ _ hM=>(Th.part hM 0 1)) (At.cast (At.trans (At.self _) (At.sub _ 0 1)) (by decide))) ?_
 rintro _ w2 ⟨g,cap,sp,HS⟩
 have H2:=HS.H.here
 refine Xr e15<|J2<|Xm Y<|Xm Y<|Xc Y<|Aa e15<|OV (yJ uV Y)<|OQ (EC AG Y) (HS.one (o:=1) C9 (by decide) (fun _ _ hM=>(Th.part hM 1 1)) (At.cast (At.trans (At.self _) (At.sub _ 1 1)) (by decide))) ?_
 rintro _ w3 ⟨g,cap,sp,HS⟩
 have H3:=HS.H.here
 refine Xr e15<|zA<|yN Y ?_
 have hw0:List.take 2 x=x:=Th.whole hM
 refine HS.out ?_
 show _=xX (x) st
 simp only[List.drop_zero,tI,wW,Nat.reduceAdd,hw0]
theorem M3 :GE Tryz.prog 109 kA false:=M1
theorem M2 (gp gr:Nat) (gb:Option Nat) (cb:Nat) (sb:List Value) (b:List UInt8) (hcb:b.length≤cb) (hbl:b.length≤65536) (go o i e:Nat) (U:TypeId) (cs:List Value) (w0:World) (H0:Hp w0 w0 (bl (pr gp gr gb cb sb b i e++[(some go,U,cs)])) (pr gp gr gb cb sb b i e++[(some go,U,cs)])) (hi:i≤b.length) (hat:At cs o kA.zs) (hfit:o+kA.sz≤cs.length):zP Tryz.prog 109 #[.pointer (some ⟨gp,0,none⟩),.pointer (some ⟨go,o,none⟩)] w0 (fun _ w'=>nH (pr gp gr gb cb sb b) kA go o U cs b i e w0.heap.size w0 (bl (pr gp gr gb cb sb b i e++[(some go,U,cs)])) w'):=by
 refine zE Tryz.func109 Tryz.ntmps109 Y<|cR e15 ?_
 change o+2≤cs.length at hfit
 have HS:=Jy.start (R:=pr gp gr gb cb sb b) (o:=o) H0 hi
 have H:=HS.H.here
 refine Rq<|Xm Y<|Xm Y<|Xc Y<|Aa e15<|Xf wE Y<|zG Tryz.underlying220 tK H Y (by decide) Y<|fun w1 g1 H1 hg1=>OQ (EC pX Y) (HS.grp (q:=0) (jP gp gr gb cb sb b hcb hbl) (by decide) H1 (by decide) (show o+0+1≤_ by omega) (At.cast (hat.trans (At.sub _ 0 1)) Y) Y Y) ?_
 rintro _ w2 ⟨us,i1,e1,HS⟩
 replace HS:=HS.Ew
 have H2:=HS.H.here
 refine Xr e15<|J2<|Xm Y<|Xm Y<|Xc Y<|Aa e15<|Xf uV Y<|OQ (EC AG Y) (HS.one (q:=1) (DA gp gr gb cb sb b hcb hbl) (by decide) (show o+1+1≤_ by omega) (At.cast (hat.trans (At.sub _ 1 1)) Y)) ?_
 rintro _ w3 ⟨us,i1,e1,HS⟩
 replace HS:=HS.Ew
 have H3:=HS.H.here
 refine Xr e15<|zA<|yN Y<|HS.out
theorem M4 :LH Tryz.prog 109 kA:=M2
theorem MR (gp:Nat) (g:Option Nat) (cap:Nat) (sp:List Value) (st:WS) (a:Addr) (x:lZ.X) (vs:List Value) (w0:World) (H0:Hp w0 w0 (bl (pw gp g cap sp st)) (pw gp g cap sp st)) (hP:POk 65536 g cap sp st) (hM:lZ.M w0 (fun b=>b∉bl (pw gp g cap sp st)) x vs) (hC:Cl w0 (bl (pw gp g cap sp st)) a vs) (htw:false=true→qP w0 a):zP Tryz.prog 110 #[.pointer (some ⟨gp,0,none⟩),.pointer (some a)] w0 (fun _ w'=>nI gp (xX (lZ.fl x) st) w0 (bl (pw gp g cap sp st)) w'):=by
 refine zE Tryz.func110 Tryz.ntmps110 Y<|cR e25 ?_
 have HS:Ob false gp a w0 (bl (pw gp g cap sp st)) w0 st lZ x vs g cap sp:=⟨H0,hP,hM,hC,fun h=>⟨htw h,by have hl:=lZ.len hM;change vs.length=4 at hl;omega⟩⟩
 have H:=HS.H.here
 refine Rq<|Xm Y<|Xm Y<|Xc Y<|Aa e25<|OV (yJ qE Y)<|zG Tryz.underlying220 tK H Y (by decide) Y<|fun w1 g1 H1 hg1=>OQ (EC pX Y) (HS.grp (o:=0) jO H1 (by decide) (fun _ _ hM=>(Th.part hM 0 1)) (At.cast (At.trans (At.self _) (At.sub _ 0 1)) (by decide))) ?_
 rintro _ w2 ⟨g,cap,sp,HS⟩
 have H2:=HS.H.here
 refine Xr e25<|Rq<|Xm Y<|Xm Y<|Xc Y<|Aa e25<|OV (yJ oP Y)<|zG Tryz.underlying252 aB H2 Y (by decide) Y<|fun w3 g3 H3 hg3=>OQ (EC T3 Y) (HS.grp (o:=1) RR H3 (by decide) (fun _ _ hM=>(Th.part hM 1 1)) (At.cast (At.trans (At.self _) (At.sub _ 1 1)) (by decide))) ?_
 rintro _ w4 ⟨g,cap,sp,HS⟩
 have H4:=HS.H.here
 refine Xr e25<|zR 8 [(true,0),(true,1),(true,2),(true,3),(true,4),(true,5),(true,6),(false,7),(false,8)] H4 [0,1] yG (by decide) (by kernel_rfl) ?_
 rintro w5 hw5
 have H5:=Hp.drew H4;rw[← hw5]at H5
 refine Zm Y Y<|Zm Y Y<|Zc Y Y<|cZ e25<|MP Y<|MV (fun wz hz=>yJ cX Y)<|Zm Y Y<|Zc Y Y<|cZ e25<|MP Y<|MV (fun wz hz=>yJ F3 Y)<|MO Y<|zG Tryz.underlying220 tK H5 Y (by decide) Y<|fun w6 g6 H6 Vo=>OE<|⟨fun hne=>H6.pick [0,1] (by decide),?_⟩
 refine cZ e25<|MO Y<|OQ (EC pX Y) (HS.grp (o:=2) jO H6 (by decide) (fun _ _ hM=>(Th.part hM 2 2)) (At.cast (At.trans (At.self _) (At.sub _ 2 2)) (by decide))) ?_
 rintro _ w7 ⟨g,cap,sp,HS⟩
 have H7:=HS.H.here
 refine OE ?_
 refine⟨fun hne=>absurd Y hne,?_⟩
 refine cZ e25<|ME<|cR e25<|zA<|yN Y ?_
 have hw0:List.take 4 x=x:=Th.whole hM
 refine HS.out ?_
 show _=xX (x) st
 simp only[List.drop_zero,tI,wW,Nat.reduceAdd,hw0]
theorem MT :GE Tryz.prog 110 lZ false:=MR
theorem MS (gp gr:Nat) (gb:Option Nat) (cb:Nat) (sb:List Value) (b:List UInt8) (hcb:b.length≤cb) (hbl:b.length≤65536) (go o i e:Nat) (U:TypeId) (cs:List Value) (w0:World) (H0:Hp w0 w0 (bl (pr gp gr gb cb sb b i e++[(some go,U,cs)])) (pr gp gr gb cb sb b i e++[(some go,U,cs)])) (hi:i≤b.length) (hat:At cs o lZ.zs) (hfit:o+lZ.sz≤cs.length):zP Tryz.prog 110 #[.pointer (some ⟨gp,0,none⟩),.pointer (some ⟨go,o,none⟩)] w0 (fun _ w'=>nH (pr gp gr gb cb sb b) lZ go o U cs b i e w0.heap.size w0 (bl (pr gp gr gb cb sb b i e++[(some go,U,cs)])) w'):=by
 refine zE Tryz.func110 Tryz.ntmps110 Y<|cR e25 ?_
 change o+4≤cs.length at hfit
 have HS:=Jy.start (R:=pr gp gr gb cb sb b) (o:=o) H0 hi
 have H:=HS.H.here
 refine Rq<|Xm Y<|Xm Y<|Xc Y<|Aa e25<|Xf qE Y<|zG Tryz.underlying220 tK H Y (by decide) Y<|fun w1 g1 H1 hg1=>OQ (EC pX Y) (HS.grp (q:=0) (jP gp gr gb cb sb b hcb hbl) (by decide) H1 (by decide) (show o+0+1≤_ by omega) (At.cast (hat.trans (At.sub _ 0 1)) Y) Y Y) ?_
 rintro _ w2 ⟨us,i1,e1,HS⟩
 replace HS:=HS.Ew
 have H2:=HS.H.here
 refine Xr e25<|Rq<|Xm Y<|Xm Y<|Xc Y<|Aa e25<|Xf oP Y<|zG Tryz.underlying252 aB H2 Y (by decide) Y<|fun w3 g3 H3 hg3=>OQ (EC T3 Y) (HS.grp (q:=1) (RS gp gr gb cb sb b hcb hbl) (by decide) H3 (by decide) (show o+1+1≤_ by omega) (At.cast (hat.trans (At.sub _ 1 1)) Y) Y Y) ?_
 rintro _ w4 ⟨us,i1,e1,HS⟩
 replace HS:=HS.Ew
 have H4:=HS.H.here
 refine Xr e25<|zR 8 [(true,0),(true,1),(true,2),(true,3),(true,4),(true,5),(true,6),(false,7),(false,8)] H4 [0,1,2,3] yG (by decide) (by kernel_rfl) ?_
 rintro w5 hw5
 have H5:=Hp.drew H4;rw[← hw5]at H5
 refine Zm Y Y<|Zm Y Y<|Zc Y Y<|cZ e25<|Zf Y cX Y<|Zm Y Y<|Zc Y Y<|cZ e25<|Zf Y F3 Y<|MO Y<|zG Tryz.underlying220 tK H5 Y (by decide) Y<|fun w6 g6 H6 Vo=>OE<|⟨fun hne=>H6.pick [0,1,2,3] (by decide),?_⟩
 refine cZ e25<|MO Y<|OQ (EC pX Y) (HS.grp (q:=2) (jP gp gr gb cb sb b hcb hbl) (by decide) H6 (by decide) (show o+2+2≤_ by omega) (At.cast (hat.trans (At.sub _ 2 2)) Y) Y Y) ?_
 rintro _ w7 ⟨us,i1,e1,HS⟩
 replace HS:=HS.Ew
 have H7:=HS.H.here
 refine OE ?_
 refine⟨fun hne=>absurd Y hne,?_⟩
 refine cZ e25<|ME<|cR e25<|zA<|yN Y<|HS.out
theorem MU :LH Tryz.prog 110 lZ:=MS
theorem RT (gp:Nat) (g:Option Nat) (cap:Nat) (sp:List Value) (st:WS) (a:Addr) (x:rM.X) (vs:List Value) (w0:World) (H0:Hp w0 w0 (bl (pw gp g cap sp st)) (pw gp g cap sp st)) (hP:POk 65536 g cap sp st) (hM:rM.M w0 (fun b=>b∉bl (pw gp g cap sp st)) x vs) (hC:Cl w0 (bl (pw gp g cap sp st)) a vs) (htw:false=true→qP w0 a):zP Tryz.prog 65 #[.pointer (some ⟨gp,0,none⟩),.pointer (some a)] w0 (fun _ w'=>nI gp (xX (rM.fl x) st) w0 (bl (pw gp g cap sp st)) w'):=by
 refine zE Tryz.func65 Tryz.ntmps65 Y<|cR e42 ?_
 have HS:Ob false gp a w0 (bl (pw gp g cap sp st)) w0 st rM x vs g cap sp:=⟨H0,hP,hM,hC,fun h=>⟨htw h,by have hl:=rM.len hM;change vs.length=16 at hl;omega⟩⟩
 have H:=HS.H.here
 refine J1<|zR 8 [(true,0),(true,1),(true,2),(true,3),(true,4),(true,5),(true,6),(false,7),(false,8)] H [0,1] yG (by decide) (by kernel_rfl) ?_
 rintro w1 hw1
 have H1:=Hp.drew H;rw[← hw1]at H1
 refine Zm Y Y<|Zm Y Y<|Zc Y Y<|cZ e42<|MP Y<|MV (fun wz hz=>yJ oO Y)<|Zm Y Y<|Zc Y Y<|cZ e42<|MP Y<|MV (fun wz hz=>yJ fl81_1 Y)<|MO Y<|zG Tryz.underlying220 tK H1 Y (by decide) Y<|fun w2 g2 H2 hg2=>OE<|⟨fun hne=>H2.pick [0,1] (by decide),?_⟩
 refine cZ e42<|MO Y<|OQ (EC pX Y) (HS.grp (o:=0) jO H2 (by decide) (fun _ _ hM=>(Th.part hM 0 2)) (At.cast (At.trans (At.self _) (At.sub _ 0 2)) (by decide))) ?_
 rintro _ w3 ⟨g,cap,sp,HS⟩
 have H3:=HS.H.here
 refine OE ?_
 refine⟨fun hne=>absurd Y hne,?_⟩
 refine cZ e42<|ME<|cR e42<|Rq<|Xm Y<|Xm Y<|Xc Y<|Aa e42<|OV (yJ jX Y)<|OQ (EC IN Y) (HS.one (o:=2) aT (by decide) (fun _ _ hM=>(Th.part hM 2 2)) (At.cast (At.trans (At.self _) (At.sub _ 2 2)) (by decide))) ?_
 rintro _ w4 ⟨g,cap,sp,HS⟩
 have H4:=HS.H.here
 refine Xr e42<|Rq<|Xm Y<|Xm Y<|Xc Y<|Aa e42<|OV (yJ oN Y)<|OQ (EC UG Y) (HS.one (o:=4) RM (by decide) (fun _ _ hM=>(Th.part hM 4 4)) (At.cast (At.trans (At.self _) (At.sub _ 4 4)) (by decide))) ?_
 rintro _ w5 ⟨g,cap,sp,HS⟩
 have H5:=HS.H.here
 refine Xr e42<|Rq<|Xm Y<|Xm Y<|Xc Y<|Aa e42<|OV (yJ uE Y)<|OQ (EC UF Y) (HS.one (o:=8) M3 (by decide) (fun _ _ hM=>(Th.part hM 8 2)) (At.cast (At.trans (At.self _) (At.sub _ 8 2)) (by decide))) ?_
 rintro _ w6 ⟨g,cap,sp,HS⟩
 have H6:=HS.H.here
 refine Xr e42<|Rq<|Xm Y<|Xm Y<|Xc Y<|Aa e42<|OV (yJ fO Y)<|OQ (EC UE Y) (HS.one (o:=10) MT (by decide) (fun _ _ hM=>(Th.part hM 10 4)) (At.cast (At.trans (At.self _) (At.sub _ 10 4)) (by decide))) ?_
 rintro _ w7 ⟨g,cap,sp,HS⟩
 have H7:=HS.H.here
 refine Xr e42<|zR 8 [(true,0),(true,1),(true,2),(true,3),(true,4),(true,5),(true,6),(false,7),(false,8)] H7 [0,1] yG (by decide) (by kernel_rfl) ?_
 rintro w8 hw8
 have H8:=Hp.drew H7;rw[← hw8]at H8
 refine Zm Y Y<|Zm Y Y<|Zc Y Y<|cZ e42<|MP Y<|MV (fun wz hz=>yJ tA Y)<|Zm Y Y<|Zc Y Y<|cZ e42<|MP Y<|MV (fun wz hz=>yJ sQ Y)<|MO Y<|zG Tryz.underlying220 tK H8 Y (by decide) Y<|fun w9 g9 H9 WQ=>OE<|⟨fun hne=>H9.pick [0,1] (by decide),?_⟩
 refine cZ e42<|MO Y<|OQ (EC pX Y) (HS.grp (o:=14) jO H9 (by decide) (fun _ _ hM=>(Th.part hM 14 2)) (At.cast (At.trans (At.self _) (At.sub _ 14 2)) (by decide))) ?_
 rintro _ w10 ⟨g,cap,sp,HS⟩
 have Ar:=HS.H.here
 refine OE ?_
 refine⟨fun hne=>absurd Y hne,?_⟩
 refine cZ e42<|ME<|cR e42<|zA<|yN Y ?_
 have hw0:List.take 16 x=x:=Th.whole hM
 refine HS.out ?_
 show _=xX (x) st
 simp only[List.drop_zero,tI,wW,Nat.reduceAdd,hw0]
theorem Vd :GE Tryz.prog 65 rM false:=RT
theorem RU (gp gr:Nat) (gb:Option Nat) (cb:Nat) (sb:List Value) (b:List UInt8) (hcb:b.length≤cb) (hbl:b.length≤65536) (go o i e:Nat) (U:TypeId) (cs:List Value) (w0:World) (H0:Hp w0 w0 (bl (pr gp gr gb cb sb b i e++[(some go,U,cs)])) (pr gp gr gb cb sb b i e++[(some go,U,cs)])) (hi:i≤b.length) (hat:At cs o rM.zs) (hfit:o+rM.sz≤cs.length):zP Tryz.prog 65 #[.pointer (some ⟨gp,0,none⟩),.pointer (some ⟨go,o,none⟩)] w0 (fun _ w'=>nH (pr gp gr gb cb sb b) rM go o U cs b i e w0.heap.size w0 (bl (pr gp gr gb cb sb b i e++[(some go,U,cs)])) w'):=by
 refine zE Tryz.func65 Tryz.ntmps65 Y<|cR e42 ?_
 change o+16≤cs.length at hfit
 have HS:=Jy.start (R:=pr gp gr gb cb sb b) (o:=o) H0 hi
 have H:=HS.H.here
 refine J1<|zR 8 [(true,0),(true,1),(true,2),(true,3),(true,4),(true,5),(true,6),(false,7),(false,8)] H [0,1,2,3] yG (by decide) (by kernel_rfl) ?_
 rintro w1 hw1
 have H1:=Hp.drew H;rw[← hw1]at H1
 refine Zm Y Y<|Zm Y Y<|Zc Y Y<|cZ e42<|Zf Y oO Y<|Zm Y Y<|Zc Y Y<|cZ e42<|Zf Y fl81_1 Y<|MO Y<|zG Tryz.underlying220 tK H1 Y (by decide) Y<|fun w2 g2 H2 hg2=>OE<|⟨fun hne=>H2.pick [0,1,2,3] (by decide),?_⟩
 refine cZ e42<|MO Y<|OQ (EC pX Y) (HS.grp (q:=0) (jP gp gr gb cb sb b hcb hbl) (by decide) H2 (by decide) (show o+0+2≤_ by omega) (At.cast (hat.trans (At.sub _ 0 2)) Y) Y Y) ?_
 rintro _ w3 ⟨us,i1,e1,HS⟩
 replace HS:=HS.Ew
 have H3:=HS.H.here
 refine OE ?_
 refine⟨fun hne=>absurd Y hne,?_⟩
 refine cZ e42<|ME<|cR e42<|Rq<|Xm Y<|Xm Y<|Xc Y<|Aa e42<|Xf jX Y<|OQ (EC IN Y) (HS.one (q:=2) (aU gp gr gb cb sb b hcb hbl) (by decide) (show o+2+2≤_ by omega) (At.cast (hat.trans (At.sub _ 2 2)) Y)) ?_
 rintro _ w4 ⟨us,i1,e1,HS⟩
 replace HS:=HS.Ew
 have H4:=HS.H.here
 refine Xr e42<|Rq<|Xm Y<|Xm Y<|Xc Y<|Aa e42<|Xf oN Y<|OQ (EC UG Y) (HS.one (q:=4) (RN gp gr gb cb sb b hcb hbl) (by decide) (show o+4+4≤_ by omega) (At.cast (hat.trans (At.sub _ 4 4)) Y)) ?_
 rintro _ w5 ⟨us,i1,e1,HS⟩
 replace HS:=HS.Ew
 have H5:=HS.H.here
 refine Xr e42<|Rq<|Xm Y<|Xm Y<|Xc Y<|Aa e42<|Xf uE Y<|OQ (EC UF Y) (HS.one (q:=8) (M4 gp gr gb cb sb b hcb hbl) (by decide) (show o+8+2≤_ by omega) (At.cast (hat.trans (At.sub _ 8 2)) Y)) ?_
 rintro _ w6 ⟨us,i1,e1,HS⟩
 replace HS:=HS.Ew
 have H6:=HS.H.here
 refine Xr e42<|Rq<|Xm Y<|Xm Y<|Xc Y<|Aa e42<|Xf fO Y<|OQ (EC UE Y) (HS.one (q:=10) (MU gp gr gb cb sb b hcb hbl) (by decide) (show o+10+4≤_ by omega) (At.cast (hat.trans (At.sub _ 10 4)) Y)) ?_
 rintro _ w7 ⟨us,i1,e1,HS⟩
 replace HS:=HS.Ew
 have H7:=HS.H.here
 refine Xr e42<|zR 8 [(true,0),(true,1),(true,2),(true,3),(true,4),(true,5),(true,6),(false,7),(false,8)] H7 [0,1,2,3] yG (by decide) (by kernel_rfl) ?_
 rintro w8 hw8
 have H8:=Hp.drew H7;rw[← hw8]at H8
 refine Zm Y Y<|Zm Y Y<|Zc Y Y<|cZ e42<|Zf Y tA Y<|Zm Y Y<|Zc Y Y<|cZ e42<|Zf Y sQ Y<|MO Y<|zG Tryz.underlying220 tK H8 Y (by decide) Y<|fun w9 g9 H9 WQ=>OE<|⟨fun hne=>H9.pick [0,1,2,3] (by decide),?_⟩
 refine cZ e42<|MO Y<|OQ (EC pX Y) (HS.grp (q:=14) (jP gp gr gb cb sb b hcb hbl) (by decide) H9 (by decide) (show o+14+2≤_ by omega) (At.cast (hat.trans (At.sub _ 14 2)) Y) Y Y) ?_
 rintro _ w10 ⟨us,i1,e1,HS⟩
 replace HS:=HS.Ew
 have Ar:=HS.H.here
 refine OE ?_
 refine⟨fun hne=>absurd Y hne,?_⟩
 refine cZ e42<|ME<|cR e42<|zA<|yN Y<|HS.out
theorem Ve :LH Tryz.prog 65 rM:=RU
end Go.Proofs.YtjoeklkmnfaabaaGreat
namespace Go.Proofs.YtjoeklkmnfaabaaGreat
set_option maxRecDepth 100000
set_option maxHeartbeats 4000000
open Go Go.RowKit
set_option linter.unusedVariables false
attribute [local irreducible] yT Ops zP Cd
theorem S2 (gp:Nat) (g:Option Nat) (cap:Nat) (sp:List Value) (st:WS) (a:Addr) (x:rM.X) (vs:List Value) (w0:World) (H0:Hp w0 w0 (bl (pw gp g cap sp st)) (pw gp g cap sp st)) (hP:POk 65536 g cap sp st) (hM:rM.M w0 (fun b=>b∉bl (pw gp g cap sp st)) x vs) (hC:Cl w0 (bl (pw gp g cap sp st)) a vs):zP Tryz.prog 71 #[.pointer (some ⟨gp,0,none⟩),.pointer (some a)] w0 (fun _ w'=>nI gp (xX (rM.fl x) st) w0 (bl (pw gp g cap sp st)) w'):=by
 refine zE Tryz.func71 Tryz.ntmps71 Y<|cR e5<|J2<|Xm Y<|OQ (EC gf65 Y) (Vd gp g cap sp st a x vs w0 H0 hP hM hC (fun h=>by cases h)) ?_
 rintro _ w1 hq
 refine Xr e5<|zA<|yN Y<|hq
theorem S3 (gp gr:Nat) (gb:Option Nat) (cb:Nat) (sb:List Value) (b:List UInt8) (hcb:b.length≤cb) (hbl:b.length≤65536) (go o i e:Nat) (U:TypeId) (cs:List Value) (w0:World) (H0:Hp w0 w0 (bl (pr gp gr gb cb sb b i e++[(some go,U,cs)])) (pr gp gr gb cb sb b i e++[(some go,U,cs)])) (hi:i≤b.length) (hat:At cs o rM.zs) (hfit:o+rM.sz≤cs.length):zP Tryz.prog 64 #[.pointer (some ⟨gp,0,none⟩),.pointer (some ⟨go,o,none⟩)] w0 (fun _ w'=>nH (pr gp gr gb cb sb b) rM go o U cs b i e w0.heap.size w0 (bl (pr gp gr gb cb sb b i e++[(some go,U,cs)])) w'):=by
 refine zE Tryz.func64 Tryz.ntmps64 Y<|cR e5<|J2<|Xm Y<|OQ (EC gf65 Y) (Ve gp gr gb cb sb b hcb hbl go o i e U cs w0 H0 hi hat hfit) ?_
 rintro _ w1 hq
 refine Xr e5<|zA<|yN Y<|hq
theorem G5 (x:rM.X) (cells:List Value) (w0:World) (hM:rM.M w0 (fun _=>True) x cells):zP Tryz.prog 34 #[.agg cells.toArray] w0 (fun r w'=>I7 w0 w' r (xX (rM.fl x) W0)):=by
 refine zE Tryz.func34 Tryz.ntmps34 Y<|cR e8 ?_
 have hlen:cells.length=16:=rM.len hM
 have H:=Hp.refl w0
 refine Rq<|yA Y Y H<|fun w1 g1 H1 hg1=>Xa Y<|Xa Y<|Xr e8<|Rq<|OV (wK Y Y)<|DG (EC gf70 Y) (CD (rM.fl x) 71 [.pointer (some ⟨g1,0,none⟩)] _ gf71 fun gp w2 HP=>?_) ?_
 have hM1:=rM.to hM H1 (fun _ _=>by simp)
 have hM2:=rM.to hM1 HP (fun _ _=>by simp)
 exact S2 gp none 0 [] W0 ⟨g1,0,none⟩ x cells w2 HP.here ⟨Nat.le_refl _,Nat.le_refl _,fun _=>Y,Nat.zero_le _⟩ (rM.mono hM2 fun _ h=>h.2) ((H1.cl (i:=0) (S':=[]) Y (by simp)).to HP)
 intro w2 g cap sp q1 q2 q3 q4 Hd
 have H2:=H1.call0 Hd
 refine Xe Y Y<|Xe Y Y<|Aa e8<|Xa Y<|Xa Y<|Xr e8<|J5<|Ea Y Y Y<|⟨g,cap,sp,Y,q1,q2,q3,q4,H2.pick [1] (by decide)⟩
theorem R5 (AA:Option Addr) (b:List UInt8) (c:Nat) (w0:World) (hr:Rd w0 AA b.length 1 (u8s b)) (hb:b.length≤211106232532900):zP Tryz.prog 31 #[.slice AA b.length c] w0 (fun r w'=>UO rM b w0 w' r):=by
 refine zE Tryz.func31 Tryz.ntmps31 Y<|cR e14 ?_
 have H:=Hp.refl w0
 refine Rq<|OA xE H<|fun w1 g1 H1 hg1=>Xa Y<|Xr e14<|Rq<|OA xE H1<|fun w2 g2 H2 hg2=>Xr e14<|J1<|Rq<|Xm Y<|OV (wK Y Y) ?_
 have HX:=Hp.old (H2.at (i:=1) rfl)
 have hk:=JX rM AA b c g2 81 [.int .i64 0,.int .i64 0,.int .i64 0,.int .i64 0,.int .i64 0,.int .i64 0,.int .i64 0,.slice none 0 0,.int .i64 0,.slice none 0 0,.int .i64 0,.string .empty,.int .i64 0,.int .i64 0,.int .i64 0,.int .i64 0] 64 [.pointer (some ⟨g2,0,none⟩)] _ HX rfl (hr.to0 H2) (fun h0 a ha hq=>by
  simp only[List.mem_singleton]at hq
  have hlt:=H2.place (i:=1) rfl
  have:=H2.size
  have hc:=World.block_lt_of_cell? _ _ (hr.cells a ha 0 _ (lX h0))
  rw[Addr.add_zero']at hc
  rcases hlt with h1 | h1
  · simp at h1
  · omega) gf64 (fun gp gr gb cb sb w1 hcb hbl HP=>S3 gp gr gb cb sb b hcb hbl g2 0 0 0 81 _ w1 HP.here (Nat.zero_le _) (At.self _) (Nat.le_refl _))
 refine OQ (EC gf63 Y) hk ?_
 rintro _ w3 ⟨rfl,cs2,hl,Hd,hM⟩
 have hsz1:=H2.size
 have hg1:g1 < w2.heap.size:=H2.lt (i:=0) rfl
 have hg2:g2 < w2.heap.size:=H2.lt (i:=1) rfl
 have H3:=(H2.call1 (i:=1) rfl Hd).pick [0,2] (by decide)
 refine Xa Y<|Xr e14<|Rq<|Xm Y<|OT (yS Y Y) (fun hp10=>?_) (fun hp10=>?_)
 have he:Gy rM b≠0:=by omega
 refine Xr e14<|J3 Y<|Rq<|OV (EB xE Yh Y Y)<|Xm Y<|OS xE H3 0 Y Y Y Y Y (by first|exact NL Y|simp[zH]) Y<|fun w4 H4=>Xa Y<|Xr e14<|J5<|xO Y xE Y Y Y (H4.cells (i:=0) Y)<|⟨_,Y,by rw[N4 he];exact rM.zM _ _,H4.pick [] (by decide)⟩
 have he:Gy rM b=0:=by omega
 have hm:=hM he
 have HA:=H3
 replace H3:=HA.here
 refine Xr e14<|J4 Y<|J6<|Rq<|OV (EN xE Y (vs:=cs2) hl (H3.cells (i:=1) Y))<|OS xE H3 0 Y Y Y Y hl (by rw[hl];decide) (rM.ones hm)<|fun w4 H4=>?_
 have hpu:zH [.int .i64 0,.int .i64 0,.int .i64 0,.int .i64 0,.int .i64 0,.int .i64 0,.int .i64 0,.slice none 0 0,.int .i64 0,.slice none 0 0,.int .i64 0,.string .empty,.int .i64 0,.int .i64 0,.int .i64 0,.int .i64 0] 0 cs2=cs2:=FN hl
 rw[hpu]at H4
 refine Xa Y<|Xr e14<|J5<|xO Y xE Y Y hl (H4.cells (i:=0) Y) ?_
 have hm2:=rM.to hm H4 (fun p hp hq=>by simp[bl]at hq;have:=hp.1;rcases hq with hq | hq <;>omega)
 exact⟨cs2,by rw[he];rfl,by rw[(IC he).1];exact rM.mono hm2 (fun p hp=>⟨by have:=hp.1.1;omega,hp.1.2.2.to H4 (by intro hq;simp[bl]at hq;have:=hp.1.1;rcases hq with hq | hq <;>omega)⟩),(HA.all H4).pick [] (by decide)⟩
end Go.Proofs.YtjoeklkmnfaabaaGreat
namespace Go.Proofs.YtjoeklkmnfaabaaGreat
open Go Go.RowKit
set_option linter.unusedVariables false
set_option linter.unusedSimpArgs false
def Gw (sz:Nat) (g:Option Nat) (cap:Nat) (qs:List (List Value)) (sp:List Value):Prop:=cap*sz≤(qs.flatten++sp).length∧qs.length≤cap∧(g=none→cap=0)∧Pl sz qs
theorem Gw.nil (sz:Nat):Gw sz none 0 [] []:=⟨by simp,Nat.le_refl _,fun _=>rfl,Pl.nil _⟩
section
variable {P:Program} {ds:List Deferred} {Q:vN} {K:List Value→World→Prop} {all os:List Oper} {l:List Value} {w0 w w':World} {S S':List Nat} {es es':List Ent} {ty t:TypeId} {pos:String} {af:Array Edge} {d:Tmp} {v:Value} {op:Op}
theorem xD {e:TypeId} {x y:Operand} {zs:List Value} {sz bytes:Nat} {agg:Bool} (ht:P.underlying t=some (.slice e)) (he:xT P e zs sz bytes agg) (hsz:0 < sz) (H:Hp w0 w S es) (i:Nat) {g:Option Nat} {cap:Nat} {qs:List (List Value)} {sp:List Value} (G:Gw sz g cap qs sp)
 (hx:ev l x=some (.slice (hd g) qs.length cap)) (hi:es[i]? =some (g,e,qs.flatten++sp)) {A:Option Addr} {m c:Nat} {rs:List (List Value)} (hm:rs.length=m) (hy:ev l y=some (.slice A m c)) (hr:Rd w A m sz rs.flatten) (hp2:Pl sz rs) (h1:∀ p∈rs,p.all (·.oneCell')=true)
 (hb:(qs.length+m)*bytes≤211106232532992) (h63:qs.length+m≤9223372036854775807) (hb2:bytes≤1048576)
 (k:∀ w' g' cap' sp',Hp w0 w' S (es.set i (g',e,(qs++rs).flatten++sp'))→Gw sz g' cap' (qs++rs) sp'→Ops P ds all K Q os (l.set d (.slice (hd g') (qs++rs).length cap')) w'):
 Ops P ds all K Q (⟨some d,.call { callee:=.builtin .append,args:=#[x,y],argTypes:=#[t,t] },ty,pos,af,none⟩::os) l w:=by
 refine yX ht he hsz H i hx hi G.2.2.2.len G.1 G.2.1 G.2.2.1 hy hr (xF h1) h63 hb hb2 fun w' g' cap' sp' H' h2 h3 h4=>?_
 have:=k w' g' cap' sp' (by rw[List.flatten_append];exact H') ⟨by rw[List.flatten_append];exact h2,by rw[List.length_append,hm];exact h3,h4,G.2.2.2.app hp2⟩
 rw[List.length_append,hm]at this
 exact this
end
section
variable {α:Type} {f:α→Bool} {ps:List α} {i:Nat} {p:α}
theorem FD (h:ps[i]? =some p) (hf:f p=true):(ps.take (i+1)).filter f=(ps.take i).filter f++[p]:=by
 rw[List.take_add_one,h,List.filter_append];simp[hf]
theorem FE (h:ps[i]? =some p) (hf:f p=false):(ps.take (i+1)).filter f=(ps.take i).filter f:=by
 rw[List.take_add_one,h,List.filter_append];simp[hf]
theorem jM :((ps.take i).filter f).length≤i:=Nat.le_trans (List.length_filter_le _ _) (by rw[List.length_take];omega)
end
def AV (n:Int) (p:List Value):Bool:=match p with
 | .int _ s::_=>decide (s < n)
 | _=>false
section
variable {w:World} {ok:Nat→Prop} {ps:List (List Value)} {l:List Vt} {q:List Value} {v:Vt} {n:Int}
theorem QN {p:List Value} {x:Vt} (h:Et w ok p x):AV n p=decide (x.slot < n):=by obtain⟨_,_,rfl,_⟩:=h;rfl
theorem uN (h2:wC (Et w ok) ps l):wC (Et w ok) (ps.filter fun p=>!Dw n p) (vP l n):=by
 unfold vP
 exact h2.filter (f:=fun p=>!Dw n p) (g:=fun x=>decide (n < x.slot)) fun p x h=>by
  rw[GN h]
  by_cases hx:x.slot≤n
  · rw[decide_eq_true hx,decide_eq_false (by omega)];rfl
  · rw[decide_eq_false hx,decide_eq_true (by omega)];rfl
theorem dX (h2:wC (Et w ok) ps l) (hv:Et w ok q v):wC (Et w ok) (ps.filter (AV v.slot)++[q]++ps.filter fun p=>!Dw v.slot p) (Ed l v):=by
 unfold Ed
 rw[List.append_assoc]
 exact(h2.filter fun p x h=>QN h).app ⟨hv,uN h2⟩
theorem KY {ps:List (List Value)} {l:List En} (h2:wC (Gs w ok) ps l):wC (Gs w ok) (ps.filter fun p=>!Dw n p) (l.filter fun x=>decide (n < x.slot)):=
 h2.filter (f:=fun p=>!Dw n p) (g:=fun x=>decide (n < x.slot)) fun p x h=>by
  rw[IX h]
  by_cases hx:x.slot≤n
  · rw[decide_eq_true hx,decide_eq_false (by omega)];rfl
  · rw[decide_eq_false hx,decide_eq_true (by omega)];rfl
end
theorem GU :∀ l:List Rt,wC Fb (l.map Eu) l
 | []=>trivial
 | _::l=>⟨rfl,GU l⟩
theorem G8 :∀ l:List Mk,wC Fp (l.map Iq) l
 | []=>trivial
 | _::l=>⟨rfl,G8 l⟩
theorem Yd (l:List Rt):Pl 4 (l.map Eu):=fun p hp=>by
 obtain⟨x,_,rfl⟩:=List.mem_map.1 hp
 rfl
theorem Yr (l:List Mk):Pl 7 (l.map Iq):=fun p hp=>by
 obtain⟨x,_,rfl⟩:=List.mem_map.1 hp
 rfl
theorem RB (l:List Rt):∀ p∈l.map Eu,p.all (·.oneCell')=true:=fun p hp=>by
 obtain⟨x,_,rfl⟩:=List.mem_map.1 hp
 rfl
theorem FM (l:List Rt) (r:Rt):(l.filter (fun x=>Gp x r)).map Eu++[Eu r]++(l.filter (fun x=>Gp r x)).map Eu=(Di l r).map Eu:=by
 unfold Di
 rw[List.map_append,List.map_cons,List.append_assoc];rfl
theorem SQ {l:List Mk} {c:Int} {i:Nat} {x:Mk} (hx:l[i]? =some x) (hc:x.client=c) (hno:∀ y∈l.take i,y.client≠c):Bg l c=some x:=by
 obtain⟨hl,he⟩:=List.getElem?_eq_some_iff.1 hx
 unfold Bg
 rw[List.find?_eq_some_iff_getElem]
 refine⟨by simpa using hc,i,hl,he,fun j hj=>?_⟩
 have:=hno l[j] (by
  have h2:(l.take i)[j]? =some l[j]:=by rw[List.getElem?_take,if_pos hj];exact List.getElem?_eq_getElem (by omega)
  exact List.mem_of_getElem? h2)
 simpa using this
theorem O4 {l:List Mk} {c:Int} (hno:∀ y∈l.take l.length,y.client≠c):Bg l c=none:=by
 rw[List.take_length]at hno
 unfold Bg
 rw[List.find?_eq_none]
 intro x hx
 simpa using hno x hx
theorem NK :∀ {l:List Mk} {n:Int},tV n l→∀ x∈l,n < x.client
 | [],_,_,_,h=>by cases h
 | m::l,n,h,x,hx=>by
  rcases List.mem_cons.1 hx with rfl | hx
  · exact h.1
  · have:=NK h.2.2.2.2 x hx
    have:=h.1
    omega
theorem A5 :∀ {l:List Mk} {n c:Int},tV n l→l.filter (fun x=>decide (x.client < c+1))=l.filter (fun x=>decide (x.client < c))++(Bg l c).toList
 | [],_,_,_=>rfl
 | m::l,n,c,h=>by
  have hl:=h.2.2.2.2
  have hgt:=NK hl
  unfold Bg
  rw[List.find?_cons]
  by_cases h1:m.client < c
  · rw[List.filter_cons,List.filter_cons,if_pos (by simp;omega),if_pos (by simpa using h1),A5 hl,show decide (m.client=c)=false from decide_eq_false (by omega)]
    rfl
  · have hn:l.filter (fun x=>decide (x.client < c))=[]:=pD fun x hx=>decide_eq_false (by have:=hgt x hx;omega)
    by_cases h2:m.client=c
    · have hn2:l.filter (fun x=>decide (x.client < c+1))=[]:=pD fun x hx=>decide_eq_false (by have:=hgt x hx;omega)
      rw[List.filter_cons,List.filter_cons,if_pos (by simp;omega),if_neg (by simpa using h1),hn,hn2,show decide (m.client=c)=true from decide_eq_true h2]
      rfl
    · rw[List.filter_cons,List.filter_cons,if_neg (by simp;omega),if_neg (by simpa using h1),A5 hl,show decide (m.client=c)=false from decide_eq_false h2]
      rfl
theorem B4 (c:Int) (f:Mk→Bool) (hf:∀ x:Mk,x.client=c→f x=true):∀ l:List Mk,Bg (l.filter f) c=Bg l c
 | []=>rfl
 | a::l=>by
  have IH:=B4 c f hf l
  unfold Bg at IH ⊢
  rw[List.filter_cons,List.find?_cons]
  by_cases hx:a.client=c
  · rw[if_pos (hf a hx),List.find?_cons,show decide (a.client=c)=true from decide_eq_true hx]
  · rw[show decide (a.client=c)=false from decide_eq_false hx]
    split
    · rw[List.find?_cons,show decide (a.client=c)=false from decide_eq_false hx];exact IH
    · exact IH
theorem cY (c:Int) (f:Mk→Bool) (hf:∀ x:Mk,x.client=c→f x=false) (l:List Mk):Bg (l.filter f) c=none:=by
 unfold Bg
 rw[List.find?_eq_none]
 intro x hx
 have:=(List.mem_filter.1 hx).2
 by_cases hc:x.client=c
 · rw[hf x hc]at this;cases this
 · simpa using hc
theorem O3 (l:List Mk) (m:Mk) (c:Int):Bg (uL l m) c=if c=m.client then some m else Bg l c:=by
 have h:Bg (uL l m) c=(Bg (l.filter (fun x=>decide (x.client < m.client))) c).or (if m.client=c then some m else Bg (l.filter (fun x=>decide (m.client < x.client))) c):=by
  unfold Bg uL
  rw[List.find?_append,List.find?_cons]
  by_cases hm:m.client=c
  · rw[if_pos hm,show decide (m.client=c)=true from decide_eq_true hm]
  · rw[if_neg hm,show decide (m.client=c)=false from decide_eq_false hm]
 rw[h]
 by_cases hc:c=m.client
 · rw[if_pos hc,if_pos hc.symm,cY c _ (fun x hx=>decide_eq_false (by omega))];rfl
 · rw[if_neg hc,if_neg fun h=>hc h.symm]
   by_cases hlt:c < m.client
   · rw[B4 c _ (fun x hx=>decide_eq_true (by omega)),cY c _ (fun x hx=>decide_eq_false (by omega))]
     cases Bg l c <;>rfl
   · rw[cY c _ (fun x hx=>decide_eq_false (by omega)),B4 c _ (fun x hx=>decide_eq_true (by omega))];rfl
theorem TC {l:List Mk} {m:Mk} (h:tV 0 (uL l m)):(uL l m).filter (fun x=>decide (x.client < 9))=uL l m:=
 mF fun x hx=>decide_eq_true (by have:=(vV h).1 x hx;omega)
theorem NH {l:List Mk} {m:Mk} (h:tV 0 (uL l m)):(uL l m).filter (fun x=>decide (x.client < 1))=[]:=
 pD fun x hx=>decide_eq_false (by have:=(vV h).1 x hx;omega)
theorem Hl.Yo {w:World} {ok:Nat→Prop} {X1 X2 X3:Option Addr} {m1 x1 m2 x2 m3 x3:Nat} {b:Bo} (h:Hl w ok [.slice X1 m1 x1,.slice X2 m2 x2,.slice X3 m3 x3] b):
 (m1=b.groups.length∧m2=b.rights.length∧m3=b.last.length)∧Sl (Gz w ok) 6 w ok X1 b.groups∧Sl Fb 4 w ok X2 b.rights∧Sl Fp 7 w ok X3 b.last:=by
 obtain⟨A1,k1,A2,k2,A3,k3,he,h1,h2,h3⟩:=h
 simp only[List.cons.injEq,Value.slice.injEq]at he
 obtain⟨⟨rfl,rfl,rfl⟩,⟨rfl,rfl,rfl⟩,⟨rfl,rfl,rfl⟩,_⟩:=he
 exact⟨⟨Y,Y,Y⟩,h1,h2,h3⟩
def CapR (cs:List Value):Prop:=∀ x A n k z,cs=[x,.slice A n k,z]→n≤k
@[reducible] def Yp (g:Int) (s:Sv):Nt:=⟨4,g,⟨0,0⟩,⟨0,⟨0,0⟩,[]⟩,⟨s.index,s.image⟩,⟨0,[],0,0⟩,0,0⟩
@[reducible] def Ji (g:Int) (e:En):Nt:=⟨3,g,⟨0,0⟩,⟨0,⟨0,0⟩,[]⟩,e,⟨0,[],0,0⟩,0,0⟩
@[reducible] def WG (g:Int) (p:Bal):Nt:=⟨1,g,p,⟨0,⟨0,0⟩,[]⟩,⟨0,[]⟩,⟨0,[],0,0⟩,0,0⟩
@[reducible] def Uw (g:Int) (v:Vt):Nt:=⟨2,g,⟨0,0⟩,v,⟨0,[]⟩,⟨0,[],0,0⟩,0,0⟩
@[reducible] def ntF (r:Rt):Nt:=⟨5,0,⟨0,0⟩,⟨0,⟨0,0⟩,[]⟩,⟨0,[]⟩,r,0,0⟩
def tS (g:Int) (s:Sv):List Nt:=if s.index≠0 then[Yp g s] else[]
def sF (g:Int) (s:Sv):List Nt:=if ¬(s.p.r=0∧s.p.n=0) then[WG g s.p] else[]
def Ko (g:Int) (s:Sv):List Nt:=tS g s++s.entries.map (Ji g)++sF g s++s.Ae.map (Uw g)
def gN (l:List Sv):List Nt:=l.zipIdx.flatMap fun x=>Ko x.2 x.1
def Bo.notes (b:Bo):List Nt:=gN b.groups++b.rights.map ntF
theorem pY (l:List Sv) (s:Sv):gN (l++[s])=gN l++Ko l.length s:=by
 unfold gN
 rw[List.zipIdx_append]
 simp
theorem V1 (l m:List Sv):∃ R,gN (l++m)=gN l++R:=by
 unfold gN
 rw[List.zipIdx_append,List.flatMap_append]
 exact⟨_,Y⟩
theorem UI {l:List Sv} {i:Nat} {s:Sv} (h:l[i]? =some s):∃ R,gN l=gN (l.take i)++(Ko i s++R):=by
 have hi:=(List.getElem?_eq_some_iff.1 h).1
 have h1:=pY (l.take i) s
 rw[← yU h,List.length_take,Nat.min_eq_left (by omega)]at h1
 obtain⟨R,hR⟩:=V1 (l.take (i+1)) (l.drop (i+1))
 rw[List.take_append_drop,h1,List.append_assoc]at hR
 exact⟨R,hR⟩
def Fg :List Sv→Nat
 | []=>0
 | s::l=>s.entries.length+Fg l
theorem AJ :∀ {l:List Sv} {i:Nat} {s t:Sv},l[i]? =some s→t.entries.length≤s.entries.length+1→Fg (l.set i t)≤Fg l+1
 | [],i,s,t,h,_=>by simp at h
 | a::l,0,s,t,h,ht=>by
  simp only[List.getElem?_cons_zero,Option.some.injEq]at h
  subst h
  simp only[List.set_cons_zero,Fg]
  omega
 | a::l,i+1,s,t,h,ht=>by
  simp only[List.getElem?_cons_succ]at h
  have:=AJ h ht
  simp only[List.set_cons_succ,Fg]
  omega
def Bo.cnt (b:Bo):Nat:=Fg b.groups+b.rights.length
theorem NY {b b':Bo} {n:Nt} (h:b.into n=some b'):b'.cnt≤b.cnt+1:=by
 unfold Bo.into at h
 split at h
 · split at h
   · simp only[Option.some.injEq]at h
     subst h
     have:=aN b.rights n.right
     show Fg b.groups+(Di b.rights n.right).length≤Fg b.groups+b.rights.length+1
     omega
   · cases h
 · split at h
   · cases h
   · split at h
     · rename_i s hs
       split at h
       · simp only[Option.some.injEq]at h
         subst h
         have:=AJ hs (nF s n).2
         show Fg (b.groups.set n.group.toNat (s.goes n))+b.rights.length≤Fg b.groups+b.rights.length+1
         omega
       · cases h
     · cases h
theorem CY :∀ {l:List Nt} {b b':Bo},vR b l=some b'→b'.cnt≤b.cnt+l.length
 | [],b,b',h=>by
  simp only[vR,Option.some.injEq]at h
  subst h;simp
 | n::l,b,b',h=>by
  unfold vR at h
  split at h
  · rename_i c hc
    have h1:=NY hc
    have h2:=CY h
    rw[List.length_cons];omega
  · cases h
theorem QZ {g:Int} {s:Sv} (h:bX s):(Ko g s).length≤s.entries.length+18:=by
 have hv:=pT h
 unfold Ko tS sF
 simp only[List.length_append,List.length_map]
 split <;>split <;>simp <;>omega
theorem V0 :∀ (l:List Sv),(∀ s∈l,chk s=true)→(gN l).length≤Fg l+18*l.length:=by
 have key:∀ (l:List Sv) (k:Nat),(∀ s∈l,chk s=true)→((l.zipIdx k).flatMap fun x=>Ko x.2 x.1).length≤Fg l+18*l.length:=by
  intro l
  induction l with
  | nil=>intro k _;simp[Fg]
  | cons s l ih=>
   intro k h
   have h1:=QZ (g:=k) ((tP s).1 (h s List.mem_cons_self))
   have h2:=ih (k+1) fun t ht=>h t (List.mem_cons_of_mem _ ht)
   simp only[List.zipIdx_cons,List.flatMap_cons,List.length_append,List.length_cons,Fg]
   omega
 exact fun l=>key l 0
theorem KJ {l:List Nt} {b:Bo} (hg:rJ b l.length) (h:vR Bo.empty l=some b):b.notes.length≤l.length+144:=by
 have h1:=V0 b.groups hg.chk
 have h2:=CY h
 have h3:Bo.empty.cnt=0:=rfl
 have h4:=hg.eight
 unfold Bo.notes
 unfold Bo.cnt at h2 h3
 simp only[List.length_append,List.length_map]
 omega
theorem IV :∀ {l m:List En} {n:Int},tH n (l++m)=true→tH n l=true
 | [],_,_,_=>rfl
 | e::l,m,n,h=>by
  simp only[List.cons_append,tH,Bool.and_eq_true]at h ⊢
  exact⟨h.1,IV h.2⟩
theorem GL {p:Bal} {first:Int}:∀ {l m:List Vt} {n:Int},uB p first n (l++m)=true→uB p first n l=true
 | [],_,_,_=>rfl
 | e::l,m,n,h=>by
  simp only[List.cons_append,uB,Bool.and_eq_true]at h ⊢
  exact⟨h.1,GL h.2⟩
theorem GM {p:Bal} {first:Int}:∀ {l:List Vt} {n:Int},uB p first n l=true→∀ v∈l,n≤v.slot∧¬p.lt v.b
 | [],_,_,v,hv=>by cases hv
 | e::l,n,h,v,hv=>by
  simp only[uB,Bool.and_eq_true,decide_eq_true_eq]at h
  rcases List.mem_cons.1 hv with rfl | hv
  · exact⟨h.1.1,h.1.2.2.2.2.1⟩
  · have:=GM h.2 v hv
    exact⟨by have:=h.1.1;omega,this.2⟩
def tX :Sv→List Nt→Option Sv
 | s,[]=>some s
 | s,n::l=>if chk (s.goes n) then tX (s.goes n) l else none
theorem kO :∀ {l m:List Nt} {s t:Sv},tX s l=some t→tX s (l++m)=tX t m
 | [],m,s,t,h=>by
  simp only[tX,Option.some.injEq]at h
  subst h;rfl
 | n::l,m,s,t,h=>by
  rw[tX]at h
  split at h
  · rename_i hc
    rw[List.cons_append,tX,if_pos hc]
    exact kO h
  · cases h
theorem cQ {g:Int} {ix:Int} {im:Blk}:∀ {m l:List En},bX ⟨⟨0,0⟩,[],ix,im,l++m⟩→tX ⟨⟨0,0⟩,[],ix,im,l⟩ (m.map (Ji g))=some ⟨⟨0,0⟩,[],ix,im,l++m⟩
 | [],l,_=>by simp[tX]
 | e::m,l,h=>by
  have hs:=(pE h.e l.length e (by simp)).1
  have h1:bX ⟨⟨0,0⟩,[],ix,im,(l++[e])++m⟩:=by rw[List.append_assoc];exact h
  have h2:(⟨⟨0,0⟩,[],ix,im,l⟩:Sv).goes (Ji g e)=⟨⟨0,0⟩,[],ix,im,l++[e]⟩:=by
   rw[ID rfl,if_pos (by show e.slot=ix+(l.length:Int)+1;have:e.slot=ix+1+(l.length:Int):=hs;omega)]
   rfl
  have hn:=h.n
  have h3:chk ⟨⟨0,0⟩,[],ix,im,l++[e]⟩=true:=(tP _).2 ⟨h.p,h.i,IV h1.e,by
   simp only[List.length_append,List.length_cons]at hn ⊢
   simp only[List.length_nil]
   omega,rfl⟩
  rw[List.map_cons,tX,h2,if_pos h3,cQ h1,List.append_assoc]
  rfl
theorem GY {l:List Vt} {v:Vt} (h:∀ x∈l,x.slot < v.slot):Ed l v=l++[v]:=by
 unfold Ed
 rw[mF fun x hx=>decide_eq_true (h x hx),pD fun x hx=>decide_eq_false (by have:=h x hx;omega)]
theorem MM {s:Sv} {b:Bal} (h:¬s.p.lt b):s.raise b=s:=by unfold Sv.raise;rw[if_neg h]
theorem AE {g:Int} {p:Bal} {ix:Int} {im:Blk} {es:List En}:∀ {m l:List Vt},bX ⟨p,l++m,ix,im,es⟩→tX ⟨p,l,ix,im,es⟩ (m.map (Uw g))=some ⟨p,l++m,ix,im,es⟩
 | [],l,_=>by simp[tX]
 | v::m,l,h=>by
  have hv:=GM h.v v (by simp)
  have hr:=(dI h.v).2
  have h1:bX ⟨p,(l++[v])++m,ix,im,es⟩:=by rw[List.append_assoc];exact h
  have hlt:∀ x∈l,x.slot < v.slot:=fun x hx=>by
   obtain⟨i,hi⟩:=List.getElem?_of_mem hx
   have hil:=(List.getElem?_eq_some_iff.1 hi).1
   exact hr i l.length x v hil (by show(l++v::m)[i]? =some x;rw[List.getElem?_append_left hil];exact hi) (by show(l++v::m)[l.length]? =some v;simp)
  have h2:(⟨p,l,ix,im,es⟩:Sv).goes (Uw g v)=⟨p,l++[v],ix,im,es⟩:=by
   rw[IE rfl,if_neg (by show ¬v.slot≤ix+(es.length:Int);have:ix+(es.length:Int)+1≤v.slot:=hv.1;omega)]
   have h4:(⟨p,Ed l v,ix,im,es⟩:Sv).raise v.b=⟨p,Ed l v,ix,im,es⟩:=MM hv.2
   rw[GY hlt]at h4
   show(⟨p,Ed l v,ix,im,es⟩:Sv).raise v.b=_
   rw[GY hlt]
   exact h4
  have h3:chk ⟨p,l++[v],ix,im,es⟩=true:=(tP _).2 ⟨h.p,h.i,h.e,h.n,GL h1.v⟩
  rw[List.map_cons,tX,h2,if_pos h3,AE h1,List.append_assoc]
  rfl
theorem KQ {g:Int} {s:Sv} (h:bX s):tX Sv.none (Ko g s)=some s:=by
 obtain⟨p,vs,ix,im,es⟩:=s
 have hi:=h.i
 have he:tH ix es=true:=h.e
 have hn:ix+(es.length:Int)+1≤1099511627776:=h.n
 have hE:bX ⟨⟨0,0⟩,[],ix,im,[]++es⟩:=⟨.inl ⟨rfl,rfl⟩,h.i,he,hn,rfl⟩
 have s1:tX Sv.none (tS g ⟨p,vs,ix,im,es⟩)=some ⟨⟨0,0⟩,[],ix,im,[]⟩:=by
  unfold tS
  split
  · rename_i hx
    have hx:ix≠0:=hx
    have h0:0≤ix:=hi.1
    have h2:Sv.none.goes (Yp g ⟨p,vs,ix,im,es⟩)=⟨⟨0,0⟩,[],ix,im,[]⟩:=by
     rw[AF rfl,if_neg (by show ¬ix≤0;omega)]
     rfl
    have h3:chk ⟨⟨0,0⟩,[],ix,im,[]⟩=true:=(tP _).2 ⟨.inl ⟨rfl,rfl⟩,h.i,rfl,by show ix+0+1≤1099511627776;omega,rfl⟩
    rw[tX,h2,if_pos h3];rfl
  · rename_i hx
    have hx:ix=0:=by simpa using hx
    have him:im=[]:=List.eq_nil_of_length_eq_zero (hi.2.2.1 hx)
    subst hx him
    rfl
 have s2:tX ⟨⟨0,0⟩,[],ix,im,[]⟩ (es.map (Ji g))=some ⟨⟨0,0⟩,[],ix,im,es⟩:=cQ (g:=g) hE
 have s3:tX ⟨⟨0,0⟩,[],ix,im,es⟩ (sF g ⟨p,vs,ix,im,es⟩)=some ⟨p,[],ix,im,es⟩:=by
  unfold sF
  split
  · rename_i hx
    have hx:¬(p.r=0∧p.n=0):=hx
    have hp:1≤p.r∧1≤p.n∧p.n≤5:=h.p.resolve_left hx
    have h2:(⟨⟨0,0⟩,[],ix,im,es⟩:Sv).goes (WG g p)=⟨p,[],ix,im,es⟩:=by
     rw[N7 rfl]
     unfold Sv.raise
     rw[if_pos (by show(0:Int) < p.r∨_;left;omega)]
    have h3:chk ⟨p,[],ix,im,es⟩=true:=(tP _).2 ⟨h.p,h.i,h.e,h.n,rfl⟩
    show tX _ [WG g p]=_
    rw[tX,h2,if_pos h3];rfl
  · rename_i hx
    have hx:p.r=0∧p.n=0:=by
     rcases h.p with h1 | h1
     · exact h1
     · exact absurd (show ¬(p.r=0∧p.n=0) from fun h2=>by have:1≤p.r:=h1.1;omega) hx
    obtain⟨r,n⟩:=p
    obtain⟨h1,h2⟩:=hx
    simp only at h1 h2
    subst h1 h2
    rfl
 have s4:=AE (g:=g) (l:=[]) h
 unfold Ko
 rw[List.append_assoc,List.append_assoc,kO s1,kO s2,kO s3]
 exact s4
theorem iI :∀ {l m:List Nt} {b c:Bo},vR b l=some c→vR b (l++m)=vR c m
 | [],m,b,c,h=>by
  simp only[vR,Option.some.injEq]at h
  subst h;rfl
 | n::l,m,b,c,h=>by
  rw[vR]at h
  split at h
  · rename_i d hd
    rw[List.cons_append,vR,hd]
    exact iI h
  · cases h
theorem aJ :∀ {l:List Nt} {b:Bo} {g:Nat} {s t:Sv},g < 8→b.groups[g]? =some s→(∀ n∈l,n.group=g∧1≤n.kind∧n.kind≤4)→tX s l=some t→vR b l=some { b with groups:=b.groups.set g t }
 | [],b,g,s,t,hg,hs,_,h=>by
  simp only[tX,Option.some.injEq]at h
  subst h
  obtain⟨hl,he⟩:=List.getElem?_eq_some_iff.1 hs
  have:b.groups.set g s=b.groups:=by rw[← he];exact List.set_getElem_self hl
  rw[this];rfl
 | n::l,b,g,s,t,hg,hs,hn,h=>by
  unfold tX at h
  split at h
  · rename_i hc
    obtain⟨h1,h2,h3⟩:=hn n List.mem_cons_self
    have hl:=(List.getElem?_eq_some_iff.1 hs).1
    have h4:b.into n=some { b with groups:=b.groups.set g (s.goes n) }:=by
     have:=lI (b:=b) (n:=n) (s:=s) (by omega) (by rw[h1];omega) (by rw[h1];exact hs) hc
     rw[this,h1];rfl
    unfold vR
    rw[h4]
    have:=aJ (b:={ b with groups:=b.groups.set g (s.goes n) }) (g:=g) (s:=s.goes n) (t:=t) hg (by simp[hl]) (fun x hx=>hn x (List.mem_cons_of_mem _ hx)) h
    show vR { b with groups:=b.groups.set g (s.goes n) } l=_
    rw[this]
    simp
  · cases h
theorem Q0 {g:Nat} {s:Sv}:∀ n∈Ko g s,n.group=g∧1≤n.kind∧n.kind≤4:=by
 intro n hn
 unfold Ko tS sF at hn
 rcases List.mem_append.1 hn with hn | hn
 · rcases List.mem_append.1 hn with hn | hn
   · rcases List.mem_append.1 hn with hn | hn
     · split at hn
       · rw[List.mem_singleton.1 hn];exact⟨rfl,by show(1:Int)≤4;decide,by show(4:Int)≤4;decide⟩
       · cases hn
     · obtain⟨e,_,rfl⟩:=List.mem_map.1 hn
       exact⟨Y,by show(1:Int)≤3;decide,by show(3:Int)≤4;decide⟩
   · split at hn
     · rw[List.mem_singleton.1 hn];exact⟨rfl,by show(1:Int)≤1;decide,by show(1:Int)≤4;decide⟩
     · cases hn
 · obtain⟨e,_,rfl⟩:=List.mem_map.1 hn
   exact⟨Y,by show(1:Int)≤2;decide,by show(2:Int)≤4;decide⟩
theorem eB {L:List Sv} (h8:L.length=8) (hc:∀ s∈L,chk s=true):∀ i,i≤8→vR Bo.empty (gN (L.take i))=some ⟨L.take i++List.replicate (8 - i) Sv.none,[],[]⟩
 | 0,_=>rfl
 | i+1,hi=>by
  have ih:=eB h8 hc i (by omega)
  obtain⟨s,hs⟩:=yM (l:=L) (j:=i) (by omega)
  have hl:(L.take i).length=i:=by rw[List.length_take];omega
  rw[yU hs,pY,iI ih,hl,aJ (g:=i) (s:=Sv.none) (t:=s) (by omega) ?_ Q0 (KQ ((tP s).1 (hc s (mem_of hs))))]
  · simp only[Option.some.injEq,Bo.mk.injEq,and_true]
    rw[show 8 - i=(8 - (i+1))+1 by omega,List.replicate_succ,List.set_append_right _ _ (by omega),hl,Nat.sub_self,List.set_cons_zero,List.append_assoc]
    rfl
  · show(L.take i++List.replicate (8 - i) Sv.none)[i]? =some Sv.none
    rw[List.getElem?_append_right (by omega),hl,Nat.sub_self,List.getElem?_replicate,if_pos (by omega)]
theorem GT :∀ {l m:List Rt},qJ (l++m)→(∀ x∈l,∀ y∈m,Gp x y=true)∧(∀ y∈m,nW y)
 | [],m,h=>⟨fun x hx=>(by cases hx),(sX h).1⟩
 | r::l,m,h=>by
  obtain⟨h1,h2,h3⟩:=h
  obtain⟨h4,h5⟩:=GT h3
  refine⟨fun x hx y hy=>?_,h5⟩
  rcases List.mem_cons.1 hx with rfl | hx
  · exact h2 y (List.mem_append_right _ hy)
  · exact h4 x hx y hy
theorem fZ {G:List Sv}:∀ {m l:List Rt},qJ (l++m)→vR ⟨G,l,[]⟩ (m.map ntF)=some ⟨G,l++m,[]⟩
 | [],l,_=>by simp[vR]
 | r::m,l,h=>by
  obtain⟨h1,h2⟩:=GT h
  have h3:Di l r=l++[r]:=by
   unfold Di
   rw[mF fun x hx=>h1 x hx r List.mem_cons_self,pD fun x hx=>?_]
   cases hb:Gp r x with
   | false=>rfl
   | true=>
    have:=kK (h1 x hx r List.mem_cons_self) hb
    rw[BQ]at this;cases this
  have h4:(⟨G,l,[]⟩:Bo).into (ntF r)=some ⟨G,l++[r],[]⟩:=by
   rw[vM rfl (h2 r List.mem_cons_self),pG (.inl (by show(0:Int) < 1;decide))]
   show some (⟨G,Di l r,[]⟩:Bo)=_
   rw[h3]
  rw[List.map_cons,vR,h4]
  have:=fZ (G:=G) (m:=m) (l:=l++[r]) (by rw[List.append_assoc];exact h)
  rw[List.append_assoc]at this
  exact this
theorem FSa {b:Bo} {N:Nat} (h:rJ b N):vR Bo.empty b.notes=some ⟨b.groups,b.rights,[]⟩:=by
 unfold Bo.notes
 have h1:=eB h.eight h.chk 8 (Nat.le_refl _)
 rw[List.take_of_length_le (by rw[h.eight];exact Nat.le_refl _)]at h1
 rw[iI h1]
 have h2:=fZ (G:=b.groups++List.replicate (8 - 8) Sv.none) (m:=b.rights) (l:=[]) h.rts
 rw[h2]
 simp
def Fq (n:Nt):List Fv:=[.int n.kind,.int n.group,.int n.b.r,.int n.b.n,.int n.Ag.slot,.int n.Ag.b.r,.int n.Ag.b.n,.bytes n.Ag.val,.int n.entry.slot,.bytes n.entry.val,.int n.right.g,.text n.right.key,.int n.right.Ai,.int n.right.net,.int n.client,.int n.seq]
@[reducible] def i64 (n:Int):Prop:=-9223372036854775808≤n∧n≤9223372036854775807
structure NtB (n:Nt):Prop where
 kind:i64 n.kind
 group:i64 n.group
 br:i64 n.b.r
 bn:i64 n.b.n
 vs:i64 n.Ag.slot
 vr:i64 n.Ag.b.r
 vn:i64 n.Ag.b.n
 es:i64 n.entry.slot
 rg:i64 n.right.g
 rl:i64 n.right.Ai
 rn:i64 n.right.net
 cl:i64 n.client
 sq:i64 n.seq
section
variable {w:World} {ok:Nat→Prop} {cs:List Value} {n:Nt}
theorem FP.Nu {A:Option Addr} {b:Blk} {k:Nat} (h:Bs w ok A b):FP w ok (.bytes b) (.slice A b.length k):=⟨A,k,rfl,h.1,h.2.1⟩
theorem FP.Ee {x:Int} (h:i64 x):FP w ok (.int x) (.int .i64 x):=⟨rfl,h⟩
theorem U9 (h:NtR w ok cs n) (hb:NtB n):rM.M w ok (Fq n) cs:=by
 obtain⟨A1,k1,A2,k2,rfl,h1,h2⟩:=h
 refine⟨Y,?_⟩
 exact(FPs.one (FP.Ee hb.kind)).app ((FPs.one (FP.Ee hb.group)).app ((FPs.one (FP.Ee hb.br)).app ((FPs.one (FP.Ee hb.bn)).app ((FPs.one (FP.Ee hb.vs)).app ((FPs.one (FP.Ee hb.vr)).app ((FPs.one (FP.Ee hb.vn)).app ((FPs.one (FP.Nu h1)).app ((FPs.one (FP.Ee hb.es)).app ((FPs.one (FP.Nu h2)).app ((FPs.one (FP.Ee hb.rg)).app ((FPs.one (f:=.text n.right.key) Y).app ((FPs.one (FP.Ee hb.rl)).app ((FPs.one (FP.Ee hb.rn)).app ((FPs.one (FP.Ee hb.cl)).app (FPs.one (FP.Ee hb.sq))))))))))))))))
theorem M_nt (h:rM.M w ok (Fq n) cs) (hv:n.Ag.val.length≤140737488351232) (he:n.entry.val.length≤140737488351232):NtR w ok cs n:=by
 obtain⟨_,h⟩:=h
 have hl:cs.length=16:=h.len
 match cs,hl with
 | [c0,c1,c2,c3,c4,c5,c6,c7,c8,c9,c10,c11,c12,c13,c14,c15],_=>
  have key:∀ (i:Nat) (c:Value) (f:Fv),[c0,c1,c2,c3,c4,c5,c6,c7,c8,c9,c10,c11,c12,c13,c14,c15][i]? =some c→(Fq n)[i]? =some f→FP w ok f c:=fun i c f hc hf=>by
   obtain⟨hi,rfl⟩:=List.getElem?_eq_some_iff.1 hf
   obtain⟨v,h1,h2⟩:=h.2 i hi
   rw[hc]at h1;cases h1;exact h2
  obtain⟨B1,k1,h7,r1,o1⟩:=key 7 c7 (.bytes n.Ag.val) rfl rfl
  obtain⟨B2,k2,h9,r2,o2⟩:=key 9 c9 (.bytes n.entry.val) rfl rfl
  have h11:c11=yC n.right.key:=key 11 c11 (.text n.right.key) rfl rfl
  refine⟨B1,k1,B2,k2,?_,⟨r1,o1,hv⟩,⟨r2,o2,he⟩⟩
  rw[(key 0 c0 (.int n.kind) rfl rfl).1,(key 1 c1 (.int n.group) rfl rfl).1,(key 2 c2 (.int n.b.r) rfl rfl).1,(key 3 c3 (.int n.b.n) rfl rfl).1,(key 4 c4 (.int n.Ag.slot) rfl rfl).1,(key 5 c5 (.int n.Ag.b.r) rfl rfl).1,(key 6 c6 (.int n.Ag.b.n) rfl rfl).1,h7,
   (key 8 c8 (.int n.entry.slot) rfl rfl).1,h9,(key 10 c10 (.int n.right.g) rfl rfl).1,h11,(key 12 c12 (.int n.right.Ai) rfl rfl).1,(key 13 c13 (.int n.right.net) rfl rfl).1,(key 14 c14 (.int n.client) rfl rfl).1,(key 15 c15 (.int n.seq) rfl rfl).1]
end
def xG (n:Nt):Blk:=sY (xX (Fq n) W0)
def Gn (n:Nt):Nat:=errOf (xX (Fq n) W0)
theorem kI (n:Nt):(xG n).length≤65536:=U6 _
def rN (n:Nt):Prop:=Gn n=0∧(xG n).length≤16384
instance (n:Nt):Decidable (rN n):=inferInstanceAs (Decidable (_∧_))
theorem VC {l:List Sv} {n:Nt} (h:n∈gN l):∃ (g:Nat) (s:Sv),l[g]? =some s∧n∈Ko g s:=by
 unfold gN at h
 obtain⟨⟨s,g⟩,h1,h2⟩:=List.mem_flatMap.1 h
 obtain⟨_,hg,he⟩:=List.mem_zipIdx h1
 refine⟨g,s,?_,h2⟩
 rw[List.getElem?_eq_getElem (by omega),he]
 simp
end Go.Proofs.YtjoeklkmnfaabaaGreat
namespace Go.Proofs.YtjoeklkmnfaabaaGreat
set_option maxRecDepth 100000
set_option maxHeartbeats 4000000
open Go Go.RowKit
set_option linter.unusedVariables false
attribute [local irreducible] yT Ops zP Cd
theorem F8 (A:Option Addr) (n c:Nat) (cs:List Value) (w0:World) (hr:Rd w0 A n 4 cs) (ho:cs.all (·.oneCell')=true) (hb:n*48≤211106232532992):zP Tryz.prog 87 #[.slice A n c] w0 (fun r w'=>Rw w0 w' r 77 4 n cs):=by
 refine zE Tryz.func87 Tryz.ntmps87 Y<|cR e8 ?_
 have H:=Hp.refl w0
 refine Rq<|Xa Y<|Xr e8<|J1<|Rq<|Xm Y<|OT (wZ Tryz.underlying94 Y) (fun hp4=>?_) (fun hp4=>?_)
 refine Xr e8<|J3 Y<|Rq<|Xa Y<|Xr e8<|J5<|Ak Y Y ?_
 have hn0:n=0:=hr.nil hp4
 subst hn0
 have hb:cs=[]:=List.eq_nil_of_length_eq_zero (by rw[hr.len,Nat.zero_mul])
 subst hb
 exact⟨none,0,[],Y,Nat.le_refl _,by simp,fun _=>Y,by have:=H.nil 77;exact this⟩
 refine Xr e8<|J4 Y<|J6<|Rq<|zG Tryz.underlying94 yZ H Y (by decide) Y<|fun w1 g1 H1 hg1=>Xm Y<|yX Tryz.underlying94 yZ (by decide) H1 0 (g:=some g1) (xs:=[]) (sp:=[]) Y Y Y (by decide) (by decide) (by simp) Y (hr.to0 H1) ho (by omega) (by omega) (by decide)<|fun w2 g3 cap3 sp3 H2 hcap3 hmc3 hg3=>Xa Y<|Xr e8<|J5<|Ak Y Y ?_
 rw[Nat.zero_add]at hmc3
 refine⟨g3,cap3,sp3,?_,hmc3,hcap3,hg3,H2.pick [0] (by decide)⟩
 rw[Nat.zero_add]
theorem B9 (A:Option Addr) (n c:Nat) (cs:List Value) (w0:World) (hr:Rd w0 A n 2 cs) (ho:cs.all (·.oneCell')=true) (hb:n*32≤211106232532992):zP Tryz.prog 88 #[.slice A n c] w0 (fun r w'=>Rw w0 w' r 79 2 n cs):=by
 refine zE Tryz.func88 Tryz.ntmps88 Y<|cR e8 ?_
 have H:=Hp.refl w0
 refine Rq<|Xa Y<|Xr e8<|J1<|Rq<|Xm Y<|OT (wZ Tryz.underlying95 Y) (fun hp4=>?_) (fun hp4=>?_)
 refine Xr e8<|J3 Y<|Rq<|Xa Y<|Xr e8<|J5<|Ak Y Y ?_
 have hn0:n=0:=hr.nil hp4
 subst hn0
 have hb:cs=[]:=List.eq_nil_of_length_eq_zero (by rw[hr.len,Nat.zero_mul])
 subst hb
 exact⟨none,0,[],Y,Nat.le_refl _,by simp,fun _=>Y,by have:=H.nil 79;exact this⟩
 refine Xr e8<|J4 Y<|J6<|Rq<|zG Tryz.underlying95 wD H Y (by decide) Y<|fun w1 g1 H1 hg1=>Xm Y<|yX Tryz.underlying95 wD (by decide) H1 0 (g:=some g1) (xs:=[]) (sp:=[]) Y Y Y (by decide) (by decide) (by simp) Y (hr.to0 H1) ho (by omega) (by omega) (by decide)<|fun w2 g3 cap3 sp3 H2 hcap3 hmc3 hg3=>Xa Y<|Xr e8<|J5<|Ak Y Y ?_
 rw[Nat.zero_add]at hmc3
 refine⟨g3,cap3,sp3,?_,hmc3,hcap3,hg3,H2.pick [0] (by decide)⟩
 rw[Nat.zero_add]
theorem F9 (A:Option Addr) (n c:Nat) (cs:List Value) (w0:World) (hr:Rd w0 A n 4 cs) (ho:cs.all (·.oneCell')=true) (hb:n*40≤211106232532992):zP Tryz.prog 38 #[.slice A n c] w0 (fun r w'=>Rw w0 w' r 35 4 n cs):=by
 refine zE Tryz.func38 Tryz.ntmps38 Y<|cR e8 ?_
 have H:=Hp.refl w0
 refine Rq<|Xa Y<|Xr e8<|J1<|Rq<|Xm Y<|OT (wZ Tryz.underlying38 Y) (fun hp4=>?_) (fun hp4=>?_)
 refine Xr e8<|J3 Y<|Rq<|Xa Y<|Xr e8<|J5<|Ak Y Y ?_
 have hn0:n=0:=hr.nil hp4
 subst hn0
 have hb:cs=[]:=List.eq_nil_of_length_eq_zero (by rw[hr.len,Nat.zero_mul])
 subst hb
 exact⟨none,0,[],Y,Nat.le_refl _,by simp,fun _=>Y,by have:=H.nil 35;exact this⟩
 refine Xr e8<|J4 Y<|J6<|Rq<|zG Tryz.underlying38 xR H Y (by decide) Y<|fun w1 g1 H1 hg1=>Xm Y<|yX Tryz.underlying38 xR (by decide) H1 0 (g:=some g1) (xs:=[]) (sp:=[]) Y Y Y (by decide) (by decide) (by simp) Y (hr.to0 H1) ho (by omega) (by omega) (by decide)<|fun w2 g3 cap3 sp3 H2 hcap3 hmc3 hg3=>Xa Y<|Xr e8<|J5<|Ak Y Y ?_
 rw[Nat.zero_add]at hmc3
 refine⟨g3,cap3,sp3,?_,hmc3,hcap3,hg3,H2.pick [0] (by decide)⟩
 rw[Nat.zero_add]
theorem GA (A:Option Addr) (n c:Nat) (cs:List Value) (w0:World) (hr:Rd w0 A n 7 cs) (ho:cs.all (·.oneCell')=true) (hb:n*56≤211106232532992):zP Tryz.prog 89 #[.slice A n c] w0 (fun r w'=>Rw w0 w' r 110 7 n cs):=by
 refine zE Tryz.func89 Tryz.ntmps89 Y<|cR e8 ?_
 have H:=Hp.refl w0
 refine Rq<|Xa Y<|Xr e8<|J1<|Rq<|Xm Y<|OT (wZ Tryz.underlying39 Y) (fun hp4=>?_) (fun hp4=>?_)
 refine Xr e8<|J3 Y<|Rq<|Xa Y<|Xr e8<|J5<|Ak Y Y ?_
 have hn0:n=0:=hr.nil hp4
 subst hn0
 have hb:cs=[]:=List.eq_nil_of_length_eq_zero (by rw[hr.len,Nat.zero_mul])
 subst hb
 exact⟨none,0,[],Y,Nat.le_refl _,by simp,fun _=>Y,by have:=H.nil 110;exact this⟩
 refine Xr e8<|J4 Y<|J6<|Rq<|zG Tryz.underlying39 yP H Y (by decide) Y<|fun w1 g1 H1 hg1=>Xm Y<|yX Tryz.underlying39 yP (by decide) H1 0 (g:=some g1) (xs:=[]) (sp:=[]) Y Y Y (by decide) (by decide) (by simp) Y (hr.to0 H1) ho (by omega) (by omega) (by decide)<|fun w2 g3 cap3 sp3 H2 hcap3 hmc3 hg3=>Xa Y<|Xr e8<|J5<|Ak Y Y ?_
 rw[Nat.zero_add]at hmc3
 refine⟨g3,cap3,sp3,?_,hmc3,hcap3,hg3,H2.pick [0] (by decide)⟩
 rw[Nat.zero_add]
theorem PP (A:Option Addr) (n c:Nat) (cs:List Value) (w0:World) (hr:Rd w0 A n 6 cs) (ho:cs.all (·.oneCell')=true) (hb:n*96≤211106232532992):zP Tryz.prog 69 #[.slice A n c] w0 (fun r w'=>Rw w0 w' r 97 6 n cs):=by
 refine zE Tryz.func69 Tryz.ntmps69 Y<|cR e8 ?_
 have H:=Hp.refl w0
 refine Rq<|Xa Y<|Xr e8<|J1<|Rq<|Xm Y<|OT (wZ Tryz.underlying37 Y) (fun hp4=>?_) (fun hp4=>?_)
 refine Xr e8<|J3 Y<|Rq<|Xa Y<|Xr e8<|J5<|Ak Y Y ?_
 have hn0:n=0:=hr.nil hp4
 subst hn0
 have hb:cs=[]:=List.eq_nil_of_length_eq_zero (by rw[hr.len,Nat.zero_mul])
 subst hb
 exact⟨none,0,[],Y,Nat.le_refl _,by simp,fun _=>Y,by have:=H.nil 97;exact this⟩
 refine Xr e8<|J4 Y<|J6<|Rq<|zG Tryz.underlying37 xW H Y (by decide) Y<|fun w1 g1 H1 hg1=>Xm Y<|yX Tryz.underlying37 xW (by decide) H1 0 (g:=some g1) (xs:=[]) (sp:=[]) Y Y Y (by decide) (by decide) (by simp) Y (hr.to0 H1) ho (by omega) (by omega) (by decide)<|fun w2 g3 cap3 sp3 H2 hcap3 hmc3 hg3=>Xa Y<|Xr e8<|J5<|Ak Y Y ?_
 rw[Nat.zero_add]at hmc3
 refine⟨g3,cap3,sp3,?_,hmc3,hcap3,hg3,H2.pick [0] (by decide)⟩
 rw[Nat.zero_add]
end Go.Proofs.YtjoeklkmnfaabaaGreat
