/-
  Parts of the walk, one behind the other.
-/
import Derived.Test.YtjoeklkmnfaabaaGreatK5
import Derived.WalkKit
import Derived.ProofKit
import Derived.OpenShut
import Derived.Carry
import Derived.SizedLaws
namespace Go.Proofs.YtjoeklkmnfaabaaGreat
open Go Go.ChangeShapes Go.WideShapes Go.ChangeAt Go.RowKit
section
variable {H:Type} {enc:TypeId×Value→H} {P:Program} {w:World} {base:Nat} {spare:Nat→Bool} {held:Bool}
theorem wf8 {n:Int} (h:(Lit.int .u8 n).wf=true):∃ c:UInt8,n=(c.toNat:Int):=by
 simp only[Lit.wf,Ci,decide_eq_true_eq]at h
 have h1:IntKind.u8.min=0:=rfl
 have h2:IntKind.u8.max=255:=rfl
 refine⟨UInt8.ofNat n.toNat,?_⟩
 have:(UInt8.ofNat n.toNat).toNat=n.toNat:=by simp;omega
 rw[this];omega
theorem wf8s :∀ {zs:List Int},(∀ n∈zs,(Lit.int .u8 n).wf=true)→∃ b:List UInt8,zs=b.map fun c=>(c.toNat:Int)
 | [],_=>⟨[],rfl⟩
 | z::zs,h=>by
  obtain⟨c,hc⟩:=wf8 (h z (by simp))
  obtain⟨b,hb⟩:=wf8s (fun n hn=>h n (Eu _ hn))
  exact⟨c::b,by rw[hc,hb];rfl⟩
end
end Go.Proofs.YtjoeklkmnfaabaaGreat
namespace Go.Proofs.YtjoeklkmnfaabaaGreat
open Go Go.ChangeShapes Go.WideShapes Go.ChangeAt Go.RowKit
inductive Fk 
 | int
 | text
 | bytes
def Fl (w:World):Fk→Value→Prop
 | .int,v=>∃ n:Int,v=.int .i64 n∧i64 n
 | .text,v=>∃ s:Blk,v=zT s
 | .bytes,v=>∃ (A:Option Addr) (b:Blk) (c:Nat),v=.slice A b.length c∧Bs w (fun _=>True) A b
theorem wfi64 {n:Int} (h:(Lit.int .i64 n).wf=true):i64 n:=by
 simp only[Lit.wf,Ci,decide_eq_true_eq]at h
 exact h
def fkF (P:Program) (rec:TypeId→List Fk→Bool) (ks:List Fk):Nat→List Field→Bool
 | off,[]=>decide (off=ks.length)
 | off,f::fs=>match P.info? f.type with
  | some i=>decide (f.offset=off) && decide (off+i.size≤ks.length) && rec f.type ((ks.drop off).take i.size) && fkF P rec ks (off+i.size) fs
  | none=>false
def TX (P:Program):Nat→TypeId→List Fk→Bool
 | 0,_,_=>false
 | d+1,t,ks=>match P.underlying t with
  | some (.int .i64)=>match ks with | [.int]=>true | _=>false
  | some .string=>match ks with | [.text]=>true | _=>false
  | some (.slice e)=>match ks with
   | [.bytes]=>match P.underlying e with | some (.int .u8)=>decide (P.cellsOf e=1) && decide (P.bytesOf e=1) | _=>false
   | _=>false
  | some (.struct fs)=>decide (P.cellsOf t=ks.length) && fkF P (TX P d) ks 0 fs.toList
  | _=>false
section
variable {H:Type} {enc:TypeId×Value→H} {P:Program} {w:World} {base:Nat} {spare:Nat→Bool} {held:Bool}
theorem BF {rec:TypeId→List Fk→Bool} {ks:List Fk} {cs:List Value} (hl:cs.length=ks.length) {m:Nat}
 (ih:∀ t k n y,rec t ((ks.drop k).take n)=true→DataW.trod enc P w base spare held m t ((cs.drop k).take n)=some y→(∀ q∈y.1.weights P t,q≤140737488351232)→wC (Fl w) ((ks.drop k).take n) ((cs.drop k).take n)):
 ∀ (fs:List Field) (ys:List (DataW H×List MemPlace)) (off:Nat),off≤ks.length→fkF P rec ks off fs=true→fs.length=ys.length→
  (∀ (i:Nat) (f:Field),fs[i]? =some f→DataW.trod enc P w base spare held m f.type ((cs.drop f.offset).take (P.cellsOf f.type))=ys[i]?)→(∀ q∈DataW.weightsEach P (fs.map (·.type)) (ys.map (·.1)),q≤140737488351232)→
  wC (Fl w) (ks.drop off) (cs.drop off)
 | [],_,off,_,h,_,_,_=>by
  unfold fkF at h
  have h0:=of_decide_eq_true h
  rw[Gn (by omega),Gn (by omega)];trivial
 | f::fs,ys,off,hoff,h,hlen,hall,hw=>by
  unfold fkF at h
  split at h
  · rename_i i hi
    simp only[Ci,decide_eq_true_eq]at h
    obtain⟨⟨⟨h1,h2⟩,h3⟩,h4⟩:=h
    have hco:P.cellsOf f.type=i.size:=by simp[Program.cellsOf,hi]
    match ys,hlen with
    | y::ys,hlen=>
     have h5:=hall 0 f rfl
     rw[h1,hco]at h5
     have hw':∀ q∈y.1.weights P f.type++DataW.weightsEach P (fs.map (·.type)) (ys.map (·.1)),q≤140737488351232:=hw
     have F1:=ih f.type off i.size y h3 h5 fun q hq=>hw' q (Oj _ hq)
     have F2:=BF hl ih fs ys (off+i.size) h2 h4 (by simpa using hlen) (fun j g hg=>hall (j+1) g hg) fun q hq=>hw' q (Qd _ hq)
     have:=F1.app F2
     rwa [← Fq,Fg,← Fq,Fg]at this
  cases h
theorem PX :∀ (d:Nat) (t:TypeId) (ks:List Fk) (cs:List Value) (m:Nat) (y:DataW H×List MemPlace),TX P d t ks=true→DataW.trod enc P w base (fun _=>true) true m t cs=some y→(∀ q∈y.1.weights P t,q≤140737488351232)→wC (Fl w) ks cs
 | 0,_,_,_,_,_,h,_,_=>by cases h
 | d+1,t,ks,cs,m,y,h,ht,hw=>by
  unfold TX at h
  split at h
  · rename_i hu
    split at h
    · obtain⟨n,rfl,_,hwf⟩:=DataW.trod_int hu ht
      exact⟨⟨n,Y,wfi64 hwf⟩,trivial⟩
    cases h
  · rename_i hu
    split at h
    · obtain⟨s,rfl,_⟩:=DataW.trod_string hu ht
      exact⟨⟨s.data.toList,by simp[zT]⟩,trivial⟩
    cases h
  · rename_i e hu
    split at h
    · split at h
      · rename_i he
        simp only[Ci,decide_eq_true_eq]at h
        rcases open_ints hu he h.1 ht with ⟨rfl,_⟩ | ⟨x,l,c,zs,rfl,_,hl,hm,hz,hdd,hcell,hwz⟩
        · exact⟨⟨none,[],0,Y,Bs.none _ _⟩,trivial⟩
        rw[if_pos rfl]at hz
        obtain⟨b,hb⟩:=wf8s (zs:=zs.take l) (fun n hn=>hwz n (Gg hn))
        have hlen:b.length=l:=by
         have:=congrArg List.length hb
         simp at this;omega
        refine⟨⟨some x,b,c,by rw[hlen],⟨by simp[u8s],fun a ha j u hu=>?_,fun h=>(by cases h)⟩,fun _ _ _=>trivial,?_⟩,trivial⟩
        · cases ha
          have hj:j < b.length:=by
           have:=(Ec.1 hu).1
           simpa[u8s]using this
          rw[hcell j (by omega)]
          have h1:(zs.take l)[j]? =some ((b[j]'hj).toNat:Int):=by rw[hb];simp[hj]
          have h2:zs[j]? =some ((b[j]'hj).toNat:Int):=by rw[← h1,Ic,if_pos (by omega)]
          have h3:u=.int .u8 ((b[j]'hj).toNat:Int):=by
           simp[u8s,Nb,Cb hj]at hu
           exact hu.symm
          rw[h3,Ea,h2];rfl
        refine Ce ?_ (hw (((lits .u8 (zs.take l):List (DataW H)).length+(lits .u8 (zs.drop l):List (DataW H)).length)*P.bytesOf e) ?_)
        · rw[h.2];simp[lits];omega
        rw[(Prod.mk.inj hdd).1]
        unfold DataW.weights
        rw[hu]
        exact Gm
      cases h
    cases h
  · rename_i fs hu
    simp only[Ci,decide_eq_true_eq]at h
    obtain⟨h1,h2⟩:=h
    obtain⟨ys,n,rfl,rfl,hl,hlen,hall⟩:=DataW.trod_struct hu ht
    refine BF (rec:=TX P d) (cs:=cs) (ks:=ks) (by omega) (fun t' k n' y' h3 h4 h5=>PX d t' _ _ n y' h3 h4 h5) fs.toList ys 0 (Am _) h2 (by simp[hlen]) (fun i f hf=>hall i f (by simpa using hf)) ?_
    unfold DataW.weights at hw
    rw[hu]at hw
    exact hw
  cases h
end
def ntK :List Fk:=[.int,.int,.int,.int,.int,.int,.int,.bytes,.int,.bytes,.int,.text,.int,.int,.int,.int]
theorem nt_of {w:World} {cs:List Value} (h:wC (Fl w) ntK cs):∃ n:Nt,NtR w (fun _=>True) cs n∧NtB n:=by
 have hlen:cs.length=16:=h.len.symm
 match cs,hlen,h with
 | [c0,c1,c2,c3,c4,c5,c6,c7,c8,c9,c10,c11,c12,c13,c14,c15],_,h=>
  obtain⟨⟨n0,rfl,z0⟩,⟨n1,rfl,z1⟩,⟨n2,rfl,z2⟩,⟨n3,rfl,z3⟩,⟨n4,rfl,z4⟩,⟨n5,rfl,z5⟩,⟨n6,rfl,z6⟩,⟨A,b,c,rfl,hb⟩,⟨n8,rfl,z8⟩,⟨A2,b2,c2',rfl,hb2⟩,⟨n10,rfl,z10⟩,⟨s,rfl⟩,⟨n12,rfl,z12⟩,⟨n13,rfl,z13⟩,⟨n14,rfl,z14⟩,⟨n15,rfl,z15⟩,_⟩:=h
  exact⟨⟨n0,n1,⟨n2,n3⟩,⟨n4,⟨n5,n6⟩,b⟩,⟨n8,b2⟩,⟨n10,s,n12,n13⟩,n14,n15⟩,⟨A,c,A2,c2',Y,hb,hb2⟩,⟨z0,z1,z2,z3,z4,z5,z6,z8,z10,z12,z13,z14,z15⟩⟩
theorem GD {H:Type} {P:Program} {t:TypeId} {l:List (DataW H)} {d:DataW H} (hd:d∈l) {n:Nat} (hn:n∈d.weights P t):n∈DataW.weightsAll P t l:=by
 induction l with
 | nil=>cases hd
 | cons a l ih=>
  show n∈a.weights P t++DataW.weightsAll P t l
  rcases Cj.1 hd with rfl | hd
  · exact Oj _ hn
  exact Qd _ (ih hd)
theorem KB {α:Type} {R:List Value→α→Prop}:∀ n (f:Nat→List Value),(∀ i,i < n→∃ a,R (f i) a)→∃ l:List α,l.length=n∧wC R ((List.range n).map f) l
 | 0,_,_=>⟨[],rfl,trivial⟩
 | n+1,f,h=>by
  obtain⟨l,hl,hR⟩:=KB n f fun i hi=>h i (by omega)
  obtain⟨a,ha⟩:=h n (by omega)
  refine⟨l++[a],by simp[hl],?_⟩
  rw[List.range_succ,Dx]
  exact hR.app ⟨ha,trivial⟩
section
variable {H:Type} {enc:TypeId×Value→H} {w:World}
set_option maxRecDepth 10000 in
theorem OD {r:Reach} {b0:Nat} {v:Value} {d:DataW H} {ps:List MemPlace} (hval:Value.okWide Tryz.prog w r b0 22 v) (hd:DataW.Trod enc Tryz.prog w 0 (fun _=>true) true 22 v d ps)
 {ts:List TypeId} {ds:List (DataW H)} (hs:(DataW.weightsEach Tryz.prog ts ds).all (·≤reachBytes)=true) {j:Nat} (hts:ts[j]? =some 22) (hds:ds[j]? =some d):
 ∃ (A:Option Addr) (l:List Nt) (c:Nat),v=.slice A l.length c∧Sl (NtR w (fun _=>True)) 16 w (fun _=>True) A l∧l.length≤838000000000∧l.length≤c∧(∀ n∈l,NtB n)∧(l.length=0∨∃ x y,d=.slice x y∧x.length=l.length):=by
 have hw:∀ q∈d.weights Tryz.prog 22,q≤140737488351232:=fun q hq=>by
  have:=Et.1 hs _ (DataW.weights_mem_each hts hds q hq)
  have this:=of_decide_eq_true this
  simp only[reachBytes]at this
  omega
 have hc16:Tryz.prog.cellsOf 81=16:=by kernel_rfl
 have hb168:Tryz.prog.bytesOf 81=168:=by kernel_rfl
 obtain⟨A,len,cap,rfl⟩:=okWide_slice Lc hval
 obtain⟨fuel,hf⟩:=hd
 rcases DataW.trod_slice Lc hf with ⟨hcs,_⟩ | ⟨a,l,c,elems,rest,n,_,hcs,hdd,_,hlc,_,hlen,hel,_,_⟩
 · simp[Value.cells]at hcs
   obtain⟨rfl,rfl,rfl⟩:=hcs
   exact⟨none,[],0,Y,Sl.none _ _ _ _,Am _,Ak _,(fun n hn=>by cases hn),.inl Y⟩
 simp[Value.cells]at hcs
 obtain⟨rfl,rfl,rfl⟩:=hcs
 have hdd1:=(Prod.mk.inj hdd).1
 subst hdd1
 have hbig:len*168≤140737488351232:=by
  refine Ce ?_ (hw (((elems.map (·.1)).length+(rest.map (·.1)).length)*Tryz.prog.bytesOf 81) ?_)
  · rw[hb168];exact Dp _ (by simp[hlen])
  unfold DataW.weights
  rw[Lc]
  exact Gm
 obtain⟨xs,hxl,hR⟩:=KB (R:=fun p x=>(NtR w (fun _=>True) p x∧NtB x)∧p.length=16) len (fun i=>(w.cells? 0 (a.add (i*16)) 16).getD []) fun i hi=>by
  have hb:=hel i hi
  rw[hc16,Cb (by omega),Option.bind_eq_some_iff]at hb
  obtain⟨cs',hcs,hy'⟩:=hb
  rw[hcs]
  obtain⟨x,hx⟩:=nt_of (PX 4 81 ntK cs' n _ (by kernel_rfl) hy' fun q hq=>hw q (by
   unfold DataW.weights
   rw[Lc]
   exact Eu _ (Oj _ (GD (Ik.2 ⟨elems[i]'(by omega),Jm _,Y⟩) hq))))
  exact⟨x,hx,hx.1.len⟩
 have hpl:Pl 16 ((List.range len).map fun i=>(w.cells? 0 (a.add (i*16)) 16).getD []):=fun p hp=>by
  obtain⟨k,hk⟩:=Dh hp
  obtain⟨x,_,hx⟩:=hR.getL hk
  exact hx.2
 refine⟨some a,xs,cap,by rw[hxl],⟨_,hpl,⟨by rw[hpl.len,Bg,List.length_range,hxl],fun a' ha k u hu=>?_,fun h=>(by cases h)⟩,fun _ _ _=>trivial,hR.imp fun p x h=>h.1.1⟩,by omega,by omega,(fun n hn=>by
  obtain⟨i,hi⟩:=Dh hn
  obtain⟨p,_,hp⟩:=hR.get hi
  exact hp.1.2),.inr ⟨_,_,Y,by simp;omega⟩⟩
 cases ha
 have hk:=(Ec.1 hu).1
 rw[hpl.len,Bg,List.length_range]at hk
 have hi:k / 16 < len:=by omega
 have hb:=hel (k / 16) hi
 rw[hc16,Cb (by omega),Option.bind_eq_some_iff]at hb
 obtain⟨cs',hcs,_⟩:=hb
 have hat:((List.range len).map fun i=>(w.cells? 0 (a.add (i*16)) 16).getD [])[k / 16]? =some cs':=by
  rw[Nb,List.getElem?_range hi]
  simp only[Ig]
  rw[hcs];rfl
 have hq:cs'[k % 16]? =some u:=by
  have hlt:k % 16 < cs'.length:=by rw[hpl.at hat];omega
  have h2:=hpl.get hat (Cb hlt)
  rw[show k / 16*16+k % 16=k by omega,hu]at h2
  rw[Cb hlt];exact h2.symm
 have h3:=(World.cells?_some hcs).2.2 (k % 16) (by omega)
 rw[hq,tW,show k / 16*16+k % 16=k by omega]at h3
 exact h3
end
end Go.Proofs.YtjoeklkmnfaabaaGreat
namespace Go.Proofs.YtjoeklkmnfaabaaGreat
open Go Go.ChangeShapes Go.WideShapes Go.ChangeAt Go.RowKit
section
variable {H:Type} {enc:TypeId×Value→H} {w:World}
set_option maxRecDepth 100000
theorem cI :Tryz.prog.cellsOf 3=1:=by kernel_rfl
theorem wf64 {n:Int} (h:(Lit.int .i64 n).wf=true):-9223372036854775808≤n∧n≤9223372036854775807:=by
 simp only[Lit.wf,Ci,decide_eq_true_eq]at h
 exact h
theorem TI {base:Nat} {spare:Nat→Bool} {held:Bool} {n:Nat} {cs:List Value} {y:DataW H×List MemPlace} (h:DataW.trod enc Tryz.prog w base spare held n 50 cs=some y):
 ∃ (B:Option Addr) (l:List Int) (c:Nat),cs=[.slice B l.length c]∧Rd w B l.length 1 (aS l):=by
 rcases open_ints Yw Tryz.underlying3 cI h with ⟨hcs,_⟩ | ⟨x,l,c,zs,hcs,_,hl,hm,hz,hdd,hcell,hwz⟩
 · exact⟨none,[],0,hcs,⟨Y,fun _ h=>(by cases h),fun _=>Y⟩⟩
 have hzl:l≤zs.length:=by rw[hz];split <;>omega
 have hlen:(zs.take l).length=l:=by rw[Aw];omega
 refine⟨some x,zs.take l,c,by rw[hlen];exact hcs,⟨by simp[aS],fun a ha j u hu=>?_,fun h=>(by cases h)⟩⟩
 cases ha
 have hj:j < l:=by
  have:=(Ec.1 hu).1
  simp only[aS,Bg,hlen]at this
  exact this
 rw[hcell j (by omega)]
 simp only[aS,Nb,Ic,hj,if_true]at hu
 rw[Cb (by omega)]at hu
 simp only[Ig,Option.some.injEq]at hu
 rw[← hu,Ea,Cb (by omega)]
 rfl
theorem TD {r:Reach} {b0:Nat} {v:Value} {d:DataW H} {ps:List MemPlace} (hval:Value.okWide Tryz.prog w r b0 50 v) (hd:DataW.Trod enc Tryz.prog w 0 (fun _=>true) true 50 v d ps):
 ∃ (B:Option Addr) (l:List Int) (c:Nat),v=.slice B l.length c∧Rd w B l.length 1 (aS l):=by
 obtain⟨A,len,cap,rfl⟩:=okWide_slice Yw hval
 obtain⟨fuel,hf⟩:=hd
 obtain⟨B,l,c,h1,h2⟩:=TI hf
 simp[Value.cells]at h1
 obtain⟨rfl,rfl,rfl⟩:=h1
 exact⟨A,l,cap,Y,h2⟩
def rtK :List Fk:=[.int,.text,.int,.int]
theorem NI {r:Reach} {b0:Nat} {v:Value} {d:DataW H} {ps:List MemPlace} (hval:Value.okWide Tryz.prog w r b0 35 v) (hd:DataW.Trod enc Tryz.prog w 0 (fun _=>true) true 35 v d ps)
 {ts:List TypeId} {ds:List (DataW H)} (hs:(DataW.weightsEach Tryz.prog ts ds).all (·≤reachBytes)=true) {j:Nat} (hts:ts[j]? =some 35) (hds:ds[j]? =some d):
 ∃ x:Rt,v=.agg [.int .i64 x.g,zT x.key,.int .i64 x.lease,.int .i64 x.net].toArray:=by
 have hw:∀ q∈d.weights Tryz.prog 35,q≤140737488351232:=fun q hq=>by
  have:=Et.1 hs _ (DataW.weights_mem_each hts hds q hq)
  have this:=of_decide_eq_true this
  simp only[reachBytes]at this
  omega
 obtain⟨cs,rfl,_⟩:=okWide_struct Tryz.underlying35 hval
 obtain⟨fuel,hf⟩:=hd
 have h:=PX 4 35 rtK cs.toList fuel (d,ps) (by kernel_rfl) hf hw
 have hc:cs=cs.toList.toArray:=by simp
 rw[hc]
 generalize cs.toList=l at h
 have hlen:l.length=4:=h.len.symm
 match l,hlen,h with
 | [c0,c1,c2,c3],_,h=>
  obtain⟨⟨n0,rfl,_⟩,⟨s,rfl⟩,⟨n2,rfl,_⟩,⟨n3,rfl,_⟩,_⟩:=h
  exact⟨⟨n0,s,n2,n3⟩,Y⟩
end
end Go.Proofs.YtjoeklkmnfaabaaGreat
