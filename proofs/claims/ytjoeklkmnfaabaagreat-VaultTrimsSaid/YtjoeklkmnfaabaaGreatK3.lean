/-
  Parts of the walk, one behind the other.
-/
import Derived.Test.YtjoeklkmnfaabaaGreatK2
import Derived.Laws.Strings
import Derived.Laws.IdiomStrings
import Derived.Laws.StructEq
import Derived.Laws.ResultCell
namespace Go.Proofs.YtjoeklkmnfaabaaGreat
open Go Go.RowKit
set_option linter.unusedVariables false
set_option linter.unusedSimpArgs false
structure Bal where
 r:Int
 n:Int
structure Vt where
 slot:Int
 b:Bal
 val:Blk
@[reducible] def Dl:=fun (a:Vt) b c=>([Aa a.slot,Aa a.b.r,Aa a.b.n,Ac b a.val.length c]:List Value)
structure En where
 slot:Int
 val:Blk
@[reducible] def Ez:=fun (a:En) b c=>([Aa a.slot,Ac b a.val.length c]:List Value)
structure Rt where
 g:Int
 key:Blk
 lease:Int
 net:Int
structure Mk where
 client:Int
 seq:Int
structure Sv where
 p:Bal
 Bc:List Vt
 index:Int
 image:Blk
 entries:List En
@[reducible] def Gq:=fun (a:Sv)=>([Aa a.p.r,Aa a.p.n]:List Value)
@[reducible] def Bv:=fun (a:Sv) b c d e f g=>([Aa a.p.r,Aa a.p.n,Ac b a.Bc.length c,Aa a.index,Ac d a.image.length e,Ac f a.entries.length g]:List Value)
structure Bo where
 groups:List Sv
 rights:List Rt
 last:List Mk
@[reducible] def Tj:=fun a (b:Bo) c d e f g h i=>([Ac a b.groups.length c,Ac d e f,Ac g h i]:List Value)
@[reducible] def Nq:=fun a (b:Bo) c d e f g h=>([Ac a b.groups.length c,Ac d b.rights.length e,Ac f g h]:List Value)
@[reducible] def Qi:=fun a (b:Bo) c d e f g h=>([Ac a b.groups.length c,Ac d e f,Ac g b.last.length h]:List Value)
@[reducible] def Fb:=fun a (b:Bo) c d e f=>([Ac a b.groups.length c,Ac d e f,Dn]:List Value)
@[reducible] def Bd:=fun a (b:Bo) c d e f g=>([Ac a b.groups.length c,Ac d b.rights.length e,Ac f b.last.length g]:List Value)
structure Nt where
 kind:Int
 group:Int
 b:Bal
 Eh:Vt
 entry:En
 right:Rt
 client:Int
 seq:Int
@[reducible] def Ie:=fun (a:Nt) b c=>([Aa a.entry.slot,Ac b a.entry.val.length c]:List Value)
@[reducible] def Jt:=fun (a:Nt) b c=>([Aa a.Eh.slot,Aa a.Eh.b.r,Aa a.Eh.b.n,Ac b a.Eh.val.length c]:List Value)
def zT (s:Blk):Value:=.string ⟨s.toArray⟩
@[reducible] def Uz:=fun (a:Nt)=>([Aa a.right.g,zT a.right.key,Aa a.right.lease,Aa a.right.net]:List Value)
@[reducible] def Ns:=fun (a:Rt)=>([Aa 5,Aa 0,Aa 0,Aa 0,Aa 0,Aa 0,Aa 0,Dn,Aa 0,Dn,Aa a.g,zT a.key,Aa a.lease,Aa a.net,Aa 0,Aa 0]:List Value)
@[reducible] def Nh:=fun a (b:Sv) c d=>([Aa 4,Aa (a:Int),Aa 0,Aa 0,Aa 0,Aa 0,Aa 0,Dn,Aa b.index,Ac c b.image.length d,Aa 0,zT [],Aa 0,Aa 0,Aa 0,Aa 0]:List Value)
@[reducible] def Iu:=fun a (b:En) c d=>([Aa 3,Aa (a:Int),Aa 0,Aa 0,Aa 0,Aa 0,Aa 0,Dn,Aa b.slot,Ac c b.val.length d,Aa 0,zT [],Aa 0,Aa 0,Aa 0,Aa 0]:List Value)
@[reducible] def Hl:=fun a (b:Sv)=>([Aa 1,Aa (a:Int),Aa b.p.r,Aa b.p.n,Aa 0,Aa 0,Aa 0,Dn,Aa 0,Dn,Aa 0,zT [],Aa 0,Aa 0,Aa 0,Aa 0]:List Value)
@[reducible] def Gf:=fun a (b:Vt) c d=>([Aa 2,Aa (a:Int),Aa 0,Aa 0,Aa b.slot,Aa b.b.r,Aa b.b.n,Ac c b.val.length d,Aa 0,Dn,Aa 0,zT [],Aa 0,Aa 0,Aa 0,Aa 0]:List Value)
@[reducible] def Ar:=fun (a:Rt)=>([Aa a.g,zT a.key,Aa a.lease,Aa a.net]:List Value)
@[reducible] def Ed:=fun (a:Nt) b c d e=>([Aa a.kind,Aa a.group,Aa a.b.r,Aa a.b.n,Aa a.Eh.slot,Aa a.Eh.b.r,Aa a.Eh.b.n,Ac b a.Eh.val.length c,Aa a.entry.slot,Ac d a.entry.val.length e,Aa a.right.g,zT a.right.key,Aa a.right.lease,Aa a.right.net,Aa a.client,Aa a.seq]:List Value)
def Bs (w:World) (ok:Nat→Prop) (A:Option Addr) (b:Blk):Prop:=Rd w A b.length 1 (u8s b)∧(0 < b.length→∀ p,A=some p→ok p.block)∧b.length≤140737488351232
def Sl {X:Type} (R:List Value→X→Prop) (sz:Nat) (w:World) (ok:Nat→Prop) (A:Option Addr) (xs:List X):Prop:=
 ∃ ps,Pl sz ps∧Rd w A xs.length sz ps.flatten∧(0 < xs.length→∀ p,A=some p→ok p.block)∧wC R ps xs
def Oe (w:World) (ok:Nat→Prop) (p:List Value) (x:Vt):Prop:=∃ A k,p=[.int .i64 x.slot,.int .i64 x.b.r,.int .i64 x.b.n,.slice A x.val.length k]∧Bs w ok A x.val
def Qp (w:World) (ok:Nat→Prop) (p:List Value) (x:En):Prop:=∃ A k,p=[.int .i64 x.slot,.slice A x.val.length k]∧Bs w ok A x.val
@[reducible] def Jv (x:Rt):List Value:=[.int .i64 x.g,zT x.key,.int .i64 x.lease,.int .i64 x.net]
@[reducible] def Tz (x:Mk):List Value:=[.int .i64 x.client,.int .i64 x.seq,.bool false,.int .i64 0,.int .i64 0,.int .i64 0,.int .i64 0]
def Nu (p:List Value) (x:Rt):Prop:=p=Jv x
def Pv (p:List Value) (x:Mk):Prop:=p=Tz x
def Qz (w:World) (ok:Nat→Prop) (p:List Value) (s:Sv):Prop:=
 ∃ A1 k1 A2 k2 A3 k3,p=[.int .i64 s.p.r,.int .i64 s.p.n,.slice A1 s.Bc.length k1,.int .i64 s.index,.slice A2 s.image.length k2,.slice A3 s.entries.length k3]∧
  Sl (Oe w ok) 4 w ok A1 s.Bc∧Bs w ok A2 s.image∧Sl (Qp w ok) 2 w ok A3 s.entries
def Qq (w:World) (ok:Nat→Prop) (p:List Value) (b:Bo):Prop:=
 ∃ A1 k1 A2 k2 A3 k3,p=[.slice A1 b.groups.length k1,.slice A2 b.rights.length k2,.slice A3 b.last.length k3]∧
  Sl (Qz w ok) 6 w ok A1 b.groups∧Sl Nu 4 w ok A2 b.rights∧Sl Pv 7 w ok A3 b.last
@[reducible] def ntC (n:Nt) (A1:Option Addr) (k1:Nat) (A2:Option Addr) (k2:Nat):List Value:=
 [.int .i64 n.kind,.int .i64 n.group,.int .i64 n.b.r,.int .i64 n.b.n,.int .i64 n.Eh.slot,.int .i64 n.Eh.b.r,.int .i64 n.Eh.b.n,.slice A1 n.Eh.val.length k1,.int .i64 n.entry.slot,.slice A2 n.entry.val.length k2,
  .int .i64 n.right.g,zT n.right.key,.int .i64 n.right.lease,.int .i64 n.right.net,.int .i64 n.client,.int .i64 n.seq]
def NtR (w:World) (ok:Nat→Prop) (p:List Value) (n:Nt):Prop:=
 ∃ A1 k1 A2 k2,p=ntC n A1 k1 A2 k2∧Bs w ok A1 n.Eh.val∧Bs w ok A2 n.entry.val
section
variable {w w':World} {ok ok':Nat→Prop} {S:List Nat} {es:List Ent} {A:Option Addr} {p:List Value}
theorem Rd.zero {n sz:Nat} {xs:List Value} (h:Rd w A n sz xs) (h0:n=0):Rd w' A n sz xs:=by
 have hx:xs=[]:=Ee (by rw[h.len,h0,Jr])
 subst hx
 exact⟨h.len,fun _ _ j u hu=>by simp at hu,h.nil⟩
theorem Rd.blk {n sz:Nat} {xs:List Value} (h:Rd w A n sz xs) (hn:0 < n) (hz:0 < sz):∀ a,A=some a→a.block < w.heap.size:=by
 intro a ha
 have hl:0 < xs.length:=by rw[h.len];exact Nat.mul_pos hn hz
 have h1:=Iy w _ (h.cells a ha 0 _ (Cb hl))
 rwa [Iw]at h1
theorem Rd.move {n sz:Nat} {xs:List Value} (h:Rd w A n sz xs) (hz:0 < sz) (ha:0 < n→∀ p,A=some p→ok p.block) (H:Hp w w' S es) (hk:∀ x,ok x→x < w.heap.size→x∉S∧ok' x):Rd w' A n sz xs∧(0 < n→∀ p,A=some p→ok' p.block):=by
 rcases Ku n with h0 | h0
 · exact⟨h.zero h0,fun h1=>by omega⟩
 exact⟨h.to H fun a e=>(hk _ (ha h0 a e) (h.blk h0 hz a e)).1,fun _ a e=>(hk _ (ha h0 a e) (h.blk h0 hz a e)).2⟩
theorem Bs.to {b:Blk} (h:Bs w ok A b) (H:Hp w w' S es) (hk:∀ x,ok x→x < w.heap.size→x∉S∧ok' x):Bs w' ok' A b:=by
 obtain⟨h1,h2⟩:=h.1.move (by decide) h.2.1 H hk
 exact⟨h1,h2,h.2.2⟩
theorem Sl.to {X:Type} {R R':List Value→X→Prop} {sz:Nat} {xs:List X} (h:Sl R sz w ok A xs) (hz:0 < sz) (H:Hp w w' S es) (hk:∀ x,ok x→x < w.heap.size→x∉S∧ok' x) (hR:∀ p x,R p x→R' p x):Sl R' sz w' ok' A xs:=by
 obtain⟨ps,hp,hr,ha,h2⟩:=h
 obtain⟨h3,h4⟩:=hr.move hz ha H hk
 exact⟨ps,hp,h3,h4,h2.imp hR⟩
theorem Oe.to {x:Vt} (h:Oe w ok p x) (H:Hp w w' S es) (hk:∀ x,ok x→x < w.heap.size→x∉S∧ok' x):Oe w' ok' p x:=by
 obtain⟨A,k,rfl,h⟩:=h
 exact⟨A,k,Y,h.to H hk⟩
theorem Qp.to {x:En} (h:Qp w ok p x) (H:Hp w w' S es) (hk:∀ x,ok x→x < w.heap.size→x∉S∧ok' x):Qp w' ok' p x:=by
 obtain⟨A,k,rfl,h⟩:=h
 exact⟨A,k,Y,h.to H hk⟩
theorem Sl.Qn {xs:List Vt} (h:Sl (Oe w ok) 4 w ok A xs) (H:Hp w w' S es) (hk:∀ x,ok x→x < w.heap.size→x∉S∧ok' x):Sl (Oe w' ok') 4 w' ok' A xs:=h.to (by decide) H hk fun _ _ h=>h.to H hk
theorem Sl.Tt {xs:List En} (h:Sl (Qp w ok) 2 w ok A xs) (H:Hp w w' S es) (hk:∀ x,ok x→x < w.heap.size→x∉S∧ok' x):Sl (Qp w' ok') 2 w' ok' A xs:=h.to (by decide) H hk fun _ _ h=>h.to H hk
theorem Qz.to {x:Sv} (h:Qz w ok p x) (H:Hp w w' S es) (hk:∀ x,ok x→x < w.heap.size→x∉S∧ok' x):Qz w' ok' p x:=by
 obtain⟨A1,k1,A2,k2,A3,k3,rfl,h1,h2,h3⟩:=h
 exact⟨A1,k1,A2,k2,A3,k3,Y,h1.Qn H hk,h2.to H hk,h3.Tt H hk⟩
theorem Sl.toS {xs:List Sv} (h:Sl (Qz w ok) 6 w ok A xs) (H:Hp w w' S es) (hk:∀ x,ok x→x < w.heap.size→x∉S∧ok' x):Sl (Qz w' ok') 6 w' ok' A xs:=h.to (by decide) H hk fun _ _ h=>h.to H hk
theorem Sl.toR {xs:List Rt} (h:Sl Nu 4 w ok A xs) (H:Hp w w' S es) (hk:∀ x,ok x→x < w.heap.size→x∉S∧ok' x):Sl Nu 4 w' ok' A xs:=h.to (by decide) H hk fun _ _ h=>h
theorem Sl.toM {xs:List Mk} (h:Sl Pv 7 w ok A xs) (H:Hp w w' S es) (hk:∀ x,ok x→x < w.heap.size→x∉S∧ok' x):Sl Pv 7 w' ok' A xs:=h.to (by decide) H hk fun _ _ h=>h
theorem Qq.to {x:Bo} (h:Qq w ok p x) (H:Hp w w' S es) (hk:∀ x,ok x→x < w.heap.size→x∉S∧ok' x):Qq w' ok' p x:=by
 obtain⟨A1,k1,A2,k2,A3,k3,rfl,h1,h2,h3⟩:=h
 exact⟨A1,k1,A2,k2,A3,k3,Y,h1.toS H hk,h2.toR H hk,h3.toM H hk⟩
theorem NtR.to {x:Nt} (h:NtR w ok p x) (H:Hp w w' S es) (hk:∀ x,ok x→x < w.heap.size→x∉S∧ok' x):NtR w' ok' p x:=by
 obtain⟨A1,k1,A2,k2,rfl,h1,h2⟩:=h
 exact⟨A1,k1,A2,k2,Y,h1.to H hk,h2.to H hk⟩
theorem Sl.toN {xs:List Nt} (h:Sl (NtR w ok) 16 w ok A xs) (H:Hp w w' S es) (hk:∀ x,ok x→x < w.heap.size→x∉S∧ok' x):Sl (NtR w' ok') 16 w' ok' A xs:=h.to (by decide) H hk fun _ _ h=>h.to H hk
theorem k0 :∀ x,ok x→x < w.heap.size→x∉([]:List Nat)∧ok x:=fun _ h _=>⟨by simp,h⟩
theorem kT :∀ x,ok x→x < w.heap.size→x∉([]:List Nat)∧(fun _=>True) x:=fun _ _ _=>⟨by simp,trivial⟩
theorem NtR.len {x:Nt} (h:NtR w ok p x):p.length=16:=by obtain⟨_,_,_,_,rfl,_⟩:=h;rfl
theorem Oe.ones {x:Vt} (h:Oe w ok p x):p.all (·.oneCell')=true:=by obtain⟨_,_,rfl,_⟩:=h;rfl
theorem Qp.ones {x:En} (h:Qp w ok p x):p.all (·.oneCell')=true:=by obtain⟨_,_,rfl,_⟩:=h;rfl
theorem Nu.ones {x:Rt} (h:Nu p x):p.all (·.oneCell')=true:=by rw[h];rfl
theorem Pv.ones {x:Mk} (h:Pv p x):p.all (·.oneCell')=true:=by rw[h];rfl
theorem Qz.ones {x:Sv} (h:Qz w ok p x):p.all (·.oneCell')=true:=by obtain⟨_,_,_,_,_,_,rfl,_⟩:=h;rfl
theorem NtR.ones {x:Nt} (h:NtR w ok p x):p.all (·.oneCell')=true:=by obtain⟨_,_,_,_,rfl,_⟩:=h;rfl
theorem wC.ones {X:Type} {R:List Value→X→Prop} (hR:∀ p x,R p x→p.all (·.oneCell')=true):∀ {ps:List (List Value)} {xs:List X},wC R ps xs→∀ p∈ps,p.all (·.oneCell')=true
 | [],[],_,p,hp=>by cases hp
 | q::ps,x::xs,h,p,hp=>by
  rcases Cj.1 hp with rfl | hp
  · exact hR _ _ h.1
  exact wC.ones hR h.2 p hp
theorem Bs.none (w:World) (ok:Nat→Prop):Bs w ok none []:=⟨Rd.none_ w 1,(fun h=>by cases h),by decide⟩
theorem Sl.none {X:Type} (R:List Value→X→Prop) (sz:Nat) (w:World) (ok:Nat→Prop):Sl R sz w ok Option.none []:=⟨[],Pl.nil _,Rd.none_ w sz,(fun h=>by cases h),trivial⟩
end
@[reducible] def Bal.lt (a b:Bal):Prop:=a.r < b.r∨(a.r=b.r∧a.n < b.n)
def Sv.last (s:Sv):Int:=s.index+s.entries.length
def Sv.raise (s:Sv) (b:Bal):Sv:=if s.p.lt b then { s with p:=b } else s
def Jy (l:List Vt) (v:Vt):List Vt:=l.filter (fun x=>decide (x.slot < v.slot))++v::l.filter (fun x=>decide (v.slot < x.slot))
def vR (l:List Vt) (n:Int):List Vt:=l.filter fun x=>decide (n < x.slot)
def rM (l:List En) (n:Int):List En:=match l.filter fun x=>decide (n < x.slot)with
 | []=>[]
 | e::r=>if e.slot=n+1 then e::r else[]
def Sv.goes (s:Sv) (n:Nt):Sv:=
 if n.kind=1 then s.raise n.b
 else if n.kind=2 then(if n.Eh.slot≤s.last then s else({ s with Bc:=Jy s.Bc n.Eh }:Sv).raise n.Eh.b)
 else if n.kind=3 then(if n.entry.slot=s.last+1 then { s with entries:=s.entries++[n.entry],Bc:=vR s.Bc n.entry.slot } else s)
 else if n.entry.slot≤s.index then s else { s with index:=n.entry.slot,image:=n.entry.val,entries:=rM s.entries n.entry.slot,Bc:=vR s.Bc n.entry.slot }
def tK :Int→List En→Bool
 | _,[]=>true
 | n,e::l=>decide (e.slot=n+1∧e.slot≤1099511627776∧e.val.length≤2048) && tK (n+1) l
def uD (p:Bal) (first:Int):Int→List Vt→Bool
 | _,[]=>true
 | n,v::l=>decide (n≤v.slot∧v.slot < first+16∧1≤v.b.r∧1≤v.b.n∧¬p.lt v.b∧v.val.length≤2048) && uD p first (v.slot+1) l
def chk (s:Sv):Bool:=
 decide ((s.p.r=0∧s.p.n=0)∨(1≤s.p.r∧1≤s.p.n∧s.p.n≤5)) && decide (0≤s.index∧s.index≤1099511627776∧(s.index=0→s.image.length=0)∧s.image.length≤8192) && tK s.index s.entries &&
  decide (s.index+s.entries.length+1≤1099511627776) && uD s.p (s.index+s.entries.length+1) (s.index+s.entries.length+1) s.Bc
@[reducible] def mH (r:Rt):Prop:=1≤r.g∧r.g < 8∧1≤r.key.length∧r.key.length≤16∧1≤r.lease
def Pm (a b:Rt):Bool:=decide (a.g < b.g) || (decide (a.g=b.g) && Op.bytesLess a.key b.key)
def Hf (l:List Rt) (r:Rt):List Rt:=l.filter (fun x=>Pm x r)++r::l.filter (fun x=>Pm r x)
def uK (l:List Mk) (m:Mk):List Mk:=l.filter (fun x=>decide (x.client < m.client))++m::l.filter (fun x=>decide (m.client < x.client))
def Fh (l:List Mk) (c:Int):Option Mk:=l.find? fun x=>decide (x.client=c)
def uS (l:List Mk) (c q:Int):List Mk:=
 if c < 1∨8 < c∨q < 1∨4611686018427387904 < q then l
 else match Fh l c with
  | some m=>if q≤m.seq then l else uK l ⟨c,q⟩
  | none=>uK l ⟨c,q⟩
def Bo.into (b:Bo) (n:Nt):Option Bo:=
 if n.kind=5 then(if mH n.right then some { b with rights:=Hf b.rights n.right,last:=uS b.last n.client n.seq } else none)
 else if n.kind < 1∨4 < n.kind∨n.group < 0∨8≤n.group then none
 else match b.groups[n.group.toNat]? with
  | some s=>if chk (s.goes n) then some { b with groups:=b.groups.set n.group.toNat (s.goes n) } else none
  | none=>none
def Sv.none :Sv:=⟨⟨0,0⟩,[],0,[],[]⟩
def Bo.empty :Bo:=⟨List.replicate 8 Sv.none,[],[]⟩
def vE :Bo→List Nt→Option Bo
 | b,[]=>some b
 | b,n::l=>match b.into n with
  | some b'=>vE b' l
  | none=>none
def qV :List Rt→Prop
 | []=>True
 | r::l=>mH r∧(∀ x∈l,Pm r x=true)∧qV l
def sC :Int→List Mk→Prop
 | _,[]=>True
 | c,m::l=>c < m.client∧m.client≤8∧1≤m.seq∧m.seq≤4611686018427387904∧sC m.client l
structure rE (b:Bo) (N:Nat):Prop where
 eight:b.groups.length=8
 chk:∀ s∈b.groups,chk s=true
 rts:qV b.rights
 Y4:sC 0 b.last
 few:b.rights.length≤N
section
variable {P:Program} {l:List Value} {w:World} {ty t t':TypeId} {x y:Operand}
theorem fS (s:Blk):(⟨s.toArray⟩:ByteArray).size=s.length:=by show s.toArray.size=_;simp
theorem HT {a b:Blk} (hx:ev l x=some (zT a)) (hy:ev l y=some (zT b)):Ex P l (.binOp .lss t x y t') ty w (.value (.bool (decide (Op.bytesLess a b=true)))) w:=fun _ _ _ _=>by
 have hr:(binOp .lss t (zT a) (zT b)).run P w=.ok (.bool (decide (Op.bytesLess a b=true))) w:=by
  show(Op.stringOp .lss ⟨a.toArray⟩ ⟨b.toArray⟩).run P w=_
  simp[Op.stringOp]
 have hg:eqGuard .lss t x y (zT a) (zT b)=pure ():=rfl
 simp only[execOp,zW hx,zW hy,hg]
 simp[hr]
theorem oJ {s:Blk} {ats:Array TypeId} (ht:(ats[0]?).bind P.underlying=some .string) (hx:ev l x=some (zT s)):
 Ex P l (.call { callee:=.builtin .len,args:=#[x],argTypes:=ats }) ty w (.value (Aa (s.length:Int))) w:=by
 have h:=nA (P:=P) (l:=l) (w:=w) (ty:=ty) (x:=x) (s:=⟨s.toArray⟩) ht hx
 rwa [fS]at h
theorem aE {op:BinOp} {xs ys:List Value} {b:Bool} (hm:P.eqGuardType P.depth t=false) (he:∀ w,(Op.equalIn 10000 t (.agg xs.toArray) (.agg ys.toArray)).run P w=.ok b w) (hx:ev l x=some (.agg xs.toArray)) (hy:ev l y=some (.agg ys.toArray)) (ho:op=.eql∨op=.neq):
 Ex P l (.binOp op t x y t') ty w (.value (.bool (if op=.eql then b else !b))) w:=fun _ _ _ _=>by
 have hg:=run_eqGuard_agg (P:=P) w op t x y xs.toArray ys.toArray hm
 rcases ho with rfl | rfl
 · simp[execOp,zW hx,zW hy,hg,run_eql_struct,he]
 simp[execOp,zW hx,zW hy,hg,run_neq_struct,he]
end
section
variable {l:List Value} {w:World} {ty t t':TypeId} {x y:Operand}
theorem QI (a b c d:Int) (w:World) (n:Nat):(Op.equalIn (n+2) 75 (.agg [Aa a,Aa b].toArray) (.agg [Aa c,Aa d].toArray)).run Tryz.prog w=.ok (decide (a=c∧b=d)) w:=by
 have u3:=Tryz.underlying3
 have a3:=Tryz.isAgg3
 have z3:=Tryz.sizeOf3
 have hS:Tryz.prog.underlying 75=some (.struct (Tryz.prog.fieldsOf 75)):=by kernel_rfl
 have hp:Tryz.prog.stoodInHeld 75=false:=by kernel_rfl
 rw[show(n+2:Nat)=(n+1)+1 from rfl,run_equalIn_agg w (n+1) 75 _ _ hS hp]
 simp only[Program.fieldsOf,Tryz.underlying75]
 go_simp
 by_cases h1:a=c <;>by_cases h2:b=d <;>simp[h1,h2]
theorem sL {a b c d:Int} (hx:ev l x=some (.agg [Aa a,Aa b].toArray)) (hy:ev l y=some (.agg [Aa c,Aa d].toArray)):Ex Tryz.prog l (.binOp .neq 75 x y t') ty w (.value (.bool (decide (¬(a=c∧b=d))))) w:=by
 have h:=aE (ty:=ty) (t':=t') (w:=w) (op:=.neq) (P:=Tryz.prog) (t:=75) (by kernel_rfl) (fun w=>QI a b c d w 9998) hx hy (.inr rfl)
 simp only[reduceCtorEq,if_false]at h
 rw[decide_not];exact h
theorem aC {a b c d:Int} (hx:ev l x=some (.agg [Aa a,Aa b].toArray)) (hy:ev l y=some (.agg [Aa c,Aa d].toArray)):Ex Tryz.prog l (.binOp .eql 75 x y t') ty w (.value (.bool (decide (a=c∧b=d)))) w:=by
 have h:=aE (ty:=ty) (t':=t') (w:=w) (op:=.eql) (P:=Tryz.prog) (t:=75) (by kernel_rfl) (fun w=>QI a b c d w 9998) hx hy (.inl rfl)
 simp only[if_true]at h
 exact h
theorem eq_an (w:World) (n:Nat):(Op.equalIn (n+2) 108 (.agg [Aa 0,Aa 0,Aa 0,Aa 0].toArray) (.agg [Aa 0,Aa 0,Aa 0,Aa 0].toArray)).run Tryz.prog w=.ok true w:=by
 have u3:=Tryz.underlying3
 have a3:=Tryz.isAgg3
 have z3:=Tryz.sizeOf3
 have u9:=Tryz.underlying24
 have a9:=Tryz.isAgg24
 have z9:=Tryz.sizeOf24
 have hS:Tryz.prog.underlying 108=some (.struct (Tryz.prog.fieldsOf 108)):=by kernel_rfl
 have hp:Tryz.prog.stoodInHeld 108=false:=by kernel_rfl
 rw[show(n+2:Nat)=(n+1)+1 from rfl,run_equalIn_agg w (n+1) 108 _ _ hS hp]
 simp only[Program.fieldsOf,Tryz.underlying108]
 go_simp
end
section
variable {P:Program} {l:List Value} {w:World} {ty t:TypeId} {x:Operand} {zs:List Value} {sz bytes:Nat} {agg:Bool}
theorem tV {e:TypeId} (ht:P.underlying t=some (.slice e)) (he:xU P e zs sz bytes agg) {a:Addr} {len c i:Nat} {lo:Int} {kl:IntKind} {xl:Operand} (hx:ev l x=some (Ac (some a) len c)) (hl:ev l xl=some (.int kl lo)) (hi:lo=(i:Int)) (h:i≤len) (hc:i < c):
 Ex P l (.slice t x (some xl) none none) ty w (.value (Ac (some (a.add (i*sz))) (len - i) (c - i))) w:=by
 subst hi
 have h1:=vD (ty:=ty) (w:=w) ht he hx hl ⟨by omega,by omega⟩
 have h2:wH (some a) (i:Int).toNat c sz=some (a.add (i*sz)):=by
  unfold wH
  rw[if_neg (by omega)]
  rfl
 rw[h2]at h1
 exact h1
theorem gX {e:TypeId} (ht:P.underlying t=some (.slice e)) (he:xU P e zs sz bytes agg) {A:Option Addr} {len c i:Nat} {hi:Int} {kh:IntKind} {xh:Operand} (hx:ev l x=some (Ac A len c)) (hh:ev l xh=some (.int kh hi)) (hi':hi=(i:Int)) (h:i≤c):
 Ex P l (.slice t x none (some xh) none) ty w (.value (Ac A i c)) w:=by
 subst hi'
 exact nS ht he hx hh ⟨by omega,by omega⟩
end
def Rw (w0 w':World) (r:Value) (T sz n:Nat) (cs:List Value):Prop:=
 ∃ g cap sp,r=.slice (hd g) n cap∧n≤cap∧cap*sz≤(cs++sp).length∧(g=none→cap=0)∧Hp w0 w' [] [(g,T,cs++sp)]
theorem gI {a b:Nat} (h:a≤b):Nat.min a b=a:=Io h
theorem Rd.Zd {w:World} {A:Option Addr} {n sz i:Nat} {xs:List Value} (h:Rd w A n sz xs) (hi:i≤n) (hA:A=none→i=0):Rd w A i sz (xs.take (i*sz)):=by
 have hm:i*sz≤n*sz:=Dp _ hi
 refine⟨?_,fun a ha j u hu=>?_,hA⟩
 · rw[Aw,h.len];omega
 rw[Ic]at hu
 split at hu
 · exact h.cells a ha j u hu
 cases hu
def Prd (P:Program) (k:FuncId) (gc:Nat) (pr:List Value→Bool) (ps:List (List Value)) (w0:World):Prop:=
 yC P k=true∧gc < w0.heap.size∧∀ w1,w1.heap[gc]? =w0.heap[gc]?→∀ p∈ps,zP P k #[.agg p.toArray,.pointer (some ⟨gc,0,none⟩)] w1 (fun r w'=>r=.bool (pr p)∧Hp w1 w' [] [])
structure Cmp (P:Program) (k:FuncId) (tv:Value) (cf:List Value→Int) (ps:List (List Value)):Prop where
 go:yC P k=true
 does:∀ w1,∀ p∈ps,zP P k #[.agg p.toArray,tv] w1 (fun r w'=>r=.int .i64 (cf p)∧Hp w1 w' [] [])
 mono:∀ (i j:Nat) (p q:List Value),i≤j→ps[i]? =some p→ps[j]? =some q→cf q < 0→cf p < 0
structure BN (ps:List (List Value)) (cf:List Value→Int) (i:Nat) (f:Bool):Prop where
 le:i≤ps.length
 lo:∀ (k:Nat) (p:List Value),k < i→ps[k]? =some p→cf p < 0
 hi:∀ (k:Nat) (p:List Value),i≤k→ps[k]? =some p→0≤cf p
 yes:f=true→∃ p,ps[i]? =some p∧cf p=0
 no:f=false→∀ p,ps[i]? =some p→cf p≠0
def XW (ps:List (List Value)) (pr:List Value→Bool) (y:Int):Prop:=
 (y=-1∧∀ p∈ps,pr p=false)∨∃ (j:Nat) (p:List Value),y=(j:Int)∧ps[j]? =some p∧pr p=true∧∀ q∈ps.take j,pr q=false
theorem yM {α:Type} {l:List α} {j:Nat} {p:α} (h:l[j]? =some p):l.take (j+1)=l.take j++[p]:=by
 obtain⟨hl,rfl⟩:=Ec.1 h
 rw[List.take_succ_eq_append_getElem hl]
theorem yL {α:Type} {l:List α} {j:Nat} (h:j < l.length):∃ p,l[j]? =some p:=⟨_,Cb h⟩
theorem mem_of {α:Type} {l:List α} {j:Nat} {p:α} (h:l[j]? =some p):p∈l:=Fe h
theorem vU {ps:List (List Value)} {pr:List Value→Bool} (h:∀ p∈ps,pr p=false):ps.filter (fun p=>!pr p)=ps:=List.filter_eq_self.2 fun p hp=>by rw[h p hp];rfl
theorem oP {ps:List (List Value)} {pr:List Value→Bool} {j:Nat} {p:List Value} (h:∀ q∈ps.take j,pr q=false) (hp:ps[j]? =some p) (hf:pr p=false):∀ q∈ps.take (j+1),pr q=false:=by
 rw[yM hp]
 intro q hq
 rcases Bq.1 hq with hq | hq
 · exact h q hq
 rw[Az.1 hq];exact hf
structure Del (ps qs:List (List Value)) (pr:List Value→Bool) (i j sz:Nat):Prop where
 len:qs.length=ps.length
 pl:Pl sz qs
 lt:i < j
 le:j≤ps.length
 rest:qs.drop j=ps.drop j
 kept:qs.take i=(ps.take j).filter fun p=>!pr p
theorem Del.start {ps:List (List Value)} {pr:List Value→Bool} {j sz:Nat} {p:List Value} (hp:Pl sz ps) (hj:ps[j]? =some p) (ht:pr p=true) (hn:∀ q∈ps.take j,pr q=false):Del ps ps pr j (j+1) sz:=by
 refine⟨Y,hp,by omega,lt_of_get hj,Y,?_⟩
 rw[yM hj,Le,vU hn]
 simp[ht]
theorem Del.skip {ps qs:List (List Value)} {pr:List Value→Bool} {i j sz:Nat} {p:List Value} (h:Del ps qs pr i j sz) (hj:ps[j]? =some p) (ht:pr p=true):Del ps qs pr i (j+1) sz:=by
 have h1:=h.lt
 refine⟨h.len,h.pl,by omega,lt_of_get hj,?_,?_⟩
 · have:=congrArg (List.drop 1) h.rest
   simpa[Fq]using this
 rw[yM hj,Le,h.kept]
 simp[ht]
theorem Del.keep {ps qs:List (List Value)} {pr:List Value→Bool} {i j sz:Nat} {p:List Value} (h:Del ps qs pr i j sz) (hj:ps[j]? =some p) (ht:pr p=false) (hl:p.length=sz):Del ps (qs.set i p) pr (i+1) (j+1) sz:=by
 have h1:=h.lt
 have h2:=lt_of_get hj
 have h3:=h.len
 refine⟨by rw[Kt];exact h.len,h.pl.Ru hl,by omega,h2,?_,?_⟩
 · rw[List.drop_set_of_lt (by omega)]
   have:=congrArg (List.drop 1) h.rest
   simpa[Fq]using this
 rw[yM hj,Le,← h.kept]
 have h4:(qs.set i p)[i]? =some p:=by rw[List.getElem?_set_self (by omega)]
 rw[yM h4,List.take_set_of_le (Ak i)]
 simp[ht]
theorem Del.at {ps qs:List (List Value)} {pr:List Value→Bool} {i j sz:Nat} (h:Del ps qs pr i j sz):qs[j]? =ps[j]?:=by
 have h1:=congrArg (fun l=>l[0]?) h.rest
 simpa using h1
theorem Del.done {ps qs:List (List Value)} {pr:List Value→Bool} {i sz:Nat} (h:Del ps qs pr i ps.length sz):qs.take i=(ps.filter fun p=>!pr p)∧(ps.filter fun p=>!pr p).length=i:=by
 have h1:=h.kept
 rw[Bz]at h1
 refine⟨h1,?_⟩
 have h2:=h.lt
 have h3:=h.len
 rw[← h1,Aw];omega
theorem Del.cells {ps qs:List (List Value)} {pr:List Value→Bool} {i sz n:Nat} {sp vs:List Value} (h:Del ps qs pr i ps.length sz) (_:n=0):zJ (qs.flatten++sp) (n+i*sz) vs=(ps.filter fun p=>!pr p).flatten++(vs++(qs.flatten++sp).drop (n+i*sz+vs.length)):=by
 subst n
 have h1:=h.lt
 have h2:=h.len
 have h3:i*sz≤qs.flatten.length:=by rw[h.pl.len];exact Dp _ (by omega)
 unfold zJ
 rw[Ba,Qc h3,h.pl.Vo,h.done.1,Bh]
theorem vN {cs vs:List Value} {o:Nat} (h:o+vs.length≤cs.length):(zJ cs o vs).length=cs.length:=by
 simp only[zJ,Ae,Aw,Bl];omega
theorem CQ {cs vs zs sp:List Value} {i n sz:Nat} {ps:List (List Value)} (hp:Pl sz ps) (hn:ps.length=n) (hi:i≤n) (hv:vs.length=sz) (hz:zs.length=(n+1 - i)*sz) (hc:cs=((ps.flatten.take (i*sz))++zs)++sp):
 zJ (zJ cs (i*sz) vs) ((i+1)*sz) (ps.flatten.drop (i*sz))=(ps.take i++vs::ps.drop i).flatten++sp:=by
 have hl:(ps.flatten.take (i*sz)).length=i*sz:=by rw[Aw,hp.len,hn];exact Io (Dp _ hi)
 have hd:(ps.flatten.drop (i*sz)).length=(n - i)*sz:=by rw[Bl,hp.len,hn,← Ll]
 have hz2:zs.length=sz+(n - i)*sz:=by rw[hz,show n+1 - i=(n - i)+1 by omega,Dv];omega
 have hs:(i+1)*sz=i*sz+sz:=by rw[Dv];omega
 subst hc
 obtain⟨a,ha⟩:∃ a,ps.flatten.take (i*sz)=a:=⟨_,rfl⟩
 obtain⟨b,hb⟩:∃ b,ps.flatten.drop (i*sz)=b:=⟨_,rfl⟩
 rw[Kr,Ij,← hp.Vo,← hp.Xq,ha,hb]
 rw[ha]at hl
 rw[hb]at hd
 have e1:zJ ((a++zs)++sp) (i*sz) vs=(a++vs)++(zs.drop sz++sp):=by
  unfold zJ
  rw[Bh a,Ii hl,hv,← Fq,Gh hl,Qr (by omega)]
 have hl2:(a++vs).length=(i+1)*sz:=by rw[Ae,hl,hv,hs]
 have hl3:(zs.drop sz).length=b.length:=by rw[Bl,hz2,hd];omega
 rw[e1]
 unfold zJ
 rw[Ii hl2,← Fq,Gh hl2,Gh hl3]
 simp
theorem G2 {vs sp:List Value} {i n sz:Nat} {ps:List (List Value)} (hp:Pl sz ps) (hn:ps.length=n) (hi:i≤n) (hv:vs.length=sz) (hs:sz≤sp.length):
 zJ (zJ (ps.flatten++sp) ((i+1)*sz) (ps.flatten.drop (i*sz))) (i*sz) vs=(ps.take i++vs::ps.drop i).flatten++sp.drop sz:=by
 have hl:(ps.flatten.take (i*sz)).length=i*sz:=by rw[Aw,hp.len,hn];exact Io (Dp _ hi)
 have hd:(ps.flatten.drop (i*sz)).length=(n - i)*sz:=by rw[Bl,hp.len,hn,← Ll]
 have hss:(i+1)*sz=i*sz+sz:=by rw[Dv];omega
 have hall:ps.flatten.length=i*sz+(n - i)*sz:=by rw[hp.len,hn,← Dv];congr 1;omega
 have e0:ps.flatten++sp=ps.flatten.take (i*sz)++(ps.flatten.drop (i*sz)++sp):=by rw[← Bh,Fg]
 obtain⟨a,ha⟩:∃ a,ps.flatten.take (i*sz)=a:=⟨_,rfl⟩
 obtain⟨b,hb⟩:∃ b,ps.flatten.drop (i*sz)=b:=⟨_,rfl⟩
 rw[e0,Kr,Ij,← hp.Vo,← hp.Xq,ha,hb]
 rw[ha]at hl
 rw[hb]at hd
 have e1:zJ (a++(b++sp)) ((i+1)*sz) b=a++((b++sp).take sz++b)++sp.drop sz:=by
  unfold zJ
  rw[hss,Oo,hl,Ej (by omega),Hr,List.drop_append,hl,Gn (by omega),show i*sz+sz+b.length - i*sz=b.length+sz by omega,← Fq,List.drop_left]
  simp
 rw[e1]
 have h5:((b++sp).take sz).length=sz:=by rw[Aw,Ae];omega
 unfold zJ
 rw[Bh a,Ii hl,hv,← Fq,Gh hl,Bh ((b++sp).take sz),Gh h5]
 simp
section
def sN (a b:Int):Int:=if a < b then -1 else if b < a then 1 else 0
variable {a b:Rt} {cp:List Value→Int} {ps:List (List Value)} {n:Int} {p:List Value}
theorem Nc {a b:Int}:sN a b < 0↔a < b:=by unfold sN;repeat' split;all_goals omega
theorem Sr {a b:Int}:0 < sN a b↔b < a:=by unfold sN;repeat' split;all_goals omega
theorem Wv {a b:Int}:sN a b=0↔a=b:=by unfold sN;repeat' split;all_goals omega
def dG {X:Type} (cf:X→Int) (xs:List X):Prop:=∀ (i j:Nat) (a b:X),i < j→xs[i]? =some a→xs[j]? =some b→0≤cf a→0 < cf b
theorem dG.tail {X:Type} {cf:X→Int} {x:X} {xs:List X} (h:dG cf (x::xs)):dG cf xs:=fun i j a b hij ha hb h0=>h (i+1) (j+1) a b (by omega) (by simpa using ha) (by simpa using hb) h0
theorem sK {X:Type} {f:X→Bool} {xs:List X} (h:∀ x∈xs,f x=true):xs.filter f=xs:=List.filter_eq_self.2 h
theorem tM {X:Type} {f:X→Bool} {xs:List X} (h:∀ x∈xs,f x=false):xs.filter f=[]:=List.filter_eq_nil_iff.2 fun x hx=>by rw[h x hx];simp
theorem dG.put {X:Type} {cf:X→Int} {v:X}:∀ {xs:List X} {i:Nat} {f:Bool},dG cf xs→i≤xs.length→(∀ (k:Nat) (a:X),k < i→xs[k]? =some a→cf a < 0)→(∀ (k:Nat) (a:X),i≤k→xs[k]? =some a→0≤cf a)→
 (f=true→∃ a,xs[i]? =some a∧cf a=0)→(f=false→∀ a,xs[i]? =some a→cf a≠0)→
 xs.filter (fun x=>decide (cf x < 0))++v::xs.filter (fun x=>decide (0 < cf x))=if f=true then xs.set i v else xs.take i++v::xs.drop i
 | [],i,f,_,hi,_,_,hy,_=>by
  obtain rfl:i=0:=by simpa using hi
  cases f with
  | true=>obtain⟨a,ha,_⟩:=hy rfl;simp at ha
  | false=>simp
 | x::xs,0,f,hr,_,_,hhi,hy,hno=>by
  have h0:0≤cf x:=hhi 0 x (Ak _) rfl
  have hall:∀ a∈xs,0 < cf a:=fun a ha=>by
   obtain⟨k,hk⟩:=Dh ha
   exact hr 0 (k+1) x a (by omega) Y (by simpa using hk) h0
  have e1:xs.filter (fun x=>decide (cf x < 0))=[]:=tM fun a ha=>by have:=hall a ha;simp;omega
  have e2:xs.filter (fun x=>decide (0 < cf x))=xs:=sK fun a ha=>by simpa using hall a ha
  rw[Gu,Gu,e1,e2,if_neg (by simp;omega)]
  cases f with
  | true=>
   obtain⟨a,ha,hz⟩:=hy rfl
   simp only[Jq,Option.some.injEq]at ha
   subst ha
   rw[if_neg (by simp;omega)]
   simp
  | false=>
   have:=hno rfl x rfl
   rw[if_pos (by simp;omega)]
   simp
 | x::xs,i+1,f,hr,hi,hlo,hhi,hy,hno=>by
  have h0:cf x < 0:=hlo 0 x (by omega) rfl
  have ih:=dG.put (v:=v) (i:=i) (f:=f) hr.tail (by simpa using hi) (fun k a hk ha=>hlo (k+1) a (by omega) (by simpa using ha)) (fun k a hk ha=>hhi (k+1) a (by omega) (by simpa using ha)) (fun h=>by simpa using hy h) (fun h a ha=>hno h a (by simpa using ha))
  rw[Gu,Gu,if_pos (by simpa using h0),if_neg (by simp;omega),Jf,ih]
  cases f <;>simp
theorem BN.put {X:Type} {R:List Value→X→Prop} {cf:X→Int} {xs:List X} {i:Nat} {f:Bool} {v:X} (h:BN ps cp i f) (h2:wC R ps xs) (hc:∀ p x,R p x→cp p=cf x) (hr:dG cf xs):
 xs.filter (fun x=>decide (cf x < 0))++v::xs.filter (fun x=>decide (0 < cf x))=if f=true then xs.set i v else xs.take i++v::xs.drop i:=by
 refine hr.put (by rw[← h2.len];exact h.le) (fun k a hk ha=>?_) (fun k a hk ha=>?_) (fun hf=>?_) (fun hf a ha=>?_)
 · obtain⟨p,hp,hR⟩:=h2.get ha
   rw[← hc p a hR];exact h.lo k p hk hp
 · obtain⟨p,hp,hR⟩:=h2.get ha
   rw[← hc p a hR];exact h.hi k p hk hp
 · obtain⟨p,hp,h0⟩:=h.yes hf
   obtain⟨x,hx,hR⟩:=h2.getL hp
   exact⟨x,hx,by rw[← hc p x hR];exact h0⟩
 obtain⟨p,hp,hR⟩:=h2.get ha
 rw[← hc p a hR];exact h.no hf p hp
theorem dG.mono {X:Type} {R:List Value→X→Prop} {cf:X→Int} {xs:List X} (hr:dG cf xs) (h2:wC R ps xs) (hc:∀ p x,R p x→cp p=cf x):∀ (i j:Nat) (p q:List Value),i≤j→ps[i]? =some p→ps[j]? =some q→cp q < 0→cp p < 0:=by
 intro i j p q hij hp hq h0
 rcases Nat.eq_or_lt_of_le hij with rfl | h
 · rw[hp]at hq;cases hq;exact h0
 obtain⟨x,hx,hR⟩:=h2.getL hp
 obtain⟨y,hy,hR2⟩:=h2.getL hq
 rw[hc p x hR]
 rw[hc q y hR2]at h0
 rcases Int.lt_or_le (cf x) 0 with h3 | h3
 · exact h3
 have:=hr i j x y h hx hy h3;omega
def VY (n:Int) (p:List Value):Int:=match p with
 | .int _ s::_=>sN s n
 | _=>0
theorem BX {w:World} {ok:Nat→Prop} {x:Vt} (h:Oe w ok p x):VY n p=sN x.slot n:=by obtain⟨_,_,rfl,_⟩:=h;rfl
theorem iX {p:Bal} {first:Int}:∀ {l:List Vt} {n:Int},uD p first n l=true→(∀ x∈l,n≤x.slot)∧∀ (i j:Nat) (a b:Vt),i < j→l[i]? =some a→l[j]? =some b→a.slot < b.slot
 | [],_,_=>⟨(fun _ h=>by cases h),fun i j a b _ h=>by simp at h⟩
 | v::l,n,h=>by
  simp only[uD,Ci,decide_eq_true_eq]at h
  obtain⟨h1,h2⟩:=iX h.2
  refine⟨fun x hx=>?_,fun i j a b hij ha hb=>?_⟩
  · rcases Cj.1 hx with rfl | hx
    · exact h.1.1
    have:=h1 x hx;omega
  obtain⟨j,rfl⟩:∃ k,j=k+1:=⟨j - 1,by omega⟩
  simp only[Kq]at hb
  cases i with
  | zero=>
   simp only[Jq,Option.some.injEq]at ha
   subst ha
   have:=h1 b (Fe hb);omega
  | succ i=>
   simp only[Kq]at ha
   exact h2 i j a b (by omega) ha hb
theorem SA {l:List Vt} (h:∀ (i j:Nat) (a b:Vt),i < j→l[i]? =some a→l[j]? =some b→a.slot < b.slot) (n:Int):dG (fun x:Vt=>sN x.slot n) l:=fun i j a b hij ha hb h0=>by
 have h1:=h i j a b hij ha hb
 have h0':0≤sN a.slot n:=h0
 have h2:¬a.slot < n:=fun hh=>by have:=Nc.2 hh;omega
 exact Sr.2 (by omega)
theorem D8 (l:List Vt) (v:Vt):Jy l v=l.filter (fun x=>decide (sN x.slot v.slot < 0))++v::l.filter (fun x=>decide (0 < sN x.slot v.slot)):=by
 unfold Jy
 congr 1
 · exact Ld fun x _=>by rw[decide_eq_decide];exact Nc.symm
 congr 1
 exact Ld fun x _=>by rw[decide_eq_decide];exact Sr.symm
theorem IK {p:Bal} {first:Int}:∀ {l:List Vt} {n:Int},uD p first n l=true→n≤first+16→(l.length:Int)≤first+16 - n
 | [],n,_,h=>by simp;omega
 | v::l,n,h,hn=>by
  simp only[uD,Ci,decide_eq_true_eq]at h
  have:=IK h.2 (by omega)
  rw[Bj];omega
def OM (n:Int) (p:List Value):Int:=match p with
 | .int _ s::_=>sN s n
 | _=>0
theorem gL {x:Mk} (h:Pv p x):OM n p=sN x.client n:=by rw[h];rfl
theorem vY :∀ {l:List Mk} {n:Int},sC n l→(∀ x∈l,n < x.client∧x.client≤8∧1≤x.seq∧x.seq≤4611686018427387904)∧∀ (i j:Nat) (a b:Mk),i < j→l[i]? =some a→l[j]? =some b→a.client < b.client
 | [],_,_=>⟨(fun _ h=>by cases h),fun i j a b _ h=>by simp at h⟩
 | v::l,n,h=>by
  obtain⟨h1,h2⟩:=vY h.2.2.2.2
  refine⟨fun x hx=>?_,fun i j a b hij ha hb=>?_⟩
  · rcases Cj.1 hx with rfl | hx
    · exact⟨h.1,h.2.1,h.2.2.1,h.2.2.2.1⟩
    have h3:=h1 x hx
    have h4:=h.1
    exact⟨by omega,h3.2⟩
  obtain⟨j,rfl⟩:∃ k,j=k+1:=⟨j - 1,by omega⟩
  simp only[Kq]at hb
  cases i with
  | zero=>
   simp only[Jq,Option.some.injEq]at ha
   subst ha
   exact(h1 b (Fe hb)).1
  | succ i=>
   simp only[Kq]at ha
   exact h2 i j a b (by omega) ha hb
theorem IT {l:List Mk} (h:∀ (i j:Nat) (a b:Mk),i < j→l[i]? =some a→l[j]? =some b→a.client < b.client) (n:Int):dG (fun x:Mk=>sN x.client n) l:=fun i j a b hij ha hb h0=>by
 have h1:=h i j a b hij ha hb
 have h0':0≤sN a.client n:=h0
 have h2:¬a.client < n:=fun hh=>by have:=Nc.2 hh;omega
 exact Sr.2 (by omega)
theorem NS (l:List Mk) (v:Mk):uK l v=l.filter (fun x=>decide (sN x.client v.client < 0))++v::l.filter (fun x=>decide (0 < sN x.client v.client)):=by
 unfold uK
 congr 1
 · exact Ld fun x _=>by rw[decide_eq_decide];exact Nc.symm
 congr 1
 exact Ld fun x _=>by rw[decide_eq_decide];exact Sr.symm
def nM (a b:Rt):Int:=if a.g≠b.g then(if a.g < b.g then -1 else 1) else Lib.compareBytes a.key b.key
theorem VR :∀ a b:Blk,Lib.compareBytes a b < 0↔Op.bytesLess a b=true
 | [],[]=>by simp[Lib.compareBytes,Op.bytesLess]
 | [],b::bs=>by simp[Lib.compareBytes,Op.bytesLess]
 | a::as',[]=>by simp[Lib.compareBytes,Op.bytesLess]
 | a::x,b::y=>by
  have ih:=VR x y
  unfold Lib.compareBytes Op.bytesLess
  by_cases h1:a < b
  · simp[h1]
  by_cases h2:b < a
  · have h3:¬a=b:=fun h=>by subst h;exact absurd h2 h1
    simp[h1,h2,h3]
  have h3:a=b:=UInt8.le_antisymm (UInt8.not_lt.1 h2) (UInt8.not_lt.1 h1)
  subst h3
  simp[ih]
theorem VS :∀ a b:Blk,0 < Lib.compareBytes a b↔Op.bytesLess b a=true
 | [],[]=>by simp[Lib.compareBytes,Op.bytesLess]
 | [],b::bs=>by simp[Lib.compareBytes,Op.bytesLess]
 | a::as',[]=>by simp[Lib.compareBytes,Op.bytesLess]
 | a::x,b::y=>by
  have ih:=VS x y
  unfold Lib.compareBytes Op.bytesLess
  by_cases h1:a < b
  · have h3:¬b < a:=fun h=>UInt8.lt_irrefl _ (UInt8.lt_trans h1 h)
    have h4:¬b=a:=fun h=>by subst h;exact UInt8.lt_irrefl _ h1
    simp[h1,h3,h4]
  by_cases h2:b < a
  · simp[h1,h2]
  have h3:a=b:=UInt8.le_antisymm (UInt8.not_lt.1 h2) (UInt8.not_lt.1 h1)
  subst h3
  simp[ih]
theorem F0 :∀ {a b c:Blk},Op.bytesLess a b=true→Op.bytesLess b c=true→Op.bytesLess a c=true
 | _,[],_,h,_=>by unfold Op.bytesLess at h;cases h
 | _,_::_,[],_,h=>by unfold Op.bytesLess at h;cases h
 | [],_::_,_::_,_,_=>by unfold Op.bytesLess;rfl
 | a::x,b::y,c::z,h1,h2=>by
  unfold Op.bytesLess at h1 h2 ⊢
  simp only[Bool.or_eq_true,Ci,decide_eq_true_eq,beq_iff_eq]at h1 h2 ⊢
  rcases h1 with h1 | ⟨rfl,h1⟩ <;>rcases h2 with h2 | ⟨rfl,h2⟩
  · exact .inl (UInt8.lt_trans h1 h2)
  · exact .inl h1
  · exact .inl h2
  exact .inr ⟨Y,F0 h1 h2⟩
theorem QY :∀ a:Blk,Op.bytesLess a a=false
 | []=>rfl
 | a::x=>by unfold Op.bytesLess;simp[QY x]
theorem SW:nM a b < 0↔Pm a b=true:=by
 unfold nM Pm
 by_cases h:a.g=b.g
 · rw[if_neg (by simpa using h)]
   simp[h,VR]
 rw[if_pos h]
 by_cases h2:a.g < b.g <;>simp[h,h2]
theorem SX:0 < nM a b↔Pm b a=true:=by
 unfold nM Pm
 by_cases h:a.g=b.g
 · rw[if_neg (by simpa using h)]
   simp[h,VS]
 rw[if_pos h]
 by_cases h2:a.g < b.g
 · simp[h2,Ne.symm h];omega
 simp[h2,Ne.symm h];omega
theorem nN {c:Rt} (h1:Pm a b=true) (h2:Pm b c=true):Pm a c=true:=by
 unfold Pm at*
 simp only[Bool.or_eq_true,Ci,decide_eq_true_eq]at*
 rcases h1 with h1 | ⟨h1,h3⟩ <;>rcases h2 with h2 | ⟨h2,h4⟩
 · exact .inl (by omega)
 · exact .inl (by omega)
 · exact .inl (by omega)
 exact .inr ⟨by omega,F0 h3 h4⟩
theorem Qv (a:Rt):Pm a a=false:=by unfold Pm;simp[QY]
theorem JY :∀ a b:Blk,Lib.compareBytes a b=0→a=b
 | [],[],_=>rfl
 | [],b::bs,h=>by simp[Lib.compareBytes]at h
 | a::as',[],h=>by simp[Lib.compareBytes]at h
 | a::x,b::y,h=>by
  unfold Lib.compareBytes at h
  by_cases h1:a < b
  · simp[h1]at h
  by_cases h2:b < a
  · simp[h1,h2]at h
  have h3:a=b:=UInt8.le_antisymm (UInt8.not_lt.1 h2) (UInt8.not_lt.1 h1)
  subst h3
  rw[if_neg h1,if_neg h1]at h
  rw[JY x y h]
theorem LF (h:nM a b=0):a.g=b.g∧a.key=b.key:=by
 unfold nM at h
 by_cases hg:a.g=b.g
 · rw[if_neg (by simpa using hg)]at h
   exact⟨hg,JY _ _ h⟩
 rw[if_pos hg]at h
 split at h <;>cases h
theorem tZ :∀ {l:List Rt},qV l→(∀ x∈l,mH x)∧∀ (i j:Nat) (a b:Rt),i < j→l[i]? =some a→l[j]? =some b→Pm a b=true
 | [],_=>⟨(fun _ h=>by cases h),fun i j a b _ h=>by simp at h⟩
 | v::l,h=>by
  obtain⟨h1,h2⟩:=tZ h.2.2
  refine⟨fun x hx=>?_,fun i j a b hij ha hb=>?_⟩
  · rcases Cj.1 hx with rfl | hx
    · exact h.1
    exact h1 x hx
  obtain⟨j,rfl⟩:∃ k,j=k+1:=⟨j - 1,by omega⟩
  simp only[Kq]at hb
  cases i with
  | zero=>
   simp only[Jq,Option.some.injEq]at ha
   subst ha
   exact h.2.1 b (Fe hb)
  | succ i=>
   simp only[Kq]at ha
   exact h2 i j a b (by omega) ha hb
theorem SU {r:Rt} (h:Pm a b=true) (h0:0≤nM a r):0 < nM b r:=by
 rcases Int.lt_or_eq_of_le h0 with h1 | h1
 · exact SX.2 (nN (SX.1 h1) h)
 obtain⟨e1,e2⟩:=LF h1.symm
 refine SX.2 ?_
 unfold Pm at h ⊢
 rw[← e1,← e2];exact h
theorem B7 {l:List Rt} (h:∀ (i j:Nat) (a b:Rt),i < j→l[i]? =some a→l[j]? =some b→Pm a b=true) (r:Rt):dG (fun x:Rt=>nM x r) l:=fun i j a b hij ha hb h0=>SU (h i j a b hij ha hb) h0
theorem EA (l:List Rt) (v:Rt):Hf l v=l.filter (fun x=>decide (nM x v < 0))++v::l.filter (fun x=>decide (0 < nM x v)):=by
 unfold Hf
 congr 1
 · exact Ld fun x _=>by
    have:=SW (a:=x) (b:=v)
    cases h:Pm x v <;>simp_all
 congr 1
 exact Ld fun x _=>by
  have:=SX (a:=x) (b:=v)
  cases h:Pm v x <;>simp_all
end
def up (ok:Nat→Prop) (n:Nat):Nat→Prop:=fun b=>ok b∨n≤b
@[reducible] def rz (p b:Bal):Bal:=if p.lt b then b else p
theorem nJ (s:Sv) (b:Bal):s.raise b={ s with p:=rz s.p b }:=by
 unfold Sv.raise rz
 split <;>rfl
theorem fD {w:World} {g o:Nat} {cs:List Value} {T:TypeId} {v:Value} (h:w.heap[g]? =some (.cells cs.toArray T (0,0))) (hv:cs[o]? =some v):w.cell? ⟨g,o,none⟩=some v:=by
 simp[World.cell?,h,hv]
theorem nX {ps:List (List Value)} {sp vs:List Value} {i sz:Nat} (hp:Pl sz ps) (hi:i < ps.length) (hv:vs.length=sz):zJ (ps.flatten++sp) (0+i*sz) vs=(ps.set i vs).flatten++sp:=by
 have:(i+1)*sz≤ps.length*sz:=Dp _ hi
 rw[Dv,Nat.one_mul]at this
 rw[Ba,mC (by rw[hp.len,hv];exact this),hp.set_ hi hv]
section
variable {w0 w w':World} {S:List Nat} {es:List Ent} {ok ok':Nat→Prop} {i:Nat} {g:Option Nat} {T:TypeId} {sp:List Value}
theorem Sl.row {X:Type} {R:List Value→X→Prop} {sz:Nat} {ps:List (List Value)} {xs:List X} (H:Hp w0 w S es) (he:es[i]? =some (g,T,ps.flatten++sp)) (hp:Pl sz ps) (hz:0 < sz) (h2:wC R ps xs) (ha:∀ b,g=some b→ok b):Sl R sz w ok (hd g) xs:=by
 have hl:=h2.len
 refine⟨ps,hp,?_,fun _ p hq=>?_,h2⟩
 · rw[← hl];exact H.rd he hp.len hz
 cases g with
 | none=>cases hq
 | some b=>cases hq;exact ha b rfl
theorem Bs.row {b:Blk} (H:Hp w0 w S es) (he:es[i]? =some (g,T,u8s b++sp)) (hb:b.length≤140737488351232) (ha:∀ x,g=some x→ok x):Bs w ok (hd g) b:=by
 refine⟨H.rd he (yY b) (by decide),fun _ p hq=>?_,hb⟩
 cases g with
 | none=>cases hq
 | some x=>cases hq;exact ha x rfl
theorem wQ (H:Hp w0 w S es) (he:es[i]? =some (g,T,sp)) (hS:∀ b∈S,g≠some b):∀ b,g=some b→up ok w0.heap.size b:=fun b hb=>by
 subst hb
 rcases H.place he with h | h
 · exact absurd Y (hS b h)
 exact .inr h
theorem KT {n:Nat} (h:∀ x,ok x→x∉S):∀ x,ok x→x < n→x∉S∧up ok n x:=fun x hx _=>⟨h x hx,.inl hx⟩
theorem vG {n m:Nat}:∀ x,ok x→x < n→x∉([]:List Nat)∧up ok m x:=fun x hx _=>⟨by simp,.inl hx⟩
end
def Jl (n:Int) (p:List Value):Bool:=match p with
 | .int _ s::_=>decide (s≤n)
 | _=>false
theorem IM {w:World} {ok:Nat→Prop} {n:Int} {p:List Value} {x:Vt} (h:Oe w ok p x):Jl n p=decide (x.slot≤n):=by obtain⟨_,_,rfl,_⟩:=h;rfl
theorem JU {w:World} {ok:Nat→Prop} {n:Int} {p:List Value} {x:En} (h:Qp w ok p x):Jl n p=decide (x.slot≤n):=by obtain⟨_,_,rfl,_⟩:=h;rfl
def Jb (n:Int) (p:List Value):Bool:=match p with
 | .int _ s::_=>decide (s=n)
 | _=>false
theorem S8 {n:Int} {p:List Value} {x:Mk} (h:Pv p x):Jb n p=decide (x.client=n):=by rw[h];rfl
def R7 (r:Rt) (p:List Value):Int:=match p with
 | [.int _ g,.string s,_,_]=>nM ⟨g,s.data.toList,0,0⟩ r
 | _=>0
theorem dO {r:Rt} {p:List Value} {x:Rt} (h:Nu p x):R7 r p=nM x r:=by rw[h];simp[R7,Jv,zT,nM]
theorem MB (l:List Vt) (n:Int):(l.filter fun x=>!decide (x.slot≤n))=vR l n:=by
 unfold vR
 exact Ld fun x _=>by
  by_cases h:x.slot≤n
  · rw[decide_eq_true h,decide_eq_false (by omega)];rfl
  rw[decide_eq_false h,decide_eq_true (by omega)];rfl
def oV (p:Bal) (first:Int) (l:List Vt):Bool:=decide (1≤first∧first≤1099511627776) && decide ((p.r=0∧p.n=0)∨(1≤p.r∧1≤p.n)) && uD p first first l
section
variable {p:Bal} {first m:Int} {l r:List Vt} {x:Vt} {i:Nat} {s:Sv}
theorem U4 (h:¬(1≤first∧first≤1099511627776)):oV p first l=false:=by unfold oV;rw[decide_eq_false h];rfl
theorem U3 (h:¬((p.r=0∧p.n=0)∨(1≤p.r∧1≤p.n))):oV p first l=false:=by unfold oV;rw[decide_eq_false h,Bool.and_false,Bool.false_and]
theorem nO (h1:1≤first∧first≤1099511627776) (h2:(p.r=0∧p.n=0)∨(1≤p.r∧1≤p.n)):oV p first l=uD p first first l:=by unfold oV;rw[decide_eq_true h1,decide_eq_true h2];rfl
theorem uX {α:Type} {l:List α} {i:Nat} {x:α} (h:l[i]? =some x):l.drop i=x::l.drop (i+1):=by
 obtain⟨hl,rfl⟩:=Ec.1 h
 exact Ol hl
theorem sZ (hx:l[i]? =some x) (h:¬(m≤x.slot∧x.slot < first+16∧1≤x.b.r∧1≤x.b.n∧¬p.lt x.b∧x.val.length≤2048)):uD p first m (l.drop i)=false:=by
 rw[uX hx,uD,decide_eq_false h];rfl
theorem BU (hx:l[i]? =some x) (h:m≤x.slot∧x.slot < first+16∧1≤x.b.r∧1≤x.b.n∧¬p.lt x.b∧x.val.length≤2048):uD p first m (l.drop i)=uD p first (x.slot+1) (l.drop (i+1)):=by
 rw[uX hx,uD,decide_eq_true h,Bool.true_and]
theorem dI :uD p first m (l.drop l.length)=true:=by rw[List.drop_length];rfl
theorem qS {l:List En} {x:En} (hx:l[i]? =some x) (h:¬(x.slot=m+1∧x.slot≤1099511627776∧x.val.length≤2048)):tK m (l.drop i)=false:=by
 rw[uX hx,tK,decide_eq_false h];rfl
theorem C6 {l:List En} {x:En} (hx:l[i]? =some x) (h:x.slot=m+1∧x.slot≤1099511627776∧x.val.length≤2048):tK m (l.drop i)=tK (m+1) (l.drop (i+1)):=by
 rw[uX hx,tK,decide_eq_true h,Bool.true_and]
theorem dY {l:List En}:tK m (l.drop l.length)=true:=by rw[List.drop_length];rfl
theorem qL :∀ {l:List En} {n:Int},tK n l=true→∀ (i:Nat) (x:En),l[i]? =some x→x.slot=n+1+i∧x.slot≤1099511627776∧x.val.length≤2048
 | [],_,_,i,x,h=>by simp at h
 | e::l,n,h,i,x,hx=>by
  simp only[tK,Ci,decide_eq_true_eq]at h
  cases i with
  | zero=>
   simp only[Jq,Option.some.injEq]at hx
   subst hx
   have:=h.1
   exact⟨by omega,this.2⟩
  | succ i=>
   simp only[Kq]at hx
   have:=qL h.2 i x hx
   have:=h.1
   exact⟨by omega,by omega,by omega⟩
theorem QT (h:¬((s.p.r=0∧s.p.n=0)∨(1≤s.p.r∧1≤s.p.n∧s.p.n≤5))):chk s=false:=by unfold chk;rw[decide_eq_false h];rfl
theorem kF (h:¬(0≤s.index∧s.index≤1099511627776∧(s.index=0→s.image.length=0)∧s.image.length≤8192)):chk s=false:=by unfold chk;rw[decide_eq_false h,Bool.and_false,Bool.false_and,Bool.false_and,Bool.false_and]
theorem qT (h:tK s.index s.entries=false):chk s=false:=by unfold chk;rw[h,Bool.and_false,Bool.false_and,Bool.false_and]
theorem C9 (h1:(s.p.r=0∧s.p.n=0)∨(1≤s.p.r∧1≤s.p.n∧s.p.n≤5)) (h2:0≤s.index∧s.index≤1099511627776∧(s.index=0→s.image.length=0)∧s.image.length≤8192) (h3:tK s.index s.entries=true):chk s=oV s.p (s.index+s.entries.length+1) s.Bc:=by
 unfold chk oV
 rw[decide_eq_true h1,decide_eq_true h2,h3,decide_eq_true (p:=(s.p.r=0∧s.p.n=0)∨(1≤s.p.r∧1≤s.p.n)) (h1.imp id fun h=>⟨h.1,h.2.1⟩)]
 have e:decide (1≤s.index+(s.entries.length:Int)+1∧s.index+(s.entries.length:Int)+1≤1099511627776)=decide (s.index+(s.entries.length:Int)+1≤1099511627776):=by
  rw[decide_eq_decide];exact⟨fun h=>h.2,fun h=>⟨by have:=h2.1;omega,h⟩⟩
 rw[e]
 simp
end
structure aL (s:Sv):Prop where
 p:(s.p.r=0∧s.p.n=0)∨(1≤s.p.r∧1≤s.p.n∧s.p.n≤5)
 i:0≤s.index∧s.index≤1099511627776∧(s.index=0→s.image.length=0)∧s.image.length≤8192
 e:tK s.index s.entries=true
 n:s.index+s.entries.length+1≤1099511627776
 v:uD s.p (s.index+s.entries.length+1) (s.index+s.entries.length+1) s.Bc=true
theorem tD (s:Sv):chk s=true↔aL s:=by
 unfold chk
 simp only[Ci,decide_eq_true_eq]
 exact⟨fun h=>⟨h.1.1.1.1,h.1.1.1.2,h.1.1.2,h.1.2,h.2⟩,fun h=>⟨⟨⟨⟨h.p,h.i⟩,h.e⟩,h.n⟩,h.v⟩⟩
def Ans (b:Bool) (e:Int):Prop:=(b=true→e=0)∧(b=false→e=21)
theorem Ans.ok {b:Bool} (h:b=true):Ans b 0:=⟨fun _=>rfl,(fun h2=>by rw[h]at h2;cases h2)⟩
theorem Ans.no {b:Bool} (h:b=false):Ans b 21:=⟨(fun h2=>by rw[h]at h2;cases h2),fun _=>rfl⟩
section
variable {P:Program} {l:List Value} {w:World} {ty t t2 e:TypeId} {x y:Operand} {zs cs:List Value} {sz bytes len:Nat} {agg:Bool} {v:Value}
theorem aW {p1 p2:Array TypeId} {b:Bool} (ht:P.underlying t=some (.func p1 p2 b)) {fn:Fn} {a c:Array Value} (d:Nat):(Op.equalIn (d+1) t (.func fn a c) .nilFunc).run P w=.ok false w:=by
 simp[Op.equalIn,run_underlying ht]
theorem oK {p1 p2:Array TypeId} {b:Bool} (ht:P.underlying t=some (.func p1 p2 b)) {fn:Fn} {a c:Array Value} (hx:ev l x=some (.func fn a c)):Ex P l (.binOp .eql t x (.const .nilFunc) t2) ty w (.value (.bool false)) w:=jM hx rfl rfl rfl (aW ht)
theorem C5 {p1 p2:Array TypeId} {b:Bool} (ht:P.underlying t=some (.func p1 p2 b)) (d:Nat):(Op.equalIn (d+1) t .nilFunc .nilFunc).run P w=.ok true w:=by
 simp[Op.equalIn,run_underlying ht]
theorem C0 {p1 p2:Array TypeId} {b:Bool} (ht:P.underlying t=some (.func p1 p2 b)) (hx:ev l x=some .nilFunc):Ex P l (.binOp .eql t x (.const .nilFunc) t2) ty w (.value (.bool true)) w:=jM hx rfl rfl rfl (C5 ht)
theorem LX (h:xU P t zs sz bytes agg) (ht:P.underlying t=some (.array len e)) {ez:List Value} {es eb:Nat} {ea:Bool} (he:xU P e ez es eb ea) {xs:List (Nat×Operand)} {vs:List (Nat×Value)} (hv:pM l xs=some vs) (hf:kA (fun i=>some (i*es,es)) zs vs=some cs):
 Ex P l (.build t xs.toArray) ty w (.value (.agg cs.toArray)) w:=fun _ _ _ _=>by
 have hvs:(xs.toArray.map fun(i,x)=>(i,rho l x)).toList=vs:=by simpa using oE hv
 have hf':=dX (fun i=>some (i*es,es)) vs zs cs hf
 obtain⟨i,z,d,hi,hz,hzs,_,_,hd,_⟩:=h.ex
 obtain⟨i2,z2,d2,hi2,hz2,hzs2,hs2,_,hd2,_⟩:=he.ex
 have hzc:z.cells=zs.toArray:=by rw[← hzs]
 have hb:P.built t (xs.toArray.map fun(i,x)=>(i,rho l x)).toList=some cs.toArray:=by
  rw[hvs]
  unfold Program.built
  rw[hi,ht]
  simp[hz,hi2,hs2,hzc,hf']
 have hr:=run_build (P:=P) w t _ _ hb
 simp only[execOp,Sem.run_bind]
 rw[hr]
 rfl
theorem mR (ht:P.underlying t=some (.array len e)) (he:xU P e zs 1 bytes false) {vs:List Value} {k:IntKind} {n:Int} {i:Nat} (hx:ev l x=some (.agg vs.toArray)) (hy:ev l y=some (.int k n)) (hn:n=(i:Int)) (hi:i < len) (hv:vs[i]? =some v):
 Ex P l (.index t x y) ty w (.value v) w:=fun _ _ _ _=>by
 subst hn
 have h2:(0:Int)≤(i:Int)∧i < len:=⟨by omega,hi⟩
 simp[execOp,zW hx,zW hy,Instr.index,asIntOf,run_underlying ht,vJ he,h2,part,fT he,hv]
end
theorem Hp.fresh {w0 w:World} {S:List Nat} {es:List Ent} (H:Hp w0 w S es):∀ x,w.heap.size≤x→x∉bl es:=fun x hx hb=>by have:=oM H hb;omega
theorem G7 {ps:List (List Value)} {l:List Mk} {c:Int} {i:Nat} {f:Bool} (h:BN ps (OM c) i f) (h2:wC Pv ps l) (hr:∀ (i j:Nat) (a b:Mk),i < j→l[i]? =some a→l[j]? =some b→a.client < b.client):
 (f=true→∃ m,l[i]? =some m∧Fh l c=some m)∧(f=false→Fh l c=none):=by
 have hlo:∀ (k:Nat) (m:Mk),k < i→l[k]? =some m→m.client < c:=fun k m hk hm=>by
  obtain⟨p,hp,hR⟩:=h2.get hm
  have:=h.lo k p hk hp
  rw[gL hR]at this
  exact Nc.1 this
 refine⟨fun hf=>?_,fun hf=>?_⟩
 · obtain⟨p,hp,h0⟩:=h.yes hf
   obtain⟨m,hm,hR⟩:=h2.getL hp
   rw[gL hR]at h0
   have hc:=Wv.1 h0
   refine⟨m,hm,?_⟩
   unfold Fh
   rw[List.find?_eq_some_iff_getElem]
   obtain⟨hl,he⟩:=Ec.1 hm
   refine⟨by simpa using hc,i,hl,he,fun j hj=>?_⟩
   have:=hlo j _ hj (Cb (by omega))
   simp;omega
 unfold Fh
 rw[List.find?_eq_none]
 intro m hm
 obtain⟨k,hk⟩:=Dh hm
 obtain⟨p,hp,hR⟩:=h2.get hk
 rcases Nat.lt_trichotomy k i with hki | hki | hki
 · have:=hlo k m hki hk
   simp;omega
 · subst hki
   have:=h.no hf p hp
   rw[gL hR]at this
   simp
   exact fun hh=>this (Wv.2 hh)
 have h3:=h.hi i
 have hil:i < l.length:=by have:=lt_of_get hk;omega
 obtain⟨mi,hmi⟩:=yL hil
 obtain⟨pi,hpi,hRi⟩:=h2.get hmi
 have h4:=h3 pi (Ak _) hpi
 rw[gL hRi]at h4
 have h5:¬mi.client < c:=fun hh=>by have:=Nc.2 hh;omega
 have h6:=hr i k mi m hki hmi hk
 simp;omega
theorem kY {l:List Mk} {v:Mk} {i:Nat} (hr:∀ (i j:Nat) (a b:Mk),i < j→l[i]? =some a→l[j]? =some b→a.client < b.client)
 (hi:i≤(l.filter fun x=>!decide (x.client=v.client)).length) (hlo:∀ (k:Nat) (m:Mk),k < i→(l.filter fun x=>!decide (x.client=v.client))[k]? =some m→m.client < v.client)
 (hhi:i=(l.filter fun x=>!decide (x.client=v.client)).length∨∃ m,(l.filter fun x=>!decide (x.client=v.client))[i]? =some m∧¬m.client < v.client):
 (l.filter fun x=>!decide (x.client=v.client)).take i++v::(l.filter fun x=>!decide (x.client=v.client)).drop i=uK l v:=by
 have hp:(l.filter fun x=>!decide (x.client=v.client)).Pairwise fun a b=>a.client < b.client:=by
  refine List.Pairwise.filter _ ?_
  rw[Qj]
  exact fun i j hi hj hij=>hr i j _ _ hij (Cb hi) (Cb hj)
 have hr2:∀ (i j:Nat) (a b:Mk),i < j→(l.filter fun x=>!decide (x.client=v.client))[i]? =some a→(l.filter fun x=>!decide (x.client=v.client))[j]? =some b→a.client < b.client:=fun i j a b hij ha hb=>by
  obtain⟨h1,rfl⟩:=Ec.1 ha
  obtain⟨h2,rfl⟩:=Ec.1 hb
  exact Qj.1 hp i j h1 h2 hij
 have hne:∀ x∈(l.filter fun x=>!decide (x.client=v.client)),x.client≠v.client:=fun x hx=>by simpa using(Dz.1 hx).2
 have key:=(IT hr2 v.client).put (v:=v) (i:=i) (f:=false) hi (fun k a hk ha=>Nc.2 (hlo k a hk ha)) (fun k a hk ha=>by
  rcases hhi with h | ⟨m,hm,h⟩
  · have:=lt_of_get ha;omega
  rcases Nat.eq_or_lt_of_le hk with rfl | h2
  · rw[hm]at ha
    simp only[Option.some.injEq]at ha
    subst ha
    have h3:¬sN m.client v.client < 0:=fun hh=>h (Nc.1 hh)
    show 0≤sN m.client v.client
    omega
  have h3:=hr2 i k m a h2 hm ha
  have h4:¬sN a.client v.client < 0:=fun hh=>by have:=Nc.1 hh;omega
  show 0≤sN a.client v.client
  omega) (fun h=>by cases h) (fun _ a ha h0=>hne a (Fe ha) (Wv.1 h0))
 rw[if_neg (by decide)]at key
 rw[← key,NS]
 congr 1
 · rw[List.filter_filter]
   exact Ld fun x _=>by
    by_cases h:sN x.client v.client < 0
    · have:=Nc.1 h
      simp[h];omega
    simp[h]
 congr 1
 rw[List.filter_filter]
 exact Ld fun x _=>by
  by_cases h:0 < sN x.client v.client
  · have:=Sr.1 h
    simp[h];omega
  simp[h]
theorem EY {p:List Value} {x:Mk} {c:Int} (h:Pv p x):(!Jb c p)=!decide (x.client=c):=by rw[S8 h]
theorem qO {l:List Mk} {c q:Int} (h:c < 1∨8 < c∨q < 1∨4611686018427387904 < q):uS l c q=l:=by unfold uS;rw[if_pos h]
theorem kS {l:List Mk} {c q:Int} {m:Mk} (hf:Fh l c=some m) (h:q≤m.seq):uS l c q=l:=by
 unfold uS
 split
 · rfl
 rw[hf];simp[h]
theorem nY {l:List Mk} {c q:Int} {m:Mk} (h0:¬(c < 1∨8 < c∨q < 1∨4611686018427387904 < q)) (hf:Fh l c=some m) (h:¬q≤m.seq):uS l c q=uK l ⟨c,q⟩:=by
 unfold uS
 rw[if_neg h0,hf];simp[h]
theorem kQ {l:List Mk} {c q:Int} (h0:¬(c < 1∨8 < c∨q < 1∨4611686018427387904 < q)) (hf:Fh l c=none):uS l c q=uK l ⟨c,q⟩:=by
 unfold uS
 rw[if_neg h0,hf]
theorem EX :∀ {l:List Mk} {n:Int},(∀ x∈l,n < x.client∧x.client≤8∧1≤x.seq∧x.seq≤4611686018427387904)→l.Pairwise (fun a b=>a.client < b.client)→sC n l
 | [],_,_,_=>trivial
 | m::l,n,h,hp=>by
  obtain⟨h1,h2⟩:=List.pairwise_cons.1 hp
  obtain⟨a,b,c,d⟩:=h m (by simp)
  exact⟨a,b,c,d,EX (fun x hx=>⟨h1 x hx,(h x (Eu _ hx)).2⟩) h2⟩
theorem OK {l:List Mk} {n:Int} (h:sC n l):l.Pairwise (fun a b=>a.client < b.client):=by
 rw[Qj]
 exact fun i j hi hj hij=>(vY h).2 i j _ _ hij (Cb hi) (Cb hj)
theorem EO {X:Type} {R:X→X→Prop} {l:List X} {v:X} {f g:X→Bool} (hp:l.Pairwise R) (hf:∀ x∈l,f x=true→R x v) (hg:∀ x∈l,g x=true→R v x) (hfg:∀ a∈l,∀ b∈l,f a=true→g b=true→R a b):(l.filter f++v::l.filter g).Pairwise R:=by
 rw[List.pairwise_append,List.pairwise_cons]
 refine⟨hp.filter f,⟨fun a ha=>hg a (Dz.1 ha).1 (Dz.1 ha).2,hp.filter g⟩,fun a ha b hb=>?_⟩
 rcases Cj.1 hb with rfl | hb
 · exact hf a (Dz.1 ha).1 (Dz.1 ha).2
 exact hfg a (Dz.1 ha).1 b (Dz.1 hb).1 (Dz.1 ha).2 (Dz.1 hb).2
theorem CN {l:List Mk} {m:Mk} (h:sC 0 l) (h1:1≤m.client∧m.client≤8) (h2:1≤m.seq∧m.seq≤4611686018427387904):sC 0 (uK l m):=by
 have ha:=(vY h).1
 refine EX (fun x hx=>?_) ?_
 · unfold uK at hx
   rcases Bq.1 hx with hx | hx
   · exact ha x (Dz.1 hx).1
   rcases Cj.1 hx with rfl | hx
   · exact⟨by omega,h1.2,h2⟩
   exact ha x (Dz.1 hx).1
 refine EO (OK h) (fun x _ hx=>by simpa using hx) (fun x _ hx=>by simpa using hx) (fun a _ b _ h1 h2=>?_)
 simp only[decide_eq_true_eq]at h1 h2
 omega
theorem NA {l:List Mk} {c q:Int} (h:sC 0 l):sC 0 (uS l c q):=by
 unfold uS
 split
 · exact h
 rename_i hc
 split
 · split
   · exact h
   exact CN h ⟨by show 1≤c;omega,by show c≤8;omega⟩ ⟨by show 1≤q;omega,by show q≤_;omega⟩
 exact CN h ⟨by show 1≤c;omega,by show c≤8;omega⟩ ⟨by show 1≤q;omega,by show q≤_;omega⟩
theorem cP :∀ {l:List Rt},(∀ x∈l,mH x)→l.Pairwise (fun a b=>Pm a b=true)→qV l
 | [],_,_=>trivial
 | m::l,h,hp=>by
  obtain⟨h1,h2⟩:=List.pairwise_cons.1 hp
  exact⟨h m (by simp),h1,cP (fun x hx=>h x (Eu _ hx)) h2⟩
theorem cO {l:List Rt} (h:qV l):l.Pairwise (fun a b=>Pm a b=true):=by
 rw[Qj]
 exact fun i j hi hj hij=>(tZ h).2 i j _ _ hij (Cb hi) (Cb hj)
theorem R6 {l:List Rt} {r:Rt} (h:qV l) (hr:mH r):qV (Hf l r):=by
 have ha:=(tZ h).1
 refine cP (fun x hx=>?_) ?_
 · unfold Hf at hx
   rcases Bq.1 hx with hx | hx
   · exact ha x (Dz.1 hx).1
   rcases Cj.1 hx with rfl | hx
   · exact hr
   exact ha x (Dz.1 hx).1
 exact EO (cO h) (fun x _ hx=>hx) (fun x _ hx=>hx) (fun a _ b _ h1 h2=>nN h1 h2)
theorem AQ (l:List Rt) (r:Rt):(Hf l r).length≤l.length+1:=by
 have key:∀ l:List Rt,(l.filter fun x=>Pm x r).length+(l.filter fun x=>Pm r x).length≤l.length:=by
  intro l
  induction l with
  | nil=>simp
  | cons a l ih=>
   rw[Gu,Gu]
   have:¬(Pm a r=true∧Pm r a=true):=fun h=>by
    have h2:=nN h.1 h.2
    rw[Qv]at h2;cases h2
   by_cases h1:Pm a r=true <;>by_cases h2:Pm r a=true <;>simp[h1,h2] <;>first | omega | exact absurd ⟨h1,h2⟩ this
 unfold Hf
 rw[Ae,Bj]
 have:=key l
 omega
theorem rE.into {b b':Bo} {N:Nat} {n:Nt} (h:rE b N) (hi:b.into n=some b'):rE b' (N+1):=by
 unfold Bo.into at hi
 split at hi
 · split at hi
   · rename_i hm
     simp only[Option.some.injEq]at hi
     subst hi
     exact⟨h.eight,h.chk,R6 h.rts hm,NA h.Y4,Ce (AQ _ _) (by have:=h.few;omega)⟩
   cases hi
 split at hi
 · cases hi
 split at hi
 · split at hi
   · rename_i hc
     simp only[Option.some.injEq]at hi
     subst hi
     refine⟨by rw[Kt];exact h.eight,fun s hs=>?_,h.rts,h.Y4,by have:=h.few;show b.rights.length≤N+1;omega⟩
     rcases List.mem_or_eq_of_mem_set hs with hs | rfl
     · exact h.chk s hs
     exact hc
   cases hi
 cases hi
theorem rE.empty :rE Bo.empty 0:=⟨rfl,fun s hs=>by rw[(List.mem_replicate.1 hs).2];rfl,trivial,trivial,Ak _⟩
theorem mG {l:List Mk} (h:sC 0 l):l.length≤8:=by
 have key:∀ (l:List Mk) (n:Int),sC n l→0≤n→n≤8→(l.length:Int)≤8 - n:=by
  intro l
  induction l with
  | nil=>intro n _ _ h;simp;omega
  | cons m l ih=>
   intro n h h0 h8
   have:=ih m.client h.2.2.2.2 (by have:=h.1;omega) h.2.1
   have:=h.1
   rw[Bj];omega
 have:=key l 0 h (by omega) (by omega)
 omega
section
variable {s:Sv} {n:Nt} {b:Bo}
theorem JC (h:n.kind=1):s.goes n=s.raise n.b:=by unfold Sv.goes;rw[if_pos h]
theorem FD (h:n.kind=2):s.goes n=if n.Eh.slot≤s.last then s else({ s with Bc:=Jy s.Bc n.Eh }:Sv).raise n.Eh.b:=by unfold Sv.goes;rw[if_neg (by omega),if_pos h]
theorem FB (h:n.kind=3):s.goes n=if n.entry.slot=s.last+1 then { s with entries:=s.entries++[n.entry],Bc:=vR s.Bc n.entry.slot } else s:=by unfold Sv.goes;rw[if_neg (by omega),if_neg (by omega),if_pos h]
theorem bS (h:n.kind=4):s.goes n=if n.entry.slot≤s.index then s else { s with index:=n.entry.slot,image:=n.entry.val,entries:=rM s.entries n.entry.slot,Bc:=vR s.Bc n.entry.slot }:=by unfold Sv.goes;rw[if_neg (by omega),if_neg (by omega),if_neg (by omega)]
theorem K7 (l:List Vt) (v:Vt):(Jy l v).length≤l.length+1:=by
 have key:∀ l:List Vt,(l.filter fun x=>decide (x.slot < v.slot)).length+(l.filter fun x=>decide (v.slot < x.slot)).length≤l.length:=by
  intro l
  induction l with
  | nil=>simp
  | cons a l ih=>
   rw[Gu,Gu]
   by_cases h1:a.slot < v.slot <;>by_cases h2:v.slot < a.slot <;>simp[h1,h2] <;>omega
 unfold Jy
 rw[Ae,Bj]
 have:=key l
 omega
theorem cW (s:Sv) (b:Bal):(s.raise b).Bc=s.Bc∧(s.raise b).entries=s.entries:=by rw[nJ];exact⟨rfl,rfl⟩
theorem LO (l:List En) (n:Int):(rM l n).length≤l.length:=by
 have h:=Nk (fun x:En=>decide (n < x.slot)) l
 unfold rM
 split
 · simp
 rename_i e r heq
 rw[heq]at h
 split
 · exact h
 simp
theorem nR (s:Sv) (n:Nt):(s.goes n).Bc.length≤s.Bc.length+1∧(s.goes n).entries.length≤s.entries.length+1:=by
 have hb:(vR s.Bc n.entry.slot).length≤s.Bc.length:=Nk _ _
 have hp:=K7 s.Bc n.Eh
 have hi:=LO s.entries n.entry.slot
 unfold Sv.goes
 split
 · obtain⟨h1,h2⟩:=cW s n.b
   rw[h1,h2];omega
 split
 · split
   · omega
   obtain⟨h1,h2⟩:=cW ({ s with Bc:=Jy s.Bc n.Eh }:Sv) n.Eh.b
   rw[h1,h2];exact⟨hp,by show s.entries.length≤_;omega⟩
 split
 · split
   · simp only[Ae,List.length_singleton];omega
   omega
 split
 · omega
 exact⟨by show(vR s.Bc n.entry.slot).length≤_;omega,by show(rM s.entries n.entry.slot).length≤_;omega⟩
theorem E6 (h5:n.kind≠5) (h:n.kind < 1∨4 < n.kind∨n.group < 0∨8≤n.group):b.into n=none:=by unfold Bo.into;rw[if_neg h5,if_pos h]
theorem I9 (h5:n.kind≠5) (hs:b.groups[n.group.toNat]? =some s) (hc:chk (s.goes n)=false):b.into n=none:=by
 unfold Bo.into
 rw[if_neg h5,hs]
 split
 · rfl
 simp[hc]
theorem nP (h5:n.kind≠5) (h:¬(n.kind < 1∨4 < n.kind∨n.group < 0∨8≤n.group)) (hs:b.groups[n.group.toNat]? =some s) (hc:chk (s.goes n)=true):b.into n=some { b with groups:=b.groups.set n.group.toNat (s.goes n) }:=by
 unfold Bo.into
 rw[if_neg h5,if_neg h,hs]
 simp[hc]
theorem vL (h5:n.kind=5) (h:mH n.right):b.into n=some { b with rights:=Hf b.rights n.right,last:=uS b.last n.client n.seq }:=by unfold Bo.into;rw[if_pos h5,if_pos h]
theorem bO (h5:n.kind=5) (h:¬mH n.right):b.into n=none:=by unfold Bo.into;rw[if_pos h5,if_neg h]
theorem oB (h:aL s):s.Bc.length≤16:=by
 have:=IK h.v (by omega)
 omega
theorem pY (h:aL s):s.entries.length≤1099511627776:=by
 have h1:=h.n
 have h2:=h.i.1
 omega
theorem AK {b:Bo}:∀ {l:List Nt} {n:Nt},vE b (l++[n])=(vE b l).bind fun b'=>b'.into n
 | [],n=>by
  show(match b.into n with | some b'=>vE b' [] | none=>none)=b.into n
  cases b.into n <;>rfl
 | m::l,n=>by
  show(match b.into m with | some b'=>vE b' (l++[n]) | none=>none)=(match b.into m with | some b'=>vE b' l | none=>none).bind fun b'=>b'.into n
  cases h:b.into m with
  | none=>rfl
  | some b'=>exact AK (b:=b') (l:=l)
theorem qF {b':Bo} {l:List Nt} {i:Nat} (h:vE b (l.take i)=some b') (hn:l[i]? =some n):vE b (l.take (i+1))=b'.into n:=by
 rw[yM hn,AK,h];rfl
theorem kV {b:Bo} {l:List Nt} {i:Nat} (h:vE b (l.take i)=none):vE b l=none:=by
 rw[← Fg i l]
 generalize l.take i=x at h
 generalize l.drop i=y
 induction x generalizing b with
 | nil=>cases h
 | cons m x ih=>
  show(match b.into m with | some b'=>vE b' (x++y) | none=>none)=none
  change (match b.into m with | some b'=>vE b' x | none=>none)=none at h
  cases hm:b.into m with
  | none=>rfl
  | some b'=>rw[hm]at h;exact ih h
def Bo.zero :Bo:=⟨[],[],[]⟩
def Rep (l:List Nt) (b:Bo) (e:Int):Prop:=(vE Bo.empty l=some b∧e=0∧rE b l.length)∨(vE Bo.empty l=none∧b=Bo.zero∧e=21)
theorem Qq.zero (w:World) (ok:Nat→Prop):Qq w ok [Dn,Dn,Dn] Bo.zero:=⟨none,0,none,0,none,0,rfl,Sl.none _ _ _ _,Sl.none _ _ _ _,Sl.none _ _ _ _⟩
theorem eV {b b':Bo} {l:List Nt} (i:Nat) (h:vE b l=some b'):∃ c,vE b (l.take i)=some c:=by
 cases hc:vE b (l.take i)with
 | some c=>exact⟨c,rfl⟩
 | none=>rw[kV hc]at h;cases h
theorem rE.fews {N:Nat} (h:rE b N):∀ x∈b.groups,x.Bc.length≤1000000000000000000∧x.entries.length≤1000000000000000000:=fun x hx=>by
 have hc:=(tD x).1 (h.chk x hx)
 have h1:=oB hc
 have h2:=pY hc
 exact⟨by omega,by omega⟩
end
section
variable {P:Program} {l:List Value} {w:World} {ty t:TypeId} {x:Operand}
theorem yK {f off:Nat} {ft:TypeId} (h:yH P t f=some (off,ft)) {a:Addr} (hx:ev l x=some (.pointer (some a))):Ex P l (.fieldAddr t x f) ty w (.value (.pointer (some (a.add off)))) w:=fun _ _ _ _=>by
 unfold yH at h
 split at h
 · rename_i fs hu
   split at h
   · rename_i fd hfd
     split at h
     · rename_i i hi
       split at h
       · cases h
       rename_i hsz
       simp only[Option.some.injEq,Prod.mk.injEq]at h
       obtain⟨rfl,rfl⟩:=h
       simp[execOp,zW hx,Instr.fieldAt,run_underlying hu,hfd,Instr.sureAddr,fieldPlace,sizeOf,typeInfo,hi,hsz]
     cases h
   cases h
 cases h
theorem aV {f off k:Nat} {ft:TypeId} (h:yH P t f=some (off,ft)) {a:Addr} (hx:ev l x=some (.pointer (some (a.add k)))):Ex P l (.fieldAddr t x f) ty w (.value (.pointer (some (a.add (k+off))))) w:=by
 have:=yK (ty:=ty) (w:=w) h hx
 rwa [tW]at this
end
def awN :Nt:=⟨1,1,⟨2,1⟩,⟨0,⟨0,0⟩,[]⟩,⟨0,[]⟩,⟨0,[],0,0⟩,0,0⟩
def awS :Sv:=⟨⟨2,1⟩,[],0,[],[]⟩
def awB :Bo:={ Bo.empty with groups:=Bo.empty.groups.set 1 awS }
theorem Q5 :vE Bo.empty [awN]=some awB:=by
 have h1:Sv.none.goes awN=awS:=rfl
 have h2:chk awS=true:=rfl
 have h3:Bo.empty.into awN=some awB:=by
  unfold Bo.into
  rw[if_neg (by decide),if_neg (by decide)]
  show(match some Sv.none with | some s=>if chk (s.goes awN)=true then some { Bo.empty with groups:=Bo.empty.groups.set 1 (s.goes awN) } else none | none=>none)=_
  simp only[h1,h2,if_true]
  rfl
 unfold vE
 rw[h3]
 rfl
section more
variable {P:Program} {ds:List Deferred} {Q:vQ} {K:List Value→World→Prop} {all os:List Oper} {l:List Value} {w0 w w':World} {S S':List Nat} {es es':List Ent} {ty t:TypeId} {pos:String} {af:Array Edge} {d:Tmp} {v:Value} {op:Op}
 {zs cs:List Value} {sz bytes:Nat} {agg:Bool}
end more
@[reducible] def rc (A:Option Addr) (b:List UInt8) (c i e:Nat):List Value:=[.slice A b.length c,.int .i64 (i:Int),.int .i64 (e:Int)]
structure Rdr (w:World) (gr:Nat) (A:Option Addr) (c:Nat) (b:List UInt8) (i e:Nat):Prop where
 row:w.heap[gr]? =some (.cells (rc A b c i e).toArray 219 (0,0))
 rd:Rd w A b.length 1 (u8s b)
 apart:∀ a,A=some a→a.block≠gr
 le:i≤b.length
 cap:b.length≤c
 len:b.length≤211106232532900
section rdr
variable {w w':World} {gr:Nat} {A:Option Addr} {c:Nat} {b:List UInt8} {i e:Nat}
end rdr
def mO :List UInt8→Bool×Nat×Nat
 | []=>(false,0,20)
 | x::_=>if 1 < x.toNat then(false,0,21) else(decide (x.toNat=1),1,0)
def vI (b:List UInt8) (most:Int):List UInt8×Nat×Nat:=
 if(yB b most).2.2≠0 then([],0,(yB b most).2.2)
 else if b.length < (yB b most).2.1+(yB b most).1 then([],0,20)
 else((b.drop (yB b most).2.1).take (yB b most).1,(yB b most).2.1+(yB b most).1,0)
theorem fC (b:List UInt8) (most:Int):(yB b most).1 < 2^64∧(yB b most).2.1≤b.length∧(yB b most).2.1≤10∧
 ((yB b most).2.2=0∨(yB b most).2.2=20∨(yB b most).2.2=21∨(yB b most).2.2=22)∧((yB b most).2.2≠0→(yB b most).1=0∧(yB b most).2.1=0)∧
 ((yB b most).2.2=0→(xQ b).2.2=0∧(yB b most).1=(xQ b).1∧(yB b most).2.1=(xQ b).2.1∧((xQ b).1:Int)≤max most 0):=by
 have h:=pO b
 by_cases h1:(xQ b).2.2=0
 · by_cases h2:max most 0 < ((xQ b).1:Int)
   · rw[kD h1 h2];simp
   rw[oL h1 h2];exact⟨h.1,h.2.1,h.2.2.1,.inl rfl,fun h=>absurd rfl h,fun _=>⟨h1,rfl,rfl,by omega⟩⟩
 rw[kE h1]
 simp only
 exact⟨by omega,by omega,by omega,by have:=h.2.2.2.1;omega,fun _=>by simp,fun h=>absurd h h1⟩
def yO (b:List UInt8) (i e:Nat):Nat×Nat×Nat:=if e=0 then((xQ (b.drop i)).1,i+(xQ (b.drop i)).2.1,(xQ (b.drop i)).2.2) else(0,i,e)
def wK (b:List UInt8) (most:Int) (i e:Nat):Nat×Nat×Nat:=if e=0 then((yB (b.drop i) most).1,i+(yB (b.drop i) most).2.1,(yB (b.drop i) most).2.2) else(0,i,e)
def sG (b:List UInt8) (i e:Nat):Bool×Nat×Nat:=if e=0 then((mO (b.drop i)).1,i+(mO (b.drop i)).2.1,(mO (b.drop i)).2.2) else(false,i,e)
def yG (b:List UInt8) (most:Int) (i e:Nat):List UInt8×Nat×Nat:=if e=0 then((vI (b.drop i) most).1,i+(vI (b.drop i) most).2.1,(vI (b.drop i) most).2.2) else([],i,e)
theorem LV (b:List UInt8):(mO b).2.1≤b.length∧(mO b).2.2 < 100∧((mO b).2.2≠0→(mO b).2.1=0):=by
 cases b with
 | nil=>simp[mO]
 | cons x t=>by_cases h:1 < x.toNat <;>simp[mO,h]
theorem AF (b:List UInt8) (most:Int):(vI b most).2.1≤b.length∧(vI b most).2.2 < 100∧((vI b most).2.2≠0→(vI b most).2.1=0):=by
 have h:=fC b most
 unfold vI
 split
 · simp;omega
 split
 · simp
 simp;omega
def unz (v:Nat):Int:=if v % 2=1 then -((v / 2:Nat):Int) - 1 else((v / 2:Nat):Int)
theorem shr1 (v:Nat):((v:Int)).fdiv (2^(min (1:Int).toNat IntKind.u64.bits))=((v / 2:Nat):Int):=qZ v 1 64
theorem L2 (m:Nat) (h:m < 2^63):bits .xor .i64 (-1) (m:Int)=-(m:Int) - 1:=by
 simp only[bits]
 have e2:BitVec.ofInt 64 (-1)=BitVec.allOnes 64:=by decide
 show IntKind.i64.wrap ((BitVec.ofInt 64 (-1)^^^BitVec.ofInt 64 (m:Int)).toNat:Int)=_
 rw[BitVec.ofInt_natCast,e2,BitVec.allOnes_xor,BitVec.toNat_not,BitVec.toNat_ofNat,Il (by omega),IntKind.wrap_i64]
 omega
theorem mF (b:List UInt8) (i e:Nat):(yO b i e).1 < 2^64:=by
 unfold yO
 split
 · exact(pO _).1
 simp
def VW (w0 w':World) (r:Value) (b:List UInt8):Prop:=
 ∃ gr g cap sp,r=.pointer (some ⟨gr,0,none⟩)∧b.length≤cap∧cap*1≤(u8s b++sp).length∧(g=none→cap=0)∧Hp w0 w' [] [(some gr,219,rc (hd g) b cap 0 0),(g,5,u8s b++sp)]
theorem CB {w0 w:World} {S:List Nat} {es:List Ent} {j k gr c i e:Nat} {g:Option Nat} {b:List UInt8} {sp:List Value} (H:Hp w0 w S es) (h1:es[j]? =some (some gr,219,rc (hd g) b c i e)) (h2:es[k]? =some (g,5,u8s b++sp)) (hjk:j≠k)
 (hc:b.length≤c) (hb:b.length≤211106232532900) (hi:i≤b.length):Rdr w gr (hd g) c b i e:=by
 refine⟨H.at h1,H.rd h2 (yY b) (by decide),?_,hi,hc,hb⟩
 intro a ha
 cases g with
 | none=>simp[hd]at ha
 | some x=>
  simp only[hd,Ig,Option.some.injEq]at ha
  subst ha
  intro h
  simp only at h
  subst h
  exact hjk (H.apart j k _ _ x h1 h2 Y Y)
theorem SY {P:Program} {ds:List Deferred} {Q:vQ} {K:List Value→World→Prop} {all os:List Oper} {l:List Value} {w:World} {op:Op} {ty:TypeId} {pos:String} {af:Array Edge} {d:Tmp}
 {f:FuncId} {args:Array Value} {b:List UInt8} (hx:Ex P l op ty w (.enter f args) w) (hc:zP P f args w fun r w'=>VW w w' r b)
 (h:∀ w' gr g cap sp,b.length≤cap→cap*1≤(u8s b++sp).length→(g=none→cap=0)→Hp w w' [] [(some gr,219,rc (hd g) b cap 0 0),(g,5,u8s b++sp)]→Ops P ds all K Q os (l.set d (.pointer (some ⟨gr,0,none⟩))) w'):
 Ops P ds all K Q (⟨some d,op,ty,pos,af,none⟩::os) l w:=
 tG hx hc fun r w' ⟨gr,g,cap,sp,h1,h2,h3,h4,h5⟩=>by rw[h1];exact h w' gr g cap sp h2 h3 h4 h5
end Go.Proofs.YtjoeklkmnfaabaaGreat
namespace Go.Proofs.YtjoeklkmnfaabaaGreat
open Go Go.RowKit
set_option linter.unusedVariables false
set_option linter.unusedSimpArgs false
attribute [local irreducible] yW Ops zP Cd
set_option maxRecDepth 100000
set_option maxHeartbeats 4000000
theorem pl219 :wY Tryz.prog 219=some [(0,1),(1,1),(2,1)]:=by kernel_rfl
theorem OB (gv:Nat) (w0:World) (hg:w0.heap[gv]? =some (.cells [.int .u64 0].toArray 118 (0,0))) (A:Option Addr) (b:List UInt8) (c:Nat) (hr:Rd w0 A b.length 1 (u8s b)) (hb:b.length≤211106232532992):Aj 205 #[Ac A b.length c,Ah gv] w0 (fun r w'=>r=.tuple #[Aa ((xQ b).2.1:Int),Aa ((xQ b).2.2:Int)]∧Hp w0 w' [gv] [(some gv,118,[.int .u64 ((xQ b).1:Int)])]):=by
 refine zG Tryz.func205 Tryz.ntmps205 Y<|cR e13 ?_
 have H:=Hp.old hg
 refine Rq<|Xa Y<|Xa Y<|Xr e13<|Rq<|Xm Y<|wR (EC U5 Y) (bG A b c _ hr hb)<|Xm Y<|Xe Y Y<|Ag e13<|Xe Y Y<|Xe Y Y<|OW nG H 0 Y Y Y Y (by first|exact NL Y|simp[zJ]) Y<|fun w1 H1=>Xa Y<|Xa Y<|Xr e13<|Rq<|Xm Y<|Xm Y<|Xa Y<|Xa Y<|Xr e13<|J5<|Kz Y Y Y<|⟨Y,H1⟩
theorem KV (gv:Nat) (w0:World) (hg:w0.heap[gv]? =some (.cells [Dn].toArray 73 (0,0))) (gm:Nat) (most:Int) (hgm:w0.heap[gm]? =some (.cells [Aa most].toArray 3 (0,0))) (hlo:-9223372036854775808≤most) (hhi:most≤9223372036854775807) (A:Option Addr) (b:List UInt8) (c:Nat) (hr:Rd w0 A b.length 1 (u8s b)) (hb:b.length≤211106232532992) (hbc:b.length≤c):Aj 207 #[Ac A b.length c,Ah gm,Ah gv] w0 (fun r w'=>r=.tuple #[Aa ((vI b most).2.1:Int),Aa ((vI b most).2.2:Int)]∧∃ g cap sp,(vI b most).1.length≤cap∧cap*1≤(u8s (vI b most).1++sp).length∧(g=none→cap=0)∧Hp w0 w' [gv] [(some gv,73,[.slice (hd g) (vI b most).1.length cap]),(g,5,u8s (vI b most).1++sp)]):=by
 have hbd:=fC b most
 refine zG Tryz.func207 Tryz.ntmps207 Y<|cR e38 ?_
 have H:=Hp.old hg
 refine Rq<|Xa Y<|Xa Y<|Xr e38<|Rq<|Xm Y<|OV (EL ty3 Y (show w0.cell? ⟨gm,0,none⟩=some (Aa most) by simp[World.cell?,hgm]))<|wR (EC gf208 Y) (FQ A b c most _ hr hb hlo hhi)<|Xm Y<|Ag e38<|Xe Y Y<|Xe Y Y<|Xe Y Y<|Xa Y<|Ag e38<|Xa Y<|Xa Y<|Xr e38<|J1<|Rq<|Xm Y<|OT (yR Y Y) (fun hp17=>?_) (fun hp17=>?_)
 have ht:vI b most=([],0,(yB b most).2.2):=if_pos (by omega)
 refine Xr e38<|J3 Y<|Rq<|Xm Y<|Xa Y<|Xa Y<|Xr e38<|J5<|Kz Y Y Y ?_
 rw[ht]
 exact⟨Y,none,0,[],Ak _,by simp,fun _=>Y,H.nil 5⟩
 have h0:(yB b most).2.2=0:=by omega
 refine Xr e38<|J4 Y<|J6<|J1<|Rq<|Xm Y<|OV (ES Gz Y)<|Xm Y<|OV (tA Y Y (Ad _ (by omega)))<|Ag e38<|Xm Y<|OT (zQ Y Y) (fun hp24=>?_) (fun hp24=>?_)
 have ht:vI b most=([],0,20):=(if_neg (by omega)).trans (if_pos (by omega))
 refine Xr e38<|J3 Y<|Rq<|Xa Y<|Xa Y<|Xr e38<|J5<|Kz Y Y Y ?_
 rw[ht]
 exact⟨Y,none,0,[],Ak _,by simp,fun _=>Y,H.nil 5⟩
 have ht:vI b most=((b.drop (yB b most).2.1).take (yB b most).1,(yB b most).2.1+(yB b most).1,0):=(if_neg (by omega)).trans (if_neg (by omega))
 have hle:(yB b most).2.1+(yB b most).1≤b.length:=by omega
 have hrm:=hr.mid hle
 have hlm:((b.drop (yB b most).2.1).take (yB b most).1).length=(yB b most).1:=by rw[Aw,Bl];omega
 have e1:(((yB b most).2.1:Nat):Int)+(((yB b most).1:Nat):Int)=(((yB b most).2.1+(yB b most).1:Nat):Int):=by omega
 refine Xr e38<|J4 Y<|J6<|Rq<|Xm Y<|Xm Y<|Xm Y<|Xm Y<|Ag e38<|OV (zL Y Y ((Ad _ (by omega)).trans e1))<|Xm Y<|Xm Y<|OV (zL Y Y ((Ad _ (by omega)).trans e1))<|Ag e38<|OV (aD Gz ty5 (lo:=(yB b most).2.1) (hi:=(yB b most).2.1+(yB b most).1) (mx:=(yB b most).2.1+(yB b most).1) (n:=((b.drop (yB b most).2.1).take (yB b most).1).length) (m:=((b.drop (yB b most).2.1).take (yB b most).1).length) Y Y Y Y (by omega) (by omega) (by omega))<|yZ (EC jR Y) (vO _ _ _ _ hrm (by omega))<|fun w1 g1 c1 sp1 hm1 hc1 hg1 Hc=>have H1:=(H.call0 Hc);OW xO H1 0 Y Y Y Y (by first|exact NL Y|simp[zJ]) Y<|fun w2 H2=>Xr e38<|Rq<|Xm Y<|Xm Y<|OV (zL Y Y ((Ad _ (by omega)).trans e1))<|Xa Y<|Ag e38<|Xa Y<|Xr e38<|J5<|Kz Y Y Y ?_
 rw[ht]
 exact⟨Y,g1,c1,sp1,hm1,hc1,hg1,H2⟩
theorem AE (v:Value) (gr:Nat) (A:Option Addr) (c:Nat) (b:List UInt8) (i e:Nat) (w0:World) (hR:Rdr w0 gr A c b i e) (he:e≠0):Aj 204 #[Ah gr,v] w0 (fun r w'=>r=.bool false∧w'=w0):=by
 refine zG Tryz.func204 Tryz.ntmps204 Y<|cR e54 ?_
 have H:=Hp.old hR.row
 have hle:=hR.le
 have hln:=hR.len
 have hcp:=hR.cap
 refine Rq<|Xa Y<|Xr e54<|J1<|Rq<|Xm Y<|Jw (yF Tn Y) (by simp)<|Xm Y<|Ag e54<|OY Y<|Xm Y<|OY Y<|Xc Y<|Ag e54<|OY Y<|Xf mP Y<|OY Y<|OV (EL pZ Y (H.cell (i:=0) Y Y))<|Ag e54<|OY Y<|Ui (yR Y Y) (by omega)<|Xu Y Y<|Xr e54<|J3 Y<|Rq<|Xa Y<|Xr e54<|J5<|Cm Y Y<|⟨Y,Y⟩
theorem DO (gr:Nat) (A:Option Addr) (c:Nat) (b:List UInt8) (i e:Nat) (w0:World) (hR:Rdr w0 gr A c b i e) (he:e=0) (fc:FuncId) (cap:List Value) (hf:yC Tryz.prog fc=true) (R:Nat→Nat→World→Prop) (hc:∀ w1,Hp w0 w1 [] []→Aj fc (Ac (wH A i b.length 1) (b.drop i).length (b.drop i).length::cap).toArray w1 (fun r w2=>∃ k f:Nat,r=.tuple #[Aa k,Aa f]∧R k f w2)) (hrow:∀ k f w2,R k f w2→w2.heap[gr]? =some (.cells (rc A b c i e).toArray 219 (0,0))) (hle2:∀ k f w2,R k f w2→i+k≤b.length∧f < 100) (hz:∀ k f w2,R k f w2→f≠0→k=0):Aj 204 #[Ah gr,.func (.func fc) #[] cap.toArray] w0 (fun r w'=>∃ k f w2,R k f w2∧r=.bool (decide (f=0))∧Hp w2 w' [gr] [(some gr,219,rc A b c (i+k) f)]):=by
 refine zG Tryz.func204 Tryz.ntmps204 Y<|cR e54 ?_
 have H:=Hp.old hR.row
 have hle:=hR.le
 have hln:=hR.len
 have hcp:=hR.cap
 refine Rq<|Xa Y<|Xr e54<|J1<|Rq<|Xm Y<|Jw (yF Tn Y) (by simp)<|Xm Y<|Ag e54<|OY Y<|Xm Y<|OY Y<|Xc Y<|Ag e54<|OY Y<|Xf mP Y<|OY Y<|OV (EL pZ Y (H.cell (i:=0) Y Y))<|Ag e54<|OY Y<|Jw (yR Y Y) (by omega)<|Xu Y Y<|Xr e54<|J4 Y<|J6<|J1<|R5 20 1 yE (by kernel_rfl) Y Y ?_
 rintro w1 hw1
 have H1:=Hp.drew H;rw[← hw1]at H1
 refine SV (zI Y)<|SV (zI Y)<|SV (yJ Y)<|SV (EF dT Y)<|wX e54<|SV (EL xO Y (H1.cell (i:=0) Y Y))<|SV (zI Y)<|SV (yJ Y)<|SV (EF gT Y)<|wX e54<|SV (EL ty3 Y (H1.cell (i:=0) Y Y))<|SV (zI Y)<|SV (yJ Y)<|SV (EF dT Y)<|wX e54<|SV (EL xO Y (H1.cell (i:=0) Y Y))<|SV (ES Gz Y)<|SV (zI Y)<|SV (yJ Y)<|wX e54<|SV (EF dT Y)<|SV (EL xO Y (H1.cell (i:=0) Y Y))<|SV (ES Gz Y)<|SV (aD Gz ty5 (lo:=i) (hi:=b.length) (mx:=b.length) (n:=(b.drop i).length) (m:=(b.drop i).length) Y Y Y Y (by omega) Bl Bl)<|xJ<|aR (xL hf Y Y) (hc _ (by rw[hw1];exact(Hp.refl w0).drew))<|fun k f w2 hk=>have H2:=Hp.old (hrow k f _ hk);have hk1:=hle2 k f _ hk;have hk2:=hz k f _ hk;Ag e54<|Xm Y<|OE<|SV (xF Y Y)<|SV (xF Y Y)<|SV (zO Y)<|wX e54<|SV (zO Y)<|xJ<|cR e54 ?_
 refine J1<|Rq<|Xm Y<|OT (yR Y Y) (fun hp41=>?_) (fun hp41=>?_)
 refine Xr e54<|J3 Y<|Rq<|Xm Y<|Xm Y<|Xc Y<|Xf mP Y<|Ag e54<|OW pZ H2 0 Y Y Y Y (by first|exact NL Y|simp[zJ]) Y<|fun w3 H3=>Xr e54<|Rq<|Xa Y<|Xr e54<|J5<|Cm Y Y<|⟨k,f,_,hk,by rw[decide_eq_false (by omega)],?_⟩
 have h0:=hk2 (by omega)
 subst h0
 exact H3
 have h5:f=0:=by omega
 refine Xr e54<|J4 Y<|J6<|Rq<|Xm Y<|Xc Y<|Xf gT Y<|OV (EL ty3 Y (H2.cell (i:=0) Y Y))<|Ag e54<|Xm Y<|OV (zL Y Y ((Ad _ (by omega)).trans (show((i:Int)+(k:Int))=((i+k:Nat):Int) by omega)))<|Xc Y<|Xf gT Y<|Ag e54<|OW ty3 H2 0 Y Y Y Y (by first|exact NL Y|simp[zJ]) Y<|fun w3 H3=>Xr e54<|Rq<|Xa Y<|Xr e54<|J5<|Cm Y Y<|⟨k,f,_,hk,by rw[decide_eq_true (by omega)],?_⟩
 subst h5
 subst he
 exact H3
theorem S5 (A:Option Addr) (b:List UInt8) (c:Nat) (w0:World) (hr:Rd w0 A b.length 1 (u8s b)) (hb:b.length≤211106232532900):Aj 104 #[Ac A b.length c] w0 (fun r w'=>VW w0 w' r b):=by
 refine zG Tryz.func104 Tryz.ntmps104 Y<|cR e7 ?_
 have H:=Hp.refl w0
 refine Rq<|Xa Y<|Xr e7<|Rq<|Xm Y<|yZ (EC jR Y) (vO A b c _ (hr.to0 H) (by omega))<|fun w1 g1 c1 sp1 hm1 hc1 hg1 Hc=>have H1:=H.call0 Hc;OV (EB ty219 pl219 Y Y)<|yA Y Y H1<|fun w2 g2 H2 hg2=>Ag e7<|Xa Y<|Xr e7<|J5<|Cm Y Y<|⟨g2,g1,c1,sp1,Y,hm1,hc1,hg1,H2.pick [1,0] (by decide)⟩
theorem WD (gr:Nat) (A:Option Addr) (c:Nat) (b:List UInt8) (i e:Nat) (w0:World) (hR:Rdr w0 gr A c b i e) (he:e=0):Aj 182 #[Ah gr] w0 (fun r w'=>r=.int .u64 ((yO b i e).1:Int)∧Hp w0 w' [gr] [(some gr,219,rc A b c (yO b i e).2.1 (yO b i e).2.2)]):=by
 refine zG Tryz.func182 Tryz.ntmps182 Y<|cR e9 ?_
 have H:=Hp.old hR.row
 have hle:=hR.le
 have hln:=hR.len
 have hcp:=hR.cap
 refine Rq<|Xa Y<|Xr e9<|Rq<|OA nG H<|fun w1 g1 H1 hg1=>OW nG H1 1 Y Y Y Y (by first|exact NL Y|simp[zJ]) Y<|fun w2 H2=>Xr e9<|J1<|Rq<|Xm Y<|OV (wL Y Y) ?_
 have hR1:Rdr w2 gr A c b i e:=⟨H2.at (i:=0) rfl,hR.rd.to H2 (by intro a ha;simp;exact hR.apart a ha),hR.apart,hR.le,hR.cap,hR.len⟩
 have hgv:=H2.at (i:=1) rfl
 have hne:gr≠g1:=fun h=>absurd (H2.apart 0 1 _ _ gr rfl rfl rfl (by rw[h])) (by decide)
 have hbd:=pO (b.drop i)
 have hdl:(b.drop i).length=b.length - i:=Bl
 refine AY (EC JD rfl) (DO gr A c b i e _ hR1 he 205 [Ah g1] gf205 (fun k f wz=>k=(xQ (b.drop i)).2.1∧f=(xQ (b.drop i)).2.2∧Hp w2 wz [g1] [(some g1,118,[.int .u64 ((xQ (b.drop i)).1:Int)])]) (fun w1x H1x=>(OB g1 w1x (H1x.keep hgv (by simp)) _ (b.drop i) _ ((hR1.rd.to0 H1x).tail hle) (by omega)).mono fun r w2 hh=>⟨_,_,hh.1,rfl,rfl,H1x.then hh.2⟩) (fun k f w2 hh=>hh.2.2.keep hR1.row (by simp[hne])) (fun k f w2 hh=>by obtain⟨h1,h2,_⟩:=hh;omega) (fun k f w2 hh h0=>by obtain⟨h1,h2,_⟩:=hh;omega))<|fun k f w2x w3 hk hm=>?_
 obtain⟨hk1,hk2,hk3⟩:=hk
 have H3:=((H2.call1 (i:=1) rfl hk3).call1 (i:=0) rfl hm).pick [3,2] (by decide)
 refine Xn Y<|Xr e9<|wU Y (fun hb7=>?_) (fun hb7=>?_)
 have hf0:f≠0:=by simpa using hb7
 have hz0:(xQ (b.drop i)).1=0:=by omega
 refine Rq<|Xa Y<|Xr e9<|J5<|Cm Y Y ?_
 have hs:yO b i e=((xQ (b.drop i)).1,i+(xQ (b.drop i)).2.1,(xQ (b.drop i)).2.2):=if_pos he
 rw[hs]
 rw[hk1,hk2]at H3
 rw[hz0]
 exact⟨Y,H3.pick [0] (by decide)⟩
 refine J6<|Rq<|OV (EL nG Y (H3.cell (i:=1) Y Y))<|Xa Y<|Xr e9<|J5<|Cm Y Y ?_
 have hs:yO b i e=((xQ (b.drop i)).1,i+(xQ (b.drop i)).2.1,(xQ (b.drop i)).2.2):=if_pos he
 rw[hs]
 rw[hk1,hk2]at H3
 exact⟨Y,H3.pick [0] (by decide)⟩
theorem S0 (gr:Nat) (A:Option Addr) (c:Nat) (b:List UInt8) (i e:Nat) (w0:World) (hR:Rdr w0 gr A c b i e) (he:e≠0):Aj 182 #[Ah gr] w0 (fun r w'=>r=.int .u64 ((yO b i e).1:Int)∧Hp w0 w' [gr] [(some gr,219,rc A b c (yO b i e).2.1 (yO b i e).2.2)]):=by
 refine zG Tryz.func182 Tryz.ntmps182 Y<|cR e9 ?_
 have H:=Hp.old hR.row
 have hle:=hR.le
 have hln:=hR.len
 have hcp:=hR.cap
 refine Rq<|Xa Y<|Xr e9<|Rq<|OA nG H<|fun w1 g1 H1 hg1=>OW nG H1 1 Y Y Y Y (by first|exact NL Y|simp[zJ]) Y<|fun w2 H2=>Xr e9<|J1<|Rq<|Xm Y<|OV (wL Y Y) ?_
 have hR1:Rdr w2 gr A c b i e:=⟨H2.at (i:=0) rfl,hR.rd.to H2 (by intro a ha;simp;exact hR.apart a ha),hR.apart,hR.le,hR.cap,hR.len⟩
 refine wR (EC JD Y) (AE _ gr A c b i e _ hR1 he)<|Xn Y<|Xr e9<|J3 Y<|Rq<|Xa Y<|Xr e9<|J5<|Cm Y Y ?_
 have hs:yO b i e=(0,i,e):=if_neg he
 rw[hs]
 exact⟨Y,H2.pick [0] (by decide)⟩
theorem num_rd (gr:Nat) (A:Option Addr) (c:Nat) (b:List UInt8) (i e:Nat) (w0:World) (hR:Rdr w0 gr A c b i e):Aj 182 #[Ah gr] w0 (fun r w'=>r=.int .u64 ((yO b i e).1:Int)∧Hp w0 w' [gr] [(some gr,219,rc A b c (yO b i e).2.1 (yO b i e).2.2)]):=by
 by_cases he:e=0
 exact WD gr A c b i e w0 hR he
 exact S0 gr A c b i e w0 hR he
theorem RZ (gr:Nat) (A:Option Addr) (c:Nat) (b:List UInt8) (i e:Nat) (w0:World) (hR:Rdr w0 gr A c b i e) (most:Int) (hlo:-9223372036854775808≤most) (hhi:most≤9223372036854775807) (he:e=0):Aj 183 #[Ah gr,Aa most] w0 (fun r w'=>∃ g cap sp,r=.slice (hd g) (yG b most i e).1.length cap∧(yG b most i e).1.length≤cap∧cap*1≤(u8s (yG b most i e).1++sp).length∧(g=none→cap=0)∧Hp w0 w' [gr] [(some gr,219,rc A b c (yG b most i e).2.1 (yG b most i e).2.2),(g,5,u8s (yG b most i e).1++sp)]):=by
 refine zG Tryz.func183 Tryz.ntmps183 Y<|cR e10 ?_
 have H:=Hp.old hR.row
 have hle:=hR.le
 have hln:=hR.len
 have hcp:=hR.cap
 refine Rq<|yA Y Y H<|fun w1 g1 H1 hg1=>Xa Y<|Xr e10<|Rq<|OA xO H1<|fun w2 g2 H2 hg2=>Xr e10<|Rq<|Xm Y<|OV (wL Y Y) ?_
 have hR1:Rdr w2 gr A c b i e:=⟨H2.at (i:=0) rfl,hR.rd.to H2 (by intro a ha;simp;exact hR.apart a ha),hR.apart,hR.le,hR.cap,hR.len⟩
 have hgm:=H2.at (i:=1) rfl
 have hgv:=H2.at (i:=2) rfl
 have hne:gr≠g2:=fun h=>absurd (H2.apart 0 2 _ _ gr rfl rfl rfl (by rw[h])) (by decide)
 have hbd:=AF (b.drop i) most
 have hdl:(b.drop i).length=b.length - i:=Bl
 refine AY (EC JD rfl) (DO gr A c b i e _ hR1 he 207 [Ah g1,Ah g2] gf207 (fun k f wz=>k=(vI (b.drop i) most).2.1∧f=(vI (b.drop i) most).2.2∧∃ g cap sp,(vI (b.drop i) most).1.length≤cap∧cap*1≤(u8s (vI (b.drop i) most).1++sp).length∧(g=none→cap=0)∧Hp w2 wz [g2] [(some g2,73,[.slice (hd g) (vI (b.drop i) most).1.length cap]),(g,5,u8s (vI (b.drop i) most).1++sp)]) (fun w1x H1x=>(KV g2 w1x (H1x.keep hgv (by simp)) g1 most (H1x.keep hgm (by simp)) hlo hhi _ (b.drop i) _ ((hR1.rd.to0 H1x).tail hle) (by omega) (Ak _)).mono fun r w2 hh=>(let ⟨h1,g,cap,sp,h2,h3,h4,h5⟩:=hh;⟨_,_,h1,rfl,rfl,g,cap,sp,h2,h3,h4,H1x.then h5⟩)) (fun k f w2 hh=>(let ⟨_,_,g,cap,sp,h2,h3,h4,h5⟩:=hh;h5.keep hR1.row (by simp[hne]))) (fun k f w2 hh=>by obtain⟨h1,h2,_⟩:=hh;omega) (fun k f w2 hh h0=>by obtain⟨h1,h2,_⟩:=hh;omega))<|fun k f w2x w3 hk hm=>?_
 obtain⟨hk1,hk2,g,cap,sp,hk4,hk5,hk6,hk3⟩:=hk
 have H3:=((H2.call1 (i:=2) rfl hk3).call1 (i:=0) rfl hm).pick [5,1,3,4] (by decide)
 refine Xr e10<|Rq<|OV (EL xO Y (H3.cell (i:=2) Y Y))<|Xa Y<|Xr e10<|J5<|Cm Y Y ?_
 have hs:yG b most i e=((vI (b.drop i) most).1,i+(vI (b.drop i) most).2.1,(vI (b.drop i) most).2.2):=if_pos he
 rw[hs]
 rw[hk1,hk2]at H3
 exact⟨g,cap,sp,Y,hk4,hk5,hk6,H3.pick [0,3] (by decide)⟩
theorem M4 (gr:Nat) (A:Option Addr) (c:Nat) (b:List UInt8) (i e:Nat) (w0:World) (hR:Rdr w0 gr A c b i e) (most:Int) (hlo:-9223372036854775808≤most) (hhi:most≤9223372036854775807) (he:e≠0):Aj 183 #[Ah gr,Aa most] w0 (fun r w'=>∃ g cap sp,r=.slice (hd g) (yG b most i e).1.length cap∧(yG b most i e).1.length≤cap∧cap*1≤(u8s (yG b most i e).1++sp).length∧(g=none→cap=0)∧Hp w0 w' [gr] [(some gr,219,rc A b c (yG b most i e).2.1 (yG b most i e).2.2),(g,5,u8s (yG b most i e).1++sp)]):=by
 refine zG Tryz.func183 Tryz.ntmps183 Y<|cR e10 ?_
 have H:=Hp.old hR.row
 have hle:=hR.le
 have hln:=hR.len
 have hcp:=hR.cap
 refine Rq<|yA Y Y H<|fun w1 g1 H1 hg1=>Xa Y<|Xr e10<|Rq<|OA xO H1<|fun w2 g2 H2 hg2=>Xr e10<|Rq<|Xm Y<|OV (wL Y Y) ?_
 have hR1:Rdr w2 gr A c b i e:=⟨H2.at (i:=0) rfl,hR.rd.to H2 (by intro a ha;simp;exact hR.apart a ha),hR.apart,hR.le,hR.cap,hR.len⟩
 refine wR (EC JD Y) (AE _ gr A c b i e _ hR1 he)<|Xr e10<|Rq<|OV (EL xO Y (H2.cell (i:=2) Y Y))<|Xa Y<|Xr e10<|J5<|Cm Y Y ?_
 have hs:yG b most i e=([],i,e):=if_neg he
 rw[hs]
 exact⟨none,0,[],Y,Ak _,by simp,fun _=>Y,(H2.pick [0] (by decide)).nil 5⟩
theorem RY (gr:Nat) (A:Option Addr) (c:Nat) (b:List UInt8) (i e:Nat) (w0:World) (hR:Rdr w0 gr A c b i e) (most:Int) (hlo:-9223372036854775808≤most) (hhi:most≤9223372036854775807):Aj 183 #[Ah gr,Aa most] w0 (fun r w'=>∃ g cap sp,r=.slice (hd g) (yG b most i e).1.length cap∧(yG b most i e).1.length≤cap∧cap*1≤(u8s (yG b most i e).1++sp).length∧(g=none→cap=0)∧Hp w0 w' [gr] [(some gr,219,rc A b c (yG b most i e).2.1 (yG b most i e).2.2),(g,5,u8s (yG b most i e).1++sp)]):=by
 by_cases he:e=0
 exact RZ gr A c b i e w0 hR most hlo hhi he
 exact M4 gr A c b i e w0 hR most hlo hhi he
theorem WN (gr:Nat) (A:Option Addr) (c:Nat) (b:List UInt8) (i e:Nat) (w0:World) (hR:Rdr w0 gr A c b i e):Aj 149 #[Ah gr] w0 (fun r w'=>r=Aa (unz (yO b i e).1)∧Hp w0 w' [gr] [(some gr,219,rc A b c (yO b i e).2.1 (yO b i e).2.2)]):=by
 refine zG Tryz.func149 Tryz.ntmps149 Y<|cR e16<|Rq<|Xa Y<|Xr e16<|Rq<|Xm Y<|OC (EC gf182 Y) (num_rd gr A c b i e _ hR)<|fun w1 H1=>have hlt:=mF b i e;?_
 have hu:unz (yO b i e).1=if(yO b i e).1 % 2=1 then -(((yO b i e).1 / 2:Nat):Int) - 1 else(((yO b i e).1 / 2:Nat):Int):=rfl
 generalize hN:(yO b i e).1=N at hlt hu
 refine Xa Y<|Xr e16<|J1<|Rq<|Xm Y<|OV (C4 Y Y (and1 _ hlt))<|OT (xR Y Y) (fun hp8=>?_) (fun hp8=>?_)
 rw[if_pos (by omega)]at hu
 refine Xr e16<|J3 Y<|Rq<|Xm Y<|OV (pW Y Y (by omega) (shr1 _))<|OV (xN Tryz.underlying3 Lu Y (Ad _ (by omega)))<|OV (FM Y (L2 _ (by omega)))<|Ag e16<|Xa Y<|Xr e16<|J5<|Cm Y Y<|⟨?_,H1⟩
 rw[hu]
 rw[if_neg (by omega)]at hu
 refine Xr e16<|J4 Y<|J6<|Rq<|Xm Y<|OV (pW Y Y (by omega) (shr1 _))<|OV (xN Tryz.underlying3 Lu Y (Ad _ (by omega)))<|Xa Y<|Xr e16<|J5<|Cm Y Y<|⟨?_,H1⟩
 rw[hu]
theorem QE (gr:Nat) (A:Option Addr) (c:Nat) (b:List UInt8) (i e:Nat) (w0:World) (hR:Rdr w0 gr A c b i e):Aj 180 #[Ah gr] w0 (fun r w'=>r=.tuple #[Aa (e:Int),Aa ((if e=0 then 0 else i:Nat):Int)]∧Hp w0 w' [] []):=by
 refine zG Tryz.func180 Tryz.ntmps180 Y<|cR e19 ?_
 have H:=Hp.old hR.row
 have hle:=hR.le
 have hln:=hR.len
 have hcp:=hR.cap
 have Hz:=Hp.refl w0
 refine Rq<|Xa Y<|Xa Y<|Xr e19<|J1<|Rq<|Xm Y<|Jw (yF Tn Y) (by simp)<|Xr e19<|J4 Y<|J6<|J1<|Rq<|Xm Y<|Xc Y<|Xf mP Y<|OV (EL pZ Y (H.cell (i:=0) Y Y))<|Ag e19<|OT (xR Y Y) (fun hp10=>?_) (fun hp10=>?_)
 have he:e=0:=by omega
 refine Xr e19<|J3 Y<|Rq<|Xa Y<|Xa Y<|Xr e19<|J5<|Kz Y Y Y ?_
 rw[if_pos he]
 subst he
 exact⟨Y,Hp.refl _⟩
 have he:e≠0:=by omega
 refine Xr e19<|J4 Y<|J6<|J1<|vW yE (by kernel_rfl) ?_
 rintro w1 hw1
 have H1:=Hp.drew H;rw[← hw1]at H1
 refine SV (zI Y)<|SV (yJ Y)<|SV (EF mP Y)<|SV (EL pZ Y (H1.cell (i:=0) Y Y))<|wX e19<|SV (zI Y)<|SV (yJ Y)<|SV (EF gT Y)<|SV (EL ty3 Y (H1.cell (i:=0) Y Y))<|wX e19<|SV (zO Y)<|SV (zO Y)<|xJ<|cR e19<|J5<|Kz Y Y Y ?_
 rw[if_neg he]
 exact⟨Y,by rw[hw1];exact(Hp.refl w0).drew⟩
theorem XM (gr:Nat) (A:Option Addr) (c:Nat) (b:List UInt8) (i e:Nat) (w0:World) (hR:Rdr w0 gr A c b i e):Aj 105 #[Ah gr] w0 (fun r w'=>r=Aa ((if e=0∧i < b.length then 24 else e:Nat):Int)∧Hp w0 w' [] []):=by
 refine zG Tryz.func105 Tryz.ntmps105 Y<|cR e26 ?_
 have H:=Hp.old hR.row
 have hle:=hR.le
 have hln:=hR.len
 have hcp:=hR.cap
 have Hz:=Hp.refl w0
 refine Rq<|Xa Y<|Xr e26<|J1<|Rq<|Xm Y<|Jw (yF Tn Y) (by simp)<|Xr e26<|J4 Y<|J6<|J1<|J1<|vW yE (by kernel_rfl) ?_
 rintro w1 hw1
 have H1:=Hp.drew H;rw[← hw1]at H1
 refine SV (zI Y)<|SV (yJ Y)<|SV (EF mP Y)<|SV (EL pZ Y (H1.cell (i:=0) Y Y))<|wX e26<|vB (xR Y Y) (fun hp9=>?_) (fun hp9=>?_)
 refine SV (zI Y)<|yI Y<|SV (zI Y)<|wX e26<|yI Y<|SV (yJ Y)<|yI Y<|SV (EF gT Y)<|wX e26<|yI Y<|SV (EL ty3 Y (H1.cell (i:=0) Y Y))<|yI Y<|SV (zI Y)<|wX e26<|yI Y<|SV (yJ Y)<|yI Y<|SV (EF dT Y)<|wX e26<|yI Y<|SV (EL xO Y (H1.cell (i:=0) Y Y))<|yI Y<|SV (ES Gz Y)<|wX e26<|yI Y<|vB (zQ Y Y) (fun hp20=>?_) (fun hp20=>?_)
 refine SV (xG Y Y)<|xJ<|cR e26<|J3 Y<|Rq<|Xa Y<|Xr e26<|J5<|Cm Y Y ?_
 rw[if_pos (by omega)]
 exact⟨Y,by rw[hw1];exact(Hp.refl w0).drew⟩
 refine SV (xG Y Y) ?_
 have m1:=()
 rotate_left 1
 refine SV (zI Y)<|yU Y<|wX e26<|yU Y<|yU Y<|wX e26<|yU Y<|yU Y<|wX e26<|yU Y<|yU Y<|wX e26<|yU Y<|yU Y<|wX e26<|yU Y<|SV (xV Y Y) ?_
 have m1:=()
 rotate_left 1
 any_goals
  clear m1
  refine xJ<|cR e26<|J4 Y<|J6<|Rq<|Xm Y<|Xc Y<|Xf mP Y<|OV (EL pZ Y (H1.cell (i:=0) Y Y))<|Ag e26<|Xa Y<|Xr e26<|J5<|Cm Y Y ?_
  rw[if_neg (by omega)]
  exact⟨Y,by rw[hw1];exact(Hp.refl w0).drew⟩

end Go.Proofs.YtjoeklkmnfaabaaGreat
namespace Go.Proofs.YtjoeklkmnfaabaaGreat
open Go Go.RowKit
set_option linter.unusedVariables false
set_option linter.unusedSimpArgs false
theorem pow7 (i:Nat):2^(7*(i+1))=128*2^(7*i):=by rw[Nat.mul_add,Nat.pow_add];omega
theorem AV (v i:Nat):v % 128*2^(7*i)+v / 128*2^(7*(i+1))=v*2^(7*i):=by
 rw[pow7,← Nat.mul_assoc,← Dv]
 congr 1
 omega
theorem LH (t:List UInt8) (v:Nat):∀ (i w:Nat),v*2^(7*i) < 2^64→(0 < i→0 < v)→i≤9→sX (enc v++t) i w=(w+v*2^(7*i),i+(enc v).length,0):=by
 induction v using Nat.strongRecOn with
 | _ v ih=>
  intro i w hv h0 hi
  have h9:i=9→v≤1:=by
   rintro rfl
   have:(2:Nat)^(7*9)=9223372036854775808:=by decide
   rw[this]at hv
   have:(2:Nat)^64=18446744073709551616:=by decide
   omega
  by_cases h:v < 128
  · rw[enc_lt h]
    simp only[Jf,Gp,sX,u8n (show v < 256 by omega),Bj,Dq]
    rw[if_neg (by omega),if_neg (by omega),if_neg (by omega),Il h]
  have hc:(UInt8.ofNat (v % 128+128)).toNat=v % 128+128:=u8n (by omega)
  rw[aG (by omega)]
  simp only[Jf,sX,hc,Bj]
  have hle:v / 128*2^(7*(i+1))≤v*2^(7*i):=by have:=AV v i;omega
  rw[if_neg (by omega),if_pos (by omega),ih (v / 128) (by omega) (i+1) _ (by omega) (fun _=>by omega) (by omega)]
  have e1:(v % 128+128) % 128=v % 128:=by omega
  rw[e1,Fz w,AV,Fz,Kv 1]
theorem jD (v:Nat) (t:List UInt8) (hv:v < 2^64):xQ (enc v++t)=(v,(enc v).length,0):=by
 rw[EV,LH t v 0 0 (by simpa using hv) (by omega) (by omega)]
 simp
theorem GA (n:Int) (h1:-9223372036854775808≤n) (h2:n≤9223372036854775807):zig n < 2^64:=by
 unfold zig
 split <;>omega
theorem RX (n:Int):unz (zig n)=n:=by
 unfold zig unz
 split <;>split <;>omega
section app
variable {P:Program} {ds:List Deferred} {Q:vQ} {K:List Value→World→Prop} {all os:List Oper} {l:List Value} {w0 w w':World} {S S':List Nat} {es es':List Ent} {ty t:TypeId} {pos:String} {af:Array Edge} {d:Tmp} {v:Value} {op:Op}
 {zs cs:List Value} {agg:Bool} {x y:Operand}
end app
section rdw
variable {w w':World} {gr:Nat} {A:Option Addr} {c:Nat} {b:List UInt8} {i e:Nat}
end rdw
theorem tdivN (k:IntKind) (a b:Nat) (h:k.wrap ((a / b:Nat):Int)=((a / b:Nat):Int)):k.wrap (((a:Int)).tdiv (b:Int))=((a / b:Nat):Int):=h
theorem aX {b:List UInt8} {most:Int} {i e:Nat} (he:e≠0):wK b most i e=(0,i,e):=by unfold wK;rw[if_neg he]
theorem FT {b:List UInt8} {most:Int} {i:Nat} (h:(xQ (b.drop i)).2.2≠0):wK b most i 0=(0,i,(xQ (b.drop i)).2.2):=by unfold wK;rw[if_pos rfl,kE h];rfl
theorem FSa {b:List UInt8} {most:Int} {i:Nat} (h:(xQ (b.drop i)).2.2=0) (h2:max most 0 < ((xQ (b.drop i)).1:Int)):wK b most i 0=(0,i,22):=by unfold wK;rw[if_pos rfl,kD h h2];rfl
theorem dE {b:List UInt8} {most:Int} {i:Nat} (h:(xQ (b.drop i)).2.2=0) (h2:¬max most 0 < ((xQ (b.drop i)).1:Int)):wK b most i 0=((xQ (b.drop i)).1,i+(xQ (b.drop i)).2.1,0):=by unfold wK;rw[if_pos rfl,oL h h2]
end Go.Proofs.YtjoeklkmnfaabaaGreat
namespace Go.Proofs.YtjoeklkmnfaabaaGreat
open Go Go.RowKit
set_option linter.unusedVariables false
set_option linter.unusedSimpArgs false
attribute [local irreducible] yW Ops zP Cd
set_option maxRecDepth 100000
set_option maxHeartbeats 4000000
section
variable {b:List UInt8} {i e:Nat}
theorem pN (h:i≤b.length):(yO b i e).2.1≤b.length:=by
 unfold yO
 split
 have:=(pO (b.drop i)).2.1
 rw[Bl]at this
 simp only;omega
 exact h
theorem L1 (b:List UInt8) (most:Int) (i e:Nat):wK b most i e=if max most 0 < ((yO b i e).1:Int) then(0,i,22) else yO b i e:=by
 have hbd:=pO (b.drop i)
 unfold yO
 by_cases he:e=0
 simp only[he,if_true]
 by_cases h1:(xQ (b.drop i)).2.2=0
 by_cases h2:max most 0 < ((xQ (b.drop i)).1:Int)
 rw[FSa h1 h2,if_pos h2]
 rw[dE h1 h2,if_neg h2,h1]
 obtain⟨a1,a2⟩:=hbd.2.2.2.2.1 h1
 rw[FT h1,a1,a2,if_neg (by omega)]
 rfl
 rw[aX he]
 simp only[he,if_false]
 rw[if_neg (by omega)]
theorem EU (h:(yO b i e).2.2≠0):(yO b i e).2.1=i:=by
 have hbd:=pO (b.drop i)
 unfold yO at h ⊢
 split
 rename_i he
 rw[if_pos he]at h
 have:=(hbd.2.2.2.2.1 h).2
 simp only;omega
 rfl
theorem C7 {most:Int} (h:i≤b.length):(wK b most i e).2.1≤b.length∧(wK b most i e).1 < 2^64∧((wK b most i e).1:Int)≤max most 0∧((wK b most i e).2.2≠0→(wK b most i e).2.1=i):=by
 rw[L1]
 have hlt:=mF b i e
 have h2:=pN (b:=b) (e:=e) h
 have h3:=@EU b i e
 split
 simp;omega
 exact⟨h2,hlt,by omega,h3⟩
end
end Go.Proofs.YtjoeklkmnfaabaaGreat
namespace Go.Proofs.YtjoeklkmnfaabaaGreat
open Go Go.RowKit
set_option linter.unusedVariables false
set_option linter.unusedSimpArgs false
section
variable {w0 w w':World} {S:List Nat} {es es' es1 es2 R:List Ent}
end
section
variable {P:Program} {l:List Value} {w:World} {ty t:TypeId} {x y:Operand} {zs:List Value} {sz bytes:Nat} {agg:Bool}
end
section
variable {P:Program} {ds:List Deferred} {Q:vQ} {K:List Value→World→Prop} {all os:List Oper} {l:List Value} {w0 w w':World} {S:List Nat} {es:List Ent} {ty src dst e:TypeId} {pos:String} {af:Array Edge} {d:Tmp} {x:Operand}
theorem mD (hs:P.underlying src=some .string) (hd:P.underlying dst=some (.slice e)) (he:P.underlying e=some (.int .u8)) (H:Hp w0 w S es) {s:List UInt8} (hx:ev l x=some (.string ⟨s.toArray⟩))
 (k:∀ w' g c,Hp w0 w' S es→Rd w' (some ⟨g,0,none⟩) s.length 1 (u8s s)→g=w.heap.size→w'.heap.size=w.heap.size+1→Ops P ds all K Q os (l.set d (.slice (some ⟨g,0,none⟩) s.length c)) w'):Ops P ds all K Q (⟨some d,.convert src dst x,ty,pos,af,none⟩::os) l w:=by
 have hr:=run_bytes_of_string (P:=P) w src dst e ⟨s.toArray⟩ hs hd he
 have hsz:(ByteArray.mk s.toArray).size=s.length:=by show s.toArray.size=_;simp
 rw[hsz]at hr
 refine zD (w':=w.drew.alloc (.cells (bytesRow ⟨s.toArray⟩ (grownCap w s.length 0 e)) e ((bytesRow ⟨s.toArray⟩ (grownCap w s.length 0 e)).size,(bytesRow ⟨s.toArray⟩ (grownCap w s.length 0 e)).size+1))) ?_ (k _ w.heap.size (grownCap w s.length 0 e) (H.drew.Xw _) ⟨yY _,?_,fun h=>by cases h⟩ Y ?_)
 · intro _ _ _ _
   simp[execOp,zW hx,hr]
 · intro a ha j u hu
   cases ha
   have hj:j < s.length:=by have:=lt_of_get hu;simpa[u8s]using this
   rw[Ir,Ba]
   refine(World.cell?_alloc_mark w.drew _ e _ j).trans ?_
   rw[bytesRow_at _ _ j (by simpa using hj),← hu]
   simp[u8s,hj]
 simp
theorem dD (hs:P.underlying src=some (.slice e)) (he:P.underlying e=some (.int .u8)) (hd:P.underlying dst=some .string) {A:Option Addr} {c:Nat} {s:List UInt8} (hx:ev l x=some (.slice A s.length c)) (hr:Rd w A s.length 1 (u8s s)):
 Ex P l (.convert src dst x) ty w (.value (.string ⟨s.toArray⟩)) w:=fun _ _ _ _=>by
 have h:(convert src dst (.slice A s.length c)).run P w=.ok (.string ⟨s.toArray⟩) w:=by
  cases A with
  | none=>
   have h0:=hr.nil rfl
   have:s=[]:=Ee h0
   subst this
   rw[run_convert_bytes_string w src dst e none _ c hs he hd]
   simp[Conv.bytesToString]
   rfl
  | some a=>exact run_convert_bytes_back w src dst e a c s hs he hd fun j hj=>hr.cells a rfl j _ (kL hj)
 simp[execOp,zW hx,h]
end
inductive Fv 
 | int (n:Int)
 | flag (x:Bool)
 | text (s:List UInt8)
 | bytes (s:List UInt8)
 | word (n:Nat)
 | count (n:Nat)
inductive Kd 
 | int
 | flag
 | text
 | bytes
 | word
 | count
def Fv.kd :Fv→Kd
 | .int _=> .int
 | .flag _=> .flag
 | .text _=> .text
 | .bytes _=> .bytes
 | .word _=> .word
 | .count _=> .count
def rP :Fv→List UInt8
 | .int n=>uA n
 | .flag x=>[if x then 1 else 0]
 | .text s=>xY s
 | .bytes s=>xY s
 | .word n=>enc n
 | .count n=>enc n
def wN :Fv→Bool
 | .text s=>decide (65535 < s.length)
 | .bytes s=>decide (65535 < s.length)
 | .count n=>decide (1024 < n)
 | _=>false
structure WS where
 out:List UInt8
 long:Bool
def iU (x:List UInt8) (st:WS):WS:=if st.long=true∨65536 < st.out.length+x.length then⟨st.out,true⟩ else⟨st.out++x,st.long⟩
def qQ (f:Fv) (st:WS):WS:=if st.long=true then st else if wN f=true then⟨st.out,true⟩ else iU (rP f) st
def xX (fs:List Fv) (st:WS):WS:=fs.foldl (fun st f=>qQ f st) st
theorem wW (a b:List Fv) (st:WS):xX (a++b) st=xX b (xX a st):=by simp[xX]
theorem cE (f:Fv) (st:WS):xX [f] st=qQ f st:=rfl
theorem fM {fs:List Fv} {q:Nat} (h:q < fs.length) (st:WS):xX (fs.take (q+1)) st=qQ fs[q] (xX (fs.take q) st):=by
 rw[Jo,Cb h,wW];rfl
theorem tL (fs:List Fv) (k n:Nat) (st:WS):xX ((fs.drop k).take n) (xX (fs.take k) st)=xX (fs.take (k+n)) st:=by
 rw[List.take_add,wW]
theorem nF {f:Fv} {st:WS} (h:st.long=true):qQ f st=st:=if_pos h
theorem iV {f:Fv} {st:WS} (h:st.long=false) (h2:wN f=true):qQ f st=⟨st.out,true⟩:=by unfold qQ;rw[if_neg (by simp[h]),if_pos h2]
theorem lD {f:Fv} {st:WS} (h:st.long=false) (h2:wN f=false):qQ f st=iU (rP f) st:=by unfold qQ;rw[if_neg (by simp[h]),if_neg (by simp[h2])]
theorem aZ {fs:List Fv} {st:WS} (h:st.long=true):xX fs st=st:=by
 induction fs with
 | nil=>rfl
 | cons f fs ih=>
  show xX fs (qQ f st)=st
  rw[nF h];exact ih
theorem RK {x:List UInt8} {st:WS} (h:st.out.length≤65536):(iU x st).out.length≤65536:=by
 unfold iU
 split
 · exact h
 simp only[Ae];omega
theorem RL {f:Fv} {st:WS} (h:st.out.length≤65536):(qQ f st).out.length≤65536:=by
 unfold qQ
 split
 · exact h
 split
 · exact h
 exact RK h
theorem RM {fs:List Fv} {st:WS} (h:st.out.length≤65536):(xX fs st).out.length≤65536:=by
 induction fs generalizing st with
 | nil=>exact h
 | cons f fs ih=>exact ih (RL h)
def YH (f:Fv) (st:WS):WS:=match f with
 | .int _ | .flag _ | .word _=>⟨st.out++rP f,st.long⟩
 | f=>if st.long=true∨wN f=true then⟨st.out,true⟩ else⟨st.out++rP f,false⟩
def qR (fs:List Fv) (st:WS):WS:=fs.foldl (fun st f=>YH f st) st
theorem DL (a b:List Fv) (st:WS):qR (a++b) st=qR b (qR a st):=by simp[qR]
theorem KP {fs:List Fv} {q:Nat} (h:q < fs.length) (st:WS):qR (fs.take (q+1)) st=YH fs[q] (qR (fs.take q) st):=by
 rw[Jo,Cb h,DL];rfl
theorem mX {x:List UInt8} {st:WS} (h:st.long=true∨wN (.bytes x)=true):qR [.bytes x] st=⟨st.out,true⟩:=if_pos h
theorem cF {x:List UInt8} {st:WS} (h:st.long=false) (h2:wN (.bytes x)=false):qR [.bytes x] st=⟨st.out++xY x,false⟩:=if_neg (by simp[h,h2])
theorem lE {x:List UInt8} {st:WS} (h:st.long=true∨wN (.text x)=true):qR [.text x] st=⟨st.out,true⟩:=if_pos h
def FOk :Fv→Prop
 | .int n=>-9223372036854775808≤n∧n≤9223372036854775807
 | .word n=>n < 4294967296
 | _=>True
theorem fA {f:Fv} (h:FOk f) (h2:wN f=false):(rP f).length≤65545:=by
 cases f with
 | int n=>have:=uW (GA n h.1 h.2);show(uA n).length≤_;rw[rN];omega
 | flag x=>show 1≤65545;omega
 | text s=>
  have h3:s.length≤65535:=by simpa[wN]using h2
  have:=uW (v:=s.length) (by omega)
  show(xY s).length≤_
  rw[rI,Ae];omega
 | bytes s=>
  have h3:s.length≤65535:=by simpa[wN]using h2
  have:=uW (v:=s.length) (by omega)
  show(xY s).length≤_
  rw[rI,Ae];omega
 | word n=>
  have h1:n < 4294967296:=h
  have:=uW (v:=n) (by omega);show(enc n).length≤_;omega
 | count n=>
  have h3:n≤1024:=by simpa[wN]using h2
  have:=uW (v:=n) (by omega);show(enc n).length≤_;omega
def qB (a b:WS):Prop:=(a.long=true∧(b.long=true∨65536 < b.out.length))∨(a.long=false∧b.long=false∧a.out=b.out∧a.out.length≤65536)
theorem KO {f:Fv} {st:WS} (h:st.long=true):(YH f st).long=true:=by
 cases f <;>simp[YH,h]
theorem KN {f:Fv} {st:WS}:st.out.length≤(YH f st).out.length:=by
 cases f with
 | int n=>show _≤(st.out++_).length;simp
 | flag x=>show _≤(st.out++_).length;simp
 | text s=>show _≤(if _ then _ else _:WS).out.length;split <;>simp
 | bytes s=>show _≤(if _ then _ else _:WS).out.length;split <;>simp
 | word n=>show _≤(st.out++_).length;simp
 | count n=>show _≤(if _ then _ else _:WS).out.length;split <;>simp
theorem MD {a b:WS} (f:Fv) (h:qB a b):qB (qQ f a) (YH f b):=by
 rcases h with ⟨h1,h2⟩ | ⟨h1,h2,h3,h4⟩
 · rw[nF h1]
   refine .inl ⟨h1,?_⟩
   rcases h2 with h2 | h2
   · exact .inl (KO h2)
   exact .inr (Nat.lt_of_lt_of_le h2 KN)
 have key:wN f=false→qB (iU (rP f) a) ⟨b.out++rP f,false⟩:=by
  intro _
  unfold iU
  split
  · rename_i h
    refine .inl ⟨Y,.inr ?_⟩
    rcases h with h | h
    · rw[h1]at h;cases h
    simp only[Ae,← h3];exact h
  rename_i h
  have:=not_or.1 h
  exact .inr ⟨h1,Y,by simp[h3],by simp only[Ae];omega⟩
 by_cases ht:wN f=true
 · rw[iV h1 ht]
   refine .inl ⟨Y,.inl ?_⟩
   cases f with
   | int n=>cases ht
   | flag x=>cases ht
   | text s=>show(if _ then _ else _:WS).long=true;rw[if_pos (.inr ht)]
   | bytes s=>show(if _ then _ else _:WS).long=true;rw[if_pos (.inr ht)]
   | word n=>cases ht
   | count n=>show(if _ then _ else _:WS).long=true;rw[if_pos (.inr ht)]
 have ht':wN f=false:=by simpa using ht
 rw[lD h1 ht']
 have hv:YH f b=⟨b.out++rP f,false⟩:=by
  cases f with
  | int n=>show(⟨_,b.long⟩:WS)=_;rw[h2]
  | flag x=>show(⟨_,b.long⟩:WS)=_;rw[h2]
  | text s=>show(if _ then _ else _:WS)=_;rw[if_neg (by simp[h2,ht'])]
  | bytes s=>show(if _ then _ else _:WS)=_;rw[if_neg (by simp[h2,ht'])]
  | word n=>show(⟨_,b.long⟩:WS)=_;rw[h2]
  | count n=>show(if _ then _ else _:WS)=_;rw[if_neg (by simp[h2,ht'])]
 rw[hv]
 exact key ht'
theorem MF {a b:WS} (fs:List Fv) (h:qB a b):qB (xX fs a) (qR fs b):=by
 induction fs generalizing a b with
 | nil=>exact h
 | cons f fs ih=>exact ih (MD f h)
def tY (b:List UInt8) (i e:Nat):Nat×Nat×Nat:=if 4294967295 < (yO b i e).1 then(0,i,21) else yO b i e
def rdF (k:Kd) (b:List UInt8) (i e:Nat):Fv×Nat×Nat:=match k with
 | .word=>(.word (tY b i e).1,(tY b i e).2)
 | .count=>(.count (wK b 1024 i e).1,(wK b 1024 i e).2)
 | .int=>(.int (unz (yO b i e).1),(yO b i e).2)
 | .flag=>(.flag (sG b i e).1,(sG b i e).2)
 | .text=>(.text (yG b 65535 i e).1,(yG b 65535 i e).2)
 | .bytes=>(.bytes (yG b 65535 i e).1,(yG b 65535 i e).2)
def vT :List Kd→List UInt8→Nat→Nat→List Fv×Nat×Nat
 | [],_,i,e=>([],i,e)
 | k::ks,b,i,e=>((rdF k b i e).1::(vT ks b (rdF k b i e).2.1 (rdF k b i e).2.2).1,(vT ks b (rdF k b i e).2.1 (rdF k b i e).2.2).2)
theorem mB :∀ (a c:List Kd) (b:List UInt8) (i e:Nat),vT (a++c) b i e=((vT a b i e).1++(vT c b (vT a b i e).2.1 (vT a b i e).2.2).1,(vT c b (vT a b i e).2.1 (vT a b i e).2.2).2)
 | [],c,b,i,e=>rfl
 | k::a,c,b,i,e=>by
  simp only[Jf,vT,mB a c]
theorem K5 {a c:List Kd} {b:List UInt8} {i e i1 e1 i2 e2:Nat} {f1 f2:List Fv} (h1:vT a b i e=(f1,i1,e1)) (h2:vT c b i1 e1=(f2,i2,e2)):vT (a++c) b i e=(f1++f2,i2,e2):=by
 rw[mB,h1]
 simp only[h2]
theorem fU (k:Kd) (b:List UInt8) (i e:Nat):vT [k] b i e=([(rdF k b i e).1],(rdF k b i e).2):=rfl
theorem D7 :∀ (ks:List Kd) (b:List UInt8) (i e:Nat),(vT ks b i e).1.map Fv.kd=ks
 | [],_,_,_=>rfl
 | k::ks,b,i,e=>by
  simp only[vT,Je]
  rw[D7 ks]
  cases k <;>rfl
def zF :Kd→Fv
 | .int=> .int 0
 | .flag=> .flag false
 | .text=> .text []
 | .bytes=> .bytes []
 | .word=> .word 0
 | .count=> .count 0
theorem BQ {b:List UInt8} {i e:Nat} (h:e≠0):tY b i e=(0,i,e):=by
 have h1:yO b i e=(0,i,e):=by unfold yO;rw[if_neg h]
 unfold tY
 rw[h1,if_neg (by show ¬4294967295 < 0;decide)]
theorem dP {k:Kd} {b:List UInt8} {i e:Nat} (h:e≠0):rdF k b i e=(zF k,i,e):=by
 cases k
 · show(Fv.int (unz (yO b i e).1),(yO b i e).2)=_
   unfold yO;rw[if_neg h];show(Fv.int (unz 0),i,e)=(Fv.int 0,i,e);rw[show unz 0=0 by simp[unz]]
 · show(Fv.flag (sG b i e).1,(sG b i e).2)=_
   unfold sG;rw[if_neg h];rfl
 · show(Fv.text (yG b 65535 i e).1,(yG b 65535 i e).2)=_
   unfold yG;rw[if_neg h];rfl
 · show(Fv.bytes (yG b 65535 i e).1,(yG b 65535 i e).2)=_
   unfold yG;rw[if_neg h];rfl
 · show(Fv.word (tY b i e).1,(tY b i e).2)=_
   rw[BQ h];rfl
 show(Fv.count (wK b 1024 i e).1,(wK b 1024 i e).2)=_
 unfold wK;rw[if_neg h];rfl
theorem lG {b:List UInt8} {i e:Nat} (h:i≤b.length):(yG b 65535 i e).2.1≤b.length∧(yG b 65535 i e).1.length≤b.length:=by
 unfold yG
 split
 · have h1:=(AF (b.drop i) 65535).1
   rw[Bl]at h1
   refine⟨by simp only;omega,?_⟩
   simp only
   unfold vI
   split
   · simp
   split
   · simp
   simp only[Aw,Bl];omega
 exact⟨h,by simp⟩
theorem FI {b:List UInt8} {i e:Nat} (h:i≤b.length):(sG b i e).2.1≤b.length:=by
 unfold sG
 split
 · have h1:=(LV (b.drop i)).1
   rw[Bl]at h1
   simp only;omega
 exact h
theorem DG {b:List UInt8} {i e:Nat} (h:i≤b.length):(tY b i e).2.1≤b.length:=by
 unfold tY
 split
 · exact h
 exact pN h
theorem V5 {k:Kd} {b:List UInt8} {i e:Nat} (h:i≤b.length):(rdF k b i e).2.1≤b.length:=by
 cases k
 · exact pN h
 · exact FI h
 · exact(lG h).1
 · exact(lG h).1
 · exact DG h
 exact(C7 h).1
theorem M2 {v:Nat} (h:v < 2^64):-9223372036854775808≤unz v∧unz v≤9223372036854775807:=by
 unfold unz
 split <;>omega
def FP (w:World) (ok:Nat→Prop) (f:Fv) (v:Value):Prop:=match f with
 | .int n=>v=.int .i64 n∧-9223372036854775808≤n∧n≤9223372036854775807
 | .flag x=>v=.bool x
 | .text s=>v=zT s
 | .bytes s=>∃ (B:Option Addr) (c:Nat),v=.slice B s.length c∧Rd w B s.length 1 (u8s s)∧(0 < s.length→∀ p,B=some p→ok p.block)
 | .word n=>v=.int .u32 (n:Int)∧n < 4294967296
 | .count _=>v=.bool false
theorem Rd.apt {w w':World} {S:List Nat} {es:List Ent} {B:Option Addr} {n z:Nat} {xs:List Value} (hr:Rd w B n z xs) (hn:0 < n*z) (ha:∀ p,B=some p→p.block∉S) (H:Hp w w' S es):∀ p,B=some p→p.block∉bl es:=by
 intro p hp hb
 obtain⟨⟨g,T,cs⟩,he,hg⟩:=Ew.1 hb
 obtain⟨i,hi⟩:=Dh he
 simp only at hg
 subst hg
 have h1:=H.place hi
 have h2:0 < xs.length:=by rw[hr.len];exact hn
 have h3:=Iy w _ (hr.cells p hp 0 _ (Cb h2))
 rw[Iw]at h3
 rcases h1 with h1 | h1
 · exact ha p hp h1
 omega
section
variable {w w':World} {ok ok':Nat→Prop} {S:List Nat} {es es':List Ent} {f:Fv} {v:Value}
theorem FP.mono (h:FP w ok f v) (hs:∀ b,ok b→ok' b):FP w ok' f v:=by
 cases f with
 | bytes s=>
  obtain⟨B,c,h1,h2,h3⟩:=h
  exact⟨B,c,h1,h2,fun h0 p hp=>hs _ (h3 h0 p hp)⟩
 | _=>exact h
theorem FP.to (h:FP w ok f v) (H:Hp w w' S es) (hs:∀ b,ok b→b∉S):FP w' (fun b=>ok b∧b∉bl es) f v:=by
 cases f with
 | bytes s=>
  obtain⟨B,c,h1,h2,h3⟩:=h
  by_cases h0:0 < s.length
  · exact⟨B,c,h1,h2.to H fun p hp=>hs _ (h3 h0 p hp),fun _ p hp=>⟨h3 h0 p hp,h2.apt (by omega) (fun p hp=>hs _ (h3 h0 p hp)) H p hp⟩⟩
  have:s=[]:=Ee (by omega)
  subst this
  exact⟨B,c,h1,⟨Y,fun _ _ _ _ hu=>by simp[u8s]at hu,fun _=>Y⟩,fun h=>absurd h (by simp)⟩
 | _=>exact h
theorem FP.fok (h:FP w ok f v):FOk f:=by
 cases f with
 | int n=>exact h.2
 | word n=>exact h.2
 | _=>trivial
theorem FP.one (h:FP w ok f v):v.oneCell'=true:=by
 cases f with
 | int n=>rw[h.1];rfl
 | word n=>rw[h.1];rfl
 | flag x=>rw[show v=.bool x from h];rfl
 | text s=>rw[show v=zT s from h];rfl
 | bytes s=>obtain⟨B,c,h1,_⟩:=h;rw[h1];rfl
 | count n=>rw[show v=.bool false from h];rfl
end
abbrev FC (w:World) (es:List Ent) (f:Fv) (v:Value):Prop:=FP w (fun b=>b∉bl es) f v
def Tw (w:World) (b:Nat):Prop:=∃ arr U,w.heap[b]? =some (.cells arr U (0,0))
theorem Tw.to {w w':World} {S:List Nat} {es:List Ent} {b:Nat} (h:Tw w b) (H:Hp w w' S es) (hb:b∉S):Tw w' b:=by
 obtain⟨arr,U,h⟩:=h
 exact⟨arr,U,H.keep h hb⟩
def Fr (w:World) (n:Nat) (es:List Ent) (b:Nat):Prop:=n≤b∧b∉bl es∧Tw w b
theorem FC.to {w w':World} {es es':List Ent} {f:Fv} {v:Value} (h:FC w es f v) (H:Hp w w' (bl es) es'):FC w' es' f v:=(FP.to h H fun _ h=>h).mono fun _ h=>h.2
structure FPs (w:World) (ok:Nat→Prop) (fs:List Fv) (vs:List Value):Prop where
 len:vs.length=fs.length
 each:∀ i (h:i < fs.length),∃ v,vs[i]? =some v∧FP w ok fs[i] v
abbrev FCs (w:World) (es:List Ent) (fs:List Fv) (vs:List Value):Prop:=FPs w (fun b=>b∉bl es) fs vs
abbrev NFs (w:World) (n:Nat) (es:List Ent) (fs:List Fv) (vs:List Value):Prop:=FPs w (Fr w n es) fs vs
section
variable {w w':World} {ok ok':Nat→Prop} {S:List Nat} {es es':List Ent} {fs gs:List Fv} {vs us:List Value} {n:Nat}
theorem FPs.nil :FPs w ok [] []:=⟨rfl,fun i h=>by cases h⟩
theorem FPs.one {f:Fv} {v:Value} (h:FP w ok f v):FPs w ok [f] [v]:=⟨rfl,fun i hi=>by
 have:i=0:=by simp at hi;omega
 subst this
 exact⟨v,Y,h⟩⟩
theorem FPs.mono (h:FPs w ok fs vs) (hs:∀ b,ok b→ok' b):FPs w ok' fs vs:=⟨h.len,fun i hi=>by
 obtain⟨v,h1,h2⟩:=h.each i hi
 exact⟨v,h1,h2.mono hs⟩⟩
theorem FPs.to (h:FPs w ok fs vs) (H:Hp w w' S es) (hs:∀ b,ok b→b∉S):FPs w' (fun b=>ok b∧b∉bl es) fs vs:=⟨h.len,fun i hi=>by
 obtain⟨v,h1,h2⟩:=h.each i hi
 exact⟨v,h1,h2.to H hs⟩⟩
theorem NFs.to (h:NFs w n es fs vs) (H:Hp w w' (bl es) es'):NFs w' n es' fs vs:=(FPs.to h H fun _ h=>h.2.1).mono fun _ h=>⟨h.1.1,h.2,h.1.2.2.to H h.1.2.1⟩
theorem FPs.app (h:FPs w ok fs vs) (h2:FPs w ok gs us):FPs w ok (fs++gs) (vs++us):=by
 refine⟨by simp[h.len,h2.len],fun i hi=>?_⟩
 by_cases hin:i < fs.length
 · rw[List.getElem_append_left hin]
   obtain⟨v,q1,q2⟩:=h.each i hin
   exact⟨v,by rw[Di (by rw[h.len];exact hin)];exact q1,q2⟩
 rw[List.getElem_append_right (by omega)]
 have hi2:i - fs.length < gs.length:=by simp only[Ae]at hi;omega
 obtain⟨v,q1,q2⟩:=h2.each _ hi2
 exact⟨v,by rw[Eb (by rw[h.len];omega),h.len];exact q1,q2⟩
theorem FPs.fok (h:FPs w ok fs vs):∀ f∈fs,FOk f:=by
 intro f hf
 obtain⟨i,hi,rfl⟩:=List.getElem_of_mem hf
 obtain⟨v,_,h2⟩:=h.each i hi
 exact h2.fok
theorem FPs.ones (h:FPs w ok fs vs):vs.all (·.oneCell')=true:=by
 rw[Et]
 intro v hv
 obtain⟨i,hi,rfl⟩:=List.getElem_of_mem hv
 obtain⟨u,h1,h2⟩:=h.each i (by rw[← h.len];exact hi)
 rw[Cb hi]at h1
 cases h1
 exact h2.one
end
theorem GX {fs:List Fv} {k:Kd} (h:fs.map Fv.kd=[k]):∃ f,fs=[f]∧f.kd=k:=by
 match fs,h with
 | [f],h=>exact⟨f,rfl,by simpa using h⟩
theorem SZ {fs:List Fv} (h:fs.map Fv.kd=[.int]):∃ x,fs=[.int x]:=by
 obtain⟨f,rfl,h⟩:=GX h
 cases f <;>first | exact⟨_,rfl⟩ | cases h
theorem N8 {fs:List Fv} (h:fs.map Fv.kd=[.text]):∃ x,fs=[.text x]:=by
 obtain⟨f,rfl,h⟩:=GX h
 cases f <;>first | exact⟨_,rfl⟩ | cases h
theorem A4 {fs:List Fv} (h:fs.map Fv.kd=[.bytes]):∃ x,fs=[.bytes x]:=by
 obtain⟨f,rfl,h⟩:=GX h
 cases f <;>first | exact⟨_,rfl⟩ | cases h
theorem FPs.head {w:World} {ok:Nat→Prop} {f:Fv} {vs:List Value} (h:FPs w ok [f] vs):∃ v,vs=[v]∧FP w ok f v:=by
 obtain⟨v,h1,h2⟩:=h.each 0 (by simp)
 have hl:=h.len
 match vs,hl,h1 with
 | [x],_,h1=>exact⟨v,by simpa using h1,h2⟩
theorem Rd.fc {w0 w:World} {S:List Nat} {es:List Ent} {B:Option Addr} {s:List UInt8} (h:Rd w0 B s.length 1 (u8s s)) (H:Hp w0 w S es) (ha:0 < s.length→∀ p,B=some p→p.block∉S):Rd w B s.length 1 (u8s s):=by
 by_cases h0:0 < s.length
 · exact h.to H (ha h0)
 have:s=[]:=Ee (by omega)
 subst this
 exact⟨Y,fun _ _ _ _ hu=>by simp[u8s]at hu,fun _=>Y⟩
theorem eH {w0 w:World} {S:List Nat} {es:List Ent} (H:Hp w0 w S es) {g:Nat} (hg:w.heap.size≤g):g∉bl es:=by
 intro hb
 obtain⟨⟨g2,T2,cs2⟩,hm,hg2⟩:=Ew.1 hb
 obtain⟨j,hj⟩:=Dh hm
 simp only at hg2
 subst hg2
 have:=H.lt hj
 omega
theorem DI {fs:List Fv} {q:Nat} (h:q < fs.length) (h2:wN fs[q]=true) (st:WS):xX fs st=⟨(xX (fs.take q) st).out,true⟩:=by
 have h3:xX fs st=xX (fs.drop (q+1)) (xX (fs.take (q+1)) st):=by rw[← wW,Fg]
 rw[h3,fM h]
 generalize xX (fs.take q) st=s1
 have h4:qQ fs[q] s1=⟨s1.out,true⟩:=by
  cases hl:s1.long with
  | true=>rw[nF hl,← hl]
  | false=>exact iV hl h2
 rw[h4,aZ rfl]
def At (cs:List Value) (o:Nat) (vs:List Value):Prop:=∀ j u,vs[j]? =some u→cs[o+j]? =some u
def zC :Kd→Value
 | .int=> .int .i64 0
 | .flag=> .bool false
 | .text=> .string ByteArray.empty
 | .bytes=> .slice none 0 0
 | .word=> .int .u32 0
 | .count=> .bool false
def zCs (ks:List Kd):List Value:=ks.map zC
theorem zFP (w:World) (ok:Nat→Prop) (k:Kd):FP w ok (zF k) (zC k):=by
 cases k
 · exact⟨Y,by decide,by decide⟩
 · rfl
 · rfl
 · exact⟨none,0,Y,Rd.none_ _ _,fun h=>absurd h (by simp)⟩
 · exact⟨Y,by decide⟩
 rfl
theorem pJ {cs vs:List Value} {o:Nat} (h:o+vs.length≤cs.length) (j:Nat):(zJ cs o vs)[j]? =if j < o then cs[j]? else if j < o+vs.length then vs[j - o]? else cs[j]?:=by
 unfold zJ
 by_cases h1:j < o
 · rw[if_pos h1,Bh,Di (by rw[Aw];omega),Qb h1]
 rw[if_neg h1,Bh,Eb (by rw[Aw];omega),Aw,Io (by omega)]
 by_cases h2:j < o+vs.length
 · rw[if_pos h2,Di (by omega)]
 rw[if_neg h2,Eb (by omega),Em]
 congr 1;omega
theorem AR {cs a c:List Value} {o:Nat} (h:o+a.length+c.length≤cs.length):zJ (zJ cs o a) (o+a.length) c=zJ cs o (a++c):=by
 apply Om
 intro j
 have e1:o+(a++c).length≤cs.length:=by rw[Ae];omega
 have e2:o+a.length≤cs.length:=by omega
 have e3:(o+a.length)+c.length≤(zJ cs o a).length:=by rw[vN e2];exact h
 rw[pJ e3,pJ e1,pJ e2]
 by_cases h1:j < o
 · rw[if_pos (by omega),if_pos h1,if_pos h1]
 rw[if_neg h1,if_neg h1,Ae]
 by_cases h2:j < o+a.length
 · rw[if_pos h2,if_pos h2,if_pos (by omega),Di (by omega)]
 rw[if_neg h2,if_neg h2]
 by_cases h3:j < o+a.length+c.length
 · rw[if_pos h3,if_pos (by omega),Eb (by omega)]
   congr 1;omega
 rw[if_neg h3,if_neg (by omega)]
theorem kZ (cs:List Value) (o:Nat):zJ cs o []=cs:=by simp[zJ]
theorem At.behind {cs a c:List Value} {o:Nat} (h:At cs (o+a.length) c) (h2:o+a.length≤cs.length):At (zJ cs o a) (o+a.length) c:=by
 intro j u hu
 rw[pJ h2,if_neg (by omega),if_neg (by omega)]
 exact h j u hu
theorem gD {q:Nat} {k:Kd} {b:List UInt8} {i e i1 e1 i2 e2:Nat} {fd:List Fv} {f:Fv} (h:vT (List.replicate q k) b i e=(fd,i1,e1)) (h2:rdF k b i1 e1=(f,i2,e2)):vT (List.replicate (q+1) k) b i e=(fd++[f],i2,e2):=by
 rw[List.replicate_succ']
 refine K5 h ?_
 rw[fU,h2]
theorem K6 {b:List UInt8} {i e i2 e2:Nat} {fd:List Fv} (h:vT [.bytes] b i e=(fd,i2,e2)):∃ t,fd=[.bytes t]∧rdF .text b i e=(.text t,i2,e2):=by
 rw[fU]at h
 simp only[Prod.mk.injEq]at h
 refine⟨(yG b 65535 i e).1,h.1.symm,?_⟩
 show(Fv.text (yG b 65535 i e).1,(yG b 65535 i e).2)=_
 have:(yG b 65535 i e).2=(i2,e2):=h.2
 rw[this]
theorem gB {cs us:List Value} {o q:Nat} {v:Value} (hq:us.length=q) (h:o+q < cs.length):(zJ cs o us).set (o+q) v=zJ cs o (us++[v]):=by
 subst hq
 rw[← AR (by simp only[Bj,Dq];omega),fW (by rw[vN (by omega)];exact h)]
theorem lM {cs us:List Value} {o q:Nat} {v:Value} (hq:us.length=q) (h:cs[o+q]? =some v):zJ cs o (us++[v])=zJ cs o us:=by
 have hl:=lt_of_get h
 rw[← gB hq hl]
 apply Om
 intro k
 rw[Ky]
 split
 · rename_i hk
   subst hk
   rw[if_pos (by rw[vN (by omega)];exact hl),pJ (by omega),if_neg (by omega),if_neg (by omega),h]
 rfl
theorem DX {cs us:List Value} {o q:Nat} (hq:us.length=q) (hf:o+q≤cs.length):(zJ cs o us)[o+q]? =cs[o+q]?:=by
 rw[pJ (by omega),if_neg (by omega),if_neg (by omega)]
structure Cl (w:World) (S:List Nat) (a:Addr) (vs:List Value):Prop where
 cell:∀ j u,vs[j]? =some u→w.cell? (a.add j)=some u
 apart:0 < vs.length→a.block∉S
theorem sW (a:Addr) (j:Nat):(a.add j).block=a.block:=by unfold Addr.add;split <;>rfl
theorem jO {w w':World} {S:List Nat} {es:List Ent} {p:Addr} {u:Value} (h:w.cell? p=some u) (H:Hp w w' S es) (hp:p.block∉S):w'.cell? p=some u:=by
 have hlt:=Iy w _ h
 rw[World.cell?_of_block (w:=w)]
 · exact h
 exact H.frame _ hlt hp
theorem QX {w w':World} {S:List Nat} {es:List Ent} {p:Addr} {u:Value} (h:w.cell? p=some u) (H:Hp w w' S es) (hp:p.block∉S):p.block∉bl es:=by
 intro hb
 obtain⟨⟨g,T,cs⟩,he,hg⟩:=Ew.1 hb
 obtain⟨i,hi⟩:=Dh he
 simp only at hg
 subst hg
 have h3:=Iy w _ h
 rcases H.place hi with h1 | h1
 · exact hp h1
 omega
theorem Cl.to {w w':World} {S:List Nat} {es:List Ent} {a:Addr} {vs:List Value} (h:Cl w S a vs) (H:Hp w w' S es):Cl w' (bl es) a vs:=by
 refine⟨fun j u hu=>jO (h.cell j u hu) H ?_,fun h0=>?_⟩
 · rw[sW];exact h.apart (Nat.zero_lt_of_lt (lt_of_get hu))
 have:=QX (h.cell 0 _ (Cb h0)) H (by rw[sW];exact h.apart h0)
 rwa [sW]at this
theorem Cl.part {w:World} {S:List Nat} {a:Addr} {vs us:List Value} {o:Nat} (h:Cl w S a vs) (hat:At vs o us):Cl w S (a.add o) us:=by
 refine⟨fun j u hu=>?_,fun h0=>?_⟩
 · rw[tW];exact h.cell _ _ (hat j u hu)
 rw[sW];exact h.apart (by have:=lt_of_get (hat 0 _ (Cb h0));omega)
theorem Hp.cl {w0 w:World} {S:List Nat} {es:List Ent} {i g:Nat} {T:TypeId} {cs:List Value} (H:Hp w0 w S es) (he:es[i]? =some (some g,T,cs)) {S':List Nat} (hg:g∉S'):Cl w S' ⟨g,0,none⟩ cs:=by
 refine⟨fun j u hu=>?_,fun _=>hg⟩
 rw[Ir,Ba];exact H.cell he hu
theorem At.self (cs:List Value):At cs 0 cs:=fun j u hu=>by rw[Ba];exact hu
theorem At.trans {cs us vs:List Value} {o p:Nat} (h1:At cs o us) (h2:At us p vs):At cs (o+p) vs:=fun j u hu=>by rw[Fz];exact h1 _ _ (h2 j u hu)
def gG (a:Addr) (o n:Nat):List Value:=(List.range n).map fun i=> .pointer (some (a.add (o+i)))
theorem AT {a:Addr} {o n i:Nat} (h:i < n):(gG a o n)[i]? =some (.pointer (some (a.add (o+i)))):=by simp[gG,h]
theorem CC (a:Addr) (o n:Nat):(gG a o n).length=n:=by simp[gG]
def fX (g o n:Nat):List Value:=(List.range n).map fun i=> .pointer (some ⟨g,o+i,none⟩)
theorem bB {g o n i:Nat} (h:i < n):(fX g o n)[i]? =some (.pointer (some ⟨g,o+i,none⟩)):=by simp[fX,h]
theorem eY (g o n:Nat):(fX g o n).length=n:=by simp[fX]
@[reducible] def pw (gp:Nat) (g:Option Nat) (cap:Nat) (sp:List Value) (st:WS):List Ent:=[(some gp,178,[.pointer none,.slice (hd g) st.out.length cap,.bool st.long,.int .i64 0]),(g,5,u8s st.out++sp)]
@[reducible] def pr (gp gr:Nat) (g:Option Nat) (c:Nat) (sp:List Value) (b:List UInt8) (i e:Nat):List Ent:=[(some gp,178,[.pointer (some ⟨gr,0,none⟩),.slice none 0 0,.bool false,.int .i64 0]),(some gr,219,rc (hd g) b c i e),(g,5,u8s b++sp)]
@[reducible] def vw (gp:Nat) (g:Option Nat) (cap:Nat) (sp:List Value) (st:WS):List Ent:=[(some gp,167,[.slice (hd g) st.out.length cap,.pointer none,.bool st.long]),(g,5,u8s st.out++sp)]
structure POk (m:Nat) (g:Option Nat) (cap:Nat) (sp:List Value) (st:WS):Prop where
 le:st.out.length≤cap
 room:cap*1≤(u8s st.out++sp).length
 nil:g=none→cap=0
 most:st.out.length≤m
theorem POk.mono {m m':Nat} {g:Option Nat} {cap:Nat} {sp:List Value} {st:WS} (h:POk m g cap sp st) (hm:m≤m'):POk m' g cap sp st:=⟨h.1,h.2,h.3,Ce h.4 hm⟩
section
structure Th where
 X:Type
 sz:Nat
 mx:Nat
 zs:List Value
 fl:X→List Fv
 rd:List UInt8→Nat→Nat→X×Nat×Nat
 M:World→(Nat→Prop)→X→List Value→Prop
 z:X
 zM:∀ w ok,M w ok z zs
 zlen:zs.length=sz
 zone:zs.all (·.oneCell')=true
 len:∀ {w ok x vs},M w ok x vs→vs.length=sz
 mono:∀ {w ok ok' x vs},M w ok x vs→(∀ b,ok b→ok' b)→M w ok' x vs
 to:∀ {w w' ok x vs S es},M w ok x vs→Hp w w' S es→(∀ b,ok b→b∉S)→M w' (fun b=>ok b∧b∉bl es) x vs
 good:∀ {w ok x vs},M w ok x vs→∀ f∈fl x,FOk f
 ones:∀ {w ok x vs},M w ok x vs→vs.all (·.oneCell')=true
 bad:∀ {b i e},e≠0→(rd b i e).2=(i,e)
 le:∀ {b i e},i≤b.length→(rd b i e).2.1≤b.length
theorem AO :∀ (ks:List Kd) {b:List UInt8} {i e:Nat},e≠0→(vT ks b i e).2=(i,e)
 | [],_,_,_,_=>rfl
 | k::ks,b,i,e,h=>by
  show(vT ks b (rdF k b i e).2.1 (rdF k b i e).2.2).2=_
  rw[dP h]
  exact AO ks h
theorem D4 :∀ (ks:List Kd) {b:List UInt8} {i e:Nat},i≤b.length→(vT ks b i e).2.1≤b.length
 | [],_,_,_,h=>h
 | k::ks,b,i,e,h=>D4 ks (V5 h)
variable {w w':World} {S:List Nat} {es:List Ent} {a:Addr} {n:Nat}
theorem zC_one (k:Kd):(zC k).oneCell'=true:=by cases k <;>rfl
theorem zFPs (w:World) (ok:Nat→Prop) (ks:List Kd):FPs w ok (ks.map zF) (zCs ks):=⟨by simp[zCs],fun i h=>by
 simp only[Bg]at h
 exact⟨zC ks[i],by simp[zCs,h],by simpa using zFP w ok ks[i]⟩⟩
@[reducible] def Th.flat (ks : List Kd) : Th where
  X := List Fv
  sz := ks.length
  mx := 65545 * ks.length
  zs := zCs ks
  fl x := x
  rd := vT ks
  M w ok x vs := x.map Fv.kd = ks ∧ FPs w ok x vs
  z := ks.map zF
  zM w ok := ⟨by rw [List.map_map]; conv => rhs; rw [← List.map_id ks]
                 exact List.map_congr_left fun k _ => by cases k <;> rfl, zFPs w ok ks⟩
  zlen := by simp [zCs]
  zone := by rw [zCs, List.all_map, Et]; intro k _; exact zC_one k
  len h := by rw [h.2.len, ← h.1]; simp
  mono h hs := ⟨h.1, h.2.mono hs⟩
  to h H hs := ⟨h.1, h.2.to H hs⟩
  good h := h.2.fok
  ones h := h.2.ones
  bad h := AO ks h
  le h := D4 ks h
@[reducible] def Th.pair (A B:Th):Th where
 X:=A.X×B.X
 sz:=A.sz+B.sz
 mx:=A.mx+B.mx
 zs:=A.zs++B.zs
 fl x:=A.fl x.1++B.fl x.2
 rd b i e:=(((A.rd b i e).1,(B.rd b (A.rd b i e).2.1 (A.rd b i e).2.2).1),(B.rd b (A.rd b i e).2.1 (A.rd b i e).2.2).2)
 M w ok x vs:=A.M w ok x.1 (vs.take A.sz)∧B.M w ok x.2 (vs.drop A.sz)∧A.sz≤vs.length
 z:=(A.z,B.z)
 zM w ok:=⟨by rw[← A.zlen,List.take_left];exact A.zM w ok,by rw[← A.zlen,List.drop_left];exact B.zM w ok,by rw[Ae,A.zlen];omega⟩
 zlen:=by rw[Ae,A.zlen,B.zlen]
 zone:=by rw[List.all_append,A.zone,B.zone];rfl
 len h:=by
  have h2:=B.len h.2.1
  have h3:=h.2.2
  rw[Bl]at h2
  omega
 mono h hs:=⟨A.mono h.1 hs,B.mono h.2.1 hs,h.2.2⟩
 to h H hs:=⟨A.to h.1 H hs,B.to h.2.1 H hs,h.2.2⟩
 good h f hf:=by
  rcases Bq.1 hf with hf | hf
  · exact A.good h.1 f hf
  exact B.good h.2.1 f hf
 ones {w ok x vs} h:=by
  have h1:=A.ones h.1
  have h2:=B.ones h.2.1
  rw[← Fg A.sz vs,List.all_append,h1,h2];rfl
 bad {b i e} h:=by
  have h1:=A.bad (b:=b) (i:=i) h
  show(B.rd _ _ _).2=_
  rw[h1];exact B.bad h
 le h:=B.le (A.le h)
def qU (w:World) (a:Addr):Prop:=Tw w a.block
theorem qU.to (h:qU w a) (H:Hp w w' S es) (ha:a.block∉S):qU w' a:=by
 obtain⟨arr,U,h⟩:=h
 exact⟨arr,U,H.keep h ha⟩
theorem qU.add (h:qU w a) (k:Nat):qU w (a.add k):=by unfold qU;rw[sW];exact h
@[reducible] def MG (a:Addr):Value:=.pointer (some a)
@[reducible] def Ptr0 (g:Nat):Value:=.pointer (some ⟨g,0,none⟩)
def nV (gp:Nat) (st:WS) (w0:World) (S:List Nat) (w':World):Prop:=∃ g cap sp,POk 65536 g cap sp st∧Hp w0 w' S (pw gp g cap sp st)
def ID (P:Program) (f:FuncId) (A:Th) (tw:Bool):Prop:=
 ∀ (gp:Nat) (g:Option Nat) (cap:Nat) (sp:List Value) (st:WS) (a:Addr) (x:A.X) (vs:List Value) (w0:World),Hp w0 w0 (bl (pw gp g cap sp st)) (pw gp g cap sp st)→POk 65536 g cap sp st→
  A.M w0 (fun b=>b∉bl (pw gp g cap sp st)) x vs→Cl w0 (bl (pw gp g cap sp st)) a vs→(tw=true→qU w0 a)→
  zP P f #[Ptr0 gp,MG a] w0 (fun _ w'=>nV gp (xX (A.fl x) st) w0 (bl (pw gp g cap sp st)) w')
def RC (P:Program) (f:FuncId) (k:Kd):Prop:=
 ∀ (gp:Nat) (g:Option Nat) (cap:Nat) (sp:List Value) (st:WS) (a:Addr) (o m c:Nat) (x:List Fv) (vs:List Value) (w0:World) (A:Option Addr),m≤1000000→Hp w0 w0 (bl (pw gp g cap sp st)) (pw gp g cap sp st)→POk 65536 g cap sp st→
  (Th.flat (List.replicate m k)).M w0 (fun b=>b∉bl (pw gp g cap sp st)) x vs→Cl w0 (bl (pw gp g cap sp st)) (a.add o) vs→Rd w0 A m 1 (gG a o m)→(∀ p,A=some p→p.block∉bl (pw gp g cap sp st))→
  zP P f #[Ptr0 gp,.slice A m c] w0 (fun _ w'=>nV gp (xX x st) w0 (bl (pw gp g cap sp st)) w')
@[reducible] def vwo (gp:Nat) (g:Option Nat) (cap:Nat) (sp:List Value) (st:WS) (go:Nat) (T:TypeId) (cs:List Value):List Ent:=vw gp g cap sp st++[(some go,T,cs)]
def fJ (m:Nat) (gp:Nat) (a:WS) (go:Nat) (T:TypeId) (cs:List Value) (w0:World) (S:List Nat) (w':World):Prop:=∃ st g cap sp,qB a st∧POk m g cap sp st∧Hp w0 w' S (vwo gp g cap sp st go T cs)
def fI (P:Program) (f:FuncId) (A:Th):Prop:=
 ∀ (gp go o:Nat) (g:Option Nat) (cap:Nat) (sp:List Value) (st:WS) (T:TypeId) (cs:List Value) (x:A.X) (vs:List Value) (w0:World) (m:Nat) (a:WS),Hp w0 w0 (bl (vwo gp g cap sp st go T cs)) (vwo gp g cap sp st go T cs)→m+A.mx≤1000000000→POk m g cap sp st→qB a st→
  A.M w0 (fun b=>b∉bl (vwo gp g cap sp st go T cs)) x vs→At cs o vs→
  zP P f #[Ptr0 gp,MG ⟨go,o,none⟩] w0 (fun _ w'=>fJ (m+A.mx) gp (xX (A.fl x) a) go T cs w0 (bl (vwo gp g cap sp st go T cs)) w')
def Q9 (P:Program) (f:FuncId) (k:Kd):Prop:=
 ∀ (gp go o n c:Nat) (g:Option Nat) (cap:Nat) (sp:List Value) (st:WS) (T:TypeId) (cs:List Value) (x:List Fv) (vs:List Value) (w0:World) (m:Nat) (a:WS) (A:Option Addr),n≤1000000→Hp w0 w0 (bl (vwo gp g cap sp st go T cs)) (vwo gp g cap sp st go T cs)→m+65545*n≤1000000000→POk m g cap sp st→qB a st→
  (Th.flat (List.replicate n k)).M w0 (fun b=>b∉bl (vwo gp g cap sp st go T cs)) x vs→At cs o vs→Rd w0 A n 1 (fX go o n)→(∀ p,A=some p→p.block∉bl (vwo gp g cap sp st go T cs))→
  zP P f #[Ptr0 gp,.slice A n c] w0 (fun _ w'=>fJ (m+65545*n) gp (xX x a) go T cs w0 (bl (vwo gp g cap sp st go T cs)) w')
abbrev BM :=Nat→Nat→List Ent
def nU (R:BM) (A:Th) (go o:Nat) (T:TypeId) (cs:List Value) (b:List UInt8) (i e:Nat) (n:Nat) (w0:World) (S:List Nat) (w':World):Prop:=
 ∃ us,us.length=A.sz∧us.all (·.oneCell')=true∧Hp w0 w' S (R (A.rd b i e).2.1 (A.rd b i e).2.2++[(some go,T,zJ cs o us)])∧
  ((A.rd b i e).2.2=0→A.M w' (Fr w' n (R (A.rd b i e).2.1 (A.rd b i e).2.2++[(some go,T,zJ cs o us)])) (A.rd b i e).1 us)
def KG (P:Program) (f:FuncId) (R:BM) (gp:Nat) (b:List UInt8) (A:Th):Prop:=
 ∀ (go o i e:Nat) (T:TypeId) (cs:List Value) (w0:World),Hp w0 w0 (bl (R i e++[(some go,T,cs)])) (R i e++[(some go,T,cs)])→i≤b.length→At cs o A.zs→o+A.sz≤cs.length→
  zP P f #[Ptr0 gp,MG ⟨go,o,none⟩] w0 (fun _ w'=>nU R A go o T cs b i e w0.heap.size w0 (bl (R i e++[(some go,T,cs)])) w')
def F7 (P:Program) (f:FuncId) (R:BM) (gp:Nat) (b:List UInt8) (k:Kd):Prop:=
 ∀ (go o n c i e:Nat) (T:TypeId) (cs:List Value) (w0:World) (A:Option Addr),n≤1000000→Hp w0 w0 (bl (R i e++[(some go,T,cs)])) (R i e++[(some go,T,cs)])→i≤b.length→At cs o (zCs (List.replicate n k))→o+n≤cs.length→Rd w0 A n 1 (fX go o n)→(∀ p,A=some p→p.block∉bl (R i e++[(some go,T,cs)]))→
  zP P f #[Ptr0 gp,.slice A n c] w0 (fun _ w'=>nU R (Th.flat (List.replicate n k)) go o T cs b i e w0.heap.size w0 (bl (R i e++[(some go,T,cs)])) w')
theorem cU {R:BM} {ks:List Kd} {go o:Nat} {T:TypeId} {cs:List Value} {b:List UInt8} {i e:Nat} {w0:World} 
 (h:∃ fd i1 e1 us,vT ks b i e=(fd,i1,e1)∧i1≤b.length∧NFs w' n (R i1 e1++[(some go,T,zJ cs o us)]) fd us∧Hp w0 w' S (R i1 e1++[(some go,T,zJ cs o us)])):nU R (Th.flat ks) go o T cs b i e n w0 S w':=by
 obtain⟨fd,i1,e1,us,hr,hi,hF,H⟩:=h
 have hr':(Th.flat ks).rd b i e=(fd,i1,e1):=hr
 have hk:=D7 ks b i e
 rw[hr]at hk
 unfold nU
 rw[hr']
 exact⟨us,by rw[hF.len];show fd.length=ks.length;rw[← hk];simp,hF.ones,H,fun _=>⟨hk,hF⟩⟩
theorem LT {w w':World} {gr:Nat} {e0:TypeId×List Value} {es:List Ent} (H:Hp w w' [gr] ((some gr,e0)::es)) {i:Nat} {g:Option Nat} {T:TypeId} {cs:List Value} (he:es[i]? =some (g,T,cs)):∀ p,hd g=some p→w.heap.size≤p.block:=by
 refine lY H (i+1) he ?_
 intro p hp hb
 cases g with
 | none=>cases hp
 | some x=>
  cases hp
  simp only[Az]at hb
  subst hb
  have:=H.apart 0 (i+1) _ _ x rfl he rfl rfl
  omega
theorem FP.zero {ok ok':Nat→Prop} {v:Value} (h:FP w ok (.bytes []) v):FP w' ok' (.bytes []) v:=by
 obtain⟨B,c,h1,h2,_⟩:=h
 exact⟨B,c,h1,⟨Y,fun _ _ _ _ hu=>by simp[u8s]at hu,fun _=>Y⟩,fun h=>absurd h (by simp)⟩
theorem Fr.to {A:Th} {es':List Ent} {x:A.X} {vs:List Value} (h:A.M w (Fr w n es) x vs) (H:Hp w w' (bl es) es'):A.M w' (Fr w' n es') x vs:=
 A.mono (A.to h H fun _ h=>h.2.1) fun _ h=>⟨h.1.1,h.2,h.1.2.2.to H h.1.2.1⟩
theorem Hp.tw {w0 w:World} {S:List Nat} {es:List Ent} {i:Nat} {g:Option Nat} {T:TypeId} {cs:List Value} (H:Hp w0 w S es) (he:es[i]? =some (g,T,cs)):∀ p,hd g=some p→Tw w p.block:=by
 intro p hp
 cases g with
 | none=>cases hp
 | some x=>cases hp;exact⟨_,_,H.at he⟩
theorem IF {q:Nat} {k:Kd} (h:q < n):(zCs (List.replicate n k))[q]? =some (zC k):=by simp[zCs,h]
def MH (P:Program) (f:FuncId) (A:Th):Prop:=∀ gp gr gb cb sb b,b.length≤cb→b.length≤65536→KG P f (pr gp gr gb cb sb b) gp b A
def VV (P:Program) (f:FuncId) (k:Kd):Prop:=∀ gp gr gb cb sb b,b.length≤cb→b.length≤65536→F7 P f (pr gp gr gb cb sb b) gp b k
end
end Go.Proofs.YtjoeklkmnfaabaaGreat
namespace Go.Proofs.YtjoeklkmnfaabaaGreat
open Go Go.RowKit
set_option linter.unusedVariables false
set_option linter.unusedSimpArgs false
attribute [local irreducible] yW Ops zP Cd
set_option maxRecDepth 100000
set_option maxHeartbeats 4000000
theorem IX (gp:Nat) (g:Option Nat) (cap:Nat) (sp:List Value) (st:WS) (w0:World) (H0:Hp w0 w0 (bl (pw gp g cap sp st)) (pw gp g cap sp st)):Aj 146 #[Ah gp] w0 (fun r w'=>r=.bool st.long∧Hp w0 w' (bl (pw gp g cap sp st)) (pw gp g cap sp st)):=by
 refine zG Tryz.func146 Tryz.ntmps146 Y<|cR e31 ?_
 have H:=H0
 refine Rq<|Xa Y<|Xr e31<|J1<|Rq<|Xm Y<|Xc Y<|Xf tT Y<|OV (EL oD Y (H.cell (i:=0) Y Y))<|Ag e31<|Ui (yF Tn Y) (Y)<|Xr e31<|J3 Y<|Rq<|Xm Y<|Xc Y<|Xf oH Y<|OV (EL ty4 Y (H.cell (i:=0) Y Y))<|Ag e31<|Xa Y<|Xr e31<|J5<|Cm Y Y<|⟨Y,H⟩
theorem NX (gp:Nat) (g:Option Nat) (cap:Nat) (sp:List Value) (st:WS) (w0:World) (H0:Hp w0 w0 (bl (pw gp g cap sp st)) (pw gp g cap sp st)) (hP:POk 65536 g cap sp st) (A:Option Addr) (x:List UInt8) (c:Nat) (hr:Rd w0 A x.length 1 (u8s x)) (ha:∀ p,A=some p→p.block∉bl (pw gp g cap sp st)) (hx:x.length≤1000000000):Aj 147 #[Ah gp,Ac A x.length c] w0 (fun r w'=>∃ g1 cap1 sp1,POk 65536 g1 cap1 sp1 (iU x st)∧Hp w0 w' (bl (pw gp g cap sp st)) (pw gp g1 cap1 sp1 (iU x st))):=by
 refine zG Tryz.func147 Tryz.ntmps147 Y<|cR e31 ?_
 have H:=H0
 obtain⟨Nj,Uk⟩:=st
 have Gx:=hP.most
 simp only at Gx
 refine J1<|J1 ?_
 cases Uk
 refine J2<|Xm Y<|Xc Y<|Xf oH Y<|OV (EL ty4 Y (H.cell (i:=0) Y Y))<|Ag e31<|Xm Y<|OY Y<|Xm Y<|Ag e31<|OY Y<|OV (ES Gz Y)<|OY Y<|Xm Y<|Ag e31<|OY Y<|Xc Y<|OY Y<|Xf dU Y<|Ag e31<|OY Y<|OV (EL xO Y (H.cell (i:=0) Y Y))<|OY Y<|OV (ES Gz Y)<|Ag e31<|OY Y<|OV (tA Y Y (Ad _ (by dsimp only;omega)))<|OY Y<|OT (yS Y Y) (fun hp17=>?_) (fun hp17=>?_)
 dsimp only at hp17
 refine Xu Y Y<|Xr e31<|J3 Y<|Rq<|Xm Y<|Xc Y<|Xf oH Y<|OW ty4 H 0 Y Y Y Y (by first|exact NL Y|simp[zJ]) Y<|fun w1 H1=>Xr e31<|J5<|rW Y ?_
 have hw:iU x ⟨Nj,false⟩=⟨Nj,true⟩:=if_pos (.inr (by show 65536 < Nj.length+x.length;omega))
 rw[hw]
 exact⟨g,cap,sp,⟨hP.1,hP.2,hP.3,hP.4⟩,H1⟩
 dsimp only at hp17
 refine Xu Y Y<|Xr e31<|J4 Y<|J6<|J2<|Xm Y<|Xm Y<|Xc Y<|Xf dU Y<|Ag e31<|OV (EL xO Y (H.cell (i:=0) Y Y))<|Xm Y<|lS Gz ty5 H 1 (L:=Nj) (M:=x) (g:=g) (sp:=sp) Y Y hP.room hP.le hP.nil Y (hr.to H ha) (by have:=hP.most;simp only at this;omega)<|fun w1 g3 cap3 sp3 H1 hmc3 hcap3 hg3=>Xc Y<|Ag e31<|Xf dU Y<|OW xO H1 0 Y Y Y Y (by first|exact NL Y|simp[zJ]) Y<|fun w2 H2=>Xr e31<|zA<|yQ Y ?_
 have hw:iU x ⟨Nj,false⟩=⟨Nj++x,false⟩:=if_neg (by rintro(h | h);cases h;have:65536 < Nj.length+x.length:=h;omega)
 rw[hw]
 exact⟨g3,cap3,sp3,⟨hmc3,hcap3,hg3,by show(Nj++x).length≤_;rw[Ae];omega⟩,H2⟩
 refine J2<|Xm Y<|Xc Y<|Xf oH Y<|OV (EL ty4 Y (H.cell (i:=0) Y Y))<|Ag e31<|Xm Y<|Oz 9 Y<|Ag e31<|Xt Y Y<|Xr e31<|J3 Y<|Rq<|Xm Y<|Xc Y<|Xf oH Y<|OW ty4 H 0 Y Y Y Y (by first|exact NL Y|simp[zJ]) Y<|fun w1 H1=>Xr e31<|J5<|rW Y ?_
 have hw:iU x ⟨Nj,true⟩=⟨Nj,true⟩:=if_pos (.inl rfl)
 rw[hw]
 exact⟨g,cap,sp,hP,H1⟩
theorem WA (gp:Nat) (g0:Option Nat) (cap0:Nat) (sp0:List Value) (st:WS) (a:Addr) (o m c:Nat) (fd:List Fv) (vs:List Value) (w0:World) (H0:Hp w0 w0 (bl (pw gp g0 cap0 sp0 st)) (pw gp g0 cap0 sp0 st)) (hP:POk 65536 g0 cap0 sp0 st) (A:Option Addr) (hm:m≤1000000) (hk:fd.map Fv.kd=List.replicate m .int) (hF:FCs w0 (pw gp g0 cap0 sp0 st) fd vs) (hC:Cl w0 (bl (pw gp g0 cap0 sp0 st)) (a.add o) vs) (hA:Rd w0 A m 1 (gG a o m)) (hS:∀ p,A=some p→p.block∉bl (pw gp g0 cap0 sp0 st)):Aj 106 #[Ah gp,Ac A m c] w0 (fun _ w'=>nV gp (xX fd st) w0 (bl (pw gp g0 cap0 sp0 st)) w'):=by
 refine zG Tryz.func106 Tryz.ntmps106 Y<|cR e35 ?_
 have H:=H0
 have hlen:fd.length=m:=by have:=congrArg List.length hk;simpa using this
 refine Rq<|Xm Y<|OV (ES Nz Y)<|Xm Y<|Xr e35<|J7<|zV (fun nQ lQ w=>∃ (q:Nat) (y:Int) (g:Option Nat) (cap:Nat) (sp:List Value),m - q=nQ∧xM (Hy [(0,Ah gp),(6,Ac A m c),(7,Aa m),(8,Aa y)] 0 35) lQ∧y=q∧q≤m∧POk 65536 g cap sp (xX (fd.take q) st)∧Hp w0 w (bl (pw gp g0 cap0 sp0 st)) (pw gp g cap sp (xX (fd.take q) st))) (m) ?_ ?_
 exact⟨0,_,g0,cap0,sp0,Y,(Jg Y Y Y Y Y),Y,Am _,hP,H⟩
 rintro nQ lQ w1 ⟨q,y,g,cap,sp,rfl,hfit,rfl,hq,hP,H1⟩
 obtain⟨j,rfl⟩:=hfit.open
 refine cR e35 ?_
 clear hfit
 refine Rq<|OT (zQ Y Y) (fun hp9=>?_) (fun hp9=>?_)
 have Gi:q < m:=by omega
 have Yt:q < fd.length:=by omega
 obtain⟨v,hv1,hv2⟩:=hF.each q Yt
 have hsn:=fM Yt st
 have hcq:w0.cell? (a.add (o+q))=some v:=by have:=hC.cell q v hv1;rwa [tW]at this
 have hbq:(a.add (o+q)).block∉bl (pw gp g0 cap0 sp0 st):=by rw[sW];have:=hC.apart (by have:=hF.len;omega);rwa [sW]at this
 obtain⟨pa,hpa⟩:=hA.some_ (by omega)
 subst hpa
 have hkd:fd[q].kd=.int:=by
  have:=congrArg (fun l=>l[q]?) hk
  simpa[Yt,Gi]using this
 obtain⟨nn,hfq⟩:∃ x,fd[q]=.int x:=by
  generalize fd[q]=fq at hkd
  cases fq <;>first | exact⟨_,rfl⟩ | cases hkd
 rw[hfq]at hv2 hsn
 obtain⟨rfl,hn1,hn2⟩:=hv2
 obtain⟨st1,hst⟩:∃ x,xX (fd.take q) st=x:=⟨_,rfl⟩
 rw[hst]at hsn H1 hP
 refine Xr e35<|J1<|J3 Y<|J6<|J1<|J7<|Rq<|OV (EI Nz tR Y Y Y Gi (Cc _))<|OV (EL tR Y ((hA.to H1 hS).cells pa Y q _ (AT Gi)))<|Xa Y<|Xr e35<|J7<|Rq<|Xm Y ?_
 have hk:=IX gp g cap sp st1 _ H1.here
 refine OC (EC JG Y) hk<|fun w2 Hd=>have H2:=H1.all Hd;Xa Y<|Xr e35<|wU Y (fun YS=>?_) (fun YS=>?_)
 rw[nF YS]at hsn
 refine J6<|zA (zB ?_)
 refine zA (zB ?_)
 refine J2<|OV (zL Y Y (Ad _ (by omega)))<|Xm Y<|Xr e35<|zA (zH ?_)
 exact⟨m - (q+1),by omega,q+1,_,g,cap,sp,Y,(Jg Y Y Y Y Y),Y,by omega,by rw[hsn];exact hP,by rw[hsn];exact H2⟩
 rw[lD YS rfl]at hsn
 refine Rq<|Xm Y<|Xc Y<|Xf tT Y<|OV (EL oD Y (H2.cell (i:=0) Y Y))<|Ag e35<|Ui (yF Tn Y) (Y)<|Xa Y<|Xr e35<|J3 Y<|J2<|Xm Y<|Xm Y<|Xc Y<|OV (EL ty3 Y (jO hcq H2 hbq))<|Ag e35 ?_
 have hxl:(uA nn).length≤1000000000:=by have:=fA (f:=.int nn) ⟨hn1,hn2⟩ rfl;exact Ce this (by decide)
 refine yZ (EC gf148 Y) (TJ nn _ hn1 hn2)<|fun w3 g1 c1 sp1 hm1 hc1 hg1 Hd=>have H3:=H2.call0 Hd;?_
 have HQ:Hp w0 w3 _ (pw gp g cap sp st1++[(g1,5,u8s (uA nn)++sp1)]):=H3
 have hk:=NX gp g cap sp st1 _ (HQ.less (es:=pw gp g cap sp st1) (R:=[(g1,5,u8s (uA nn)++sp1)])).here hP (hd g1) (uA nn) c1 (HQ.rd (i:=2) (o:=g1) (xs:=u8s (uA nn)) (sp:=sp1) rfl (yY _) (by decide)) (qE HQ (i:=0) rfl) hxl
 refine OQ (EC VC Y) hk ?_
 rintro _ w4 ⟨g,cap,sp,hP,Hd⟩
 have H4:=Hp.less (es:=pw gp g cap sp _) (R:=[(g1,5,u8s (uA nn)++sp1)]) (HQ.front Hd)
 refine Xr e35<|zA (zB ?_)
 refine zA (zB ?_)
 refine J2<|OV (zL Y Y (Ad _ (by omega)))<|Xm Y<|Xr e35<|zA (zH ?_)
 exact⟨m - (q+1),by omega,q+1,_,g,cap,sp,Y,(Jg Y Y Y Y Y),Y,by omega,by rw[hsn];exact hP,by rw[hsn];exact H4⟩
 have hqm:q=m:=by omega
 subst hqm
 rw[Ej (by omega)]at H1 hP
 refine Xr e35<|J1<|J4 Y<|J8<|zU<|zS<|zA<|yQ Y<|⟨g,cap,sp,hP,H1⟩
theorem iI :RC Tryz.prog 106 .int:=fun gp g cap sp st a o m c x vs w0 A hm H0 hP hM hC hA hS=>WA gp g cap sp st a o m c x vs w0 H0 hP A hm hM.1 hM.2 hC hA hS
theorem EG (gp:Nat) (g0:Option Nat) (cap0:Nat) (sp0:List Value) (st:WS) (a:Addr) (fd:List Fv) (vs:List Value) (w0:World) (H0:Hp w0 w0 (bl (pw gp g0 cap0 sp0 st)) (pw gp g0 cap0 sp0 st)) (hP:POk 65536 g0 cap0 sp0 st) (hk:fd.map Fv.kd=[.bytes]) (hF:FCs w0 (pw gp g0 cap0 sp0 st) fd vs) (hC:Cl w0 (bl (pw gp g0 cap0 sp0 st)) a vs):Aj 150 #[Ah gp,.pointer (some a)] w0 (fun _ w'=>nV gp (xX fd st) w0 (bl (pw gp g0 cap0 sp0 st)) w'):=by
 refine zG Tryz.func150 Tryz.ntmps150 Y<|cR e35 ?_
 have H:=H0
 obtain⟨x,rfl⟩:=A4 hk
 obtain⟨v,rfl,hv2⟩:=hF.head
 have hcq:w0.cell? a=some v:=by have:=hC.cell 0 v rfl;rwa [Iw]at this
 have hbq:=hC.apart (by simp)
 obtain⟨B,c,ZK,hrd,hap⟩:=hv2
 subst ZK
 refine J7<|Rq<|Xm Y ?_
 have hk:=IX gp g0 cap0 sp0 st _ H.here
 refine OC (EC JG Y) hk<|fun w1 Hd=>have H1:=H.all Hd;Xa Y<|Xr e35<|wU Y (fun YT=>?_) (fun YT=>?_)
 refine J6<|zA (zB ?_)
 refine zA<|yQ Y ?_
 rw[cE,nF YT]
 exact⟨g0,cap0,sp0,hP,H1⟩
 refine Rq<|Xm Y<|Xc Y<|Xf tT Y<|OV (EL oD Y (H1.cell (i:=0) Y Y))<|Ag e35<|Jw (uV Tn Y) (by simp)<|Xa Y<|Xr e35<|J4 Y<|Rq<|Xm Y<|Xc Y<|OV (EL xO Y (jO hcq H1 hbq))<|OV (ES Gz Y)<|Ag e35<|OT (yS Y Y) (fun Nv=>?_) (fun Nv=>?_)
 refine Xa Y<|Xr e35<|J3 Y<|J2<|Xm Y<|Xc Y<|Xf oH Y<|OW ty4 H1 0 Y Y Y Y (by first|exact NL Y|simp[zJ]) Y<|fun w2 H2=>Xr e35<|zA (zB ?_)
 refine zA<|yQ Y ?_
 rw[cE,iV YT (by simp[wN];omega)]
 exact⟨g0,cap0,sp0,⟨hP.1,hP.2,hP.3,hP.4⟩,H2⟩
 refine Xa Y<|Xr e35<|J4 Y<|J2<|Xm Y<|Xm Y<|Xc Y<|OV (EL xO Y (jO hcq H1 hbq))<|Ag e35 ?_
 have hxl:(xY x).length≤1000000000:=by have:=fA (f:=.bytes x) trivial (by simp[wN];omega);exact Ce this (by decide)
 refine yZ (EC gf184 Y) (M5 B x c _ (hrd.fc H1 hap) (by omega))<|fun w2 g1 c1 sp1 hm1 hc1 hg1 Hd=>have H2:=H1.call0 Hd;?_
 have HQ:Hp w0 w2 _ (pw gp g0 cap0 sp0 st++[(g1,5,u8s (xY x)++sp1)]):=H2
 have hk:=NX gp g0 cap0 sp0 st _ (HQ.less (es:=pw gp g0 cap0 sp0 st) (R:=[(g1,5,u8s (xY x)++sp1)])).here hP (hd g1) (xY x) c1 (HQ.rd (i:=2) (o:=g1) (xs:=u8s (xY x)) (sp:=sp1) rfl (yY _) (by decide)) (qE HQ (i:=0) rfl) hxl
 refine OQ (EC VC Y) hk ?_
 rintro _ w3 ⟨g,cap,sp,hP,Hd⟩
 have H3:=Hp.less (es:=pw gp g cap sp _) (R:=[(g1,5,u8s (xY x)++sp1)]) (HQ.front Hd)
 refine Xr e35<|zA (zB ?_)
 refine zA<|yQ Y ?_
 rw[cE,lD YT (by simp[wN];omega)]
 exact⟨g,cap,sp,hP,H3⟩
theorem EJ :ID Tryz.prog 150 (Th.flat [.bytes]) false:=fun gp g cap sp st a x vs w0 H0 hP hM hC _=>EG gp g cap sp st a x vs w0 H0 hP hM.1 hM.2 hC
theorem SJ (gp:Nat) (g0:Option Nat) (cap0:Nat) (sp0:List Value) (st:WS) (a:Addr) (o m c:Nat) (fd:List Fv) (vs:List Value) (w0:World) (H0:Hp w0 w0 (bl (pw gp g0 cap0 sp0 st)) (pw gp g0 cap0 sp0 st)) (hP:POk 65536 g0 cap0 sp0 st) (A:Option Addr) (hm:m≤1000000) (hk:fd.map Fv.kd=List.replicate m .text) (hF:FCs w0 (pw gp g0 cap0 sp0 st) fd vs) (hC:Cl w0 (bl (pw gp g0 cap0 sp0 st)) (a.add o) vs) (hA:Rd w0 A m 1 (gG a o m)) (hS:∀ p,A=some p→p.block∉bl (pw gp g0 cap0 sp0 st)):Aj 151 #[Ah gp,Ac A m c] w0 (fun _ w'=>nV gp (xX fd st) w0 (bl (pw gp g0 cap0 sp0 st)) w'):=by
 refine zG Tryz.func151 Tryz.ntmps151 Y<|cR e44 ?_
 have H:=H0
 have hlen:fd.length=m:=by have:=congrArg List.length hk;simpa using this
 refine Rq<|Xm Y<|OV (ES Yo Y)<|Xm Y<|Xr e44<|J7<|zV (fun nQ lQ w=>∃ (q:Nat) (y:Int) (g:Option Nat) (cap:Nat) (sp:List Value),m - q=nQ∧xM (Hy [(0,Ah gp),(7,Ac A m c),(8,Aa m),(9,Aa y)] 0 44) lQ∧y=q∧q≤m∧POk 65536 g cap sp (xX (fd.take q) st)∧Hp w0 w (bl (pw gp g0 cap0 sp0 st)) (pw gp g cap sp (xX (fd.take q) st))) (m) ?_ ?_
 exact⟨0,_,g0,cap0,sp0,Y,(Jg Y Y Y Y Y),Y,Am _,hP,H⟩
 rintro nQ lQ w1 ⟨q,y,g,cap,sp,rfl,hfit,rfl,hq,hP,H1⟩
 obtain⟨j,rfl⟩:=hfit.open
 refine cR e44 ?_
 clear hfit
 refine Rq<|OT (zQ Y Y) (fun hp10=>?_) (fun hp10=>?_)
 have Gi:q < m:=by omega
 have Yt:q < fd.length:=by omega
 obtain⟨v,hv1,hv2⟩:=hF.each q Yt
 have hsn:=fM Yt st
 have hcq:w0.cell? (a.add (o+q))=some v:=by have:=hC.cell q v hv1;rwa [tW]at this
 have hbq:(a.add (o+q)).block∉bl (pw gp g0 cap0 sp0 st):=by rw[sW];have:=hC.apart (by have:=hF.len;omega);rwa [sW]at this
 obtain⟨pa,hpa⟩:=hA.some_ (by omega)
 subst hpa
 have hkd:fd[q].kd=.text:=by
  have:=congrArg (fun l=>l[q]?) hk
  simpa[Yt,Gi]using this
 obtain⟨s,hfq⟩:∃ x,fd[q]=.text x:=by
  generalize fd[q]=fq at hkd
  cases fq <;>first | exact⟨_,rfl⟩ | cases hkd
 rw[hfq]at hv2 hsn
 have ZK:v=zT s:=hv2
 subst ZK
 obtain⟨st1,hst⟩:∃ x,xX (fd.take q) st=x:=⟨_,rfl⟩
 have hcut:=DI Yt (st:=st)
 rw[hfq,hst]at hcut
 rw[hst]at hsn H1 hP
 refine Xr e44<|J1<|J3 Y<|J6<|J1<|J7<|Rq<|OV (EI Yo AC Y Y Y Gi (Cc _))<|OV (EL AC Y ((hA.to H1 hS).cells pa Y q _ (AT Gi)))<|Xa Y<|Xr e44<|J1<|Rq<|Xm Y<|Xc Y<|Xf tT Y<|OV (EL oD Y (H1.cell (i:=0) Y Y))<|Ag e44<|Ui (yF Tn Y) (Y)<|Xm Y<|Ag e44<|OY Y<|Xm Y<|OY Y<|Xc Y<|Ag e44<|OY Y<|OV (EL ty9 Y (jO hcq H1 hbq))<|OY Y<|OV (nA Tryz.underlying9 Y) ?_
 rw[fS]
 refine Ag e44<|OY Y<|OT (yS Y Y) (fun hp23=>?_) (fun hp23=>?_)
 refine Xt Y Y<|Xr e44<|J3 Y<|Rq<|Xm Y<|Xc Y<|Xf oH Y<|OW ty4 H1 0 Y Y Y Y (by first|exact NL Y|simp[zJ]) Y<|fun w2 H2=>Xr e44<|J5<|BR<|yN<|BR<|rW Y ?_
 rw[hcut (by simp[wN];omega)]
 exact⟨g,cap,sp,⟨hP.1,hP.2,hP.3,hP.4⟩,H2⟩
 have hnl:wN (.text s)=false:=by simp[wN];omega
 refine Xt Y Y<|Xr e44<|J4 Y<|J6<|Rq<|Xm Y<|Xc Y<|OV (EL ty9 Y (jO hcq H1 hbq)) ?_
 have hgn:=eH H1 (g:=w1.heap.size) (Ak _)
 refine mD Tryz.underlying9 Gz Tryz.underlying5 H1 (s:=s) Y<|fun w2 gs cs1 HB hrs hgs hsz=>?_
 rw[← hgs]at hgn
 have H2:=HB.here
 refine Ag e44<|OA xO H2<|fun w3 gb H3 hgb=>OW xO H3 2 Y Y Y Y (by first|exact NL Y|simp[zJ]) Y<|fun w4 H4=>Xr e44<|Rq<|Xm Y ?_
 have HQ:Hp _ w4 _ (pw gp g cap sp st1++[(some gb,73,[Ac (some ⟨gs,0,none⟩) s.length cs1])]):=H4
 have Rl:=qE (es1:=pw gp g cap sp st1) (R:=[(some gb,73,[Ac (some ⟨gs,0,none⟩) s.length cs1])]) HQ (i:=0) (g:=some gb) rfl ⟨gb,0,none⟩ rfl
 have hk:=EG gp g cap sp st1 ⟨gb,0,none⟩ [.bytes s] [Ac (some ⟨gs,0,none⟩) s.length cs1] _ HQ.less.here hP rfl (FPs.one (f:=.bytes s) ⟨_,_,rfl,hrs.fc HQ.less (fun _ p hp=>by cases hp;exact hgn),fun h0=>aJ hrs h0 (fun p hp=>by cases hp;exact hgn) HQ.less⟩) (HQ.cl (i:=2) rfl Rl)
 refine OQ (EC BE Y) hk ?_
 rintro _ w5 ⟨g,cap,sp,hP,Hd⟩
 have H5:=(HB.all (HQ.front Hd)).pick [0,1] (by decide)
 refine Xr e44<|Rq<|Xm Y<|Xc Y<|Xf tT Y<|OV (EL oD Y (H5.cell (i:=0) Y Y))<|Ag e44<|Jw (uV Tn Y) (by simp)<|Xr e44<|J4 Y<|J6<|zA (zB ?_)
 refine J2<|OV (zL Y Y (Ad _ (by omega)))<|Xm Y<|Xr e44<|zA (zH ?_)
 exact⟨m - (q+1),by omega,q+1,_,g,cap,sp,Y,(Jg Y Y Y Y Y),Y,by omega,by rw[hsn];exact hP,by rw[hsn];exact H5⟩
 have hqm:q=m:=by omega
 subst hqm
 rw[Ej (by omega)]at H1 hP
 refine Xr e44<|J1<|J4 Y<|J8<|zU<|zS<|zA<|yQ Y<|⟨g,cap,sp,hP,H1⟩
theorem SL :RC Tryz.prog 151 .text:=fun gp g cap sp st a o m c x vs w0 A hm H0 hP hM hC hA hS=>SJ gp g cap sp st a o m c x vs w0 H0 hP A hm hM.1 hM.2 hC hA hS
theorem IY (gp gr:Nat) (gb:Option Nat) (cb:Nat) (sb:List Value) (b:List UInt8) (i e:Nat) (w0:World) (H0:Hp w0 w0 (bl (pr gp gr gb cb sb b i e)) (pr gp gr gb cb sb b i e)) (hcb:b.length≤cb) (hbl:b.length≤65536) (hi:i≤b.length):Aj 146 #[Ah gp] w0 (fun r w'=>r=.bool (decide (e≠0))∧Hp w0 w' (bl (pr gp gr gb cb sb b i e)) (pr gp gr gb cb sb b i e)):=by
 refine zG Tryz.func146 Tryz.ntmps146 Y<|cR e31 ?_
 have H:=H0
 refine Rq<|Xa Y<|Xr e31<|J1<|Rq<|Xm Y<|Xc Y<|Xf tT Y<|OV (EL oD Y (H.cell (i:=0) Y Y))<|Ag e31<|Jw (yF Tn Y) (by simp)<|Xr e31<|J4 Y<|J6<|Rq<|Xm Y<|Xc Y<|Xf tT Y<|OV (EL oD Y (H.cell (i:=0) Y Y))<|Ag e31<|OC (EC gf180 Y) (QE gr (hd gb) cb b i e _ (CB H (j:=1) (k:=2) Y Y (by decide) hcb (by omega) hi))<|fun w1 Hd=>have H1:=H.call0 Hd;Xm Y<|Xe Y Y<|Xe Y Y<|Ag e31<|Xa Y<|Xa Y<|Xr e31<|Rq<|Xm Y<|OT (yR Y Y) (fun hp23=>?_) (fun hp23=>?_)
 have he:e≠0:=by omega
 refine Xm Y<|Ag e31<|Oz 5 Y<|Ag e31<|Xt Y Y<|Xa Y<|Xr e31<|J5<|Cm Y Y<|⟨by rw[decide_eq_true he],H1.pick [0,1,2] (by decide)⟩
 have he:e=0:=by omega
 refine Xm Y<|Ag e31<|OY Y<|Xm Y<|OY Y<|Xc Y<|Ag e31<|OY Y<|Xf JM Y<|OY Y<|OV (EL pZ Y (H1.cell (i:=0) Y Y))<|Ag e31<|OY Y<|Jw (yR Y Y) (by simp)<|Xu Y Y<|Xa Y<|Xr e31<|J5<|Cm Y Y<|⟨by rw[decide_eq_false (by omega)],H1.pick [0,1,2] (by decide)⟩
theorem WB (gp gr go o:Nat) (gb:Option Nat) (cb:Nat) (sb:List Value) (b:List UInt8) (i e:Nat) (T:TypeId) (cs:List Value) (w0:World) (H0:Hp w0 w0 (bl (pr gp gr gb cb sb b i e++[(some go,T,cs)])) (pr gp gr gb cb sb b i e++[(some go,T,cs)])) (hcb:b.length≤cb) (hbl:b.length≤65536) (hi:i≤b.length) (m:Nat) (hat:At cs o (zCs (List.replicate m .int))) (A:Option Addr) (c:Nat) (hm:m≤1000000) (hA:Rd w0 A m 1 (fX go o m)) (hS:∀ p,A=some p→p.block∉bl (pr gp gr gb cb sb b i e++[(some go,T,cs)])):Aj 106 #[Ah gp,Ac A m c] w0 (fun r w'=>∃ fd i1 e1 us,vT (List.replicate m .int) b i e=(fd,i1,e1)∧i1≤b.length∧NFs w' w0.heap.size (pr gp gr gb cb sb b i1 e1++[(some go,T,zJ cs o us)]) fd us∧Hp w0 w' (bl (pr gp gr gb cb sb b i e++[(some go,T,cs)])) (pr gp gr gb cb sb b i1 e1++[(some go,T,zJ cs o us)])):=by
 refine zG Tryz.func106 Tryz.ntmps106 Y<|cR e35 ?_
 have H:=H0
 refine Rq<|Xm Y<|OV (ES Nz Y)<|Xm Y<|Xr e35<|J7<|zV (fun nQ lQ w=>∃ (q:Nat) (y:Int) (i1 e1:Nat) (us:List Value) (fd:List Fv),m - q=nQ∧xM (Hy [(0,Ah gp),(6,Ac A m c),(7,Aa m),(8,Aa y)] 0 35) lQ∧y=q∧q≤m∧us.length=q∧vT (List.replicate q .int) b i e=(fd,i1,e1)∧i1≤b.length∧NFs w w0.heap.size (pr gp gr gb cb sb b i1 e1++[(some go,T,zJ cs o us)]) fd us∧Hp w0 w (bl (pr gp gr gb cb sb b i e++[(some go,T,cs)])) (pr gp gr gb cb sb b i1 e1++[(some go,T,zJ cs o us)])) (m) ?_ ?_
 exact⟨0,_,i,e,[],[],Y,(Jg Y Y Y Y Y),Y,Am _,Y,Y,hi,FPs.nil,by rw[kZ];exact H⟩
 rintro nQ lQ w1 ⟨q,y,i1,e1,us,fd,rfl,hfit,rfl,hq,hus,hrd,hi1,hF,H1⟩
 obtain⟨j,rfl⟩:=hfit.open
 refine cR e35 ?_
 clear hfit
 refine Rq<|OT (zQ Y Y) (fun hp9=>?_) (fun hp9=>?_)
 have Gi:q < m:=by omega
 have hcq:cs[o+q]? =some (Aa 0):=hat q _ (IF Gi)
 have hfit:=lt_of_get hcq
 have hkeep:=DX (cs:=cs) hus (Nat.le_of_lt hfit)
 rw[hcq]at hkeep
 obtain⟨pa,hpa⟩:=hA.some_ (by omega)
 subst hpa
 have HB:=H1
 replace H1:=HB.here
 refine Xr e35<|J1<|J3 Y<|J6<|J1<|J7<|Rq<|OV (EI Nz tR Y Y Y Gi (Cc _))<|OV (EL tR Y ((hA.to (HB.all H1) hS).cells pa Y q _ (bB Gi)))<|Xa Y<|Xr e35<|J7<|Rq<|Xm Y ?_
 have hk:=IY gp gr gb cb sb b i1 e1 _ (Hp.less (es:=pr gp gr gb cb sb b i1 e1) (R:=[(some go,T,zJ cs o us)]) H1).here hcb hbl hi1
 refine OC (EC JG Y) hk<|fun w2 Hd=>have H2:=Hp.front (R:=[(some go,T,zJ cs o us)]) H1 Hd;Xa Y<|Xr e35<|wU Y (fun YS=>?_) (fun YS=>?_)
 refine J6<|zA (zB ?_)
 refine zA (zB ?_)
 refine J2<|OV (zL Y Y (Ad _ (by omega)))<|Xm Y<|Xr e35<|zA (zH ?_)
 first
 | (have hb0:=YS;simp only[decide_eq_true_eq]at hb0;have hbad:=dP (k:=.int) (b:=b) (i:=i1) (e:=e1) (by simpa using hb0);exact⟨m - (q+1),by omega,q+1,_,i1,e1,us++[Value.int .i64 0],_,rfl,(Jg rfl rfl rfl rfl rfl),rfl,by omega,by simp[hus],gD hrd hbad,hi1,by rw[lM hus hcq];exact(hF.to H2).app (FPs.one ⟨rfl,by decide,by decide⟩),by rw[lM hus hcq];exact HB.all H2⟩)
 | (have hrow:=gB (cs:=cs) (o:=o) (v:=Value.int .i64 (unz (yO b i1 e1).1)) hus hfit;have HN:=(show ∀ (wa wb:World) (SS:List Nat),Hp wa wb SS (pr gp gr gb cb sb b ((yO b i1 e1).2.1) ((yO b i1 e1).2.2)++[(some go,T,(zJ cs o us).set (o+q) (Value.int .i64 (unz (yO b i1 e1).1)))])→Hp wa wb SS (pr gp gr gb cb sb b ((yO b i1 e1).2.1) ((yO b i1 e1).2.2)++[(some go,T,zJ cs o (us++[Value.int .i64 (unz (yO b i1 e1).1)]))]) from fun wa wb SS h=>by rw[hrow]at h;exact h) _ _ _ H2;exact⟨m - (q+1),by omega,q+1,_,_,_,us++[Value.int .i64 (unz (yO b i1 e1).1)],_,rfl,(Jg rfl rfl rfl rfl rfl),rfl,by omega,by simp[hus],gD hrd rfl,pN hi1,(hF.to HN).app (FPs.one ⟨rfl,M2 (mF b i1 e1)⟩),HB.all HN⟩)
 refine Rq<|Xm Y<|Xc Y<|Xf tT Y<|OV (EL oD Y (H2.cell (i:=0) Y Y))<|Ag e35<|Jw (yF Tn Y) (by simp)<|Xa Y<|Xr e35<|J4 Y<|J2<|Xm Y<|Xm Y<|Xc Y<|Xf tT Y<|Ag e35<|OV (EL oD Y (H2.cell (i:=0) Y Y))<|OC (EC gf149 Y) (WN gr (hd gb) cb b i1 e1 _ (CB H2 (j:=1) (k:=2) Y Y (by decide) hcb (by omega) hi1))<|fun w3 Hd=>?_
 have H3:=(H2.call1 (i:=1) rfl Hd).pick [0,4,2,3] (by decide)
 refine Xc Y<|OW ty3 H3 3 Y Y Y Y (by rw[vN (by omega)];omega) Y<|fun w4 H4=>Xr e35<|zA (zB ?_)
 refine zA (zB ?_)
 refine J2<|OV (zL Y Y (Ad _ (by omega)))<|Xm Y<|Xr e35<|zA (zH ?_)
 first
 | (have hb0:=YS;simp only[decide_eq_true_eq]at hb0;have hbad:=dP (k:=.int) (b:=b) (i:=i1) (e:=e1) (by simpa using hb0);exact⟨m - (q+1),by omega,q+1,_,i1,e1,us++[Value.int .i64 0],_,rfl,(Jg rfl rfl rfl rfl rfl),rfl,by omega,by simp[hus],gD hrd hbad,hi1,by rw[lM hus hcq];exact(hF.to H4).app (FPs.one ⟨rfl,by decide,by decide⟩),by rw[lM hus hcq];exact HB.all H4⟩)
 | (have hrow:=gB (cs:=cs) (o:=o) (v:=Value.int .i64 (unz (yO b i1 e1).1)) hus hfit;have HN:=(show ∀ (wa wb:World) (SS:List Nat),Hp wa wb SS (pr gp gr gb cb sb b ((yO b i1 e1).2.1) ((yO b i1 e1).2.2)++[(some go,T,(zJ cs o us).set (o+q) (Value.int .i64 (unz (yO b i1 e1).1)))])→Hp wa wb SS (pr gp gr gb cb sb b ((yO b i1 e1).2.1) ((yO b i1 e1).2.2)++[(some go,T,zJ cs o (us++[Value.int .i64 (unz (yO b i1 e1).1)]))]) from fun wa wb SS h=>by rw[hrow]at h;exact h) _ _ _ H4;exact⟨m - (q+1),by omega,q+1,_,_,_,us++[Value.int .i64 (unz (yO b i1 e1).1)],_,rfl,(Jg rfl rfl rfl rfl rfl),rfl,by omega,by simp[hus],gD hrd rfl,pN hi1,(hF.to HN).app (FPs.one ⟨rfl,M2 (mF b i1 e1)⟩),HB.all HN⟩)
 have hqm:q=m:=by omega
 subst hqm
 refine Xr e35<|J1<|J4 Y<|J8<|zU<|zS<|zA<|yQ Y<|⟨fd,i1,e1,us,hrd,hi1,hF,H1⟩
theorem CE {P:Program} {ds:List Deferred} {Q:vQ} {K:List Value→World→Prop} {all os:List Oper} {l:List Value} {w:World} {op:Op} {ty:TypeId} {pos:String} {af:Array Edge} {d:Tmp} {f:FuncId} {args:Array Value} {n:Nat} {X:Option Nat→Nat→List Value→World→Prop}
 (hx:Ex P l op ty w (.enter f args) w) (hc:zP P f args w fun r w'=>∃ g cap sp,r=Ac (hd g) n cap∧X g cap sp w')
 (h:∀ w' g cap sp,X g cap sp w'→Ops P ds all K Q os (l.set d (Ac (hd g) n cap)) w'):Ops P ds all K Q (⟨some d,op,ty,pos,af,none⟩::os) l w:=
 tG hx hc fun r w' ⟨g,cap,sp,h1,h2⟩=>by rw[h1];exact h w' g cap sp h2
theorem EH (gp gr go o:Nat) (gb:Option Nat) (cb:Nat) (sb:List Value) (b:List UInt8) (i e:Nat) (T:TypeId) (cs:List Value) (w0:World) (H0:Hp w0 w0 (bl (pr gp gr gb cb sb b i e++[(some go,T,cs)])) (pr gp gr gb cb sb b i e++[(some go,T,cs)])) (hcb:b.length≤cb) (hbl:b.length≤65536) (hi:i≤b.length) (v:Value) (hv2:FP w0 (fun _=>True) (.bytes []) v) (hcq:cs[o]? =some v):Aj 150 #[Ah gp,.pointer (some ⟨go,o,none⟩)] w0 (fun r w'=>∃ fd i1 e1 us,vT [.bytes] b i e=(fd,i1,e1)∧i1≤b.length∧NFs w' w0.heap.size (pr gp gr gb cb sb b i1 e1++[(some go,T,zJ cs o us)]) fd us∧Hp w0 w' (bl (pr gp gr gb cb sb b i e++[(some go,T,cs)])) (pr gp gr gb cb sb b i1 e1++[(some go,T,zJ cs o us)])):=by
 refine zG Tryz.func150 Tryz.ntmps150 Y<|cR e35 ?_
 have H:=H0
 have hfit:=lt_of_get hcq
 refine J7<|Rq<|Xm Y ?_
 have hk:=IY gp gr gb cb sb b i e _ (Hp.less (es:=pr gp gr gb cb sb b i e) (R:=[(some go,T,cs)]) H).here hcb hbl hi
 refine OC (EC JG Y) hk<|fun w1 Hd=>have H1:=Hp.front (R:=[(some go,T,cs)]) H Hd;Xa Y<|Xr e35<|wU Y (fun YT=>?_) (fun YT=>?_)
 refine J6<|zA (zB ?_)
 refine zA<|yQ Y ?_
 have hbad:=dP (k:=.bytes) (b:=b) (i:=i) (e:=e) (by simpa using YT)
 have hrow:=lM (cs:=cs) (us:=[]) (o:=o) (q:=0) rfl hcq
 rw[kZ]at hrow
 exact⟨[.bytes []],i,e,[v],by rw[fU,hbad];rfl,hi,by rw[show[v]=[]++[v] from Y,hrow];exact FPs.one hv2.zero,by rw[show[v]=[]++[v] from Y,hrow];exact H1⟩
 refine Rq<|Xm Y<|Xc Y<|Xf tT Y<|OV (EL oD Y (H1.cell (i:=0) Y Y))<|Ag e35<|Ui (uV Tn Y) (by simp)<|Xa Y<|Xr e35<|J3 Y<|J2<|Xm Y<|Xm Y<|Xc Y<|Xf tT Y<|Ag e35<|OV (EL oD Y (H1.cell (i:=0) Y Y))<|CE (EC gf183 Y) (RY gr (hd gb) cb b i e _ (CB H1 (j:=1) (k:=2) Y Y (by decide) hcb (by omega) hi) 65535 (by decide) (by decide)) ?_
 intro w2 g1 c1 s1 ⟨hm1,hc1,hg1,Hd⟩
 have hsz0:=H1.size
 have H2:=(H1.call1 (i:=1) rfl Hd).pick [0,4,2,3,5] (by decide)
 refine Xc Y<|OW xO H2 3 Y Y Y Y hfit Y<|fun w3 H3=>Xr e35<|zA (zB ?_)
 refine zA<|yQ Y ?_
 have hrow:=(fW (v:=(.slice (hd g1) (yG b 65535 i e).1.length c1)) hfit).symm
 have HN:=(show ∀ (wa wb:World) (SS:List Nat),Hp wa wb SS ((pr gp gr gb cb sb b ((yG b 65535 i e).2.1) ((yG b 65535 i e).2.2)++[(some go,T,cs.set o (.slice (hd g1) (yG b 65535 i e).1.length c1))])++[(g1,5,u8s (yG b 65535 i e).1++s1)])→Hp wa wb SS ((pr gp gr gb cb sb b ((yG b 65535 i e).2.1) ((yG b 65535 i e).2.2)++[(some go,T,zJ cs o [(.slice (hd g1) (yG b 65535 i e).1.length c1)])])++[(g1,5,u8s (yG b 65535 i e).1++s1)]) from fun wa wb SS h=>by rw[hrow]at h;exact h) _ _ _ H3
 exact⟨_,_,_,[(.slice (hd g1) (yG b 65535 i e).1.length c1)],Y,(lG hi).1,FPs.one ⟨hd g1,c1,Y,HN.rd (i:=4) (o:=g1) (xs:=u8s (yG b 65535 i e).1) (sp:=s1) Y (yY _) (by decide),fun _ p hp=>⟨Ce hsz0 (LT Hd (i:=0) Y p hp),qE (es1:=pr gp gr gb cb sb b ((yG b 65535 i e).2.1) ((yG b 65535 i e).2.2)++[(some go,T,zJ cs o [(.slice (hd g1) (yG b 65535 i e).1.length c1)])]) (R:=[(g1,5,u8s (yG b 65535 i e).1++s1)]) HN (i:=0) Y p hp,HN.tw (i:=4) Y p hp⟩⟩,HN.less⟩
theorem SK (gp gr go o:Nat) (gb:Option Nat) (cb:Nat) (sb:List Value) (b:List UInt8) (i e:Nat) (T:TypeId) (cs:List Value) (w0:World) (H0:Hp w0 w0 (bl (pr gp gr gb cb sb b i e++[(some go,T,cs)])) (pr gp gr gb cb sb b i e++[(some go,T,cs)])) (hcb:b.length≤cb) (hbl:b.length≤65536) (hi:i≤b.length) (m:Nat) (hat:At cs o (zCs (List.replicate m .text))) (A:Option Addr) (c:Nat) (hm:m≤1000000) (hA:Rd w0 A m 1 (fX go o m)) (hS:∀ p,A=some p→p.block∉bl (pr gp gr gb cb sb b i e++[(some go,T,cs)])):Aj 151 #[Ah gp,Ac A m c] w0 (fun r w'=>∃ fd i1 e1 us,vT (List.replicate m .text) b i e=(fd,i1,e1)∧i1≤b.length∧NFs w' w0.heap.size (pr gp gr gb cb sb b i1 e1++[(some go,T,zJ cs o us)]) fd us∧Hp w0 w' (bl (pr gp gr gb cb sb b i e++[(some go,T,cs)])) (pr gp gr gb cb sb b i1 e1++[(some go,T,zJ cs o us)])):=by
 refine zG Tryz.func151 Tryz.ntmps151 Y<|cR e44 ?_
 have H:=H0
 refine Rq<|Xm Y<|OV (ES Yo Y)<|Xm Y<|Xr e44<|J7<|zV (fun nQ lQ w=>∃ (q:Nat) (y:Int) (i1 e1:Nat) (us:List Value) (fd:List Fv),m - q=nQ∧xM (Hy [(0,Ah gp),(7,Ac A m c),(8,Aa m),(9,Aa y)] 0 44) lQ∧y=q∧q≤m∧us.length=q∧vT (List.replicate q .text) b i e=(fd,i1,e1)∧i1≤b.length∧NFs w w0.heap.size (pr gp gr gb cb sb b i1 e1++[(some go,T,zJ cs o us)]) fd us∧Hp w0 w (bl (pr gp gr gb cb sb b i e++[(some go,T,cs)])) (pr gp gr gb cb sb b i1 e1++[(some go,T,zJ cs o us)])) (m) ?_ ?_
 exact⟨0,_,i,e,[],[],Y,(Jg Y Y Y Y Y),Y,Am _,Y,Y,hi,FPs.nil,by rw[kZ];exact H⟩
 rintro nQ lQ w1 ⟨q,y,i1,e1,us,fd,rfl,hfit,rfl,hq,hus,hrd,hi1,hF,H1⟩
 obtain⟨j,rfl⟩:=hfit.open
 refine cR e44 ?_
 clear hfit
 refine Rq<|OT (zQ Y Y) (fun hp10=>?_) (fun hp10=>?_)
 have Gi:q < m:=by omega
 have hcq:cs[o+q]? =some (.string ⟨([]:List UInt8).toArray⟩):=hat q _ (IF Gi)
 have hfit:=lt_of_get hcq
 have hkeep:=DX (cs:=cs) hus (Nat.le_of_lt hfit)
 rw[hcq]at hkeep
 obtain⟨pa,hpa⟩:=hA.some_ (by omega)
 subst hpa
 have HB:=H1
 replace H1:=HB.here
 have HB1:=HB
 refine Xr e44<|J1<|J3 Y<|J6<|J1<|J7<|Rq<|OV (EI Yo AC Y Y Y Gi (Cc _))<|OV (EL AC Y ((hA.to (HB.all H1) hS).cells pa Y q _ (bB Gi)))<|Xa Y<|Xr e44<|J1<|Rq<|Xm Y<|Xc Y<|Xf tT Y<|OV (EL oD Y (H1.cell (i:=0) Y Y))<|Ag e44<|Jw (yF Tn Y) (by simp)<|Xm Y<|Ag e44<|Oz 5 Y<|Ag e44<|Xu Y Y<|Xr e44<|J4 Y<|J6<|Rq<|Xm Y ?_
 refine Xc Y<|OV (EL ty9 Y (H1.cell (i:=3) Y hkeep)) ?_
 have hgn:=eH H1 (g:=w1.heap.size) (Ak _)
 refine mD Tryz.underlying9 Gz Tryz.underlying5 H1 (s:=[]) Y<|fun w2 gs cs1 HB2 hrs hgs hsz=>?_
 replace hF:=hF.to HB2
 replace HB:=HB1.all HB2
 have H2:=HB.here
 refine Ag e44<|OA xO H2<|fun w3 gv H3 hgv=>OW xO H3 4 Y Y Y Y (by decide) Y<|fun w4 H4=>Xr e44<|Rq<|Xm Y ?_
 have HQ:Hp _ w4 _ ((pr gp gr gb cb sb b i1 e1++[(some gv,73,[Ac (some ⟨gs,0,none⟩) ([]:List UInt8).length cs1])])++[(some go,T,zJ cs o us)]):=H4.pick [0,1,2,4,3] (by decide)
 have hk:=EH gp gr gv 0 gb cb sb b i1 e1 73 [Ac (some ⟨gs,0,none⟩) ([]:List UInt8).length cs1] _ HQ.less.here hcb hbl hi1 _ ⟨_,_,rfl,⟨rfl,fun _ _ _ _ hu=>by simp[u8s]at hu,fun _=>rfl⟩,fun h0=>absurd h0 (by simp)⟩ rfl
 refine OQ (EC BE Y) hk ?_
 rintro _ w5 ⟨fdn,i2,e2,un,hrn,hi2,hFn,Hd⟩
 have hrn2:=K6 hrn
 obtain⟨tx,hfn,hrt⟩:=hrn2
 subst hfn
 obtain⟨vn,hun,hvn⟩:=hFn.head
 subst hun
 obtain⟨Bn,cn,hvs,hrdn,hapn⟩:=hvn
 subst hvs
 have HX:=HQ.front Hd
 have H5:Hp _ w5 _ (pr gp gr gb cb sb b i2 e2++[(some go,T,zJ cs o us),(some gv,73,[Ac Bn tx.length cn])]):=HX.pick [0,1,2,4,3] (by decide)
 refine Xr e44<|Rq<|Xm Y<|Xc Y<|Xf tT Y<|OV (EL oD Y (H5.cell (i:=0) Y Y))<|Ag e44<|Ui (uV Tn Y) (by simp)<|Xr e44<|J3 Y<|J2<|Xm Y<|OV (EL xO Y (H5.cell (i:=4) Y Y))<|OV (dD Gz Tryz.underlying5 Tryz.underlying9 Y hrdn)<|Xc Y<|Ag e44<|OW ty9 H5 3 Y Y Y Y (by rw[vN (by omega)];omega) Y<|fun w6 H6=>Xr e44<|zA (zB ?_)
 refine J2<|OV (zL Y Y (Ad _ (by omega)))<|Xm Y<|Xr e44<|zA (zH ?_)
 have hrow:=gB (cs:=cs) (o:=o) (v:=(.string ⟨tx.toArray⟩)) hus hfit
 have HN:=(show ∀ (wa wb:World) (SS:List Nat),Hp wa wb SS ((pr gp gr gb cb sb b i2 e2++[(some go,T,(zJ cs o us).set (o+q) (.string ⟨tx.toArray⟩))])++[(some gv,73,[Ac Bn tx.length cn])])→Hp wa wb SS ((pr gp gr gb cb sb b i2 e2++[(some go,T,zJ cs o (us++[(.string ⟨tx.toArray⟩)]))])++[(some gv,73,[Ac Bn tx.length cn])]) from fun wa wb SS h=>by rw[hrow]at h;exact h) _ _ _ H6
 replace HN:=HN.less
 exact⟨m - (q+1),by omega,q+1,_,i2,e2,us++[(.string ⟨tx.toArray⟩)],_,Y,(Jg Y Y Y Y Y),Y,by omega,by simp[hus],gD hrd hrt,hi2,(hF.to HN).app (FPs.one (f:=.text tx) (show _=_ from Y)),HB.all HN⟩
 have hqm:q=m:=by omega
 subst hqm
 refine Xr e44<|J1<|J4 Y<|J8<|zU<|zS<|zA<|yQ Y<|⟨fd,i1,e1,us,hrd,hi1,hF,H1⟩
theorem iJ :VV Tryz.prog 106 .int:=fun gp gr gb cb sb b hcb hbl go o n c i e T cs w0 A hn H0 hi hat _ hA hS=>(WB gp gr go o gb cb sb b i e T cs w0 H0 hcb hbl hi n hat A c hn hA hS).mono fun _ _ h=>cU h
theorem SM :VV Tryz.prog 151 .text:=fun gp gr gb cb sb b hcb hbl go o n c i e T cs w0 A hn H0 hi hat _ hA hS=>(SK gp gr go o gb cb sb b i e T cs w0 H0 hcb hbl hi n hat A c hn hA hS).mono fun _ _ h=>cU h
theorem EK :MH Tryz.prog 150 (Th.flat [.bytes]):=fun gp gr gb cb sb b hcb hbl go o i e T cs w0 H0 hi hat _=>(EH gp gr go o gb cb sb b i e T cs w0 H0 hcb hbl hi _ (zFP _ _ .bytes) (by have:=hat 0 _ rfl;rwa [Ia]at this)).mono fun _ _ h=>cU h
end Go.Proofs.YtjoeklkmnfaabaaGreat
namespace Go.Proofs.YtjoeklkmnfaabaaGreat
open Go Go.RowKit
set_option linter.unusedVariables false
set_option linter.unusedSimpArgs false
theorem FPs.part {w:World} {ok:Nat→Prop} {fs:List Fv} {vs:List Value} (h:FPs w ok fs vs) (k n:Nat):FPs w ok ((fs.drop k).take n) ((vs.drop k).take n):=by
 refine⟨by simp[h.len],fun i hi=>?_⟩
 simp only[Aw,Bl]at hi
 obtain⟨v,q1,q2⟩:=h.each (k+i) (by omega)
 refine⟨v,?_,by simpa using q2⟩
 rw[Qb (by omega),Em]
 exact q1
theorem Th.part {ks:List Kd} {w:World} {ok:Nat→Prop} {x:List Fv} {vs:List Value} (h:(Th.flat ks).M w ok x vs) (k n:Nat):(Th.flat ((ks.drop k).take n)).M w ok ((x.drop k).take n) ((vs.drop k).take n):=
 ⟨by rw[← h.1];simp[List.map_drop,List.map_take],h.2.part k n⟩
theorem Th.whole {ks:List Kd} {w:World} {ok:Nat→Prop} {x:List Fv} {vs:List Value} (h:(Th.flat ks).M w ok x vs):x.take ks.length=x:=Ej (by rw[← h.1];simp)
theorem At.sub (vs:List Value) (k n:Nat):At vs k ((vs.drop k).take n):=fun j u hu=>by
 rw[Ic]at hu
 split at hu
 · rwa [Em]at hu
 cases hu
section
variable {P:Program} {l:List Value} {w:World} {ty t:TypeId} {x:Operand}
end
structure YG (tw:Bool) (gp:Nat) (a:Addr) (w0:World) (S:List Nat) (w:World) (st:WS) (T:Th) (x:T.X) (vs:List Value) (g:Option Nat) (cap:Nat) (sp:List Value):Prop where
 H:Hp w0 w S (pw gp g cap sp st)
 P:POk 65536 g cap sp st
 M:T.M w (fun b=>b∉bl (pw gp g cap sp st)) x vs
 C:Cl w (bl (pw gp g cap sp st)) a vs
 tw_:tw=true→qU w a∧0 < vs.length
section
variable {P:Program} {f:FuncId} {tw tv:Bool} {gp o:Nat} {a:Addr} {w0 w w1:World} {S:List Nat} {st st1:WS} {T A:Th} {x:T.X} {y:A.X} {vs us:List Value} {g g1:Option Nat} {cap cap1:Nat} {sp sp1:List Value} {k:Kd} {ys:List Fv} {gs n:Nat} {PT:TypeId}
theorem YG.next (h:YG tw gp a w0 S w st T x vs g cap sp) (hP:POk 65536 g1 cap1 sp1 st1) (Hd:Hp w w1 (bl (pw gp g cap sp st)) (pw gp g1 cap1 sp1 st1)):YG tw gp a w0 S w1 st1 T x vs g1 cap1 sp1:=
 ⟨h.H.all Hd,hP,T.mono (T.to h.M Hd fun _ h=>h) fun _ h=>h.2,h.C.to Hd,fun ht=>⟨(h.tw_ ht).1.to Hd (h.C.apart (h.tw_ ht).2),(h.tw_ ht).2⟩⟩
theorem YG.one (h:YG tw gp a w0 S w st T x vs g cap sp) (hc:ID P f A tv) (ht:tv=true→tw=true) (hp:∀ w ok,T.M w ok x vs→A.M w ok y us) (hat:At vs o us):
 zP P f #[Ptr0 gp,MG (a.add o)] w (fun _ w1=>∃ g1 cap1 sp1,YG tw gp a w0 S w1 (xX (A.fl y) st) T x vs g1 cap1 sp1):=
 (hc gp g cap sp st (a.add o) y us w h.H.here h.P (hp _ _ h.M) (h.C.part hat) (fun h1=>(h.tw_ (ht h1)).1.add o)).mono fun _ _ ⟨g1,cap1,sp1,hP,Hd⟩=>⟨g1,cap1,sp1,h.next hP Hd⟩
theorem YG.grp (h:YG tw gp a w0 S w st T x vs g cap sp) (hc:RC P f k) (H1:Hp w w1 (bl (pw gp g cap sp st)) (pw gp g cap sp st++[(some gs,PT,gG a o n)])) (hn:n≤1000000) (hp:∀ w ok,T.M w ok x vs→(Th.flat (List.replicate n k)).M w ok ys us) (hat:At vs o us):
 zP P f #[Ptr0 gp,.slice (hd (some gs)) n n] w1 (fun _ w2=>∃ g1 cap1 sp1,YG tw gp a w0 S w2 (xX ys st) T x vs g1 cap1 sp1):=by
 have hM:=T.to h.M H1.less fun _ h=>h
 have hC:=h.C.to H1.less
 refine(hc gp g cap sp st a o n n ys us w1 _ hn H1.less.here h.P (hp _ _ (T.mono hM fun _ h=>h.2)) (hC.part hat) (H1.rd (i:=2) (o:=some gs) (xs:=gG a o n) (T:=PT) (sp:=[]) (by rw[Dt];rfl) (by simp[CC]) (by decide)) (qE H1 (i:=0) Y)).mono ?_
 rintro _ w2 ⟨g1,cap1,sp1,hP,Hd⟩
 exact⟨g1,cap1,sp1,h.next hP (H1.front Hd).less⟩
end
theorem YG.out {tw:Bool} {gp:Nat} {a:Addr} {w0 w:World} {S:List Nat} {st s2:WS} {T:Th} {x:T.X} {vs:List Value} {g:Option Nat} {cap:Nat} {sp:List Value} (h:YG tw gp a w0 S w st T x vs g cap sp) (e:st=s2):nV gp s2 w0 S w:=by subst e;exact⟨g,cap,sp,h.P,h.H⟩
theorem At.cast {cs us:List Value} {o o':Nat} (h:At cs o us) (e:o=o'):At cs o' us:=by subst e;exact h
structure Qw (gp go o:Nat) (w0:World) (S:List Nat) (w:World) (m:Nat) (a st:WS) (T:Th) (x:T.X) (vs:List Value) (U:TypeId) (cs:List Value) (g:Option Nat) (cap:Nat) (sp:List Value):Prop where
 H:Hp w0 w S (vwo gp g cap sp st go U cs)
 P:POk m g cap sp st
 L:qB a st
 M:T.M w (fun b=>b∉bl (vwo gp g cap sp st go U cs)) x vs
 at_:At cs o vs
section
variable {P:Program} {f:FuncId} {gp go o p:Nat} {w0 w w1:World} {S:List Nat} {st st1 a a1:WS} {T A:Th} {x:T.X} {y:A.X} {vs us cs:List Value} {g g1:Option Nat} {cap cap1:Nat} {sp sp1:List Value} {k:Kd} {ys:List Fv} {gs n m m1:Nat} {U PT:TypeId}
theorem Qw.next (h:Qw gp go o w0 S w m a st T x vs U cs g cap sp) (hL:qB a1 st1) (hP:POk m1 g1 cap1 sp1 st1) (Hd:Hp w w1 (bl (vwo gp g cap sp st go U cs)) (vwo gp g1 cap1 sp1 st1 go U cs)):Qw gp go o w0 S w1 m1 a1 st1 T x vs U cs g1 cap1 sp1:=
 ⟨h.H.all Hd,hP,hL,T.mono (T.to h.M Hd fun _ h=>h) fun _ h=>h.2,h.at_⟩
theorem Qw.one (h:Qw gp go o w0 S w m a st T x vs U cs g cap sp) (hc:fI P f A) (hm:m+A.mx≤1000000000) (hp:∀ w ok,T.M w ok x vs→A.M w ok y us) (hat:At vs p us):
 zP P f #[Ptr0 gp,MG ⟨go,o+p,none⟩] w (fun _ w1=>∃ st1 g1 cap1 sp1,Qw gp go o w0 S w1 (m+A.mx) (xX (A.fl y) a) st1 T x vs U cs g1 cap1 sp1):=
 (hc gp go (o+p) g cap sp st U cs y us w m a h.H.here hm h.P h.L (hp _ _ h.M) (h.at_.trans hat)).mono fun _ _ ⟨st1,g1,cap1,sp1,hL,hP,Hd⟩=>⟨st1,g1,cap1,sp1,h.next hL hP Hd⟩
theorem Qw.grp (h:Qw gp go o w0 S w m a st T x vs U cs g cap sp) (hc:Q9 P f k) (H1:Hp w w1 (bl (vwo gp g cap sp st go U cs)) (vwo gp g cap sp st go U cs++[(some gs,PT,fX go (o+p) n)])) (hn:n≤1000000) (hm:m+65545*n≤1000000000)
 (hp:∀ w ok,T.M w ok x vs→(Th.flat (List.replicate n k)).M w ok ys us) (hat:At vs p us):
 zP P f #[Ptr0 gp,.slice (hd (some gs)) n n] w1 (fun _ w2=>∃ st1 g1 cap1 sp1,Qw gp go o w0 S w2 (m+65545*n) (xX ys a) st1 T x vs U cs g1 cap1 sp1):=by
 have hM:=T.to h.M H1.less fun _ h=>h
 refine(hc gp go (o+p) n n g cap sp st U cs ys us w1 m a _ hn H1.less.here hm h.P h.L (hp _ _ (T.mono hM fun _ h=>h.2)) (h.at_.trans hat) (H1.rd (i:=3) (o:=some gs) (xs:=fX go (o+p) n) (T:=PT) (sp:=[]) (by rw[Dt];rfl) (by simp[eY]) (by decide)) (qE H1 (i:=0) Y)).mono ?_
 rintro _ w2 ⟨st1,g1,cap1,sp1,hL,hP,Hd⟩
 exact⟨st1,g1,cap1,sp1,h.next hL hP (H1.front Hd).less⟩
theorem Qw.re {m2:Nat} (h:Qw gp go o w0 S w m a st T x vs U cs g cap sp) (e:m=m2):Qw gp go o w0 S w m2 a st T x vs U cs g cap sp:=by subst e;exact h
theorem Qw.ZF {m2:Nat} (h:Qw gp go o w0 S w m a st T x vs U cs g cap sp) (e:a=a1) (em:m=m2):fJ m2 gp a1 go U cs w0 S w:=by subst e em;exact⟨st,g,cap,sp,h.L,h.P,h.H⟩
end
structure Vk (R:BM) (go o:Nat) (U:TypeId) (cs:List Value) (b:List UInt8) (i0 e0 n:Nat) (w0:World) (S:List Nat) (w:World) (A:Th) (us:List Value) (i e:Nat):Prop where
 rd:(A.rd b i0 e0).2=(i,e)
 ul:us.length=A.sz
 one_:us.all (·.oneCell')=true
 H:Hp w0 w S (R i e++[(some go,U,zJ cs o us)])
 M:e=0→A.M w (Fr w n (R i e++[(some go,U,zJ cs o us)])) (A.rd b i0 e0).1 us
 le:i≤b.length
 nle:n≤w.heap.size
section
variable {P:Program} {f:FuncId} {R:BM} {gp go o q:Nat} {U PT:TypeId} {cs us:List Value} {b:List UInt8} {i0 e0 i e n:Nat} {w0 w w1:World} {S:List Nat} {A B:Th} {ks js:List Kd} {k:Kd} {m gs r:Nat}
theorem Vk.out (h:Vk R go o U cs b i0 e0 n w0 S w A us i e):nU R A go o U cs b i0 e0 n w0 S w:=by
 obtain⟨h1,h2,h3,h4,h5,h6,h7⟩:=h
 refine⟨us,h2,h3,?_,?_⟩
 · rw[h1];exact h4
 intro h0
 rw[h1]at h0
 have:=h5 h0
 rw[h1]
 exact this
theorem Vk.start (H0:Hp w0 w0 S (R i0 e0++[(some go,U,cs)])) (hi:i0≤b.length):Vk R go o U cs b i0 e0 w0.heap.size w0 S w0 (Th.flat []) [] i0 e0:=
 ⟨rfl,rfl,rfl,by rw[kZ];exact H0,fun _=>⟨rfl,FPs.nil⟩,hi,Ak _⟩
theorem Vk.step (h:Vk R go o U cs b i0 e0 n w0 S w A us i e) (hq:A.sz=q) (hfit:o+q+B.sz≤cs.length) {w1 w2:World} (H1:Hp w w1 (bl (R i e++[(some go,U,zJ cs o us)])) (R i e++[(some go,U,zJ cs o us)]))
 (Hd:nU R B go (o+q) U (zJ cs o us) b i e w1.heap.size w1 (bl (R i e++[(some go,U,zJ cs o us)])) w2):∃ us2 i2 e2,Vk R go o U cs b i0 e0 n w0 S w2 (Th.pair A B) (us++us2) i2 e2:=by
 subst hq
 obtain⟨us2,hl2,ho2,H2,hM2⟩:=Hd
 have Yg:=h.ul
 have hput:zJ (zJ cs o us) (o+A.sz) us2=zJ cs o (us++us2):=by rw[← Yg];exact AR (by omega)
 rw[hput]at H2 hM2
 have hrd:((Th.pair A B).rd b i0 e0).2=(B.rd b i e).2:=by
  show(B.rd b (A.rd b i0 e0).2.1 (A.rd b i0 e0).2.2).2=_
  rw[h.rd]
 have hrd1:((Th.pair A B).rd b i0 e0).1=((A.rd b i0 e0).1,(B.rd b i e).1):=by
  show((A.rd b i0 e0).1,(B.rd b (A.rd b i0 e0).2.1 (A.rd b i0 e0).2.2).1)=_
  rw[h.rd]
 have H3:=H1.all H2
 have hsz1:=H1.size
 have hsz2:=H2.size
 have hn:=h.nle
 refine⟨us2,(B.rd b i e).2.1,(B.rd b i e).2.2,hrd,by rw[Ae,Yg,hl2],by rw[List.all_append,h.one_,ho2];rfl,h.H.all H3,?_,B.le h.le,by omega⟩
 intro h0
 have he:e=0:=by
  apply Classical.byContradiction
  intro hne
  have:=B.bad (b:=b) (i:=i) hne
  rw[this]at h0
  exact hne h0
 rw[hrd1]
 have hA:=Fr.to (h.M he) H3
 refine⟨?_,?_,by simp only[Ae];omega⟩
 · rw[← Yg,List.take_left]
   exact hA
 rw[← Yg,List.drop_left]
 exact B.mono (hM2 h0) fun _ h=>⟨by have:=h.1;omega,h.2⟩
theorem LU {w:World} {ok:Nat→Prop} {x y:List Fv} {vs:List Value} (h1:(Th.flat ks).M w ok x (vs.take ks.length)) (h2:(Th.flat js).M w ok y (vs.drop ks.length)):(Th.flat (ks++js)).M w ok (x++y) vs:=by
 refine⟨by rw[Dx,h1.1,h2.1],?_⟩
 have:=h1.2.app h2.2
 rwa [Fg]at this
@[reducible] def fapp (a b:List Fv):List Fv:=a++b
theorem Vk.Ou (h:Vk R go o U cs b i0 e0 n w0 S w (Th.pair (Th.flat ks) (Th.flat js)) us i e):Vk R go o U cs b i0 e0 n w0 S w (Th.flat (ks++js)) us i e:=by
 have hx:(Th.flat (ks++js)).rd b i0 e0=(fapp ((Th.pair (Th.flat ks) (Th.flat js)).rd b i0 e0).1.1 ((Th.pair (Th.flat ks) (Th.flat js)).rd b i0 e0).1.2,((Th.pair (Th.flat ks) (Th.flat js)).rd b i0 e0).2):=mB ks js b i0 e0
 refine⟨by rw[hx];exact h.rd,by rw[h.ul];exact Ae.symm,h.one_,h.H,fun h0=>?_,h.le,h.nle⟩
 have:=h.M h0
 rw[hx]
 exact LU this.1 this.2.1
theorem Vk.one (h:Vk R go o U cs b i0 e0 n w0 S w A us i e) (hc:KG P f R gp b B) (hq:A.sz=q) (hfit:o+q+B.sz≤cs.length) (hat:At cs (o+q) B.zs):
 zP P f #[Ptr0 gp,MG ⟨go,o+q,none⟩] w (fun _ w1=>∃ us2 i2 e2,Vk R go o U cs b i0 e0 n w0 S w1 (Th.pair A B) (us++us2) i2 e2):=by
 have Yg:=h.ul
 refine(hc go (o+q) i e U (zJ cs o us) w h.H.here h.le ?_ ?_).mono fun _ w1 hd=>h.step hq hfit h.H.here hd
 · rw[← hq,← Yg]at hat ⊢
   exact At.behind hat (by omega)
 rw[vN (by omega)];exact hfit
theorem Vk.grp (h:Vk R go o U cs b i0 e0 n w0 S w A us i e) (hc:F7 P f R gp b k) (hq:A.sz=q) (H1:Hp w w1 (bl (R i e++[(some go,U,zJ cs o us)])) (R i e++[(some go,U,zJ cs o us)]++[(some gs,PT,fX go (o+q) m)])) (hm:m≤1000000)
 (hfit:o+q+m≤cs.length) (hat:At cs (o+q) (zCs (List.replicate m k))) (hR:(R i e++[(some go,U,zJ cs o us)]).length=r) (hz:(Th.flat (List.replicate m k)).sz=m):
 zP P f #[Ptr0 gp,.slice (hd (some gs)) m m] w1 (fun _ w2=>∃ us2 i2 e2,Vk R go o U cs b i0 e0 n w0 S w2 (Th.pair A (Th.flat (List.replicate m k))) (us++us2) i2 e2):=by
 have Yg:=h.ul
 refine(hc go (o+q) m m i e U (zJ cs o us) w1 _ hm H1.less.here h.le ?_ ?_ (H1.rd (i:=r) (o:=some gs) (xs:=fX go (o+q) m) (T:=PT) (sp:=[]) ?_ (by simp[eY]) (by decide)) (qE H1 (i:=0) Y)).mono fun _ w2 hd=>h.step hq (by rw[hz];exact hfit) H1.less hd
 · rw[← hq,← Yg]at hat ⊢
   exact At.behind hat (by omega)
 · rw[vN (by omega)];exact hfit
 rw[Eb (by omega),hR];simp
end
def rH (st:WS):List UInt8:=if st.long=true then[] else st.out
def errOf (st:WS):Nat:=if st.long=true then 22 else 0
@[reducible] def W0 :WS:=⟨[],false⟩
def KD (w0 w':World) (r:Value) (st:WS):Prop:=
 ∃ g cap sp,r=.tuple #[.slice (hd g) (rH st).length cap,.int .i64 (errOf st:Int)]∧(rH st).length≤cap∧cap*1≤(u8s (rH st)++sp).length∧(g=none→cap=0)∧(rH st).length≤65536∧Hp w0 w' [] [(g,5,u8s (rH st)++sp)]
def Qu (A:Th) (b:List UInt8):Nat:=if 65536 < b.length then 22 else if(A.rd b 0 0).2.2≠0 then(A.rd b 0 0).2.2 else if(A.rd b 0 0).2.1 < b.length then 24 else 0
def PG (A:Th) (b:List UInt8):A.X:=if Qu A b=0 then(A.rd b 0 0).1 else A.z
def VU (A:Th) (b:List UInt8) (w0 w':World) (r:Value):Prop:=
 ∃ cells,r=.tuple #[.agg cells.toArray,.int .i64 (Qu A b:Int)]∧A.M w' (fun p=>w0.heap.size≤p∧Tw w' p) (PG A b) cells∧Hp w0 w' [] []
section
variable {P:Program} {fn:Func} {l:List Value} {w w0:World} {R:Value→World→Prop} {zs:List Value} {sz bytes:Nat}
theorem Hp.cells {S:List Nat} {es:List Ent} (H:Hp w0 w S es) {i g:Nat} {T:TypeId} {cs:List Value} (he:es[i]? =some (some g,T,cs)):∀ j u,cs[j]? =some u→w.cell? ((⟨g,0,none⟩:Addr).add j)=some u:=fun j u hu=>by
 rw[Ir,Ba];exact H.cell he hu
end
theorem MC {a st:WS} (h:qB a st):(st.long=true∨65536 < st.out.length→a.long=true)∧(¬(st.long=true∨65536 < st.out.length)→a.long=false∧a.out=st.out):=by
 rcases h with ⟨h1,h2⟩ | ⟨h1,h2,h3,h4⟩
 · exact⟨fun _=>h1,fun h=>absurd h2 h⟩
 refine⟨fun h=>?_,fun _=>⟨h1,h3⟩⟩
 rcases h with h | h
 · rw[h2]at h;cases h
 rw[← h3]at h;omega
theorem mU {st:WS} (h:st.long=true):rH st=[]∧errOf st=22:=⟨if_pos h,if_pos h⟩
theorem gY {st:WS} (h:st.long=false):rH st=st.out∧errOf st=0:=⟨if_neg (by simp[h]),if_neg (by simp[h])⟩
theorem JB {A:Th} {b:List UInt8} (h:Qu A b=0):PG A b=(A.rd b 0 0).1∧¬65536 < b.length∧(A.rd b 0 0).2.2=0∧¬(A.rd b 0 0).2.1 < b.length:=by
 refine⟨if_pos h,?_⟩
 unfold Qu at h
 split at h
 · cases h
 split at h
 · omega
 split at h
 · cases h
 rename_i h1 h2 h3;exact⟨h1,by omega,h3⟩
theorem PF {A:Th} {b:List UInt8} (h:Qu A b≠0):PG A b=A.z:=if_neg h
theorem T4 {A:Th} {b:List UInt8} {x:A.X} {i e:Nat} (h:b.length≤65536) (hx:A.rd b 0 0=(x,i,e)):Qu A b=if e=0∧i < b.length then 24 else e:=by
 unfold Qu
 rw[if_neg (by omega),hx]
 simp only
 split
 · rw[if_neg (by omega)]
 split
 · rw[if_pos ⟨by omega,by assumption⟩]
 rw[if_neg (by omega)];omega
theorem GV {cs us:List Value} (h:us.length=cs.length):zJ cs 0 us=us:=by
 unfold zJ
 rw[Gn (by omega)]
 simp
theorem ET {P:Program} {ds:List Deferred} {Q:vQ} {K:List Value→World→Prop} {all os:List Oper} {l:List Value} {w:World} {op:Op} {ty:TypeId} {pos:String} {af:Array Edge} {d:Tmp}
 {f:FuncId} {args:Array Value} {st:WS} (hx:Ex P l op ty w (.enter f args) w) (hc:zP P f args w fun r w'=>KD w w' r st)
 (h:∀ w' g cap sp,(rH st).length≤cap→cap*1≤(u8s (rH st)++sp).length→(g=none→cap=0)→(rH st).length≤65536→Hp w w' [] [(g,5,u8s (rH st)++sp)]→Ops P ds all K Q os (l.set d (.tuple #[.slice (hd g) (rH st).length cap,.int .i64 (errOf st:Int)])) w'):
 Ops P ds all K Q (⟨some d,op,ty,pos,af,none⟩::os) l w:=
 tG hx hc fun r w' ⟨g,cap,sp,h1,h2,h3,h4,h5,h6⟩=>by rw[h1];exact h w' g cap sp h2 h3 h4 h5 h6
theorem CF {P:Program} {ds:List Deferred} {Q:vQ} {K:List Value→World→Prop} {all os:List Oper} {l:List Value} {w:World} {op:Op} {ty:TypeId} {pos:String} {af:Array Edge} {d:Tmp}
 {f:FuncId} {args:Array Value} {A:Th} {b:List UInt8} (hx:Ex P l op ty w (.enter f args) w) (hc:zP P f args w fun r w'=>VU A b w w' r)
 (h:∀ w' cells,A.M w' (fun p=>w.heap.size≤p∧Tw w' p) (PG A b) cells→Hp w w' [] []→Ops P ds all K Q os (l.set d (.tuple #[.agg cells.toArray,.int .i64 (Qu A b:Int)])) w'):
 Ops P ds all K Q (⟨some d,op,ty,pos,af,none⟩::os) l w:=
 tG hx hc fun r w' ⟨cells,h1,h2,h3⟩=>by rw[h1];exact h w' cells h2 h3

theorem eT (s t:List UInt8) (hs:s.length≤65535):vI (xY s++t) 65535=(s,(xY s).length,0):=by
 have h1:xQ (xY s++t)=(s.length,(enc s.length).length,0):=by
  rw[rI,Bh];exact jD _ _ (by omega)
 have h2:yB (xY s++t) 65535=(s.length,(enc s.length).length,0):=by
  rw[oL (by rw[h1]) (by rw[h1];simp only;omega),h1]
 unfold vI
 rw[h2]
 simp only[ne_eq,not_true,if_false]
 rw[if_neg (by rw[rI];simp),rI,Bh,List.drop_left,List.take_left,Ae]
theorem PW {f:Fv} {b t:List UInt8} {i:Nat} (hf:FOk f) (h2:wN f=false) (h:b.drop i=rP f++t):rdF f.kd b i 0=(f,i+(rP f).length,0):=by
 cases f with
 | int n=>
  show(Fv.int (unz (yO b i 0).1),(yO b i 0).2)=_
  have hs:yO b i 0=(zig n,i+(enc (zig n)).length,0):=by
   unfold yO
   rw[if_pos rfl,h]
   simp only[rP]
   rw[rN,jD _ _ (GA n hf.1 hf.2)]
  rw[hs]
  simp only[RX,rP]
  rw[rN]
 | flag v=>
  show(Fv.flag (sG b i 0).1,(sG b i 0).2)=_
  have hs:sG b i 0=(v,i+1,0):=by
   unfold sG
   rw[if_pos rfl,h]
   cases v <;>rfl
  rw[hs]
  rfl
 | text s=>
  show(Fv.text (yG b 65535 i 0).1,(yG b 65535 i 0).2)=_
  have hl:s.length≤65535:=by have:=of_decide_eq_false h2;omega
  have hs:yG b 65535 i 0=(s,i+(xY s).length,0):=by
   unfold yG
   rw[if_pos rfl,h]
   simp only[rP]
   rw[eT s t hl]
  rw[hs]
  rfl
 | bytes s=>
  show(Fv.bytes (yG b 65535 i 0).1,(yG b 65535 i 0).2)=_
  have hl:s.length≤65535:=by have:=of_decide_eq_false h2;omega
  have hs:yG b 65535 i 0=(s,i+(xY s).length,0):=by
   unfold yG
   rw[if_pos rfl,h]
   simp only[rP]
   rw[eT s t hl]
  rw[hs]
  rfl
 | word n=>
  show(Fv.word (tY b i 0).1,(tY b i 0).2)=_
  have hn:n < 4294967296:=hf
  have hs:yO b i 0=(n,i+(enc n).length,0):=by
   unfold yO
   rw[if_pos rfl,h]
   simp only[rP]
   rw[jD _ _ (by omega)]
  unfold tY
  rw[hs,if_neg (by simp only;omega)]
  rfl
 | count n=>
  show(Fv.count (wK b 1024 i 0).1,(wK b 1024 i 0).2)=_
  have hl:n≤1024:=by have:=of_decide_eq_false h2;omega
  have h1:xQ (b.drop i)=(n,(enc n).length,0):=by
   rw[h]
   simp only[rP]
   rw[jD _ _ (by omega)]
  rw[dE (by rw[h1]) (by rw[h1];simp only;omega),h1]
  rfl
theorem MR (f:Fv) (st:WS):st.out <+:(qQ f st).out:=by
 unfold qQ
 split
 · exact List.prefix_refl _
 split
 · exact List.prefix_refl _
 unfold iU
 split
 · exact List.prefix_refl _
 exact List.prefix_append _ _
theorem DH :∀ (fs:List Fv) (st:WS),st.out <+:(xX fs st).out
 | [],_=>List.prefix_refl _
 | f::fs,st=>(MR f st).trans (DH fs (qQ f st))
theorem GE {a c:List Fv} {st:WS} (h:(xX (a++c) st).long=false):(xX a st).long=false:=by
 rw[wW]at h
 cases hl:(xX a st).long with
 | false=>rfl
 | true=>rw[aZ hl,hl]at h;cases h
theorem KL {f:Fv} {st:WS} (h0:st.long=false) (h:(qQ f st).long=false):wN f=false∧qQ f st=⟨st.out++rP f,false⟩:=by
 cases ht:wN f with
 | true=>rw[iV h0 ht]at h;cases h
 | false=>
  refine⟨Y,?_⟩
  rw[lD h0 ht]at h ⊢
  unfold iU at h ⊢
  split at h
  · cases h
  rename_i hn
  rw[if_neg hn,h0]
theorem QK {a c b:List UInt8} (h:a++c <+:b):∃ t,b.drop a.length=c++t:=by
 obtain⟨t,rfl⟩:=h
 exact⟨t,by rw[Bh,List.drop_left]⟩
theorem J9 :∀ (x:List Fv),(∀ f∈x,FOk f)→∀ (st:WS) (b:List UInt8),st.long=false→(xX x st).long=false→(xX x st).out <+:b→vT (x.map Fv.kd) b st.out.length 0=(x,(xX x st).out.length,0)
 | [],_,_,_,_,_,_=>rfl
 | f::fs,hok,st,b,h0,hl,hp=>by
  have hl1:(qQ f st).long=false:=GE (a:=[f]) (c:=fs) hl
  obtain⟨h2,h3⟩:=KL h0 hl1
  have hp1:st.out++rP f <+:b:=by
   have:=(DH fs (qQ f st)).trans hp
   rw[h3]at this
   exact this
  obtain⟨t,ht⟩:=QK hp1
  have hr:=PW (hok f (Gm ..)) h2 ht
  have hs:xX (f::fs) st=xX fs (qQ f st):=rfl
  have ih:=J9 fs (fun g hg=>hok g (Eu _ hg)) (qQ f st) b hl1 (by rw[← hs];exact hl) (by rw[← hs];exact hp)
  have hlen:(qQ f st).out.length=st.out.length+(rP f).length:=by rw[h3];simp
  rw[hlen]at ih
  rw[hs]
  show((rdF f.kd b st.out.length 0).1::(vT (fs.map Fv.kd) b (rdF f.kd b st.out.length 0).2.1 (rdF f.kd b st.out.length 0).2.2).1,(vT (fs.map Fv.kd) b (rdF f.kd b st.out.length 0).2.1 (rdF f.kd b st.out.length 0).2.2).2)=_
  rw[hr]
  simp only
  rw[ih]
section
variable {A:Th} {w:World} {ok:Nat→Prop} {x:A.X} {vs:List Value}
theorem WC (st:List Fv):(rH (xX st W0)).length≤65536:=by
 have h:=RM (fs:=st) (st:=W0) (Am _)
 unfold rH
 split
 · exact Am _
 exact h
end
end Go.Proofs.YtjoeklkmnfaabaaGreat
namespace Go.Proofs.YtjoeklkmnfaabaaGreat
open Go Go.RowKit
set_option linter.unusedVariables false
set_option linter.unusedSimpArgs false
attribute [local irreducible] yW Ops zP Cd
set_option maxRecDepth 100000
set_option maxHeartbeats 4000000
theorem NY :wY Tryz.prog 178=some [(0,1),(1,1),(2,1),(3,1)]:=by kernel_rfl
theorem V7 :wY Tryz.prog 167=some [(0,1),(1,1),(2,1)]:=by kernel_rfl
theorem plw81 :wY Tryz.prog 81=some [(0,1),(1,1),(2,2),(4,4),(8,2),(10,4),(14,1),(15,1)]:=by kernel_rfl
theorem DC (fl:List Fv) (fc:FuncId) (Zr:List Value) (w0:World) (hg:yC Tryz.prog fc=true) (hfc:∀ gp w1,Hp w0 w1 [] (pw gp none 0 [] W0)→Aj fc (Ptr0 gp::Zr).toArray w1 (fun _ w'=>nV gp (xX fl W0) w1 (bl (pw gp none 0 [] W0)) w')):Aj 70 #[.func (.func fc) #[] Zr.toArray] w0 (fun r w'=>KD w0 w' r (xX fl W0)):=by
 refine zG Tryz.func70 Tryz.ntmps70 Y<|cR e18 ?_
 have H:=Hp.refl w0
 refine Rq<|Xa Y<|Xa Y<|Xr e18<|Rq<|OV (EB UW NY Y Y)<|yA Y Y H<|fun w1 g1 H1 hg1=>Xa Y<|Xr e18<|Rq<|Xm Y<|Xm Y ?_
 have HP:Hp w0 w1 [] (pw g1 none 0 [] W0):=Hp.nil H1 5
 refine OQ (xL hg Y Y) (hfc _ _ HP) ?_
 rintro _ w2 ⟨g,cap,sp,hP,Hd⟩
 obtain⟨st,hst⟩:∃ st,xX fl W0=st:=⟨_,rfl⟩
 rw[hst]at hP Hd
 have H2:=HP.all Hd
 refine Xr e18<|J1<|Rq<|Xm Y<|Xc Y<|Xf oH Y<|OV (EL ty4 Y (H2.cell (i:=0) Y Y))<|Xr e18<|wU Y (fun hb13=>?_) (fun hb13=>?_)
 obtain⟨q1,q2⟩:=mU hb13
 refine Rq<|Xa Y<|Xa Y<|Xr e18<|J5<|Kz Y Y Y ?_
 rw[hst]
 exact⟨none,0,[],by rw[q1,q2];rfl,by rw[q1];exact Ak 0,Am _,fun _=>Y,by rw[q1];decide,by rw[q1];exact Hp.nil (H2.pick [] (by decide)) 5⟩
 obtain⟨q1,q2⟩:=gY hb13
 refine J6<|Rq<|Xm Y<|Xc Y<|Xf dU Y<|OV (EL xO Y (H2.cell (i:=0) Y Y))<|Ag e18<|Xa Y<|Xa Y<|Xr e18<|J5<|Kz Y Y Y ?_
 rw[hst]
 exact⟨g,cap,sp,by rw[q1,q2];rfl,by rw[q1];exact hP.le,by rw[q1];exact hP.room,hP.nil,by rw[q1];exact hP.most,by rw[q1];exact H2.pick [1] (by decide)⟩
theorem K4 (A:Th) (AA:Option Addr) (b:List UInt8) (c:Nat) (go:Nat) (U:TypeId) (cs:List Value) (fc:FuncId) (Zr:List Value) (w0:World) (H0:Hp w0 w0 [go] [(some go,U,cs)]) (hcs:cs.length=A.sz) (hr:Rd w0 AA b.length 1 (u8s b)) (hra:0 < b.length→∀ a,AA=some a→a.block∉[go]) (hg:yC Tryz.prog fc=true) (hfc:∀ gp gr gb cb sb w1,b.length≤cb→b.length≤65536→Hp w0 w1 [go] (pr gp gr gb cb sb b 0 0++[(some go,U,cs)])→Aj fc (Ptr0 gp::Zr).toArray w1 (fun _ w'=>nU (pr gp gr gb cb sb b) A go 0 U cs b 0 0 w1.heap.size w1 (bl (pr gp gr gb cb sb b 0 0++[(some go,U,cs)])) w')):Aj 63 #[Ac AA b.length c,.func (.func fc) #[] Zr.toArray] w0 (fun r w'=>r=Aa (Qu A b:Int)∧∃ cs',cs'.length=A.sz∧Hp w0 w' [go] [(some go,U,cs')]∧(Qu A b=0→A.M w' (fun p=>w0.heap.size≤p∧p∉[go]∧Tw w' p) (A.rd b 0 0).1 cs')):=by
 refine zG Tryz.func63 Tryz.ntmps63 Y<|cR e30 ?_
 have H:=H0
 refine Rq<|Xa Y<|Xr e30<|J1<|Rq<|Xm Y<|OV (ES Gz Y)<|OT (yS Y Y) (fun hp8=>?_) (fun hp8=>?_)
 have he:Qu A b=22:=if_pos (by omega)
 refine Xr e30<|J3 Y<|Rq<|Xa Y<|Xr e30<|J5<|Cm Y Y<|⟨by rw[he];rfl,cs,hcs,H,fun h=>by rw[he]at h;cases h⟩
 have hbl:b.length≤65536:=by omega
 refine Xr e30<|J4 Y<|J6<|Rq<|Xm Y<|SY (EC gf104 Y) (S5 AA b c _ (hr.fc H hra) (by omega))<|fun w1 gr g cap sp hcb hroom hnil Hd=>have H1:=H.call0 Hd;OV (EB UW NY Y Y)<|yA Y Y H1<|fun w2 g2 H2 hg2=>Ag e30 ?_
 obtain⟨gpn,hgpn⟩:∃ x,x=g2:=⟨_,rfl⟩
 subst hgpn
 refine Xa Y<|Xr e30<|Rq<|Xm Y<|Xm Y ?_
 have HX:Hp w0 w2 [go] (pr gpn gr g cap sp b 0 0++[(some go,U,cs)]):=H2.pick [3,1,2,0] (by decide)
 refine OQ (xL hg Y Y) (hfc gpn gr g cap sp _ hcb hbl HX) ?_
 rintro _ w3 ⟨us,Yg,hone,Hd,hM⟩
 obtain⟨⟨x,i,e⟩,hx⟩:∃ y,A.rd b 0 0=y:=⟨_,rfl⟩
 rw[hx]at Hd hM
 simp only at Hd hM
 have hil:i≤b.length:=by have:=A.le (b:=b) (i:=0) (e:=0) (Am _);rw[hx]at this;exact this
 have hpu:zJ cs 0 us=us:=by
  unfold zJ
  rw[Gn (by omega)]
  simp
 rw[hpu]at Hd hM
 have hsz:=HX.size
 have H3:=HX.all Hd
 refine Xr e30<|J1<|Rq<|Xm Y<|Xc Y<|Xf JM Y<|OV (EL pZ Y (H3.cell (i:=0) Y Y))<|Ag e30<|Jw (yR Y Y) (by simp)<|Xr e30<|J4 Y<|J6<|Rq<|Xm Y<|Xc Y<|Xf tT Y<|OV (EL oD Y (H3.cell (i:=0) Y Y))<|Ag e30<|OC (EC gf105 Y) (XM gr (hd g) cap b i e _ (CB H3 (j:=1) (k:=2) Y Y (by decide) hcb (by omega) hil))<|fun w4 He=>have hMe:=fun h0=>Fr.to (hM h0) (H3.here.call0 He);have H4:=H3.call0 He;Xa Y<|Xr e30<|J5<|Cm Y Y ?_
 have he:Qu A b=if e=0∧i < b.length then 24 else e:=by
  unfold Qu
  rw[if_neg (by omega),hx]
  simp only
  split
  · rw[if_neg (by omega)]
  split
  · rw[if_pos ⟨by omega,by assumption⟩]
  rw[if_neg (by omega)];omega
 refine⟨by rw[he],us,Yg,H4.pick [3] (by decide),fun h0=>?_⟩
 rw[he]at h0
 have he0:e=0:=by split at h0 <;>omega
 have h2:=hMe he0
 rw[hx]
 exact A.mono h2 fun p hp=>⟨by have:=hp.1;omega,fun hq=>hp.2.1 (by simp only[Az]at hq;subst hq;simp[bl]),hp.2.2⟩
@[reducible] def nH :Th:=Th.flat [.int,.int]
@[reducible] def fR :Th:=Th.flat [.int,.int,.int,.bytes]
@[reducible] def kP :Th:=Th.flat [.int,.bytes]
@[reducible] def kO :Th:=Th.flat [.int,.text,.int,.int]
@[reducible] def rS :Th:=Th.flat [.int,.int,.int,.int,.int,.int,.int,.bytes,.int,.bytes,.int,.text,.int,.int,.int,.int]
theorem LB (gp:Nat) (g:Option Nat) (cap:Nat) (sp:List Value) (st:WS) (a:Addr) (x:nH.X) (vs:List Value) (w0:World) (H0:Hp w0 w0 (bl (pw gp g cap sp st)) (pw gp g cap sp st)) (hP:POk 65536 g cap sp st) (hM:nH.M w0 (fun b=>b∉bl (pw gp g cap sp st)) x vs) (hC:Cl w0 (bl (pw gp g cap sp st)) a vs) (htw:false=true→qU w0 a):Aj 107 #[Ah gp,.pointer (some a)] w0 (fun _ w'=>nV gp (xX (nH.fl x) st) w0 (bl (pw gp g cap sp st)) w'):=by
 refine zG Tryz.func107 Tryz.ntmps107 Y<|cR e13 ?_
 have HS:YG false gp a w0 (bl (pw gp g cap sp st)) w0 st nH x vs g cap sp:=⟨H0,hP,hM,hC,fun h=>⟨htw h,by have hl:=nH.len hM;change vs.length=2 at hl;omega⟩⟩
 have H:=HS.H.here
 refine zR 8 [(true,0),(true,1),(true,2),(true,3),(true,4),(true,5),(true,6),(false,7),(false,8)] H [0,1] yE (by decide) (by kernel_rfl) ?_
 rintro w1 hw1
 have H1:=Hp.drew H;rw[← hw1]at H1
 refine Zm Y Y<|Zm Y Y<|Zc Y Y<|cZ e13<|MP Y<|MV (fun wz hz=>yK rD Y)<|Zm Y Y<|Zc Y Y<|cZ e13<|MP Y<|MV (fun wz hz=>yK qJ Y)<|MO Y<|zE Nz tR H1 Y (by decide) Y<|fun w2 g2 H2 hg2=>OE<|⟨fun hne=>H2.pick [0,1] (by decide),?_⟩
 refine cZ e13<|MO Y<|OQ (EC oF Y) (HS.grp (o:=0) iI H2 (by decide) (fun _ _ hM=>(Th.part hM 0 2)) (At.cast (At.trans (At.self _) (At.sub _ 0 2)) (by decide))) ?_
 rintro _ w3 ⟨g,cap,sp,HS⟩
 have H3:=HS.H.here
 refine OE ?_
 refine⟨fun hne=>absurd Y hne,?_⟩
 refine cZ e13<|ME<|cR e13<|zA<|yQ Y ?_
 have hw0:List.take 2 x=x:=Th.whole hM
 refine HS.out ?_
 show _=xX (x) st
 simp only[Ep,tL,wW,Nat.reduceAdd,hw0]
theorem AW :ID Tryz.prog 107 nH false:=LB
theorem LC (gp gr:Nat) (gb:Option Nat) (cb:Nat) (sb:List Value) (b:List UInt8) (hcb:b.length≤cb) (hbl:b.length≤65536) (go o i e:Nat) (U:TypeId) (cs:List Value) (w0:World) (H0:Hp w0 w0 (bl (pr gp gr gb cb sb b i e++[(some go,U,cs)])) (pr gp gr gb cb sb b i e++[(some go,U,cs)])) (hi:i≤b.length) (hat:At cs o nH.zs) (hfit:o+nH.sz≤cs.length):Aj 107 #[Ah gp,.pointer (some ⟨go,o,none⟩)] w0 (fun _ w'=>nU (pr gp gr gb cb sb b) nH go o U cs b i e w0.heap.size w0 (bl (pr gp gr gb cb sb b i e++[(some go,U,cs)])) w'):=by
 refine zG Tryz.func107 Tryz.ntmps107 Y<|cR e13 ?_
 change o+2≤cs.length at hfit
 have HS:=Vk.start (R:=pr gp gr gb cb sb b) (o:=o) H0 hi
 have H:=HS.H.here
 refine zR 8 [(true,0),(true,1),(true,2),(true,3),(true,4),(true,5),(true,6),(false,7),(false,8)] H [0,1,2,3] yE (by decide) (by kernel_rfl) ?_
 rintro w1 hw1
 have H1:=Hp.drew H;rw[← hw1]at H1
 refine Zm Y Y<|Zm Y Y<|Zc Y Y<|cZ e13<|Zf Y rD Y<|Zm Y Y<|Zc Y Y<|cZ e13<|Zf Y qJ Y<|MO Y<|zE Nz tR H1 Y (by decide) Y<|fun w2 g2 H2 hg2=>OE<|⟨fun hne=>H2.pick [0,1,2,3] (by decide),?_⟩
 refine cZ e13<|MO Y<|OQ (EC oF Y) (HS.grp (q:=0) (iJ gp gr gb cb sb b hcb hbl) (by decide) H2 (by decide) (show o+0+2≤_ by omega) (At.cast (hat.trans (At.sub _ 0 2)) Y) Y Y) ?_
 rintro _ w3 ⟨us,i1,e1,HS⟩
 replace HS:=HS.Ou
 have H3:=HS.H.here
 refine OE ?_
 refine⟨fun hne=>absurd Y hne,?_⟩
 refine cZ e13<|ME<|cR e13<|zA<|yQ Y<|HS.out
theorem AX :MH Tryz.prog 107 nH:=LC
theorem SF (gp:Nat) (g:Option Nat) (cap:Nat) (sp:List Value) (st:WS) (a:Addr) (x:fR.X) (vs:List Value) (w0:World) (H0:Hp w0 w0 (bl (pw gp g cap sp st)) (pw gp g cap sp st)) (hP:POk 65536 g cap sp st) (hM:fR.M w0 (fun b=>b∉bl (pw gp g cap sp st)) x vs) (hC:Cl w0 (bl (pw gp g cap sp st)) a vs) (htw:false=true→qU w0 a):Aj 108 #[Ah gp,.pointer (some a)] w0 (fun _ w'=>nV gp (xX (fR.fl x) st) w0 (bl (pw gp g cap sp st)) w'):=by
 refine zG Tryz.func108 Tryz.ntmps108 Y<|cR e20 ?_
 have HS:YG false gp a w0 (bl (pw gp g cap sp st)) w0 st fR x vs g cap sp:=⟨H0,hP,hM,hC,fun h=>⟨htw h,by have hl:=fR.len hM;change vs.length=4 at hl;omega⟩⟩
 have H:=HS.H.here
 refine Rq<|Xm Y<|Xm Y<|Xc Y<|Ag e20<|OV (yK vF Y)<|zE Nz tR H Y (by decide) Y<|fun w1 g1 H1 hg1=>OQ (EC oF Y) (HS.grp (o:=0) iI H1 (by decide) (fun _ _ hM=>(Th.part hM 0 1)) (At.cast (At.trans (At.self _) (At.sub _ 0 1)) (by decide))) ?_
 rintro _ w2 ⟨g,cap,sp,HS⟩
 have H2:=HS.H.here
 refine Xr e20<|Rq<|Xm Y<|Xm Y<|Xc Y<|Ag e20<|OV (yK sH Y)<|OQ (EC JK Y) (HS.one (o:=1) AW (by decide) (fun _ _ hM=>(Th.part hM 1 2)) (At.cast (At.trans (At.self _) (At.sub _ 1 2)) (by decide))) ?_
 rintro _ w3 ⟨g,cap,sp,HS⟩
 have H3:=HS.H.here
 refine Xr e20<|J2<|Xm Y<|Xm Y<|Xc Y<|Ag e20<|OV (yK rC Y)<|OQ (EC BE Y) (HS.one (o:=3) EJ (by decide) (fun _ _ hM=>(Th.part hM 3 1)) (At.cast (At.trans (At.self _) (At.sub _ 3 1)) (by decide))) ?_
 rintro _ w4 ⟨g,cap,sp,HS⟩
 have H4:=HS.H.here
 refine Xr e20<|zA<|yQ Y ?_
 have hw0:List.take 4 x=x:=Th.whole hM
 refine HS.out ?_
 show _=xX (x) st
 simp only[Ep,tL,wW,Nat.reduceAdd,hw0]
theorem SH :ID Tryz.prog 108 fR false:=SF
theorem SG (gp gr:Nat) (gb:Option Nat) (cb:Nat) (sb:List Value) (b:List UInt8) (hcb:b.length≤cb) (hbl:b.length≤65536) (go o i e:Nat) (U:TypeId) (cs:List Value) (w0:World) (H0:Hp w0 w0 (bl (pr gp gr gb cb sb b i e++[(some go,U,cs)])) (pr gp gr gb cb sb b i e++[(some go,U,cs)])) (hi:i≤b.length) (hat:At cs o fR.zs) (hfit:o+fR.sz≤cs.length):Aj 108 #[Ah gp,.pointer (some ⟨go,o,none⟩)] w0 (fun _ w'=>nU (pr gp gr gb cb sb b) fR go o U cs b i e w0.heap.size w0 (bl (pr gp gr gb cb sb b i e++[(some go,U,cs)])) w'):=by
 refine zG Tryz.func108 Tryz.ntmps108 Y<|cR e20 ?_
 change o+4≤cs.length at hfit
 have HS:=Vk.start (R:=pr gp gr gb cb sb b) (o:=o) H0 hi
 have H:=HS.H.here
 refine Rq<|Xm Y<|Xm Y<|Xc Y<|Ag e20<|Xf vF Y<|zE Nz tR H Y (by decide) Y<|fun w1 g1 H1 hg1=>OQ (EC oF Y) (HS.grp (q:=0) (iJ gp gr gb cb sb b hcb hbl) (by decide) H1 (by decide) (show o+0+1≤_ by omega) (At.cast (hat.trans (At.sub _ 0 1)) Y) Y Y) ?_
 rintro _ w2 ⟨us,i1,e1,HS⟩
 replace HS:=HS.Ou
 have H2:=HS.H.here
 refine Xr e20<|Rq<|Xm Y<|Xm Y<|Xc Y<|Ag e20<|Xf sH Y<|OQ (EC JK Y) (HS.one (q:=1) (AX gp gr gb cb sb b hcb hbl) (by decide) (show o+1+2≤_ by omega) (At.cast (hat.trans (At.sub _ 1 2)) Y)) ?_
 rintro _ w3 ⟨us,i1,e1,HS⟩
 replace HS:=HS.Ou
 have H3:=HS.H.here
 refine Xr e20<|J2<|Xm Y<|Xm Y<|Xc Y<|Ag e20<|Xf rC Y<|OQ (EC BE Y) (HS.one (q:=3) (EK gp gr gb cb sb b hcb hbl) (by decide) (show o+3+1≤_ by omega) (At.cast (hat.trans (At.sub _ 3 1)) Y)) ?_
 rintro _ w4 ⟨us,i1,e1,HS⟩
 replace HS:=HS.Ou
 have H4:=HS.H.here
 refine Xr e20<|zA<|yQ Y<|HS.out
theorem SI :MH Tryz.prog 108 fR:=SG
theorem NZ (gp:Nat) (g:Option Nat) (cap:Nat) (sp:List Value) (st:WS) (a:Addr) (x:kP.X) (vs:List Value) (w0:World) (H0:Hp w0 w0 (bl (pw gp g cap sp st)) (pw gp g cap sp st)) (hP:POk 65536 g cap sp st) (hM:kP.M w0 (fun b=>b∉bl (pw gp g cap sp st)) x vs) (hC:Cl w0 (bl (pw gp g cap sp st)) a vs) (htw:false=true→qU w0 a):Aj 109 #[Ah gp,.pointer (some a)] w0 (fun _ w'=>nV gp (xX (kP.fl x) st) w0 (bl (pw gp g cap sp st)) w'):=by
 refine zG Tryz.func109 Tryz.ntmps109 Y<|cR e15 ?_
 have HS:YG false gp a w0 (bl (pw gp g cap sp st)) w0 st kP x vs g cap sp:=⟨H0,hP,hM,hC,fun h=>⟨htw h,by have hl:=kP.len hM;change vs.length=2 at hl;omega⟩⟩
 have H:=HS.H.here
 refine Rq<|Xm Y<|Xm Y<|Xc Y<|Ag e15<|OV (yK wF Y)<|zE Nz tR H Y (by decide) Y<|fun w1 g1 H1 hg1=>OQ (EC oF Y) (HS.grp (o:=0) iI H1 (by decide) (fun _ _ hM=>(Th.part hM 0 1)) (At.cast (At.trans (At.self _) (At.sub _ 0 1)) (by decide))) ?_
 rintro _ w2 ⟨g,cap,sp,HS⟩
 have H2:=HS.H.here
 refine Xr e15<|J2<|Xm Y<|Xm Y<|Xc Y<|Ag e15<|OV (yK uU Y)<|OQ (EC BE Y) (HS.one (o:=1) EJ (by decide) (fun _ _ hM=>(Th.part hM 1 1)) (At.cast (At.trans (At.self _) (At.sub _ 1 1)) (by decide))) ?_
 rintro _ w3 ⟨g,cap,sp,HS⟩
 have H3:=HS.H.here
 refine Xr e15<|zA<|yQ Y ?_
 have hw0:List.take 2 x=x:=Th.whole hM
 refine HS.out ?_
 show _=xX (x) st
 simp only[Ep,tL,wW,Nat.reduceAdd,hw0]
theorem N1 :ID Tryz.prog 109 kP false:=NZ
theorem N0 (gp gr:Nat) (gb:Option Nat) (cb:Nat) (sb:List Value) (b:List UInt8) (hcb:b.length≤cb) (hbl:b.length≤65536) (go o i e:Nat) (U:TypeId) (cs:List Value) (w0:World) (H0:Hp w0 w0 (bl (pr gp gr gb cb sb b i e++[(some go,U,cs)])) (pr gp gr gb cb sb b i e++[(some go,U,cs)])) (hi:i≤b.length) (hat:At cs o kP.zs) (hfit:o+kP.sz≤cs.length):Aj 109 #[Ah gp,.pointer (some ⟨go,o,none⟩)] w0 (fun _ w'=>nU (pr gp gr gb cb sb b) kP go o U cs b i e w0.heap.size w0 (bl (pr gp gr gb cb sb b i e++[(some go,U,cs)])) w'):=by
 refine zG Tryz.func109 Tryz.ntmps109 Y<|cR e15 ?_
 change o+2≤cs.length at hfit
 have HS:=Vk.start (R:=pr gp gr gb cb sb b) (o:=o) H0 hi
 have H:=HS.H.here
 refine Rq<|Xm Y<|Xm Y<|Xc Y<|Ag e15<|Xf wF Y<|zE Nz tR H Y (by decide) Y<|fun w1 g1 H1 hg1=>OQ (EC oF Y) (HS.grp (q:=0) (iJ gp gr gb cb sb b hcb hbl) (by decide) H1 (by decide) (show o+0+1≤_ by omega) (At.cast (hat.trans (At.sub _ 0 1)) Y) Y Y) ?_
 rintro _ w2 ⟨us,i1,e1,HS⟩
 replace HS:=HS.Ou
 have H2:=HS.H.here
 refine Xr e15<|J2<|Xm Y<|Xm Y<|Xc Y<|Ag e15<|Xf uU Y<|OQ (EC BE Y) (HS.one (q:=1) (EK gp gr gb cb sb b hcb hbl) (by decide) (show o+1+1≤_ by omega) (At.cast (hat.trans (At.sub _ 1 1)) Y)) ?_
 rintro _ w3 ⟨us,i1,e1,HS⟩
 replace HS:=HS.Ou
 have H3:=HS.H.here
 refine Xr e15<|zA<|yQ Y<|HS.out
theorem N2 :MH Tryz.prog 109 kP:=N0
theorem NT (gp:Nat) (g:Option Nat) (cap:Nat) (sp:List Value) (st:WS) (a:Addr) (x:kO.X) (vs:List Value) (w0:World) (H0:Hp w0 w0 (bl (pw gp g cap sp st)) (pw gp g cap sp st)) (hP:POk 65536 g cap sp st) (hM:kO.M w0 (fun b=>b∉bl (pw gp g cap sp st)) x vs) (hC:Cl w0 (bl (pw gp g cap sp st)) a vs) (htw:false=true→qU w0 a):Aj 110 #[Ah gp,.pointer (some a)] w0 (fun _ w'=>nV gp (xX (kO.fl x) st) w0 (bl (pw gp g cap sp st)) w'):=by
 refine zG Tryz.func110 Tryz.ntmps110 Y<|cR e25 ?_
 have HS:YG false gp a w0 (bl (pw gp g cap sp st)) w0 st kO x vs g cap sp:=⟨H0,hP,hM,hC,fun h=>⟨htw h,by have hl:=kO.len hM;change vs.length=4 at hl;omega⟩⟩
 have H:=HS.H.here
 refine Rq<|Xm Y<|Xm Y<|Xc Y<|Ag e25<|OV (yK qK Y)<|zE Nz tR H Y (by decide) Y<|fun w1 g1 H1 hg1=>OQ (EC oF Y) (HS.grp (o:=0) iI H1 (by decide) (fun _ _ hM=>(Th.part hM 0 1)) (At.cast (At.trans (At.self _) (At.sub _ 0 1)) (by decide))) ?_
 rintro _ w2 ⟨g,cap,sp,HS⟩
 have H2:=HS.H.here
 refine Xr e25<|Rq<|Xm Y<|Xm Y<|Xc Y<|Ag e25<|OV (yK oZ Y)<|zE Yo AC H2 Y (by decide) Y<|fun w3 g3 H3 hg3=>OQ (EC VB Y) (HS.grp (o:=1) SL H3 (by decide) (fun _ _ hM=>(Th.part hM 1 1)) (At.cast (At.trans (At.self _) (At.sub _ 1 1)) (by decide))) ?_
 rintro _ w4 ⟨g,cap,sp,HS⟩
 have H4:=HS.H.here
 refine Xr e25<|zR 8 [(true,0),(true,1),(true,2),(true,3),(true,4),(true,5),(true,6),(false,7),(false,8)] H4 [0,1] yE (by decide) (by kernel_rfl) ?_
 rintro w5 hw5
 have H5:=Hp.drew H4;rw[← hw5]at H5
 refine Zm Y Y<|Zm Y Y<|Zc Y Y<|cZ e25<|MP Y<|MV (fun wz hz=>yK bX Y)<|Zm Y Y<|Zc Y Y<|cZ e25<|MP Y<|MV (fun wz hz=>yK G6 Y)<|MO Y<|zE Nz tR H5 Y (by decide) Y<|fun w6 g6 H6 hg6=>OE<|⟨fun hne=>H6.pick [0,1] (by decide),?_⟩
 refine cZ e25<|MO Y<|OQ (EC oF Y) (HS.grp (o:=2) iI H6 (by decide) (fun _ _ hM=>(Th.part hM 2 2)) (At.cast (At.trans (At.self _) (At.sub _ 2 2)) (by decide))) ?_
 rintro _ w7 ⟨g,cap,sp,HS⟩
 have H7:=HS.H.here
 refine OE ?_
 refine⟨fun hne=>absurd Y hne,?_⟩
 refine cZ e25<|ME<|cR e25<|zA<|yQ Y ?_
 have hw0:List.take 4 x=x:=Th.whole hM
 refine HS.out ?_
 show _=xX (x) st
 simp only[Ep,tL,wW,Nat.reduceAdd,hw0]
theorem NV :ID Tryz.prog 110 kO false:=NT
theorem NU (gp gr:Nat) (gb:Option Nat) (cb:Nat) (sb:List Value) (b:List UInt8) (hcb:b.length≤cb) (hbl:b.length≤65536) (go o i e:Nat) (U:TypeId) (cs:List Value) (w0:World) (H0:Hp w0 w0 (bl (pr gp gr gb cb sb b i e++[(some go,U,cs)])) (pr gp gr gb cb sb b i e++[(some go,U,cs)])) (hi:i≤b.length) (hat:At cs o kO.zs) (hfit:o+kO.sz≤cs.length):Aj 110 #[Ah gp,.pointer (some ⟨go,o,none⟩)] w0 (fun _ w'=>nU (pr gp gr gb cb sb b) kO go o U cs b i e w0.heap.size w0 (bl (pr gp gr gb cb sb b i e++[(some go,U,cs)])) w'):=by
 refine zG Tryz.func110 Tryz.ntmps110 Y<|cR e25 ?_
 change o+4≤cs.length at hfit
 have HS:=Vk.start (R:=pr gp gr gb cb sb b) (o:=o) H0 hi
 have H:=HS.H.here
 refine Rq<|Xm Y<|Xm Y<|Xc Y<|Ag e25<|Xf qK Y<|zE Nz tR H Y (by decide) Y<|fun w1 g1 H1 hg1=>OQ (EC oF Y) (HS.grp (q:=0) (iJ gp gr gb cb sb b hcb hbl) (by decide) H1 (by decide) (show o+0+1≤_ by omega) (At.cast (hat.trans (At.sub _ 0 1)) Y) Y Y) ?_
 rintro _ w2 ⟨us,i1,e1,HS⟩
 replace HS:=HS.Ou
 have H2:=HS.H.here
 refine Xr e25<|Rq<|Xm Y<|Xm Y<|Xc Y<|Ag e25<|Xf oZ Y<|zE Yo AC H2 Y (by decide) Y<|fun w3 g3 H3 hg3=>OQ (EC VB Y) (HS.grp (q:=1) (SM gp gr gb cb sb b hcb hbl) (by decide) H3 (by decide) (show o+1+1≤_ by omega) (At.cast (hat.trans (At.sub _ 1 1)) Y) Y Y) ?_
 rintro _ w4 ⟨us,i1,e1,HS⟩
 replace HS:=HS.Ou
 have H4:=HS.H.here
 refine Xr e25<|zR 8 [(true,0),(true,1),(true,2),(true,3),(true,4),(true,5),(true,6),(false,7),(false,8)] H4 [0,1,2,3] yE (by decide) (by kernel_rfl) ?_
 rintro w5 hw5
 have H5:=Hp.drew H4;rw[← hw5]at H5
 refine Zm Y Y<|Zm Y Y<|Zc Y Y<|cZ e25<|Zf Y bX Y<|Zm Y Y<|Zc Y Y<|cZ e25<|Zf Y G6 Y<|MO Y<|zE Nz tR H5 Y (by decide) Y<|fun w6 g6 H6 hg6=>OE<|⟨fun hne=>H6.pick [0,1,2,3] (by decide),?_⟩
 refine cZ e25<|MO Y<|OQ (EC oF Y) (HS.grp (q:=2) (iJ gp gr gb cb sb b hcb hbl) (by decide) H6 (by decide) (show o+2+2≤_ by omega) (At.cast (hat.trans (At.sub _ 2 2)) Y) Y Y) ?_
 rintro _ w7 ⟨us,i1,e1,HS⟩
 replace HS:=HS.Ou
 have H7:=HS.H.here
 refine OE ?_
 refine⟨fun hne=>absurd Y hne,?_⟩
 refine cZ e25<|ME<|cR e25<|zA<|yQ Y<|HS.out
theorem NW :MH Tryz.prog 110 kO:=NU
theorem SO (gp:Nat) (g:Option Nat) (cap:Nat) (sp:List Value) (st:WS) (a:Addr) (x:rS.X) (vs:List Value) (w0:World) (H0:Hp w0 w0 (bl (pw gp g cap sp st)) (pw gp g cap sp st)) (hP:POk 65536 g cap sp st) (hM:rS.M w0 (fun b=>b∉bl (pw gp g cap sp st)) x vs) (hC:Cl w0 (bl (pw gp g cap sp st)) a vs) (htw:false=true→qU w0 a):Aj 65 #[Ah gp,.pointer (some a)] w0 (fun _ w'=>nV gp (xX (rS.fl x) st) w0 (bl (pw gp g cap sp st)) w'):=by
 refine zG Tryz.func65 Tryz.ntmps65 Y<|cR e42 ?_
 have HS:YG false gp a w0 (bl (pw gp g cap sp st)) w0 st rS x vs g cap sp:=⟨H0,hP,hM,hC,fun h=>⟨htw h,by have hl:=rS.len hM;change vs.length=16 at hl;omega⟩⟩
 have H:=HS.H.here
 refine J1<|zR 8 [(true,0),(true,1),(true,2),(true,3),(true,4),(true,5),(true,6),(false,7),(false,8)] H [0,1] yE (by decide) (by kernel_rfl) ?_
 rintro w1 hw1
 have H1:=Hp.drew H;rw[← hw1]at H1
 refine Zm Y Y<|Zm Y Y<|Zc Y Y<|cZ e42<|MP Y<|MV (fun wz hz=>yK oY Y)<|Zm Y Y<|Zc Y Y<|cZ e42<|MP Y<|MV (fun wz hz=>yK fl81_1 Y)<|MO Y<|zE Nz tR H1 Y (by decide) Y<|fun w2 g2 H2 hg2=>OE<|⟨fun hne=>H2.pick [0,1] (by decide),?_⟩
 refine cZ e42<|MO Y<|OQ (EC oF Y) (HS.grp (o:=0) iI H2 (by decide) (fun _ _ hM=>(Th.part hM 0 2)) (At.cast (At.trans (At.self _) (At.sub _ 0 2)) (by decide))) ?_
 rintro _ w3 ⟨g,cap,sp,HS⟩
 have H3:=HS.H.here
 refine OE ?_
 refine⟨fun hne=>absurd Y hne,?_⟩
 refine cZ e42<|ME<|cR e42<|Rq<|Xm Y<|Xm Y<|Xc Y<|Ag e42<|OV (yK iR Y)<|OQ (EC JK Y) (HS.one (o:=2) AW (by decide) (fun _ _ hM=>(Th.part hM 2 2)) (At.cast (At.trans (At.self _) (At.sub _ 2 2)) (by decide))) ?_
 rintro _ w4 ⟨g,cap,sp,HS⟩
 have H4:=HS.H.here
 refine Xr e42<|Rq<|Xm Y<|Xm Y<|Xc Y<|Ag e42<|OV (yK oX Y)<|OQ (EC VO Y) (HS.one (o:=4) SH (by decide) (fun _ _ hM=>(Th.part hM 4 4)) (At.cast (At.trans (At.self _) (At.sub _ 4 4)) (by decide))) ?_
 rintro _ w5 ⟨g,cap,sp,HS⟩
 have H5:=HS.H.here
 refine Xr e42<|Rq<|Xm Y<|Xm Y<|Xc Y<|Ag e42<|OV (yK uF Y)<|OQ (EC VN Y) (HS.one (o:=8) N1 (by decide) (fun _ _ hM=>(Th.part hM 8 2)) (At.cast (At.trans (At.self _) (At.sub _ 8 2)) (by decide))) ?_
 rintro _ w6 ⟨g,cap,sp,HS⟩
 have H6:=HS.H.here
 refine Xr e42<|Rq<|Xm Y<|Xm Y<|Xc Y<|Ag e42<|OV (yK eJ Y)<|OQ (EC VM Y) (HS.one (o:=10) NV (by decide) (fun _ _ hM=>(Th.part hM 10 4)) (At.cast (At.trans (At.self _) (At.sub _ 10 4)) (by decide))) ?_
 rintro _ w7 ⟨g,cap,sp,HS⟩
 have H7:=HS.H.here
 refine Xr e42<|zR 8 [(true,0),(true,1),(true,2),(true,3),(true,4),(true,5),(true,6),(false,7),(false,8)] H7 [0,1] yE (by decide) (by kernel_rfl) ?_
 rintro w8 hw8
 have H8:=Hp.drew H7;rw[← hw8]at H8
 refine Zm Y Y<|Zm Y Y<|Zc Y Y<|cZ e42<|MP Y<|MV (fun wz hz=>yK uZ Y)<|Zm Y Y<|Zc Y Y<|cZ e42<|MP Y<|MV (fun wz hz=>yK rB Y)<|MO Y<|zE Nz tR H8 Y (by decide) Y<|fun w9 g9 H9 hg9=>OE<|⟨fun hne=>H9.pick [0,1] (by decide),?_⟩
 refine cZ e42<|MO Y<|OQ (EC oF Y) (HS.grp (o:=14) iI H9 (by decide) (fun _ _ hM=>(Th.part hM 14 2)) (At.cast (At.trans (At.self _) (At.sub _ 14 2)) (by decide))) ?_
 rintro _ w10 ⟨g,cap,sp,HS⟩
 have Df:=HS.H.here
 refine OE ?_
 refine⟨fun hne=>absurd Y hne,?_⟩
 refine cZ e42<|ME<|cR e42<|zA<|yQ Y ?_
 have hw0:List.take 16 x=x:=Th.whole hM
 refine HS.out ?_
 show _=xX (x) st
 simp only[Ep,tL,wW,Nat.reduceAdd,hw0]
theorem pnote_W :ID Tryz.prog 65 rS false:=SO
theorem SP (gp gr:Nat) (gb:Option Nat) (cb:Nat) (sb:List Value) (b:List UInt8) (hcb:b.length≤cb) (hbl:b.length≤65536) (go o i e:Nat) (U:TypeId) (cs:List Value) (w0:World) (H0:Hp w0 w0 (bl (pr gp gr gb cb sb b i e++[(some go,U,cs)])) (pr gp gr gb cb sb b i e++[(some go,U,cs)])) (hi:i≤b.length) (hat:At cs o rS.zs) (hfit:o+rS.sz≤cs.length):Aj 65 #[Ah gp,.pointer (some ⟨go,o,none⟩)] w0 (fun _ w'=>nU (pr gp gr gb cb sb b) rS go o U cs b i e w0.heap.size w0 (bl (pr gp gr gb cb sb b i e++[(some go,U,cs)])) w'):=by
 refine zG Tryz.func65 Tryz.ntmps65 Y<|cR e42 ?_
 change o+16≤cs.length at hfit
 have HS:=Vk.start (R:=pr gp gr gb cb sb b) (o:=o) H0 hi
 have H:=HS.H.here
 refine J1<|zR 8 [(true,0),(true,1),(true,2),(true,3),(true,4),(true,5),(true,6),(false,7),(false,8)] H [0,1,2,3] yE (by decide) (by kernel_rfl) ?_
 rintro w1 hw1
 have H1:=Hp.drew H;rw[← hw1]at H1
 refine Zm Y Y<|Zm Y Y<|Zc Y Y<|cZ e42<|Zf Y oY Y<|Zm Y Y<|Zc Y Y<|cZ e42<|Zf Y fl81_1 Y<|MO Y<|zE Nz tR H1 Y (by decide) Y<|fun w2 g2 H2 hg2=>OE<|⟨fun hne=>H2.pick [0,1,2,3] (by decide),?_⟩
 refine cZ e42<|MO Y<|OQ (EC oF Y) (HS.grp (q:=0) (iJ gp gr gb cb sb b hcb hbl) (by decide) H2 (by decide) (show o+0+2≤_ by omega) (At.cast (hat.trans (At.sub _ 0 2)) Y) Y Y) ?_
 rintro _ w3 ⟨us,i1,e1,HS⟩
 replace HS:=HS.Ou
 have H3:=HS.H.here
 refine OE ?_
 refine⟨fun hne=>absurd Y hne,?_⟩
 refine cZ e42<|ME<|cR e42<|Rq<|Xm Y<|Xm Y<|Xc Y<|Ag e42<|Xf iR Y<|OQ (EC JK Y) (HS.one (q:=2) (AX gp gr gb cb sb b hcb hbl) (by decide) (show o+2+2≤_ by omega) (At.cast (hat.trans (At.sub _ 2 2)) Y)) ?_
 rintro _ w4 ⟨us,i1,e1,HS⟩
 replace HS:=HS.Ou
 have H4:=HS.H.here
 refine Xr e42<|Rq<|Xm Y<|Xm Y<|Xc Y<|Ag e42<|Xf oX Y<|OQ (EC VO Y) (HS.one (q:=4) (SI gp gr gb cb sb b hcb hbl) (by decide) (show o+4+4≤_ by omega) (At.cast (hat.trans (At.sub _ 4 4)) Y)) ?_
 rintro _ w5 ⟨us,i1,e1,HS⟩
 replace HS:=HS.Ou
 have H5:=HS.H.here
 refine Xr e42<|Rq<|Xm Y<|Xm Y<|Xc Y<|Ag e42<|Xf uF Y<|OQ (EC VN Y) (HS.one (q:=8) (N2 gp gr gb cb sb b hcb hbl) (by decide) (show o+8+2≤_ by omega) (At.cast (hat.trans (At.sub _ 8 2)) Y)) ?_
 rintro _ w6 ⟨us,i1,e1,HS⟩
 replace HS:=HS.Ou
 have H6:=HS.H.here
 refine Xr e42<|Rq<|Xm Y<|Xm Y<|Xc Y<|Ag e42<|Xf eJ Y<|OQ (EC VM Y) (HS.one (q:=10) (NW gp gr gb cb sb b hcb hbl) (by decide) (show o+10+4≤_ by omega) (At.cast (hat.trans (At.sub _ 10 4)) Y)) ?_
 rintro _ w7 ⟨us,i1,e1,HS⟩
 replace HS:=HS.Ou
 have H7:=HS.H.here
 refine Xr e42<|zR 8 [(true,0),(true,1),(true,2),(true,3),(true,4),(true,5),(true,6),(false,7),(false,8)] H7 [0,1,2,3] yE (by decide) (by kernel_rfl) ?_
 rintro w8 hw8
 have H8:=Hp.drew H7;rw[← hw8]at H8
 refine Zm Y Y<|Zm Y Y<|Zc Y Y<|cZ e42<|Zf Y uZ Y<|Zm Y Y<|Zc Y Y<|cZ e42<|Zf Y rB Y<|MO Y<|zE Nz tR H8 Y (by decide) Y<|fun w9 g9 H9 hg9=>OE<|⟨fun hne=>H9.pick [0,1,2,3] (by decide),?_⟩
 refine cZ e42<|MO Y<|OQ (EC oF Y) (HS.grp (q:=14) (iJ gp gr gb cb sb b hcb hbl) (by decide) H9 (by decide) (show o+14+2≤_ by omega) (At.cast (hat.trans (At.sub _ 14 2)) Y) Y Y) ?_
 rintro _ w10 ⟨us,i1,e1,HS⟩
 replace HS:=HS.Ou
 have Df:=HS.H.here
 refine OE ?_
 refine⟨fun hne=>absurd Y hne,?_⟩
 refine cZ e42<|ME<|cR e42<|zA<|yQ Y<|HS.out
theorem pnote_R :MH Tryz.prog 65 rS:=SP
theorem UD (gp:Nat) (g:Option Nat) (cap:Nat) (sp:List Value) (st:WS) (a:Addr) (x:rS.X) (vs:List Value) (w0:World) (H0:Hp w0 w0 (bl (pw gp g cap sp st)) (pw gp g cap sp st)) (hP:POk 65536 g cap sp st) (hM:rS.M w0 (fun b=>b∉bl (pw gp g cap sp st)) x vs) (hC:Cl w0 (bl (pw gp g cap sp st)) a vs):Aj 71 #[Ah gp,.pointer (some a)] w0 (fun _ w'=>nV gp (xX (rS.fl x) st) w0 (bl (pw gp g cap sp st)) w'):=by
 refine zG Tryz.func71 Tryz.ntmps71 Y<|cR e5<|J2<|Xm Y<|OQ (EC gf65 Y) (pnote_W gp g cap sp st a x vs w0 H0 hP hM hC (fun h=>by cases h)) ?_
 rintro _ w1 hq
 refine Xr e5<|zA<|yQ Y<|hq
theorem UE (gp gr:Nat) (gb:Option Nat) (cb:Nat) (sb:List Value) (b:List UInt8) (hcb:b.length≤cb) (hbl:b.length≤65536) (go o i e:Nat) (U:TypeId) (cs:List Value) (w0:World) (H0:Hp w0 w0 (bl (pr gp gr gb cb sb b i e++[(some go,U,cs)])) (pr gp gr gb cb sb b i e++[(some go,U,cs)])) (hi:i≤b.length) (hat:At cs o rS.zs) (hfit:o+rS.sz≤cs.length):Aj 64 #[Ah gp,.pointer (some ⟨go,o,none⟩)] w0 (fun _ w'=>nU (pr gp gr gb cb sb b) rS go o U cs b i e w0.heap.size w0 (bl (pr gp gr gb cb sb b i e++[(some go,U,cs)])) w'):=by
 refine zG Tryz.func64 Tryz.ntmps64 Y<|cR e5<|J2<|Xm Y<|OQ (EC gf65 Y) (pnote_R gp gr gb cb sb b hcb hbl go o i e U cs w0 H0 hi hat hfit) ?_
 rintro _ w1 hq
 refine Xr e5<|zA<|yQ Y<|hq
theorem I0 (x:rS.X) (cells:List Value) (w0:World) (hM:rS.M w0 (fun _=>True) x cells):Aj 34 #[.agg cells.toArray] w0 (fun r w'=>KD w0 w' r (xX (rS.fl x) W0)):=by
 refine zG Tryz.func34 Tryz.ntmps34 Y<|cR e8 ?_
 have hlen:cells.length=16:=rS.len hM
 have H:=Hp.refl w0
 refine Rq<|yA Y Y H<|fun w1 g1 H1 hg1=>Xa Y<|Xa Y<|Xr e8<|Rq<|OV (wL Y Y)<|ET (EC gf70 Y) (DC (rS.fl x) 71 [Ah g1] _ gf71 fun gp w2 HP=>?_) ?_
 have hM1:=rS.to hM H1 (fun _ _=>by simp)
 have hM2:=rS.to hM1 HP (fun _ _=>by simp)
 exact UD gp none 0 [] W0 ⟨g1,0,none⟩ x cells w2 HP.here ⟨Ak _,Ak _,fun _=>Y,Am _⟩ (rS.mono hM2 fun _ h=>h.2) ((H1.cl (i:=0) (S':=[]) Y (by simp)).to HP)
 intro w2 g cap sp q1 q2 q3 q4 Hd
 have H2:=H1.call0 Hd
 refine Xe Y Y<|Xe Y Y<|Ag e8<|Xa Y<|Xa Y<|Xr e8<|J5<|Kz Y Y Y<|⟨g,cap,sp,Y,q1,q2,q3,q4,H2.pick [1] (by decide)⟩
theorem S3 (AA:Option Addr) (b:List UInt8) (c:Nat) (w0:World) (hr:Rd w0 AA b.length 1 (u8s b)) (hb:b.length≤211106232532900):Aj 31 #[Ac AA b.length c] w0 (fun r w'=>VU rS b w0 w' r):=by
 refine zG Tryz.func31 Tryz.ntmps31 Y<|cR e14 ?_
 have H:=Hp.refl w0
 refine Rq<|OA xH H<|fun w1 g1 H1 hg1=>Xa Y<|Xr e14<|Rq<|OA xH H1<|fun w2 g2 H2 hg2=>Xr e14<|J1<|Rq<|Xm Y<|OV (wL Y Y) ?_
 have HX:=Hp.old (H2.at (i:=1) rfl)
 have hk:=K4 rS AA b c g2 81 [Aa 0,Aa 0,Aa 0,Aa 0,Aa 0,Aa 0,Aa 0,Dn,Aa 0,Dn,Aa 0,.string .empty,Aa 0,Aa 0,Aa 0,Aa 0] 64 [Ah g2] _ HX rfl (hr.to0 H2) (fun h0 a ha hq=>by
  simp only[Az]at hq
  have hlt:=H2.place (i:=1) rfl
  have:=H2.size
  have hc:=Iy _ _ (hr.cells a ha 0 _ (kL h0))
  rw[Iw]at hc
  rcases hlt with h1 | h1
  · simp at h1
  omega) gf64 (fun gp gr gb cb sb w1 hcb hbl HP=>UE gp gr gb cb sb b hcb hbl g2 0 0 0 81 _ w1 HP.here (Am _) (At.self _) (Ak _))
 refine OQ (EC gf63 Y) hk ?_
 rintro _ w3 ⟨rfl,cs2,hl,Hd,hM⟩
 have hsz1:=H2.size
 have hg1:g1 < w2.heap.size:=H2.lt (i:=0) rfl
 have hg2:g2 < w2.heap.size:=H2.lt (i:=1) rfl
 have H3:=(H2.call1 (i:=1) rfl Hd).pick [0,2] (by decide)
 refine Xa Y<|Xr e14<|Rq<|Xm Y<|OT (yR Y Y) (fun hp10=>?_) (fun hp10=>?_)
 have he:Qu rS b≠0:=by omega
 refine Xr e14<|J3 Y<|Rq<|OV (EB xH plw81 Y Y)<|Xm Y<|OS xH H3 0 Y Y Y Y Y (by first|exact NL Y|simp[zJ]) Y<|fun w4 H4=>Xa Y<|Xr e14<|J5<|xS Y xH Y Y Y (H4.cells (i:=0) Y)<|⟨_,Y,by rw[PF he];exact rS.zM _ _,H4.pick [] (by decide)⟩
 have he:Qu rS b=0:=by omega
 have hm:=hM he
 have HA:=H3
 replace H3:=HA.here
 refine Xr e14<|J4 Y<|J6<|Rq<|OV (EN xH Y (vs:=cs2) hl (H3.cells (i:=1) Y))<|OS xH H3 0 Y Y Y Y hl (by rw[hl];decide) (rS.ones hm)<|fun w4 H4=>?_
 have hpu:zJ [Aa 0,Aa 0,Aa 0,Aa 0,Aa 0,Aa 0,Aa 0,Dn,Aa 0,Dn,Aa 0,.string .empty,Aa 0,Aa 0,Aa 0,Aa 0] 0 cs2=cs2:=GV hl
 rw[hpu]at H4
 refine Xa Y<|Xr e14<|J5<|xS Y xH Y Y hl (H4.cells (i:=0) Y) ?_
 have hm2:=rS.to hm H4 (fun p hp hq=>by simp[bl]at hq;have:=hp.1;rcases hq with hq | hq <;>omega)
 exact⟨cs2,by rw[he];rfl,by rw[(JB he).1];exact rS.mono hm2 (fun p hp=>⟨by have:=hp.1.1;omega,hp.1.2.2.to H4 (by intro hq;simp[bl]at hq;have:=hp.1.1;rcases hq with hq | hq <;>omega)⟩),(HA.all H4).pick [] (by decide)⟩
end Go.Proofs.YtjoeklkmnfaabaaGreat
namespace Go.Proofs.YtjoeklkmnfaabaaGreat
open Go Go.RowKit
set_option linter.unusedVariables false
set_option linter.unusedSimpArgs false
def Gw (sz:Nat) (g:Option Nat) (cap:Nat) (qs:List (List Value)) (sp:List Value):Prop:=cap*sz≤(qs.flatten++sp).length∧qs.length≤cap∧(g=none→cap=0)∧Pl sz qs
theorem Gw.nil (sz:Nat):Gw sz none 0 [] []:=⟨by simp,Ak _,fun _=>rfl,Pl.nil _⟩
section
variable {P:Program} {ds:List Deferred} {Q:vQ} {K:List Value→World→Prop} {all os:List Oper} {l:List Value} {w0 w w':World} {S S':List Nat} {es es':List Ent} {ty t:TypeId} {pos:String} {af:Array Edge} {d:Tmp} {v:Value} {op:Op}
theorem xB {e:TypeId} {x y:Operand} {zs:List Value} {sz bytes:Nat} {agg:Bool} (ht:P.underlying t=some (.slice e)) (he:xU P e zs sz bytes agg) (hsz:0 < sz) (H:Hp w0 w S es) (i:Nat) {g:Option Nat} {cap:Nat} {qs:List (List Value)} {sp:List Value} (G:Gw sz g cap qs sp)
 (hx:ev l x=some (Ac (hd g) qs.length cap)) (hi:es[i]? =some (g,e,qs.flatten++sp)) {A:Option Addr} {m c:Nat} {rs:List (List Value)} (hm:rs.length=m) (hy:ev l y=some (Ac A m c)) (hr:Rd w A m sz rs.flatten) (hp2:Pl sz rs) (h1:∀ p∈rs,p.all (·.oneCell')=true)
 (hb:(qs.length+m)*bytes≤211106232532992) (h63:qs.length+m≤9223372036854775807) (hb2:bytes≤1048576)
 (k:∀ w' g' cap' sp',Hp w0 w' S (es.set i (g',e,(qs++rs).flatten++sp'))→Gw sz g' cap' (qs++rs) sp'→Ops P ds all K Q os (l.set d (Ac (hd g') (qs++rs).length cap')) w'):
 Ops P ds all K Q (⟨some d,.call { callee:=.builtin .append,args:=#[x,y],argTypes:=#[t,t] },ty,pos,af,none⟩::os) l w:=by
 refine xC ht he hsz H i hx hi G.2.2.2.len G.1 G.2.1 G.2.2.1 hy hr (xI h1) h63 hb hb2 fun w' g' cap' sp' H' h2 h3 h4=>?_
 have:=k w' g' cap' sp' (by rw[Kr];exact H') ⟨by rw[Kr];exact h2,by rw[Ae,hm];exact h3,h4,G.2.2.2.app hp2⟩
 rw[Ae,hm]at this
 exact this
end
section
variable {α:Type} {f:α→Bool} {ps:List α} {i:Nat} {p:α}
theorem GK (h:ps[i]? =some p) (hf:f p=true):(ps.take (i+1)).filter f=(ps.take i).filter f++[p]:=by
 rw[Jo,h,Le];simp[hf]
theorem GL (h:ps[i]? =some p) (hf:f p=false):(ps.take (i+1)).filter f=(ps.take i).filter f:=by
 rw[Jo,h,Le];simp[hf]
theorem iF :((ps.take i).filter f).length≤i:=Ce (Nk _ _) (by rw[Aw];omega)
end
def BW (n:Int) (p:List Value):Bool:=match p with
 | .int _ s::_=>decide (s < n)
 | _=>false
section
variable {w:World} {ok:Nat→Prop} {ps:List (List Value)} {l:List Vt} {q:List Value} {v:Vt} {n:Int}
theorem RS {p:List Value} {x:Vt} (h:Oe w ok p x):BW n p=decide (x.slot < n):=by obtain⟨_,_,rfl,_⟩:=h;rfl
theorem uM (h2:wC (Oe w ok) ps l):wC (Oe w ok) (ps.filter fun p=>!Jl n p) (vR l n):=by
 unfold vR
 exact h2.filter (f:=fun p=>!Jl n p) (g:=fun x=>decide (n < x.slot)) fun p x h=>by
  rw[IM h]
  by_cases hx:x.slot≤n
  · rw[decide_eq_true hx,decide_eq_false (by omega)];rfl
  rw[decide_eq_false hx,decide_eq_true (by omega)];rfl
theorem bA (h2:wC (Oe w ok) ps l) (hv:Oe w ok q v):wC (Oe w ok) (ps.filter (BW v.slot)++[q]++ps.filter fun p=>!Jl v.slot p) (Jy l v):=by
 unfold Jy
 rw[Bh]
 exact(h2.filter fun p x h=>RS h).app ⟨hv,uM h2⟩
theorem LY {ps:List (List Value)} {l:List En} (h2:wC (Qp w ok) ps l):wC (Qp w ok) (ps.filter fun p=>!Jl n p) (l.filter fun x=>decide (n < x.slot)):=
 h2.filter (f:=fun p=>!Jl n p) (g:=fun x=>decide (n < x.slot)) fun p x h=>by
  rw[JU h]
  by_cases hx:x.slot≤n
  · rw[decide_eq_true hx,decide_eq_false (by omega)];rfl
  rw[decide_eq_false hx,decide_eq_true (by omega)];rfl
end
section
theorem kU :∀ l:List Rt,wC Nu (l.map Jv) l
 | []=>trivial
 | _::l=>⟨rfl,kU l⟩
theorem I3 :∀ l:List Mk,wC Pv (l.map Tz) l
 | []=>trivial
 | _::l=>⟨rfl,I3 l⟩
variable {l:List Mk} {c:Int} {m:Mk}
theorem lL (l:List Rt):Pl 4 (l.map Jv):=fun p hp=>by
 obtain⟨x,_,rfl⟩:=Ik.1 hp
 rfl
theorem mk_pl (l:List Mk):Pl 7 (l.map Tz):=fun p hp=>by
 obtain⟨x,_,rfl⟩:=Ik.1 hp
 rfl
theorem dN (l:List Rt):∀ p∈l.map Jv,p.all (·.oneCell')=true:=fun p hp=>by
 obtain⟨x,_,rfl⟩:=Ik.1 hp
 rfl
theorem GU (l:List Rt) (r:Rt):(l.filter (fun x=>Pm x r)).map Jv++[Jv r]++(l.filter (fun x=>Pm r x)).map Jv=(Hf l r).map Jv:=by
 unfold Hf
 rw[Dx,Je,Bh];rfl
theorem TZ {i:Nat} {x:Mk} (hx:l[i]? =some x) (hc:x.client=c) (hno:∀ y∈l.take i,y.client≠c):Fh l c=some x:=by
 obtain⟨hl,he⟩:=Ec.1 hx
 unfold Fh
 rw[List.find?_eq_some_iff_getElem]
 refine⟨by simpa using hc,i,hl,he,fun j hj=>?_⟩
 have:=hno l[j] (by
  have h2:(l.take i)[j]? =some l[j]:=by rw[Ic,if_pos hj];exact Cb (by omega)
  exact Fe h2)
 simpa using this
theorem P6 (hno:∀ y∈l.take l.length,y.client≠c):Fh l c=none:=by
 rw[Bz]at hno
 unfold Fh
 rw[List.find?_eq_none]
 intro x hx
 simpa using hno x hx
theorem OL :∀ {l:List Mk} {n:Int},sC n l→∀ x∈l,n < x.client
 | [],_,_,_,h=>by cases h
 | m::l,n,h,x,hx=>by
  rcases Cj.1 hx with rfl | hx
  · exact h.1
  have:=OL h.2.2.2.2 x hx
  have:=h.1
  omega
theorem B5 :∀ {l:List Mk} {n c:Int},sC n l→l.filter (fun x=>decide (x.client < c+1))=l.filter (fun x=>decide (x.client < c))++(Fh l c).toList
 | [],_,_,_=>rfl
 | m::l,n,c,h=>by
  have hl:=h.2.2.2.2
  have hgt:=OL hl
  unfold Fh
  rw[List.find?_cons]
  by_cases h1:m.client < c
  · rw[Gu,Gu,if_pos (by simp;omega),if_pos (by simpa using h1),B5 hl,show decide (m.client=c)=false from decide_eq_false (by omega)]
    rfl
  have hn:l.filter (fun x=>decide (x.client < c))=[]:=tM fun x hx=>decide_eq_false (by have:=hgt x hx;omega)
  by_cases h2:m.client=c
  · have hn2:l.filter (fun x=>decide (x.client < c+1))=[]:=tM fun x hx=>decide_eq_false (by have:=hgt x hx;omega)
    rw[Gu,Gu,if_pos (by simp;omega),if_neg (by simpa using h1),hn,hn2,show decide (m.client=c)=true from decide_eq_true h2]
    rfl
  rw[Gu,Gu,if_neg (by simp;omega),if_neg (by simpa using h1),B5 hl,show decide (m.client=c)=false from decide_eq_false h2]
  rfl
theorem CZ (c:Int) (f:Mk→Bool) (hf:∀ x:Mk,x.client=c→f x=true):∀ l:List Mk,Fh (l.filter f) c=Fh l c
 | []=>rfl
 | a::l=>by
  have IH:=CZ c f hf l
  unfold Fh at IH ⊢
  rw[Gu,List.find?_cons]
  by_cases hx:a.client=c
  · rw[if_pos (hf a hx),List.find?_cons,show decide (a.client=c)=true from decide_eq_true hx]
  rw[show decide (a.client=c)=false from decide_eq_false hx]
  split
  · rw[List.find?_cons,show decide (a.client=c)=false from decide_eq_false hx];exact IH
  exact IH
theorem bY (c:Int) (f:Mk→Bool) (hf:∀ x:Mk,x.client=c→f x=false) (l:List Mk):Fh (l.filter f) c=none:=by
 unfold Fh
 rw[List.find?_eq_none]
 intro x hx
 have:=(Dz.1 hx).2
 by_cases hc:x.client=c
 · rw[hf x hc]at this;cases this
 simpa using hc
theorem P5 (l:List Mk) (m:Mk) (c:Int):Fh (uK l m) c=if c=m.client then some m else Fh l c:=by
 have h:Fh (uK l m) c=(Fh (l.filter (fun x=>decide (x.client < m.client))) c).or (if m.client=c then some m else Fh (l.filter (fun x=>decide (m.client < x.client))) c):=by
  unfold Fh uK
  rw[List.find?_append,List.find?_cons]
  by_cases hm:m.client=c
  · rw[if_pos hm,show decide (m.client=c)=true from decide_eq_true hm]
  rw[if_neg hm,show decide (m.client=c)=false from decide_eq_false hm]
 rw[h]
 by_cases hc:c=m.client
 · rw[if_pos hc,if_pos hc.symm,bY c _ (fun x hx=>decide_eq_false (by omega))];rfl
 rw[if_neg hc,if_neg fun h=>hc h.symm]
 by_cases hlt:c < m.client
 · rw[CZ c _ (fun x hx=>decide_eq_true (by omega)),bY c _ (fun x hx=>decide_eq_false (by omega))]
   cases Fh l c <;>rfl
 rw[bY c _ (fun x hx=>decide_eq_false (by omega)),CZ c _ (fun x hx=>decide_eq_true (by omega))];rfl
theorem UP (h:sC 0 (uK l m)):(uK l m).filter (fun x=>decide (x.client < 9))=uK l m:=
 sK fun x hx=>decide_eq_true (by have:=(vY h).1 x hx;omega)
theorem OH (h:sC 0 (uK l m)):(uK l m).filter (fun x=>decide (x.client < 1))=[]:=
 tM fun x hx=>decide_eq_false (by have:=(vY h).1 x hx;omega)
end
section
variable {w:World} {ok:Nat→Prop}
theorem Sl.take {X:Type} {R:List Value→X→Prop} {sz:Nat} {A:Option Addr} {xs:List X} (h:Sl R sz w ok A xs) {i:Nat} (hi:i≤xs.length):Sl R sz w ok A (xs.take i):=by
 obtain⟨ps,hp,hr,ha,h2⟩:=h
 have hl:=h2.len
 refine⟨ps.take i,hp.sub fun x hx=>Gg hx,⟨?_,fun a e j u hu=>?_,fun e=>?_⟩,fun h0 p e=>ha (by rw[Aw]at h0;omega) p e,h2.take i⟩
 · rw[(hp.sub fun x hx=>Gg hx:Pl sz (ps.take i)).len,Aw,Aw,hl]
 · refine hr.cells a e j u ?_
   rw[← hp.Vo i,Ic]at hu
   split at hu
   · exact hu
   cases hu
 have:=hr.nil e
 rw[Aw];omega
theorem Qq.of3 {X1 X2 X3:Option Addr} {m1 x1 m2 x2 m3 x3:Nat} {b:Bo} (h:Qq w ok [Ac X1 m1 x1,Ac X2 m2 x2,Ac X3 m3 x3] b):
 (m1=b.groups.length∧m2=b.rights.length∧m3=b.last.length)∧Sl (Qz w ok) 6 w ok X1 b.groups∧Sl Nu 4 w ok X2 b.rights∧Sl Pv 7 w ok X3 b.last:=by
 obtain⟨A1,k1,A2,k2,A3,k3,he,h1,h2,h3⟩:=h
 simp only[List.cons.injEq,Value.slice.injEq]at he
 obtain⟨⟨rfl,rfl,rfl⟩,⟨rfl,rfl,rfl⟩,⟨rfl,rfl,rfl⟩,_⟩:=he
 exact⟨⟨Y,Y,Y⟩,h1,h2,h3⟩
def CapR (cs:List Value):Prop:=∀ x A n k z,cs=[x,.slice A n k,z]→n≤k
end
section
@[reducible] def ntI (g:Int) (s:Sv):Nt:=⟨4,g,⟨0,0⟩,⟨0,⟨0,0⟩,[]⟩,⟨s.index,s.image⟩,⟨0,[],0,0⟩,0,0⟩
@[reducible] def Um (g:Int) (e:En):Nt:=⟨3,g,⟨0,0⟩,⟨0,⟨0,0⟩,[]⟩,e,⟨0,[],0,0⟩,0,0⟩
@[reducible] def ntP (g:Int) (p:Bal):Nt:=⟨1,g,p,⟨0,⟨0,0⟩,[]⟩,⟨0,[]⟩,⟨0,[],0,0⟩,0,0⟩
@[reducible] def ntV (g:Int) (v:Vt):Nt:=⟨2,g,⟨0,0⟩,v,⟨0,[]⟩,⟨0,[],0,0⟩,0,0⟩
@[reducible] def ntF (r:Rt):Nt:=⟨5,0,⟨0,0⟩,⟨0,⟨0,0⟩,[]⟩,⟨0,[]⟩,r,0,0⟩
def tP (g:Int) (s:Sv):List Nt:=if s.index≠0 then[ntI g s] else[]
def sB (g:Int) (s:Sv):List Nt:=if ¬(s.p.r=0∧s.p.n=0) then[ntP g s.p] else[]
def Vd (g:Int) (s:Sv):List Nt:=tP g s++s.entries.map (Um g)++sB g s++s.Bc.map (ntV g)
def gN (l:List Sv):List Nt:=l.zipIdx.flatMap fun x=>Vd x.2 x.1
def Bo.notes (b:Bo):List Nt:=gN b.groups++b.rights.map ntF
variable {s:Sv} {b:Bo} {g:Int}
theorem oG (l:List Sv) (s:Sv):gN (l++[s])=gN l++Vd l.length s:=by
 unfold gN
 rw[List.zipIdx_append]
 simp
theorem XE (l m:List Sv):∃ R,gN (l++m)=gN l++R:=by
 unfold gN
 rw[List.zipIdx_append,List.flatMap_append]
 exact⟨_,Y⟩
theorem VQ {l:List Sv} {i:Nat} (h:l[i]? =some s):∃ R,gN l=gN (l.take i)++(Vd i s++R):=by
 have hi:=(Ec.1 h).1
 have h1:=oG (l.take i) s
 rw[← yM h,Aw,Io (by omega)]at h1
 obtain⟨R,hR⟩:=XE (l.take (i+1)) (l.drop (i+1))
 rw[Fg,h1,Bh]at hR
 exact⟨R,hR⟩
def Po :List Sv→Nat
 | []=>0
 | s::l=>s.entries.length+Po l
theorem BH :∀ {l:List Sv} {i:Nat} {s t:Sv},l[i]? =some s→t.entries.length≤s.entries.length+1→Po (l.set i t)≤Po l+1
 | [],i,s,t,h,_=>by simp at h
 | a::l,0,s,t,h,ht=>by
  simp only[Jq,Option.some.injEq]at h
  subst h
  simp only[List.set_cons_zero,Po]
  omega
 | a::l,i+1,s,t,h,ht=>by
  simp only[Kq]at h
  have:=BH h ht
  simp only[List.set_cons_succ,Po]
  omega
def Bo.cnt (b:Bo):Nat:=Po b.groups+b.rights.length
theorem PA {b':Bo} {n:Nt} (h:b.into n=some b'):b'.cnt≤b.cnt+1:=by
 unfold Bo.into at h
 split at h
 · split at h
   · simp only[Option.some.injEq]at h
     subst h
     have:=AQ b.rights n.right
     show Po b.groups+(Hf b.rights n.right).length≤Po b.groups+b.rights.length+1
     omega
   cases h
 split at h
 · cases h
 split at h
 · rename_i s hs
   split at h
   · simp only[Option.some.injEq]at h
     subst h
     have:=BH hs (nR s n).2
     show Po (b.groups.set n.group.toNat (s.goes n))+b.rights.length≤Po b.groups+b.rights.length+1
     omega
   cases h
 cases h
theorem DY :∀ {l:List Nt} {b b':Bo},vE b l=some b'→b'.cnt≤b.cnt+l.length
 | [],b,b',h=>by
  simp only[vE,Option.some.injEq]at h
  subst h;simp
 | n::l,b,b',h=>by
  unfold vE at h
  split at h
  · rename_i c hc
    have h1:=PA hc
    have h2:=DY h
    rw[Bj];omega
  cases h
theorem R1 (h:aL s):(Vd g s).length≤s.entries.length+18:=by
 have hv:=oB h
 unfold Vd tP sB
 simp only[Ae,Bg]
 split <;>split <;>simp <;>omega
theorem XD :∀ (l:List Sv),(∀ s∈l,chk s=true)→(gN l).length≤Po l+18*l.length:=by
 have key:∀ (l:List Sv) (k:Nat),(∀ s∈l,chk s=true)→((l.zipIdx k).flatMap fun x=>Vd x.2 x.1).length≤Po l+18*l.length:=by
  intro l
  induction l with
  | nil=>intro k _;simp[Po]
  | cons s l ih=>
   intro k h
   have h1:=R1 (g:=k) ((tD s).1 (h s Gm))
   have h2:=ih (k+1) fun t ht=>h t (Eu _ ht)
   simp only[List.zipIdx_cons,Jp,Ae,Bj,Po]
   omega
 exact fun l=>key l 0
theorem A5 {l:List Nt} (hg:rE b l.length) (h:vE Bo.empty l=some b):b.notes.length≤l.length+144:=by
 have h1:=XD b.groups hg.chk
 have h2:=DY h
 have h3:Bo.empty.cnt=0:=rfl
 have h4:=hg.eight
 unfold Bo.notes
 unfold Bo.cnt at h2 h3
 simp only[Ae,Bg]
 omega
theorem JS :∀ {l m:List En} {n:Int},tK n (l++m)=true→tK n l=true
 | [],_,_,_=>rfl
 | e::l,m,n,h=>by
  simp only[Jf,tK,Ci]at h ⊢
  exact⟨h.1,JS h.2⟩
theorem IL {p:Bal} {first:Int}:∀ {l m:List Vt} {n:Int},uD p first n (l++m)=true→uD p first n l=true
 | [],_,_,_=>rfl
 | e::l,m,n,h=>by
  simp only[Jf,uD,Ci]at h ⊢
  exact⟨h.1,IL h.2⟩
theorem BV {p:Bal} {first:Int}:∀ {l:List Vt} {n:Int},uD p first n l=true→∀ v∈l,n≤v.slot∧¬p.lt v.b
 | [],_,_,v,hv=>by cases hv
 | e::l,n,h,v,hv=>by
  simp only[uD,Ci,decide_eq_true_eq]at h
  rcases Cj.1 hv with rfl | hv
  · exact⟨h.1.1,h.1.2.2.2.2.1⟩
  have:=BV h.2 v hv
  exact⟨by have:=h.1.1;omega,this.2⟩
def sF :Sv→List Nt→Option Sv
 | s,[]=>some s
 | s,n::l=>if chk (s.goes n) then sF (s.goes n) l else none
theorem jI :∀ {l m:List Nt} {s t:Sv},sF s l=some t→sF s (l++m)=sF t m
 | [],m,s,t,h=>by
  simp only[sF,Option.some.injEq]at h
  subst h;rfl
 | n::l,m,s,t,h=>by
  rw[sF]at h
  split at h
  · rename_i hc
    rw[Jf,sF,if_pos hc]
    exact jI h
  cases h
theorem bR {g:Int} {ix:Int} {im:Blk}:∀ {m l:List En},aL ⟨⟨0,0⟩,[],ix,im,l++m⟩→sF ⟨⟨0,0⟩,[],ix,im,l⟩ (m.map (Um g))=some ⟨⟨0,0⟩,[],ix,im,l++m⟩
 | [],l,_=>by simp[sF]
 | e::m,l,h=>by
  have hs:=(qL h.e l.length e (by simp)).1
  have h1:aL ⟨⟨0,0⟩,[],ix,im,(l++[e])++m⟩:=by rw[Bh];exact h
  have h2:(⟨⟨0,0⟩,[],ix,im,l⟩:Sv).goes (Um g e)=⟨⟨0,0⟩,[],ix,im,l++[e]⟩:=by
   rw[FB rfl,if_pos (by show e.slot=ix+(l.length:Int)+1;have:e.slot=ix+1+(l.length:Int):=hs;omega)]
   rfl
  have hn:=h.n
  have h3:chk ⟨⟨0,0⟩,[],ix,im,l++[e]⟩=true:=(tD _).2 ⟨h.p,h.i,JS h1.e,by
   simp only[Ae,Bj]at hn ⊢
   simp only[Dq]
   omega,rfl⟩
  rw[Je,sF,h2,if_pos h3,bR h1,Bh]
  rfl
theorem IW {l:List Vt} {v:Vt} (h:∀ x∈l,x.slot < v.slot):Jy l v=l++[v]:=by
 unfold Jy
 rw[sK fun x hx=>decide_eq_true (h x hx),tM fun x hx=>decide_eq_false (by have:=h x hx;omega)]
theorem cX {b:Bal} (h:¬s.p.lt b):s.raise b=s:=by unfold Sv.raise;rw[if_neg h]
theorem BD {g:Int} {p:Bal} {ix:Int} {im:Blk} {es:List En}:∀ {m l:List Vt},aL ⟨p,l++m,ix,im,es⟩→sF ⟨p,l,ix,im,es⟩ (m.map (ntV g))=some ⟨p,l++m,ix,im,es⟩
 | [],l,_=>by simp[sF]
 | v::m,l,h=>by
  have hv:=BV h.v v (by simp)
  have hr:=(iX h.v).2
  have h1:aL ⟨p,(l++[v])++m,ix,im,es⟩:=by rw[Bh];exact h
  have hlt:∀ x∈l,x.slot < v.slot:=fun x hx=>by
   obtain⟨i,hi⟩:=Dh hx
   have hil:=(Ec.1 hi).1
   exact hr i l.length x v hil (by show(l++v::m)[i]? =some x;rw[Di hil];exact hi) (by show(l++v::m)[l.length]? =some v;simp)
  have h2:(⟨p,l,ix,im,es⟩:Sv).goes (ntV g v)=⟨p,l++[v],ix,im,es⟩:=by
   rw[FD rfl,if_neg (by show ¬v.slot≤ix+(es.length:Int);have:ix+(es.length:Int)+1≤v.slot:=hv.1;omega)]
   have h4:(⟨p,Jy l v,ix,im,es⟩:Sv).raise v.b=⟨p,Jy l v,ix,im,es⟩:=cX hv.2
   rw[IW hlt]at h4
   show(⟨p,Jy l v,ix,im,es⟩:Sv).raise v.b=_
   rw[IW hlt]
   exact h4
  have h3:chk ⟨p,l++[v],ix,im,es⟩=true:=(tD _).2 ⟨h.p,h.i,h.e,h.n,IL h1.v⟩
  rw[Je,sF,h2,if_pos h3,BD h1,Bh]
  rfl
theorem LS (h:aL s):sF Sv.none (Vd g s)=some s:=by
 obtain⟨p,vs,ix,im,es⟩:=s
 have hi:=h.i
 have he:tK ix es=true:=h.e
 have hn:ix+(es.length:Int)+1≤1099511627776:=h.n
 have hE:aL ⟨⟨0,0⟩,[],ix,im,[]++es⟩:=⟨.inl ⟨rfl,rfl⟩,h.i,he,hn,rfl⟩
 have s1:sF Sv.none (tP g ⟨p,vs,ix,im,es⟩)=some ⟨⟨0,0⟩,[],ix,im,[]⟩:=by
  unfold tP
  split
  · rename_i hx
    have hx:ix≠0:=hx
    have h0:0≤ix:=hi.1
    have h2:Sv.none.goes (ntI g ⟨p,vs,ix,im,es⟩)=⟨⟨0,0⟩,[],ix,im,[]⟩:=by
     rw[bS rfl,if_neg (by show ¬ix≤0;omega)]
     rfl
    have h3:chk ⟨⟨0,0⟩,[],ix,im,[]⟩=true:=(tD _).2 ⟨.inl ⟨rfl,rfl⟩,h.i,rfl,by show ix+0+1≤1099511627776;omega,rfl⟩
    rw[sF,h2,if_pos h3];rfl
  rename_i hx
  have hx:ix=0:=by simpa using hx
  have him:im=[]:=Ee (hi.2.2.1 hx)
  subst hx him
  rfl
 have s2:sF ⟨⟨0,0⟩,[],ix,im,[]⟩ (es.map (Um g))=some ⟨⟨0,0⟩,[],ix,im,es⟩:=bR (g:=g) hE
 have s3:sF ⟨⟨0,0⟩,[],ix,im,es⟩ (sB g ⟨p,vs,ix,im,es⟩)=some ⟨p,[],ix,im,es⟩:=by
  unfold sB
  split
  · rename_i hx
    have hx:¬(p.r=0∧p.n=0):=hx
    have hp:1≤p.r∧1≤p.n∧p.n≤5:=h.p.resolve_left hx
    have h2:(⟨⟨0,0⟩,[],ix,im,es⟩:Sv).goes (ntP g p)=⟨p,[],ix,im,es⟩:=by
     rw[JC rfl]
     unfold Sv.raise
     rw[if_pos (by show(0:Int) < p.r∨_;left;omega)]
    have h3:chk ⟨p,[],ix,im,es⟩=true:=(tD _).2 ⟨h.p,h.i,h.e,h.n,rfl⟩
    show sF _ [ntP g p]=_
    rw[sF,h2,if_pos h3];rfl
  rename_i hx
  have hx:p.r=0∧p.n=0:=by
   rcases h.p with h1 | h1
   · exact h1
   exact absurd (show ¬(p.r=0∧p.n=0) from fun h2=>by have:1≤p.r:=h1.1;omega) hx
  obtain⟨r,n⟩:=p
  obtain⟨h1,h2⟩:=hx
  simp only at h1 h2
  subst h1 h2
  rfl
 have s4:=BD (g:=g) (l:=[]) h
 unfold Vd
 rw[Bh,Bh,jI s1,jI s2,jI s3]
 exact s4
theorem gC :∀ {l m:List Nt} {b c:Bo},vE b l=some c→vE b (l++m)=vE c m
 | [],m,b,c,h=>by
  simp only[vE,Option.some.injEq]at h
  subst h;rfl
 | n::l,m,b,c,h=>by
  rw[vE]at h
  split at h
  · rename_i d hd
    rw[Jf,vE,hd]
    exact gC h
  cases h
theorem AM :∀ {l:List Nt} {b:Bo} {g:Nat} {s t:Sv},g < 8→b.groups[g]? =some s→(∀ n∈l,n.group=g∧1≤n.kind∧n.kind≤4)→sF s l=some t→vE b l=some { b with groups:=b.groups.set g t }
 | [],b,g,s,t,hg,hs,_,h=>by
  simp only[sF,Option.some.injEq]at h
  subst h
  obtain⟨hl,he⟩:=Ec.1 hs
  have:b.groups.set g s=b.groups:=by rw[← he];exact List.set_getElem_self hl
  rw[this];rfl
 | n::l,b,g,s,t,hg,hs,hn,h=>by
  unfold sF at h
  split at h
  · rename_i hc
    obtain⟨h1,h2,h3⟩:=hn n Gm
    have hl:=(Ec.1 hs).1
    have h4:b.into n=some { b with groups:=b.groups.set g (s.goes n) }:=by
     have:=nP (b:=b) (n:=n) (s:=s) (by omega) (by rw[h1];omega) (by rw[h1];exact hs) hc
     rw[this,h1];rfl
    unfold vE
    rw[h4]
    have:=AM (b:={ b with groups:=b.groups.set g (s.goes n) }) (g:=g) (s:=s.goes n) (t:=t) hg (by simp[hl]) (fun x hx=>hn x (Eu _ hx)) h
    show vE { b with groups:=b.groups.set g (s.goes n) } l=_
    rw[this]
    simp
  cases h
theorem IP {g:Nat} :∀ n∈Vd g s,n.group=g∧1≤n.kind∧n.kind≤4:=by
 intro n hn
 unfold Vd tP sB at hn
 rcases Bq.1 hn with hn | hn
 · rcases Bq.1 hn with hn | hn
   · rcases Bq.1 hn with hn | hn
     · split at hn
       · rw[Az.1 hn];exact⟨rfl,by show(1:Int)≤4;decide,by show(4:Int)≤4;decide⟩
       cases hn
     obtain⟨e,_,rfl⟩:=Ik.1 hn
     exact⟨Y,by show(1:Int)≤3;decide,by show(3:Int)≤4;decide⟩
   split at hn
   · rw[Az.1 hn];exact⟨rfl,by show(1:Int)≤1;decide,by show(1:Int)≤4;decide⟩
   cases hn
 obtain⟨e,_,rfl⟩:=Ik.1 hn
 exact⟨Y,by show(1:Int)≤2;decide,by show(2:Int)≤4;decide⟩
theorem eW {L:List Sv} (h8:L.length=8) (hc:∀ s∈L,chk s=true):∀ i,i≤8→vE Bo.empty (gN (L.take i))=some ⟨L.take i++List.replicate (8 - i) Sv.none,[],[]⟩
 | 0,_=>rfl
 | i+1,hi=>by
  have ih:=eW h8 hc i (by omega)
  obtain⟨s,hs⟩:=yL (l:=L) (j:=i) (by omega)
  have hl:(L.take i).length=i:=by rw[Aw];omega
  rw[yM hs,oG,gC ih,hl,AM (g:=i) (s:=Sv.none) (t:=s) (by omega) ?_ IP (LS ((tD s).1 (hc s (mem_of hs))))]
  · simp only[Option.some.injEq,Bo.mk.injEq,and_true]
    rw[show 8 - i=(8 - (i+1))+1 by omega,List.replicate_succ,List.set_append_right _ _ (by omega),hl,Lh,List.set_cons_zero,Bh]
    rfl
  show(L.take i++List.replicate (8 - i) Sv.none)[i]? =some Sv.none
  rw[Eb (by omega),hl,Lh,List.getElem?_replicate,if_pos (by omega)]
theorem IR :∀ {l m:List Rt},qV (l++m)→(∀ x∈l,∀ y∈m,Pm x y=true)∧(∀ y∈m,mH y)
 | [],m,h=>⟨fun x hx=>(by cases hx),(tZ h).1⟩
 | r::l,m,h=>by
  obtain⟨h1,h2,h3⟩:=h
  obtain⟨h4,h5⟩:=IR h3
  refine⟨fun x hx y hy=>?_,h5⟩
  rcases Cj.1 hx with rfl | hx
  · exact h2 y (Qd _ hy)
  exact h4 x hx y hy
theorem eU {G:List Sv}:∀ {m l:List Rt},qV (l++m)→vE ⟨G,l,[]⟩ (m.map ntF)=some ⟨G,l++m,[]⟩
 | [],l,_=>by simp[vE]
 | r::m,l,h=>by
  obtain⟨h1,h2⟩:=IR h
  have h3:Hf l r=l++[r]:=by
   unfold Hf
   rw[sK fun x hx=>h1 x hx r Gm,tM fun x hx=>?_]
   cases hb:Pm r x with
   | false=>rfl
   | true=>
    have:=nN (h1 x hx r Gm) hb
    rw[Qv]at this;cases this
  have h4:(⟨G,l,[]⟩:Bo).into (ntF r)=some ⟨G,l++[r],[]⟩:=by
   rw[vL rfl (h2 r Gm),qO (.inl (by show(0:Int) < 1;decide))]
   show some (⟨G,Hf l r,[]⟩:Bo)=_
   rw[h3]
  rw[Je,vE,h4]
  have:=eU (G:=G) (m:=m) (l:=l++[r]) (by rw[Bh];exact h)
  rw[Bh]at this
  exact this
theorem bH {N:Nat} (h:rE b N):vE Bo.empty b.notes=some ⟨b.groups,b.rights,[]⟩:=by
 unfold Bo.notes
 have h1:=eW h.eight h.chk 8 (Ak _)
 rw[Ej (by rw[h.eight];exact Ak _)]at h1
 rw[gC h1]
 have h2:=eU (G:=b.groups++List.replicate (8 - 8) Sv.none) (m:=b.rights) (l:=[]) h.rts
 rw[h2]
 simp
end
def Px (n:Nt):List Fv:=[.int n.kind,.int n.group,.int n.b.r,.int n.b.n,.int n.Eh.slot,.int n.Eh.b.r,.int n.Eh.b.n,.bytes n.Eh.val,.int n.entry.slot,.bytes n.entry.val,.int n.right.g,.text n.right.key,.int n.right.lease,.int n.right.net,.int n.client,.int n.seq]
@[reducible] def i64 (n:Int):Prop:=-9223372036854775808≤n∧n≤9223372036854775807
structure NtB (n:Nt):Prop where
 kind:i64 n.kind
 group:i64 n.group
 br:i64 n.b.r
 bn:i64 n.b.n
 vs:i64 n.Eh.slot
 vr:i64 n.Eh.b.r
 vn:i64 n.Eh.b.n
 es:i64 n.entry.slot
 rg:i64 n.right.g
 rl:i64 n.right.lease
 rn:i64 n.right.net
 cl:i64 n.client
 sq:i64 n.seq
section
variable {w:World} {ok:Nat→Prop} {cs:List Value} {n:Nt}
theorem FP.Xv {A:Option Addr} {b:Blk} {k:Nat} (h:Bs w ok A b):FP w ok (.bytes b) (Ac A b.length k):=⟨A,k,rfl,h.1,h.2.1⟩
theorem FP.Md {x:Int} (h:i64 x):FP w ok (.int x) (Aa x):=⟨rfl,h⟩
theorem WF (h:NtR w ok cs n) (hb:NtB n):rS.M w ok (Px n) cs:=by
 obtain⟨A1,k1,A2,k2,rfl,h1,h2⟩:=h
 refine⟨Y,?_⟩
 exact(FPs.one (FP.Md hb.kind)).app ((FPs.one (FP.Md hb.group)).app ((FPs.one (FP.Md hb.br)).app ((FPs.one (FP.Md hb.bn)).app ((FPs.one (FP.Md hb.vs)).app ((FPs.one (FP.Md hb.vr)).app ((FPs.one (FP.Md hb.vn)).app ((FPs.one (FP.Xv h1)).app ((FPs.one (FP.Md hb.es)).app ((FPs.one (FP.Xv h2)).app ((FPs.one (FP.Md hb.rg)).app ((FPs.one (f:=.text n.right.key) Y).app ((FPs.one (FP.Md hb.rl)).app ((FPs.one (FP.Md hb.rn)).app ((FPs.one (FP.Md hb.cl)).app (FPs.one (FP.Md hb.sq))))))))))))))))
theorem M_nt (h:rS.M w ok (Px n) cs) (hv:n.Eh.val.length≤140737488351232) (he:n.entry.val.length≤140737488351232):NtR w ok cs n:=by
 obtain⟨_,h⟩:=h
 have hl:cs.length=16:=h.len
 match cs,hl with
 | [c0,c1,c2,c3,c4,c5,c6,c7,c8,c9,c10,c11,c12,c13,c14,c15],_=>
  have key:∀ (i:Nat) (c:Value) (f:Fv),[c0,c1,c2,c3,c4,c5,c6,c7,c8,c9,c10,c11,c12,c13,c14,c15][i]? =some c→(Px n)[i]? =some f→FP w ok f c:=fun i c f hc hf=>by
   obtain⟨hi,rfl⟩:=Ec.1 hf
   obtain⟨v,h1,h2⟩:=h.2 i hi
   rw[hc]at h1;cases h1;exact h2
  obtain⟨B1,k1,h7,r1,o1⟩:=key 7 c7 (.bytes n.Eh.val) rfl rfl
  obtain⟨B2,k2,h9,r2,o2⟩:=key 9 c9 (.bytes n.entry.val) rfl rfl
  have h11:c11=zT n.right.key:=key 11 c11 (.text n.right.key) rfl rfl
  refine⟨B1,k1,B2,k2,?_,⟨r1,o1,hv⟩,⟨r2,o2,he⟩⟩
  rw[(key 0 c0 (.int n.kind) rfl rfl).1,(key 1 c1 (.int n.group) rfl rfl).1,(key 2 c2 (.int n.b.r) rfl rfl).1,(key 3 c3 (.int n.b.n) rfl rfl).1,(key 4 c4 (.int n.Eh.slot) rfl rfl).1,(key 5 c5 (.int n.Eh.b.r) rfl rfl).1,(key 6 c6 (.int n.Eh.b.n) rfl rfl).1,h7,
   (key 8 c8 (.int n.entry.slot) rfl rfl).1,h9,(key 10 c10 (.int n.right.g) rfl rfl).1,h11,(key 12 c12 (.int n.right.lease) rfl rfl).1,(key 13 c13 (.int n.right.net) rfl rfl).1,(key 14 c14 (.int n.client) rfl rfl).1,(key 15 c15 (.int n.seq) rfl rfl).1]
end
def yV (n:Nt):Blk:=rH (xX (Px n) W0)
def Og (n:Nt):Nat:=errOf (xX (Px n) W0)
theorem jE (n:Nt):(yV n).length≤65536:=WC _
def tO (n:Nt):Prop:=Og n=0∧(yV n).length≤16384
instance (n:Nt):Decidable (tO n):=inferInstanceAs (Decidable (_∧_))
theorem ND {α:Type} {l:List α} {i:Nat} {x:α} (h:l[i]? =some x):l.set i x=l:=by
 obtain⟨hl,rfl⟩:=Ec.1 h
 exact List.set_getElem_self hl
theorem LM {b:Bo} {n:Nt} {s:Sv} {g:Nat} (hg:g < 8) (hn:n.group=g∧1≤n.kind∧n.kind≤4) (hs:b.groups[g]? =some s) (hc:chk s=true) (h:s.goes n=s):b.into n=some b:=by
 have:=nP (b:=b) (n:=n) (s:=s) (by omega) (by rw[hn.1];omega) (by rw[hn.1];exact hs) (by rw[h];exact hc)
 rw[this,hn.1,h]
 show some { b with groups:=b.groups.set g s }=some b
 rw[ND hs]
theorem LW {l:List Vt} {v:Vt} {i:Nat} (hr:∀ (i j:Nat) (a b:Vt),i < j→l[i]? =some a→l[j]? =some b→a.slot < b.slot) (hi:l[i]? =some v):Jy l v=l:=by
 have hl:=(Ec.1 hi).1
 unfold Jy
 have h1:l.filter (fun x=>decide (x.slot < v.slot))=l.take i:=by
  conv=>lhs;rw[← Fg i l]
  rw[Le,sK fun x hx=>?_,tM fun x hx=>?_,Dt]
  · obtain⟨k,hk⟩:=Dh hx
    rw[Em]at hk
    refine decide_eq_false fun h2=>?_
    rcases Ku k with h0 | h0
    · subst h0;rw[Ia,hi]at hk;cases hk;omega
    have:=hr i (i+k) v x (by omega) hi hk;omega
  obtain⟨k,hk⟩:=Dh hx
  rw[Ic]at hk
  split at hk
  · exact decide_eq_true (hr k i x v ‹_› hk hi)
  cases hk
 have h2:l.filter (fun x=>decide (v.slot < x.slot))=l.drop (i+1):=by
  conv=>lhs;rw[← Fg (i+1) l]
  rw[Le,tM fun x hx=>?_,sK fun x hx=>?_,Gp]
  · obtain⟨k,hk⟩:=Dh hx
    rw[Em]at hk
    exact decide_eq_true (hr i (i+1+k) v x (by omega) hi hk)
  obtain⟨k,hk⟩:=Dh hx
  rw[Ic]at hk
  split at hk
  · refine decide_eq_false fun h2=>?_
    rcases Jj k i with h3 | h3
    · have:=hr k i x v h3 hk hi;omega
    obtain rfl:k=i:=by omega
    rw[hi]at hk;cases hk;omega
  cases hk
 rw[h1,h2,← uX hi,Fg]
theorem LR {g:Int} {s:Sv} (h:aL s):∀ n∈Vd g s,s.goes n=s:=by
 intro n hn
 unfold Vd tP sB at hn
 rcases Bq.1 hn with hn | hn
 · rcases Bq.1 hn with hn | hn
   · rcases Bq.1 hn with hn | hn
     · split at hn
       · rw[Az.1 hn,bS rfl,if_pos (Int.le_refl _)]
       cases hn
     obtain⟨e,he,rfl⟩:=Ik.1 hn
     obtain⟨i,hi⟩:=Dh he
     have hs:=(qL h.e i e hi).1
     have hil:=(Ec.1 hi).1
     rw[FB rfl,if_neg (by show ¬e.slot=s.index+(s.entries.length:Int)+1;omega)]
   split at hn
   · rw[Az.1 hn,JC rfl]
     exact cX fun h2=>by
      have h3:s.p.lt s.p:=h2
      rcases h3 with h3 | h3 <;>omega
   cases hn
 obtain⟨v,hv,rfl⟩:=Ik.1 hn
 obtain⟨i,hi⟩:=Dh hv
 have hva:=BV h.v v hv
 rw[FD rfl,if_neg (by show ¬v.slot≤s.index+(s.entries.length:Int);have:=hva.1;omega)]
 have h1:Jy s.Bc v=s.Bc:=LW (iX h.v).2 hi
 show({ s with Bc:=Jy s.Bc v }:Sv).raise v.b=s
 rw[h1]
 exact cX hva.2
theorem GT {l:List Rt} {i:Nat} {r:Rt} (hr:∀ (i j:Nat) (a b:Rt),i < j→l[i]? =some a→l[j]? =some b→Pm a b=true) (hi:l[i]? =some r):Hf l r=l:=by
 have hl:=(Ec.1 hi).1
 have no:∀ {a b:Rt},Pm a b=true→Pm b a=false:=fun {a b} h=>by
  cases hb:Pm b a with
  | false=>rfl
  | true=>have:=nN h hb;rw[Qv]at this;cases this
 unfold Hf
 have h1:l.filter (fun x=>Pm x r)=l.take i:=by
  conv=>lhs;rw[← Fg i l]
  rw[Le,sK fun x hx=>?_,tM fun x hx=>?_,Dt]
  · obtain⟨k,hk⟩:=Dh hx
    rw[Em]at hk
    rcases Ku k with h0 | h0
    · subst h0;rw[Ia,hi]at hk;cases hk;exact Qv _
    exact no (hr i (i+k) r x (by omega) hi hk)
  obtain⟨k,hk⟩:=Dh hx
  rw[Ic]at hk
  split at hk
  · exact hr k i x r ‹_› hk hi
  cases hk
 have h2:l.filter (fun x=>Pm r x)=l.drop (i+1):=by
  conv=>lhs;rw[← Fg (i+1) l]
  rw[Le,tM fun x hx=>?_,sK fun x hx=>?_,Gp]
  · obtain⟨k,hk⟩:=Dh hx
    rw[Em]at hk
    exact hr i (i+1+k) r x (by omega) hi hk
  obtain⟨k,hk⟩:=Dh hx
  rw[Ic]at hk
  split at hk
  · rcases Jj k i with h3 | h3
    · exact no (hr k i x r h3 hk hi)
    obtain rfl:k=i:=by omega
    rw[hi]at hk;cases hk;exact Qv _
  cases hk
 rw[h1,h2,← uX hi,Fg]
theorem OR {l:List Sv} {n:Nt} (h:n∈gN l):∃ (g:Nat) (s:Sv),l[g]? =some s∧n∈Vd g s:=by
 unfold gN at h
 obtain⟨⟨s,g⟩,h1,h2⟩:=List.mem_flatMap.1 h
 obtain⟨_,hg,he⟩:=List.mem_zipIdx h1
 refine⟨g,s,?_,h2⟩
 rw[Cb (by omega),he]
 simp
theorem LL {b:Bo} {N:Nat} (hg:rE b N):∀ n∈b.notes,b.into n=some b:=by
 intro n hn
 unfold Bo.notes at hn
 rcases Bq.1 hn with hn | hn
 · obtain⟨g,s,hs,hm⟩:=OR hn
   have hc:=hg.chk s (mem_of hs)
   have h8:=hg.eight
   have hgl:=(Ec.1 hs).1
   exact LM (by omega) (IP n hm) hs hc (LR ((tD s).1 hc) n hm)
 obtain⟨r,hr,rfl⟩:=Ik.1 hn
 obtain⟨i,hi⟩:=Dh hr
 have hrs:=tZ hg.rts
 rw[vL rfl (hrs.1 r hr),qO (.inl (by show(0:Int) < 1;decide))]
 show some { b with rights:=Hf b.rights r }=some b
 rw[GT hrs.2 hi]
theorem AL {b:Bo} {N:Nat} (hg:rE b N):∀ l:List Nt,(∀ n∈l,n∈b.notes)→vE b l=some b
 | [],_=>rfl
 | n::l,h=>by
  rw[vE,LL hg n (h n Gm)]
  exact AL hg l fun x hx=>h x (Eu _ hx)
end Go.Proofs.YtjoeklkmnfaabaaGreat
namespace Go.Proofs.YtjoeklkmnfaabaaGreat
open Go Go.RowKit
set_option linter.unusedVariables false
set_option linter.unusedSimpArgs false
attribute [local irreducible] yW Ops zP Cd
set_option maxRecDepth 100000
set_option maxHeartbeats 4000000
theorem HU (A:Option Addr) (n c:Nat) (cs:List Value) (w0:World) (hr:Rd w0 A n 4 cs) (ho:cs.all (·.oneCell')=true) (hb:n*48≤211106232532992):Aj 87 #[Ac A n c] w0 (fun r w'=>Rw w0 w' r 77 4 n cs):=by
 refine zG Tryz.func87 Tryz.ntmps87 Y<|cR e8 ?_
 have H:=Hp.refl w0
 refine Rq<|Xa Y<|Xr e8<|J1<|Rq<|Xm Y<|OT (vC Jd Y) (fun hp4=>?_) (fun hp4=>?_)
 refine Xr e8<|J3 Y<|Rq<|Xa Y<|Xr e8<|J5<|Cm Y Y ?_
 have hn0:n=0:=hr.nil hp4
 subst hn0
 have hb:cs=[]:=Ee (by rw[hr.len,Jr])
 subst hb
 exact⟨none,0,[],Y,Ak _,by simp,fun _=>Y,by have:=H.nil 77;exact this⟩
 refine Xr e8<|J4 Y<|J6<|Rq<|zE Jd xE H Y (by decide) Y<|fun w1 g1 H1 hg1=>Xm Y<|xC Jd xE (by decide) H1 0 (g:=some g1) (xs:=[]) (sp:=[]) Y Y Y (by decide) (by decide) (by simp) Y (hr.to0 H1) ho (by omega) (by omega) (by decide)<|fun w2 g3 cap3 sp3 H2 hcap3 hmc3 hg3=>Xa Y<|Xr e8<|J5<|Cm Y Y ?_
 rw[Ba]at hmc3
 refine⟨g3,cap3,sp3,?_,hmc3,hcap3,hg3,H2.pick [0] (by decide)⟩
 rw[Ba]
theorem C8 (A:Option Addr) (n c:Nat) (cs:List Value) (w0:World) (hr:Rd w0 A n 2 cs) (ho:cs.all (·.oneCell')=true) (hb:n*32≤211106232532992):Aj 88 #[Ac A n c] w0 (fun r w'=>Rw w0 w' r 79 2 n cs):=by
 refine zG Tryz.func88 Tryz.ntmps88 Y<|cR e8 ?_
 have H:=Hp.refl w0
 refine Rq<|Xa Y<|Xr e8<|J1<|Rq<|Xm Y<|OT (vC Lr Y) (fun hp4=>?_) (fun hp4=>?_)
 refine Xr e8<|J3 Y<|Rq<|Xa Y<|Xr e8<|J5<|Cm Y Y ?_
 have hn0:n=0:=hr.nil hp4
 subst hn0
 have hb:cs=[]:=Ee (by rw[hr.len,Jr])
 subst hb
 exact⟨none,0,[],Y,Ak _,by simp,fun _=>Y,by have:=H.nil 79;exact this⟩
 refine Xr e8<|J4 Y<|J6<|Rq<|zE Lr wE H Y (by decide) Y<|fun w1 g1 H1 hg1=>Xm Y<|xC Lr wE (by decide) H1 0 (g:=some g1) (xs:=[]) (sp:=[]) Y Y Y (by decide) (by decide) (by simp) Y (hr.to0 H1) ho (by omega) (by omega) (by decide)<|fun w2 g3 cap3 sp3 H2 hcap3 hmc3 hg3=>Xa Y<|Xr e8<|J5<|Cm Y Y ?_
 rw[Ba]at hmc3
 refine⟨g3,cap3,sp3,?_,hmc3,hcap3,hg3,H2.pick [0] (by decide)⟩
 rw[Ba]
theorem HV (A:Option Addr) (n c:Nat) (cs:List Value) (w0:World) (hr:Rd w0 A n 4 cs) (ho:cs.all (·.oneCell')=true) (hb:n*40≤211106232532992):Aj 38 #[Ac A n c] w0 (fun r w'=>Rw w0 w' r 35 4 n cs):=by
 refine zG Tryz.func38 Tryz.ntmps38 Y<|cR e8 ?_
 have H:=Hp.refl w0
 refine Rq<|Xa Y<|Xr e8<|J1<|Rq<|Xm Y<|OT (vC Ht Y) (fun hp4=>?_) (fun hp4=>?_)
 refine Xr e8<|J3 Y<|Rq<|Xa Y<|Xr e8<|J5<|Cm Y Y ?_
 have hn0:n=0:=hr.nil hp4
 subst hn0
 have hb:cs=[]:=Ee (by rw[hr.len,Jr])
 subst hb
 exact⟨none,0,[],Y,Ak _,by simp,fun _=>Y,by have:=H.nil 35;exact this⟩
 refine Xr e8<|J4 Y<|J6<|Rq<|zE Ht xA H Y (by decide) Y<|fun w1 g1 H1 hg1=>Xm Y<|xC Ht xA (by decide) H1 0 (g:=some g1) (xs:=[]) (sp:=[]) Y Y Y (by decide) (by decide) (by simp) Y (hr.to0 H1) ho (by omega) (by omega) (by decide)<|fun w2 g3 cap3 sp3 H2 hcap3 hmc3 hg3=>Xa Y<|Xr e8<|J5<|Cm Y Y ?_
 rw[Ba]at hmc3
 refine⟨g3,cap3,sp3,?_,hmc3,hcap3,hg3,H2.pick [0] (by decide)⟩
 rw[Ba]
theorem HY (A:Option Addr) (n c:Nat) (cs:List Value) (w0:World) (hr:Rd w0 A n 7 cs) (ho:cs.all (·.oneCell')=true) (hb:n*56≤211106232532992):Aj 89 #[Ac A n c] w0 (fun r w'=>Rw w0 w' r 110 7 n cs):=by
 refine zG Tryz.func89 Tryz.ntmps89 Y<|cR e8 ?_
 have H:=Hp.refl w0
 refine Rq<|Xa Y<|Xr e8<|J1<|Rq<|Xm Y<|OT (vC Lp Y) (fun hp4=>?_) (fun hp4=>?_)
 refine Xr e8<|J3 Y<|Rq<|Xa Y<|Xr e8<|J5<|Cm Y Y ?_
 have hn0:n=0:=hr.nil hp4
 subst hn0
 have hb:cs=[]:=Ee (by rw[hr.len,Jr])
 subst hb
 exact⟨none,0,[],Y,Ak _,by simp,fun _=>Y,by have:=H.nil 110;exact this⟩
 refine Xr e8<|J4 Y<|J6<|Rq<|zE Lp yT H Y (by decide) Y<|fun w1 g1 H1 hg1=>Xm Y<|xC Lp yT (by decide) H1 0 (g:=some g1) (xs:=[]) (sp:=[]) Y Y Y (by decide) (by decide) (by simp) Y (hr.to0 H1) ho (by omega) (by omega) (by decide)<|fun w2 g3 cap3 sp3 H2 hcap3 hmc3 hg3=>Xa Y<|Xr e8<|J5<|Cm Y Y ?_
 rw[Ba]at hmc3
 refine⟨g3,cap3,sp3,?_,hmc3,hcap3,hg3,H2.pick [0] (by decide)⟩
 rw[Ba]
theorem QS (A:Option Addr) (n c:Nat) (cs:List Value) (w0:World) (hr:Rd w0 A n 6 cs) (ho:cs.all (·.oneCell')=true) (hb:n*96≤211106232532992):Aj 69 #[Ac A n c] w0 (fun r w'=>Rw w0 w' r 97 6 n cs):=by
 refine zG Tryz.func69 Tryz.ntmps69 Y<|cR e8 ?_
 have H:=Hp.refl w0
 refine Rq<|Xa Y<|Xr e8<|J1<|Rq<|Xm Y<|OT (vC Ue Y) (fun hp4=>?_) (fun hp4=>?_)
 refine Xr e8<|J3 Y<|Rq<|Xa Y<|Xr e8<|J5<|Cm Y Y ?_
 have hn0:n=0:=hr.nil hp4
 subst hn0
 have hb:cs=[]:=Ee (by rw[hr.len,Jr])
 subst hb
 exact⟨none,0,[],Y,Ak _,by simp,fun _=>Y,by have:=H.nil 97;exact this⟩
 refine Xr e8<|J4 Y<|J6<|Rq<|zE Ue wD H Y (by decide) Y<|fun w1 g1 H1 hg1=>Xm Y<|xC Ue wD (by decide) H1 0 (g:=some g1) (xs:=[]) (sp:=[]) Y Y Y (by decide) (by decide) (by simp) Y (hr.to0 H1) ho (by omega) (by omega) (by decide)<|fun w2 g3 cap3 sp3 H2 hcap3 hmc3 hg3=>Xa Y<|Xr e8<|J5<|Cm Y Y ?_
 rw[Ba]at hmc3
 refine⟨g3,cap3,sp3,?_,hmc3,hcap3,hg3,H2.pick [0] (by decide)⟩
 rw[Ba]
theorem WO (A:Option Addr) (c:Nat) (ps:List (List Value)) (n k gc:Nat) (hn:ps.length=n) (pr:List Value→Bool) (w0:World) (hp:Pl 4 ps) (hr:Rd w0 A ps.length 4 ps.flatten) (hl:ps.length≤4611686018427387904) (hk:Prd Tryz.prog k gc pr ps w0):Aj 213 #[Ac A n c,.func (.func k) #[] #[Ah gc]] w0 (fun r w'=>∃ y:Int,r=Aa y∧XW ps pr y∧Hp w0 w' [] []):=by
 refine zG Tryz.func213 Tryz.ntmps213 Y<|cR e19 ?_
 subst hn
 have H:=Hp.refl w0
 refine Rq<|Xa Y<|Xr e19<|J1<|Rq<|Xm Y<|OV (ES Jd Y)<|Xm Y<|Xr e19<|J7<|zV (fun nQ lQ w=>∃ (jj:Nat) (y:Int),ps.length - jj=nQ∧xM (Hy [(0,Ac A ps.length c),(1,.func (.func k) #[] #[Ah gc]),(7,Aa (ps.length:Int)),(8,Aa y)] 0 19) lQ∧y=(jj:Int)∧jj≤ps.length∧(∀ q∈ps.take jj,pr q=false)∧Hp w0 w [] []) (ps.length) ?_ ?_
 exact⟨0,_,Y,(Jg Y Y Y Y Y),Y,Am _,fun q hq=>by simp at hq,H⟩
 rintro nQ lQ w1 ⟨jj,y,rfl,hfit,rfl,hj,hno,H1⟩
 obtain⟨j,rfl⟩:=hfit.open
 refine cR e19 ?_
 clear hfit
 refine Rq<|OT (zQ Y Y) (fun hp9=>?_) (fun hp9=>?_)
 have hjl:jj < ps.length:=by omega
 obtain⟨p1,hp1⟩:=yL hjl
 obtain⟨a1,ha1⟩:=hr.some_ (by omega)
 subst ha1
 refine Xr e19<|J1<|J3 Y<|J6<|J1<|J7<|Rq<|Xm Y<|Xa Y<|Xr e19<|Rq<|Xm Y<|Xm Y<|Xm Y<|OV (EI Jd xE Y Y Y hjl Y)<|Ag e19<|OV (EN xE Y (vs:=p1) (hp.at hp1) ((hr.to0 H1).elem hp hp1))<|OC (xL hk.1 Y Y) (hk.2.2 w1 (H1.frame gc hk.2.1 (by simp)) p1 (mem_of hp1))<|fun w2 Hd=>have H2:=H1.Au Hd;Xr e19<|wU Y (fun hb16=>?_) (fun hb16=>?_)
 refine Rq<|Xm Y<|Xa Y<|Xr e19<|J5<|BR<|yN<|BR<|Cm Y Y<|⟨_,Y,.inr ⟨jj,p1,Y,hp1,hb16,hno⟩,H2.Af⟩
 refine J6<|zA (zB ?_)
 refine J2<|OV (zL Y Y (Ad _ (by omega)))<|Xm Y<|Xr e19<|zA (zH ?_)
 exact⟨ps.length - (jj+1),by omega,jj+1,_,Y,(Jg Y Y Y Y Y),by omega,by omega,oP hno hp1 hb16,H2⟩
 obtain rfl:jj=ps.length:=by omega
 refine Xr e19<|J1<|J4 Y<|J8<|zU<|zS<|Rq<|Xa Y<|Xr e19<|J5<|Cm Y Y<|⟨_,Y,.inl ⟨Y,by rw[Bz]at hno;exact hno⟩,H1.Af⟩
theorem UA (g:Option Nat) (cap n:Nat) (ps:List (List Value)) (hn:ps.length=n) (sp:List Value) (k gc:Nat) (pr:List Value→Bool) (w0:World) (H0:Hp w0 w0 (bl [((g,77,ps.flatten++sp):Ent)]) [((g,77,ps.flatten++sp):Ent)]) (hp:Pl 4 ps) (ho:∀ p∈ps,p.all (·.oneCell')=true) (hl:ps.length≤cap) (hl2:ps.length≤4611686018427387903) (hcz:cap*4≤(ps.flatten++sp).length) (hk:Prd Tryz.prog k gc pr ps w0) (hgc:gc∉bl [((g,77,ps.flatten++sp):Ent)]):Aj 194 #[Ac (hd g) n cap,.func (.func k) #[] #[Ah gc]] w0 (fun r w'=>∃ sp',r=Ac (hd g) (ps.filter fun p=>!pr p).length cap∧((ps.filter fun p=>!pr p).flatten++sp').length=(ps.flatten++sp).length∧Hp w0 w' (bl [((g,77,ps.flatten++sp):Ent)]) [((g,77,(ps.filter fun p=>!pr p).flatten++sp'):Ent)]):=by
 refine zG Tryz.func194 Tryz.ntmps194 Y<|cR e42 ?_
 subst hn
 have H:=H0
 refine Rq<|Xa Y<|Xr e42<|Rq<|Xm Y<|Xm Y<|OQ (EC gf213 Y) (WO (hd g) cap ps _ k gc Y pr _ hp (H.rd (i:=0) Y hp.len (by decide)) (by omega) hk) ?_
 rintro r w1 ⟨y,rfl,hix,Hd⟩
 have H1:=H.Au Hd
 refine Xa Y<|Xr e42<|J1<|Rq<|Xm Y<|OT (xR Y Y) (fun Pg=>?_) (fun Pg=>?_)
 have hnone:∀ p∈ps,pr p=false:=by
  rcases hix with ⟨_,h⟩ | ⟨jj,p,h,_⟩
  · exact h
  omega
 refine Xr e42<|J3 Y<|Rq<|Xm Y<|Xa Y<|Xr e42<|J5<|Cm Y Y<|⟨sp,by rw[vU hnone],by rw[vU hnone],by rw[vU hnone];exact H1⟩
 obtain⟨j0,p0,rfl,hj0,ht0,hn0⟩:∃ (jj:Nat) (p:List Value),y=(jj:Int)∧ps[jj]? =some p∧pr p=true∧∀ q∈ps.take jj,pr q=false:=by
  rcases hix with ⟨h,_⟩ | h
  · omega
  exact h
 have hj0l:=lt_of_get hj0
 obtain⟨gx,rfl⟩:=vK H1 (i:=0) rfl (by rw[Ae,hp.len];have:0 < ps.length*4:=Nat.mul_pos (by omega) (by decide);omega)
 clear hix
 refine Xr e42<|J4 Y<|J6<|J1<|Rq<|Xm Y<|OV (zL Y Y (Ad _ (by omega)))<|Xa Y<|Xr e42<|J7<|zV (fun nQ lQ w=>∃ (i jj:Nat) (y z:Int) (qs:List (List Value)),ps.length - jj=nQ∧xM (Hy [(0,Ac (hd (some gx)) ps.length cap),(1,.func (.func k) #[] #[Ah gc]),(5,Aa y),(6,Aa z)] 0 42) lQ∧y=(i:Int)∧z=(jj:Int)∧Del ps qs pr i jj 4∧Hp w0 w (bl [((some gx,77,ps.flatten++sp):Ent)]) [((some gx,77,qs.flatten++sp):Ent)]) (ps.length - (j0+1)) ?_ ?_
 exact⟨j0,j0+1,_,_,ps,Y,(Jg Y Y Y Y Y),Y,by omega,Del.start hp hj0 ht0 hn0,H1⟩
 rintro nQ lQ w2 ⟨i,jj,y,z,qs,rfl,hfit,rfl,rfl,hdel,H2⟩
 obtain⟨j,rfl⟩:=hfit.open
 refine cR e42 ?_
 clear hfit
 have hdl:=hdel.lt
 have hde:=hdel.le
 have Rh:=hdel.len
 refine J1<|Rq<|Xm Y<|Xm Y<|OV (ES Jd Y)<|OT (zQ Y Y) (fun hp19=>?_) (fun hp19=>?_)
 have hjl:jj < ps.length:=by omega
 obtain⟨p1,hp1⟩:=yL hjl
 have hq1:qs[jj]? =some p1:=hdel.at.trans hp1
 refine Xr e42<|J3 Y<|J6<|J1<|J7<|Rq<|Xm Y<|Xm Y<|OV (EI Jd xE Y Y Y hjl Y)<|OV (EN xE Y (vs:=p1) (hp.at hp1) (H2.elem (k:=0) Y hdel.pl hq1))<|Ag e42<|OA xE H2<|fun w3 g3 H3 hg3=>OS xE H3 1 Y Y Y Y (hp.at hp1) (by rw[hp.at hp1];decide) (ho p1 (mem_of hp1))<|fun w4 H4=>?_
 rw[qG (by rw[hp.at hp1];rfl)]at H4
 refine Xr e42<|Rq<|Xm Y<|OV (EN xE Y (vs:=p1) (hp.at hp1) (H4.Ap (i:=1) Y (by rw[Ep,Bz])))<|OC (xL hk.1 Y Y) (hk.2.2 w4 (H4.frame gc hk.2.1 hgc) p1 (mem_of hp1))<|fun w5 Hd=>have H5:=H4.Au Hd;Xn Y<|Xr e42<|wU Y (fun Ux=>?_) (fun Ux=>?_)
 refine Rq<|Xm Y<|Xm Y<|OV (EN xE Y (vs:=p1) (hp.at hp1) (H5.Ap (i:=1) Y (by rw[Ep,Bz])))<|OV (uR Jd xE Y Y Y (by omega))<|Ag e42<|OS xE H5 0 Y Y Y Y (hp.at hp1) (by rw[hp.at hp1,Ae,hdel.pl.len,Ba];have:(i+1)*4≤qs.length*4:=Dp _ (by omega);omega) (ho p1 (mem_of hp1))<|fun w6 H6=>?_
 rw[Ba,mC (by rw[hp.at hp1,hdel.pl.len];have:(i+1)*4≤qs.length*4:=Dp _ (by omega);omega),hdel.pl.set_ (by omega) (hp.at hp1)]at H6
 refine Xr e42<|J2<|Xm Y<|OV (zL Y Y (Ad _ (by omega)))<|Xa Y<|Xr e42<|zA (zB ?_)
 refine J2<|Xm Y<|OV (zL Y Y (Ad _ (by omega)))<|Xa Y<|Xr e42<|zA (zH ?_)
 exact⟨ps.length - (jj+1),by omega,i+1,jj+1,_,_,qs.set i p1,Y,(Jg Y Y Y Y Y),by omega,by omega,hdel.keep hp1 (by simpa using Ux) (hp.at hp1),H6.pick [0] (by decide)⟩
 refine J6<|zA (zB ?_)
 refine J2<|Xm Y<|OV (zL Y Y (Ad _ (by omega)))<|Xa Y<|Xr e42<|zA (zH ?_)
 exact⟨ps.length - (jj+1),by omega,i,jj+1,_,_,qs,Y,(Jg Y Y Y Y Y),Y,by omega,hdel.skip hp1 (by simpa using Ux),H5.pick [0] (by decide)⟩
 obtain rfl:jj=ps.length:=by omega
 refine Xr e42<|J4 Y<|J8<|zU<|zS<|Rq<|Xm Y<|Xm Y ?_
 have hdn:=hdel.done
 refine OV (tV Jd xE Y Y Y (by omega) (by omega)) ?_
 rw[Ir]
 have hfit:0+i*4+(ps.length - i)*4≤(qs.flatten++sp).length:=by
  rw[Ae,hdel.pl.len,Rh,Ba,← Dv,show i+(ps.length - i)=ps.length by omega];omega
 refine eA Jd xE H2 0 Y Y hfit Y<|fun w3 H3=>Xr e42<|Rq<|Xm Y<|Xm Y<|OV (gX Jd xE Y Y Y (by omega))<|Xa Y<|Xr e42<|J5<|Cm Y Y ?_
 have hpl:=vN (cs:=qs.flatten++sp) (vs:=initL [Aa 0,Aa 0,Aa 0,Dn] (ps.length - i)) (o:=0+i*4) (by rw[wO];exact hfit)
 rw[hdel.cells rfl]at hpl
 have HZ:=H3
 change Hp _ _ _ [((some gx,77,zJ (qs.flatten++sp) (0+i*4) _):Ent)]at HZ
 rw[hdel.cells rfl]at HZ
 refine⟨_,by rw[hdn.2],?_,HZ⟩
 rw[hpl,Ae,Ae,hdel.pl.len,hp.len,Rh]
theorem WQ (A:Option Addr) (c:Nat) (ps:List (List Value)) (n k gc:Nat) (hn:ps.length=n) (pr:List Value→Bool) (w0:World) (hp:Pl 2 ps) (hr:Rd w0 A ps.length 2 ps.flatten) (hl:ps.length≤4611686018427387904) (hk:Prd Tryz.prog k gc pr ps w0):Aj 196 #[Ac A n c,.func (.func k) #[] #[Ah gc]] w0 (fun r w'=>∃ y:Int,r=Aa y∧XW ps pr y∧Hp w0 w' [] []):=by
 refine zG Tryz.func196 Tryz.ntmps196 Y<|cR e19 ?_
 subst hn
 have H:=Hp.refl w0
 refine Rq<|Xa Y<|Xr e19<|J1<|Rq<|Xm Y<|OV (ES Lr Y)<|Xm Y<|Xr e19<|J7<|zV (fun nQ lQ w=>∃ (jj:Nat) (y:Int),ps.length - jj=nQ∧xM (Hy [(0,Ac A ps.length c),(1,.func (.func k) #[] #[Ah gc]),(7,Aa (ps.length:Int)),(8,Aa y)] 0 19) lQ∧y=(jj:Int)∧jj≤ps.length∧(∀ q∈ps.take jj,pr q=false)∧Hp w0 w [] []) (ps.length) ?_ ?_
 exact⟨0,_,Y,(Jg Y Y Y Y Y),Y,Am _,fun q hq=>by simp at hq,H⟩
 rintro nQ lQ w1 ⟨jj,y,rfl,hfit,rfl,hj,hno,H1⟩
 obtain⟨j,rfl⟩:=hfit.open
 refine cR e19 ?_
 clear hfit
 refine Rq<|OT (zQ Y Y) (fun hp9=>?_) (fun hp9=>?_)
 have hjl:jj < ps.length:=by omega
 obtain⟨p1,hp1⟩:=yL hjl
 obtain⟨a1,ha1⟩:=hr.some_ (by omega)
 subst ha1
 refine Xr e19<|J1<|J3 Y<|J6<|J1<|J7<|Rq<|Xm Y<|Xa Y<|Xr e19<|Rq<|Xm Y<|Xm Y<|Xm Y<|OV (EI Lr wE Y Y Y hjl Y)<|Ag e19<|OV (EN wE Y (vs:=p1) (hp.at hp1) ((hr.to0 H1).elem hp hp1))<|OC (xL hk.1 Y Y) (hk.2.2 w1 (H1.frame gc hk.2.1 (by simp)) p1 (mem_of hp1))<|fun w2 Hd=>have H2:=H1.Au Hd;Xr e19<|wU Y (fun hb16=>?_) (fun hb16=>?_)
 refine Rq<|Xm Y<|Xa Y<|Xr e19<|J5<|BR<|yN<|BR<|Cm Y Y<|⟨_,Y,.inr ⟨jj,p1,Y,hp1,hb16,hno⟩,H2.Af⟩
 refine J6<|zA (zB ?_)
 refine J2<|OV (zL Y Y (Ad _ (by omega)))<|Xm Y<|Xr e19<|zA (zH ?_)
 exact⟨ps.length - (jj+1),by omega,jj+1,_,Y,(Jg Y Y Y Y Y),by omega,by omega,oP hno hp1 hb16,H2⟩
 obtain rfl:jj=ps.length:=by omega
 refine Xr e19<|J1<|J4 Y<|J8<|zU<|zS<|Rq<|Xa Y<|Xr e19<|J5<|Cm Y Y<|⟨_,Y,.inl ⟨Y,by rw[Bz]at hno;exact hno⟩,H1.Af⟩
theorem UB (g:Option Nat) (cap n:Nat) (ps:List (List Value)) (hn:ps.length=n) (sp:List Value) (k gc:Nat) (pr:List Value→Bool) (w0:World) (H0:Hp w0 w0 (bl [((g,79,ps.flatten++sp):Ent)]) [((g,79,ps.flatten++sp):Ent)]) (hp:Pl 2 ps) (ho:∀ p∈ps,p.all (·.oneCell')=true) (hl:ps.length≤cap) (hl2:ps.length≤4611686018427387903) (hcz:cap*2≤(ps.flatten++sp).length) (hk:Prd Tryz.prog k gc pr ps w0) (hgc:gc∉bl [((g,79,ps.flatten++sp):Ent)]):Aj 168 #[Ac (hd g) n cap,.func (.func k) #[] #[Ah gc]] w0 (fun r w'=>∃ sp',r=Ac (hd g) (ps.filter fun p=>!pr p).length cap∧((ps.filter fun p=>!pr p).flatten++sp').length=(ps.flatten++sp).length∧Hp w0 w' (bl [((g,79,ps.flatten++sp):Ent)]) [((g,79,(ps.filter fun p=>!pr p).flatten++sp'):Ent)]):=by
 refine zG Tryz.func168 Tryz.ntmps168 Y<|cR e42 ?_
 subst hn
 have H:=H0
 refine Rq<|Xa Y<|Xr e42<|Rq<|Xm Y<|Xm Y<|OQ (EC gf196 Y) (WQ (hd g) cap ps _ k gc Y pr _ hp (H.rd (i:=0) Y hp.len (by decide)) (by omega) hk) ?_
 rintro r w1 ⟨y,rfl,hix,Hd⟩
 have H1:=H.Au Hd
 refine Xa Y<|Xr e42<|J1<|Rq<|Xm Y<|OT (xR Y Y) (fun Pg=>?_) (fun Pg=>?_)
 have hnone:∀ p∈ps,pr p=false:=by
  rcases hix with ⟨_,h⟩ | ⟨jj,p,h,_⟩
  · exact h
  omega
 refine Xr e42<|J3 Y<|Rq<|Xm Y<|Xa Y<|Xr e42<|J5<|Cm Y Y<|⟨sp,by rw[vU hnone],by rw[vU hnone],by rw[vU hnone];exact H1⟩
 obtain⟨j0,p0,rfl,hj0,ht0,hn0⟩:∃ (jj:Nat) (p:List Value),y=(jj:Int)∧ps[jj]? =some p∧pr p=true∧∀ q∈ps.take jj,pr q=false:=by
  rcases hix with ⟨h,_⟩ | h
  · omega
  exact h
 have hj0l:=lt_of_get hj0
 obtain⟨gx,rfl⟩:=vK H1 (i:=0) rfl (by rw[Ae,hp.len];have:0 < ps.length*2:=Nat.mul_pos (by omega) (by decide);omega)
 clear hix
 refine Xr e42<|J4 Y<|J6<|J1<|Rq<|Xm Y<|OV (zL Y Y (Ad _ (by omega)))<|Xa Y<|Xr e42<|J7<|zV (fun nQ lQ w=>∃ (i jj:Nat) (y z:Int) (qs:List (List Value)),ps.length - jj=nQ∧xM (Hy [(0,Ac (hd (some gx)) ps.length cap),(1,.func (.func k) #[] #[Ah gc]),(5,Aa y),(6,Aa z)] 0 42) lQ∧y=(i:Int)∧z=(jj:Int)∧Del ps qs pr i jj 2∧Hp w0 w (bl [((some gx,79,ps.flatten++sp):Ent)]) [((some gx,79,qs.flatten++sp):Ent)]) (ps.length - (j0+1)) ?_ ?_
 exact⟨j0,j0+1,_,_,ps,Y,(Jg Y Y Y Y Y),Y,by omega,Del.start hp hj0 ht0 hn0,H1⟩
 rintro nQ lQ w2 ⟨i,jj,y,z,qs,rfl,hfit,rfl,rfl,hdel,H2⟩
 obtain⟨j,rfl⟩:=hfit.open
 refine cR e42 ?_
 clear hfit
 have hdl:=hdel.lt
 have hde:=hdel.le
 have Rh:=hdel.len
 refine J1<|Rq<|Xm Y<|Xm Y<|OV (ES Lr Y)<|OT (zQ Y Y) (fun hp19=>?_) (fun hp19=>?_)
 have hjl:jj < ps.length:=by omega
 obtain⟨p1,hp1⟩:=yL hjl
 have hq1:qs[jj]? =some p1:=hdel.at.trans hp1
 refine Xr e42<|J3 Y<|J6<|J1<|J7<|Rq<|Xm Y<|Xm Y<|OV (EI Lr wE Y Y Y hjl Y)<|OV (EN wE Y (vs:=p1) (hp.at hp1) (H2.elem (k:=0) Y hdel.pl hq1))<|Ag e42<|OA wE H2<|fun w3 g3 H3 hg3=>OS wE H3 1 Y Y Y Y (hp.at hp1) (by rw[hp.at hp1];decide) (ho p1 (mem_of hp1))<|fun w4 H4=>?_
 rw[qG (by rw[hp.at hp1];rfl)]at H4
 refine Xr e42<|Rq<|Xm Y<|OV (EN wE Y (vs:=p1) (hp.at hp1) (H4.Ap (i:=1) Y (by rw[Ep,Bz])))<|OC (xL hk.1 Y Y) (hk.2.2 w4 (H4.frame gc hk.2.1 hgc) p1 (mem_of hp1))<|fun w5 Hd=>have H5:=H4.Au Hd;Xn Y<|Xr e42<|wU Y (fun Ux=>?_) (fun Ux=>?_)
 refine Rq<|Xm Y<|Xm Y<|OV (EN wE Y (vs:=p1) (hp.at hp1) (H5.Ap (i:=1) Y (by rw[Ep,Bz])))<|OV (uR Lr wE Y Y Y (by omega))<|Ag e42<|OS wE H5 0 Y Y Y Y (hp.at hp1) (by rw[hp.at hp1,Ae,hdel.pl.len,Ba];have:(i+1)*2≤qs.length*2:=Dp _ (by omega);omega) (ho p1 (mem_of hp1))<|fun w6 H6=>?_
 rw[Ba,mC (by rw[hp.at hp1,hdel.pl.len];have:(i+1)*2≤qs.length*2:=Dp _ (by omega);omega),hdel.pl.set_ (by omega) (hp.at hp1)]at H6
 refine Xr e42<|J2<|Xm Y<|OV (zL Y Y (Ad _ (by omega)))<|Xa Y<|Xr e42<|zA (zB ?_)
 refine J2<|Xm Y<|OV (zL Y Y (Ad _ (by omega)))<|Xa Y<|Xr e42<|zA (zH ?_)
 exact⟨ps.length - (jj+1),by omega,i+1,jj+1,_,_,qs.set i p1,Y,(Jg Y Y Y Y Y),by omega,by omega,hdel.keep hp1 (by simpa using Ux) (hp.at hp1),H6.pick [0] (by decide)⟩
 refine J6<|zA (zB ?_)
 refine J2<|Xm Y<|OV (zL Y Y (Ad _ (by omega)))<|Xa Y<|Xr e42<|zA (zH ?_)
 exact⟨ps.length - (jj+1),by omega,i,jj+1,_,_,qs,Y,(Jg Y Y Y Y Y),Y,by omega,hdel.skip hp1 (by simpa using Ux),H5.pick [0] (by decide)⟩
 obtain rfl:jj=ps.length:=by omega
 refine Xr e42<|J4 Y<|J8<|zU<|zS<|Rq<|Xm Y<|Xm Y ?_
 have hdn:=hdel.done
 refine OV (tV Lr wE Y Y Y (by omega) (by omega)) ?_
 rw[Ir]
 have hfit:0+i*2+(ps.length - i)*2≤(qs.flatten++sp).length:=by
  rw[Ae,hdel.pl.len,Rh,Ba,← Dv,show i+(ps.length - i)=ps.length by omega];omega
 refine eA Lr wE H2 0 Y Y hfit Y<|fun w3 H3=>Xr e42<|Rq<|Xm Y<|Xm Y<|OV (gX Lr wE Y Y Y (by omega))<|Xa Y<|Xr e42<|J5<|Cm Y Y ?_
 have hpl:=vN (cs:=qs.flatten++sp) (vs:=initL [Aa 0,Dn] (ps.length - i)) (o:=0+i*2) (by rw[wO];exact hfit)
 rw[hdel.cells rfl]at hpl
 have HZ:=H3
 change Hp _ _ _ [((some gx,79,zJ (qs.flatten++sp) (0+i*2) _):Ent)]at HZ
 rw[hdel.cells rfl]at HZ
 refine⟨_,by rw[hdn.2],?_,HZ⟩
 rw[hpl,Ae,Ae,hdel.pl.len,hp.len,Rh]
theorem WP (A:Option Addr) (c:Nat) (ps:List (List Value)) (n k gc:Nat) (hn:ps.length=n) (pr:List Value→Bool) (w0:World) (hp:Pl 7 ps) (hr:Rd w0 A ps.length 7 ps.flatten) (hl:ps.length≤4611686018427387904) (hk:Prd Tryz.prog k gc pr ps w0):Aj 159 #[Ac A n c,.func (.func k) #[] #[Ah gc]] w0 (fun r w'=>∃ y:Int,r=Aa y∧XW ps pr y∧Hp w0 w' [] []):=by
 refine zG Tryz.func159 Tryz.ntmps159 Y<|cR e19 ?_
 subst hn
 have H:=Hp.refl w0
 refine Rq<|Xa Y<|Xr e19<|J1<|Rq<|Xm Y<|OV (ES Lp Y)<|Xm Y<|Xr e19<|J7<|zV (fun nQ lQ w=>∃ (jj:Nat) (y:Int),ps.length - jj=nQ∧xM (Hy [(0,Ac A ps.length c),(1,.func (.func k) #[] #[Ah gc]),(7,Aa (ps.length:Int)),(8,Aa y)] 0 19) lQ∧y=(jj:Int)∧jj≤ps.length∧(∀ q∈ps.take jj,pr q=false)∧Hp w0 w [] []) (ps.length) ?_ ?_
 exact⟨0,_,Y,(Jg Y Y Y Y Y),Y,Am _,fun q hq=>by simp at hq,H⟩
 rintro nQ lQ w1 ⟨jj,y,rfl,hfit,rfl,hj,hno,H1⟩
 obtain⟨j,rfl⟩:=hfit.open
 refine cR e19 ?_
 clear hfit
 refine Rq<|OT (zQ Y Y) (fun hp9=>?_) (fun hp9=>?_)
 have hjl:jj < ps.length:=by omega
 obtain⟨p1,hp1⟩:=yL hjl
 obtain⟨a1,ha1⟩:=hr.some_ (by omega)
 subst ha1
 refine Xr e19<|J1<|J3 Y<|J6<|J1<|J7<|Rq<|Xm Y<|Xa Y<|Xr e19<|Rq<|Xm Y<|Xm Y<|Xm Y<|OV (EI Lp yT Y Y Y hjl Y)<|Ag e19<|OV (EN yT Y (vs:=p1) (hp.at hp1) ((hr.to0 H1).elem hp hp1))<|OC (xL hk.1 Y Y) (hk.2.2 w1 (H1.frame gc hk.2.1 (by simp)) p1 (mem_of hp1))<|fun w2 Hd=>have H2:=H1.Au Hd;Xr e19<|wU Y (fun hb16=>?_) (fun hb16=>?_)
 refine Rq<|Xm Y<|Xa Y<|Xr e19<|J5<|BR<|yN<|BR<|Cm Y Y<|⟨_,Y,.inr ⟨jj,p1,Y,hp1,hb16,hno⟩,H2.Af⟩
 refine J6<|zA (zB ?_)
 refine J2<|OV (zL Y Y (Ad _ (by omega)))<|Xm Y<|Xr e19<|zA (zH ?_)
 exact⟨ps.length - (jj+1),by omega,jj+1,_,Y,(Jg Y Y Y Y Y),by omega,by omega,oP hno hp1 hb16,H2⟩
 obtain rfl:jj=ps.length:=by omega
 refine Xr e19<|J1<|J4 Y<|J8<|zU<|zS<|Rq<|Xa Y<|Xr e19<|J5<|Cm Y Y<|⟨_,Y,.inl ⟨Y,by rw[Bz]at hno;exact hno⟩,H1.Af⟩
theorem JW (g:Option Nat) (cap n:Nat) (ps:List (List Value)) (hn:ps.length=n) (sp:List Value) (k gc:Nat) (pr:List Value→Bool) (w0:World) (H0:Hp w0 w0 (bl [((g,110,ps.flatten++sp):Ent)]) [((g,110,ps.flatten++sp):Ent)]) (hp:Pl 7 ps) (ho:∀ p∈ps,p.all (·.oneCell')=true) (hl:ps.length≤cap) (hl2:ps.length≤4611686018427387903) (hcz:cap*7≤(ps.flatten++sp).length) (hk:Prd Tryz.prog k gc pr ps w0) (hgc:gc∉bl [((g,110,ps.flatten++sp):Ent)]):Aj 113 #[Ac (hd g) n cap,.func (.func k) #[] #[Ah gc]] w0 (fun r w'=>∃ sp',r=Ac (hd g) (ps.filter fun p=>!pr p).length cap∧((ps.filter fun p=>!pr p).flatten++sp').length=(ps.flatten++sp).length∧Hp w0 w' (bl [((g,110,ps.flatten++sp):Ent)]) [((g,110,(ps.filter fun p=>!pr p).flatten++sp'):Ent)]):=by
 refine zG Tryz.func113 Tryz.ntmps113 Y<|cR e42 ?_
 subst hn
 have H:=H0
 refine Rq<|Xa Y<|Xr e42<|Rq<|Xm Y<|Xm Y<|OQ (EC gf159 Y) (WP (hd g) cap ps _ k gc Y pr _ hp (H.rd (i:=0) Y hp.len (by decide)) (by omega) hk) ?_
 rintro r w1 ⟨y,rfl,hix,Hd⟩
 have H1:=H.Au Hd
 refine Xa Y<|Xr e42<|J1<|Rq<|Xm Y<|OT (xR Y Y) (fun Pg=>?_) (fun Pg=>?_)
 have hnone:∀ p∈ps,pr p=false:=by
  rcases hix with ⟨_,h⟩ | ⟨jj,p,h,_⟩
  · exact h
  omega
 refine Xr e42<|J3 Y<|Rq<|Xm Y<|Xa Y<|Xr e42<|J5<|Cm Y Y<|⟨sp,by rw[vU hnone],by rw[vU hnone],by rw[vU hnone];exact H1⟩
 obtain⟨j0,p0,rfl,hj0,ht0,hn0⟩:∃ (jj:Nat) (p:List Value),y=(jj:Int)∧ps[jj]? =some p∧pr p=true∧∀ q∈ps.take jj,pr q=false:=by
  rcases hix with ⟨h,_⟩ | h
  · omega
  exact h
 have hj0l:=lt_of_get hj0
 obtain⟨gx,rfl⟩:=vK H1 (i:=0) rfl (by rw[Ae,hp.len];have:0 < ps.length*7:=Nat.mul_pos (by omega) (by decide);omega)
 clear hix
 refine Xr e42<|J4 Y<|J6<|J1<|Rq<|Xm Y<|OV (zL Y Y (Ad _ (by omega)))<|Xa Y<|Xr e42<|J7<|zV (fun nQ lQ w=>∃ (i jj:Nat) (y z:Int) (qs:List (List Value)),ps.length - jj=nQ∧xM (Hy [(0,Ac (hd (some gx)) ps.length cap),(1,.func (.func k) #[] #[Ah gc]),(5,Aa y),(6,Aa z)] 0 42) lQ∧y=(i:Int)∧z=(jj:Int)∧Del ps qs pr i jj 7∧Hp w0 w (bl [((some gx,110,ps.flatten++sp):Ent)]) [((some gx,110,qs.flatten++sp):Ent)]) (ps.length - (j0+1)) ?_ ?_
 exact⟨j0,j0+1,_,_,ps,Y,(Jg Y Y Y Y Y),Y,by omega,Del.start hp hj0 ht0 hn0,H1⟩
 rintro nQ lQ w2 ⟨i,jj,y,z,qs,rfl,hfit,rfl,rfl,hdel,H2⟩
 obtain⟨j,rfl⟩:=hfit.open
 refine cR e42 ?_
 clear hfit
 have hdl:=hdel.lt
 have hde:=hdel.le
 have Rh:=hdel.len
 refine J1<|Rq<|Xm Y<|Xm Y<|OV (ES Lp Y)<|OT (zQ Y Y) (fun hp19=>?_) (fun hp19=>?_)
 have hjl:jj < ps.length:=by omega
 obtain⟨p1,hp1⟩:=yL hjl
 have hq1:qs[jj]? =some p1:=hdel.at.trans hp1
 refine Xr e42<|J3 Y<|J6<|J1<|J7<|Rq<|Xm Y<|Xm Y<|OV (EI Lp yT Y Y Y hjl Y)<|OV (EN yT Y (vs:=p1) (hp.at hp1) (H2.elem (k:=0) Y hdel.pl hq1))<|Ag e42<|OA yT H2<|fun w3 g3 H3 hg3=>OS yT H3 1 Y Y Y Y (hp.at hp1) (by rw[hp.at hp1];decide) (ho p1 (mem_of hp1))<|fun w4 H4=>?_
 rw[qG (by rw[hp.at hp1];rfl)]at H4
 refine Xr e42<|Rq<|Xm Y<|OV (EN yT Y (vs:=p1) (hp.at hp1) (H4.Ap (i:=1) Y (by rw[Ep,Bz])))<|OC (xL hk.1 Y Y) (hk.2.2 w4 (H4.frame gc hk.2.1 hgc) p1 (mem_of hp1))<|fun w5 Hd=>have H5:=H4.Au Hd;Xn Y<|Xr e42<|wU Y (fun Ux=>?_) (fun Ux=>?_)
 refine Rq<|Xm Y<|Xm Y<|OV (EN yT Y (vs:=p1) (hp.at hp1) (H5.Ap (i:=1) Y (by rw[Ep,Bz])))<|OV (uR Lp yT Y Y Y (by omega))<|Ag e42<|OS yT H5 0 Y Y Y Y (hp.at hp1) (by rw[hp.at hp1,Ae,hdel.pl.len,Ba];have:(i+1)*7≤qs.length*7:=Dp _ (by omega);omega) (ho p1 (mem_of hp1))<|fun w6 H6=>?_
 rw[Ba,mC (by rw[hp.at hp1,hdel.pl.len];have:(i+1)*7≤qs.length*7:=Dp _ (by omega);omega),hdel.pl.set_ (by omega) (hp.at hp1)]at H6
 refine Xr e42<|J2<|Xm Y<|OV (zL Y Y (Ad _ (by omega)))<|Xa Y<|Xr e42<|zA (zB ?_)
 refine J2<|Xm Y<|OV (zL Y Y (Ad _ (by omega)))<|Xa Y<|Xr e42<|zA (zH ?_)
 exact⟨ps.length - (jj+1),by omega,i+1,jj+1,_,_,qs.set i p1,Y,(Jg Y Y Y Y Y),by omega,by omega,hdel.keep hp1 (by simpa using Ux) (hp.at hp1),H6.pick [0] (by decide)⟩
 refine J6<|zA (zB ?_)
 refine J2<|Xm Y<|OV (zL Y Y (Ad _ (by omega)))<|Xa Y<|Xr e42<|zA (zH ?_)
 exact⟨ps.length - (jj+1),by omega,i,jj+1,_,_,qs,Y,(Jg Y Y Y Y Y),Y,by omega,hdel.skip hp1 (by simpa using Ux),H5.pick [0] (by decide)⟩
 obtain rfl:jj=ps.length:=by omega
 refine Xr e42<|J4 Y<|J8<|zU<|zS<|Rq<|Xm Y<|Xm Y ?_
 have hdn:=hdel.done
 refine OV (tV Lp yT Y Y Y (by omega) (by omega)) ?_
 rw[Ir]
 have hfit:0+i*7+(ps.length - i)*7≤(qs.flatten++sp).length:=by
  rw[Ae,hdel.pl.len,Rh,Ba,← Dv,show i+(ps.length - i)=ps.length by omega];omega
 refine eA Lp yT H2 0 Y Y hfit Y<|fun w3 H3=>Xr e42<|Rq<|Xm Y<|Xm Y<|OV (gX Lp yT Y Y Y (by omega))<|Xa Y<|Xr e42<|J5<|Cm Y Y ?_
 have hpl:=vN (cs:=qs.flatten++sp) (vs:=initL Ti (ps.length - i)) (o:=0+i*7) (by rw[wO];exact hfit)
 rw[hdel.cells rfl]at hpl
 have HZ:=H3
 change Hp _ _ _ [((some gx,110,zJ (qs.flatten++sp) (0+i*7) _):Ent)]at HZ
 rw[hdel.cells rfl]at HZ
 refine⟨_,by rw[hdn.2],?_,HZ⟩
 rw[hpl,Ae,Ae,hdel.pl.len,hp.len,Rh]
theorem QU (A:Option Addr) (c:Nat) (ps:List (List Value)) (n:Nat) (hn:ps.length=n) (k:FuncId) (tn:Int) (cf:List Value→Int) (w0:World) (hp:Pl 4 ps) (hr:Rd w0 A ps.length 4 ps.flatten) (hl:ps.length≤4611686018427387903) (hC:Cmp Tryz.prog k (Aa tn) cf ps):Aj 164 #[Ac A n c,Aa tn,.func (.func k) #[] #[]] w0 (fun r w'=>∃ (i:Nat) (f:Bool),r=.tuple #[Aa (i:Int),.bool f]∧BN ps cf i f∧Hp w0 w' [] []):=by
 refine zG Tryz.func164 Tryz.ntmps164 Y<|cR e49 ?_
 subst hn
 have H:=Hp.refl w0
 have hn:=hr.len
 refine Rq<|Xa Y<|Xa Y<|Xr e49<|Rq<|Xm Y<|OV (ES Jd Y)<|Xa Y<|Xr e49<|Rq<|Xm Y<|Xa Y<|Xa Y<|Xr e49<|J1<|J7<|zV (fun nQ lQ w=>∃ (i m:Nat) (y z:Int),m - i=nQ∧xM (Hy [(0,Ac A ps.length c),(1,Aa tn),(2,.func (.func k) #[] #[]),(8,Aa (ps.length:Int)),(9,Aa y),(10,Aa z)] 0 49) lQ∧y=(i:Int)∧z=(m:Int)∧i≤m∧m≤ps.length∧(∀ (k:Nat) (p:List Value),k < i→ps[k]? =some p→cf p < 0)∧(∀ (k:Nat) (p:List Value),m≤k→ps[k]? =some p→0≤cf p)∧Hp w0 w [] []) (ps.length - 0) ?_ ?_
 exact⟨0,ps.length,_,_,Y,(YU Y Y Y Y Y Y Y),Y,Y,Am _,Ak _,fun k p hk=>by omega,fun k p hk hkp=>by have:=lt_of_get hkp;omega,H⟩
 rintro nQ lQ w1 ⟨i,m,y,z,rfl,hfit,rfl,rfl,him,hmn,hlo,hhi,H1⟩
 obtain⟨j,rfl⟩:=hfit.open
 refine cR e49 ?_
 clear hfit
 refine J1<|Rq<|Xm Y<|Xm Y<|OT (zQ Y Y) (fun hp17=>?_) (fun hp17=>?_)
 obtain⟨p1,hp1⟩:=yL (l:=ps) (j:=(i+m) / 2) (by omega)
 have Gi:=lt_of_get hp1
 obtain⟨a1,ha1⟩:=hr.some_ (by omega)
 subst ha1
 refine Xr e49<|J3 Y<|J6<|J7<|Rq<|Xm Y<|Xm Y<|OV (zL Y Y ((Ad _ (by omega)).trans (show(i:Int)+(m:Int)=((i+m:Nat):Int) by omega)))<|OV (xN Yp Tryz.underlying3 Y ((show IntKind.u64.wrap ((i+m:Nat):Int)=((i+m:Nat):Int) by rw[IntKind.wrap_u64];omega)))<|Ag e49<|OV (pW Y Y (by omega) (show(((i+m:Nat):Int)).fdiv (2^(min (1:Int).toNat IntKind.u64.bits))=(((i+m) / 2:Nat):Int) from qZ (i+m) 1 64))<|OV (xN Tryz.underlying3 Yp Y (Ad _ (by omega)))<|Xa Y<|Xr e49<|Rq<|Xm Y<|Xm Y<|Xm Y<|OV (EI Jd xE Y Y Y Gi Y)<|Ag e49<|OV (EN xE Y (vs:=p1) (hp.at hp1) ((hr.to0 H1).elem hp hp1))<|Xm Y<|OC (xL hC.go Y Y) (hC.does w1 p1 (mem_of hp1))<|fun w2 Hd=>have H2:=H1.Au Hd;OT (zQ Y Y) (fun Nv=>?_) (fun Nv=>?_)
 refine Xr e49<|J3 Y<|J2<|Xm Y<|OV (zL Y Y (Ad _ (by omega)))<|Xa Y<|Xr e49<|zA (zB ?_)
 refine zA (zH ?_)
 exact⟨m - ((i+m) / 2+1),by omega,(i+m) / 2+1,m,_,_,Y,(YU Y Y Y Y Y Y Y),by omega,Y,by omega,by omega,fun k p hk hkp=>hC.mono k _ p p1 (by omega) hkp hp1 Nv,hhi,H2⟩
 refine Xr e49<|J4 Y<|J2<|Xm Y<|Xa Y<|Xr e49<|zA (zB ?_)
 refine zA (zH ?_)
 exact⟨(i+m) / 2 - i,by omega,i,(i+m) / 2,_,_,Y,(YU Y Y Y Y Y Y Y),Y,Y,by omega,by omega,hlo,fun k p hk hkp=>by
  rcases Int.lt_or_le (cf p) 0 with h | h
  · exact absurd (hC.mono _ k p1 p (by omega) hp1 hkp h) Nv
  exact h,H2⟩
 obtain rfl:i=m:=by omega
 refine Xr e49<|J4 Y<|J8<|zU<|zS<|Rq<|Xm Y<|Xm Y<|Xm Y<|OT (zQ Y Y) (fun hp38=>?_) (fun hp38=>?_)
 obtain⟨p1,hp1⟩:=yL (l:=ps) (j:=i) (by omega)
 have Gi:=lt_of_get hp1
 obtain⟨a1,ha1⟩:=hr.some_ (by omega)
 subst ha1
 refine Xm Y<|Ag e49<|OY Y<|Xm Y<|OY Y<|Xm Y<|Ag e49<|OY Y<|Xm Y<|OY Y<|OV (EI Jd xE Y Y Y Gi Y)<|Ag e49<|OY Y<|OV (EN xE Y (vs:=p1) (hp.at hp1) ((hr.to0 H1).elem hp hp1))<|OY Y<|Xm Y<|Ag e49<|OY Y<|OC (xL hC.go Y Y) (hC.does w1 p1 (mem_of hp1))<|fun w2 Hd=>have H2:=H1.Au Hd;OY Y<|OT (xR Y Y) (fun Pz=>?_) (fun Pz=>?_)
 refine Xt Y Y<|Xa Y<|Xa Y<|Xr e49<|J5<|Kz Y Y Y<|⟨i,true,Y,⟨by omega,hlo,hhi,fun _=>⟨p1,hp1,Pz⟩,fun h=>by cases h⟩,H2.Af⟩
 refine Xt Y Y<|Xa Y<|Xa Y<|Xr e49<|J5<|Kz Y Y Y ?_
 exact⟨i,false,Y,⟨by omega,hlo,hhi,(fun h=>by cases h),fun _ p h2=>by
  rw[hp1]at h2
  cases h2
  exact Pz⟩,H2.Af⟩
 refine Xm Y<|Ag e49<|Oz 8 Y<|Ag e49<|Xu Y Y<|Xa Y<|Ag e49<|Xa Y<|Xr e49<|J5<|Kz Y Y Y<|⟨i,false,Y,⟨by omega,hlo,hhi,(fun h=>by cases h),fun _ p h2=>by have:=lt_of_get h2;omega⟩,H1.Af⟩
theorem QW (A:Option Addr) (c:Nat) (ps:List (List Value)) (n:Nat) (hn:ps.length=n) (k:FuncId) (tn:Int) (cf:List Value→Int) (w0:World) (hp:Pl 7 ps) (hr:Rd w0 A ps.length 7 ps.flatten) (hl:ps.length≤4611686018427387903) (hC:Cmp Tryz.prog k (Aa tn) cf ps):Aj 189 #[Ac A n c,Aa tn,.func (.func k) #[] #[]] w0 (fun r w'=>∃ (i:Nat) (f:Bool),r=.tuple #[Aa (i:Int),.bool f]∧BN ps cf i f∧Hp w0 w' [] []):=by
 refine zG Tryz.func189 Tryz.ntmps189 Y<|cR e49 ?_
 subst hn
 have H:=Hp.refl w0
 have hn:=hr.len
 refine Rq<|Xa Y<|Xa Y<|Xr e49<|Rq<|Xm Y<|OV (ES Lp Y)<|Xa Y<|Xr e49<|Rq<|Xm Y<|Xa Y<|Xa Y<|Xr e49<|J1<|J7<|zV (fun nQ lQ w=>∃ (i m:Nat) (y z:Int),m - i=nQ∧xM (Hy [(0,Ac A ps.length c),(1,Aa tn),(2,.func (.func k) #[] #[]),(8,Aa (ps.length:Int)),(9,Aa y),(10,Aa z)] 0 49) lQ∧y=(i:Int)∧z=(m:Int)∧i≤m∧m≤ps.length∧(∀ (k:Nat) (p:List Value),k < i→ps[k]? =some p→cf p < 0)∧(∀ (k:Nat) (p:List Value),m≤k→ps[k]? =some p→0≤cf p)∧Hp w0 w [] []) (ps.length - 0) ?_ ?_
 exact⟨0,ps.length,_,_,Y,(YU Y Y Y Y Y Y Y),Y,Y,Am _,Ak _,fun k p hk=>by omega,fun k p hk hkp=>by have:=lt_of_get hkp;omega,H⟩
 rintro nQ lQ w1 ⟨i,m,y,z,rfl,hfit,rfl,rfl,him,hmn,hlo,hhi,H1⟩
 obtain⟨j,rfl⟩:=hfit.open
 refine cR e49 ?_
 clear hfit
 refine J1<|Rq<|Xm Y<|Xm Y<|OT (zQ Y Y) (fun hp17=>?_) (fun hp17=>?_)
 obtain⟨p1,hp1⟩:=yL (l:=ps) (j:=(i+m) / 2) (by omega)
 have Gi:=lt_of_get hp1
 obtain⟨a1,ha1⟩:=hr.some_ (by omega)
 subst ha1
 refine Xr e49<|J3 Y<|J6<|J7<|Rq<|Xm Y<|Xm Y<|OV (zL Y Y ((Ad _ (by omega)).trans (show(i:Int)+(m:Int)=((i+m:Nat):Int) by omega)))<|OV (xN Yp Tryz.underlying3 Y ((show IntKind.u64.wrap ((i+m:Nat):Int)=((i+m:Nat):Int) by rw[IntKind.wrap_u64];omega)))<|Ag e49<|OV (pW Y Y (by omega) (show(((i+m:Nat):Int)).fdiv (2^(min (1:Int).toNat IntKind.u64.bits))=(((i+m) / 2:Nat):Int) from qZ (i+m) 1 64))<|OV (xN Tryz.underlying3 Yp Y (Ad _ (by omega)))<|Xa Y<|Xr e49<|Rq<|Xm Y<|Xm Y<|Xm Y<|OV (EI Lp yT Y Y Y Gi Y)<|Ag e49<|OV (EN yT Y (vs:=p1) (hp.at hp1) ((hr.to0 H1).elem hp hp1))<|Xm Y<|OC (xL hC.go Y Y) (hC.does w1 p1 (mem_of hp1))<|fun w2 Hd=>have H2:=H1.Au Hd;OT (zQ Y Y) (fun Nv=>?_) (fun Nv=>?_)
 refine Xr e49<|J3 Y<|J2<|Xm Y<|OV (zL Y Y (Ad _ (by omega)))<|Xa Y<|Xr e49<|zA (zB ?_)
 refine zA (zH ?_)
 exact⟨m - ((i+m) / 2+1),by omega,(i+m) / 2+1,m,_,_,Y,(YU Y Y Y Y Y Y Y),by omega,Y,by omega,by omega,fun k p hk hkp=>hC.mono k _ p p1 (by omega) hkp hp1 Nv,hhi,H2⟩
 refine Xr e49<|J4 Y<|J2<|Xm Y<|Xa Y<|Xr e49<|zA (zB ?_)
 refine zA (zH ?_)
 exact⟨(i+m) / 2 - i,by omega,i,(i+m) / 2,_,_,Y,(YU Y Y Y Y Y Y Y),Y,Y,by omega,by omega,hlo,fun k p hk hkp=>by
  rcases Int.lt_or_le (cf p) 0 with h | h
  · exact absurd (hC.mono _ k p1 p (by omega) hp1 hkp h) Nv
  exact h,H2⟩
 obtain rfl:i=m:=by omega
 refine Xr e49<|J4 Y<|J8<|zU<|zS<|Rq<|Xm Y<|Xm Y<|Xm Y<|OT (zQ Y Y) (fun hp38=>?_) (fun hp38=>?_)
 obtain⟨p1,hp1⟩:=yL (l:=ps) (j:=i) (by omega)
 have Gi:=lt_of_get hp1
 obtain⟨a1,ha1⟩:=hr.some_ (by omega)
 subst ha1
 refine Xm Y<|Ag e49<|OY Y<|Xm Y<|OY Y<|Xm Y<|Ag e49<|OY Y<|Xm Y<|OY Y<|OV (EI Lp yT Y Y Y Gi Y)<|Ag e49<|OY Y<|OV (EN yT Y (vs:=p1) (hp.at hp1) ((hr.to0 H1).elem hp hp1))<|OY Y<|Xm Y<|Ag e49<|OY Y<|OC (xL hC.go Y Y) (hC.does w1 p1 (mem_of hp1))<|fun w2 Hd=>have H2:=H1.Au Hd;OY Y<|OT (xR Y Y) (fun Pz=>?_) (fun Pz=>?_)
 refine Xt Y Y<|Xa Y<|Xa Y<|Xr e49<|J5<|Kz Y Y Y<|⟨i,true,Y,⟨by omega,hlo,hhi,fun _=>⟨p1,hp1,Pz⟩,fun h=>by cases h⟩,H2.Af⟩
 refine Xt Y Y<|Xa Y<|Xa Y<|Xr e49<|J5<|Kz Y Y Y ?_
 exact⟨i,false,Y,⟨by omega,hlo,hhi,(fun h=>by cases h),fun _ p h2=>by
  rw[hp1]at h2
  cases h2
  exact Pz⟩,H2.Af⟩
 refine Xm Y<|Ag e49<|Oz 8 Y<|Ag e49<|Xu Y Y<|Xa Y<|Ag e49<|Xa Y<|Xr e49<|J5<|Kz Y Y Y<|⟨i,false,Y,⟨by omega,hlo,hhi,(fun h=>by cases h),fun _ p h2=>by have:=lt_of_get h2;omega⟩,H1.Af⟩
theorem QV (A:Option Addr) (c:Nat) (ps:List (List Value)) (n:Nat) (hn:ps.length=n) (k:FuncId) (tc:List Value) (htc:tc.length=4) (cf:List Value→Int) (w0:World) (hp:Pl 4 ps) (hr:Rd w0 A ps.length 4 ps.flatten) (hl:ps.length≤4611686018427387903) (hC:Cmp Tryz.prog k (.agg tc.toArray) cf ps):Aj 154 #[Ac A n c,.agg tc.toArray,.func (.func k) #[] #[]] w0 (fun r w'=>∃ (i:Nat) (f:Bool),r=.tuple #[Aa (i:Int),.bool f]∧BN ps cf i f∧Hp w0 w' [] []):=by
 refine zG Tryz.func154 Tryz.ntmps154 Y<|cR e49 ?_
 subst hn
 have H:=Hp.refl w0
 have hn:=hr.len
 refine Rq<|yA Y Y H<|fun w1 g4 H1 hg4=>Xa Y<|Xa Y<|Xr e49<|Rq<|Xm Y<|OV (ES Ht Y)<|Xa Y<|Xr e49<|Rq<|Xm Y<|Xa Y<|Xa Y<|Xr e49<|J1<|J7<|zV (fun nQ lQ w=>∃ (i m:Nat) (y z:Int) (g4:Nat),m - i=nQ∧xM (Hy [(0,Ac A ps.length c),(2,.func (.func k) #[] #[]),(4,Ah g4),(8,Aa (ps.length:Int)),(9,Aa y),(10,Aa z)] 0 49) lQ∧y=(i:Int)∧z=(m:Int)∧i≤m∧m≤ps.length∧(∀ (k:Nat) (p:List Value),k < i→ps[k]? =some p→cf p < 0)∧(∀ (k:Nat) (p:List Value),m≤k→ps[k]? =some p→0≤cf p)∧Hp w0 w [] [((some g4,35,tc):Ent)]) (ps.length - 0) ?_ ?_
 exact⟨0,ps.length,_,_,_,Y,(YU Y Y Y Y Y Y Y),Y,Y,Am _,Ak _,fun k p hk=>by omega,fun k p hk hkp=>by have:=lt_of_get hkp;omega,H1⟩
 rintro nQ lQ w2 ⟨i,m,y,z,g4,rfl,hfit,rfl,rfl,him,hmn,hlo,hhi,H2⟩
 obtain⟨j,rfl⟩:=hfit.open
 refine cR e49 ?_
 clear hfit
 refine J1<|Rq<|Xm Y<|Xm Y<|OT (zQ Y Y) (fun hp17=>?_) (fun hp17=>?_)
 obtain⟨p1,hp1⟩:=yL (l:=ps) (j:=(i+m) / 2) (by omega)
 have Gi:=lt_of_get hp1
 obtain⟨a1,ha1⟩:=hr.some_ (by omega)
 subst ha1
 refine Xr e49<|J3 Y<|J6<|J7<|Rq<|Xm Y<|Xm Y<|OV (zL Y Y ((Ad _ (by omega)).trans (show(i:Int)+(m:Int)=((i+m:Nat):Int) by omega)))<|OV (xN Yp Tryz.underlying3 Y ((show IntKind.u64.wrap ((i+m:Nat):Int)=((i+m:Nat):Int) by rw[IntKind.wrap_u64];omega)))<|Ag e49<|OV (pW Y Y (by omega) (show(((i+m:Nat):Int)).fdiv (2^(min (1:Int).toNat IntKind.u64.bits))=(((i+m) / 2:Nat):Int) from qZ (i+m) 1 64))<|OV (xN Tryz.underlying3 Yp Y (Ad _ (by omega)))<|Xa Y<|Xr e49<|J1<|zR 7 [(true,0),(true,1),(true,2),(true,3),(true,4),(true,5),(false,6),(false,7)] H2 [0] yE (by decide) (by kernel_rfl) ?_
 rintro w3 hw3
 have H3:=Hp.drew H2;rw[← hw3]at H3
 refine Zm Y Y<|Zm Y Y<|Zm Y Y<|MP Y<|MV (fun wz hz=>EI Ht xA Y Y Y Gi Y)<|cZ e49<|MP Y<|MV (fun wz hz=>EN xA Y (vs:=p1) (hp.at hp1) ((hr.to0 hz).elem hp hp1))<|MP Y<|MV (fun wz hz=>EN xA Y (vs:=tc) htc (hz.Ap (i:=0) Y (by rw[Ep,Bz])))<|MO Y<|OC (xL hC.go Y Y) (hC.does w3 p1 (mem_of hp1))<|fun w4 Hd=>have H4:=H3.Au Hd;OE<|⟨fun hne=>H4.pick [0] (by decide),?_⟩
 refine cZ e49<|MO Y<|OT (zQ Y Y) (fun Nv=>?_) (fun Nv=>?_)
 refine OE ?_
 refine⟨fun hne=>absurd Y hne,?_⟩
 refine ME<|cR e49<|J3 Y<|J2<|Xm Y<|OV (zL Y Y (Ad _ (by omega)))<|Xa Y<|Xr e49<|zA (zB ?_)
 refine zA (zH ?_)
 exact⟨m - ((i+m) / 2+1),by omega,(i+m) / 2+1,m,_,_,_,Y,(YU Y Y Y Y Y Y Y),by omega,Y,by omega,by omega,fun k p hk hkp=>hC.mono k _ p p1 (by omega) hkp hp1 Nv,hhi,H4⟩
 refine OE ?_
 refine⟨fun hne=>absurd Y hne,?_⟩
 refine ME<|cR e49<|J4 Y<|J2<|Xm Y<|Xa Y<|Xr e49<|zA (zB ?_)
 refine zA (zH ?_)
 exact⟨(i+m) / 2 - i,by omega,i,(i+m) / 2,_,_,_,Y,(YU Y Y Y Y Y Y Y),Y,Y,by omega,by omega,hlo,fun k p hk hkp=>by
  rcases Int.lt_or_le (cf p) 0 with h | h
  · exact absurd (hC.mono _ k p1 p (by omega) hp1 hkp h) Nv
  exact h,H4⟩
 obtain rfl:i=m:=by omega
 refine Xr e49<|J4 Y<|J8<|zU<|zS<|J1<|zR 15 [(true,0),(true,1),(true,2),(true,3),(true,4),(true,5),(true,6),(true,7),(true,8),(true,9),(true,10),(false,11),(true,12),(true,13),(true,14),(false,15)] H2 [0] yE (by decide) (by kernel_rfl) ?_
 rintro w3 hw3
 have H3:=Hp.drew H2;rw[← hw3]at H3
 refine Zm Y Y<|Zm Y Y<|Zm Y Y<|MP Y<|vS (fun wz hz=>zQ Y Y) (fun hp38=>?_) (fun hp38=>?_)
 obtain⟨p1,hp1⟩:=yL (l:=ps) (j:=i) (by omega)
 have Gi:=lt_of_get hp1
 obtain⟨a1,ha1⟩:=hr.some_ (by omega)
 subst ha1
 refine Zm Y Y<|cZ e49<|MP Y<|MY Y<|MV (fun wz hz=>zI Y)<|MP Y<|MY Y<|MV (fun wz hz=>zI Y)<|MP Y<|MY Y<|MV (fun wz hz=>zI Y)<|MP Y<|MY Y<|MV (fun wz hz=>EI Ht xA Y Y Y Gi Y)<|cZ e49<|MP Y<|MY Y<|MV (fun wz hz=>EN xA Y (vs:=p1) (hp.at hp1) ((hr.to0 hz).elem hp hp1))<|MP Y<|MY Y<|MV (fun wz hz=>EN xA Y (vs:=tc) htc (hz.Ap (i:=0) Y (by rw[Ep,Bz])))<|MO Y<|OY Y<|OC (xL hC.go Y Y) (hC.does w3 p1 (mem_of hp1))<|fun w4 Hd=>have H4:=H3.Au Hd;OE<|⟨fun hne=>H4.pick [0] (by decide),?_⟩
 refine cZ e49<|MP Y<|MY Y<|vS (fun wz hz=>xR Y Y) (fun Pz=>?_) (fun Pz=>?_)
 refine MP Y<|MV (fun wz hz=>xG Y Y)<|MP Y<|MV (fun wz hz=>zO Y)<|MO Y<|Xa Y<|OE<|⟨fun hne=>absurd Y hne,?_⟩
 refine cZ e49<|ME<|cR e49<|J5<|Kz Y Y Y<|⟨i,true,Y,⟨by omega,hlo,hhi,fun _=>⟨p1,hp1,Pz⟩,fun h=>by cases h⟩,H4.Af⟩
 refine MP Y<|MV (fun wz hz=>xG Y Y)<|MP Y<|MV (fun wz hz=>zO Y)<|MO Y<|Xa Y<|OE<|⟨fun hne=>absurd Y hne,?_⟩
 refine cZ e49<|ME<|cR e49<|J5<|Kz Y Y Y ?_
 exact⟨i,false,Y,⟨by omega,hlo,hhi,(fun h=>by cases h),fun _ p h2=>by
  rw[hp1]at h2
  cases h2
  exact Pz⟩,H4.Af⟩
 refine Zm Y Y<|cZ e49<|MP Y<|MZ Y<|MP Y<|MZ Y<|cZ e49<|MP Y<|MZ Y<|MP Y<|MZ Y<|cZ e49<|MP Y<|MZ Y<|MP Y<|MZ Y<|cZ e49<|MO Y<|OZ Y<|OE<|⟨fun hne=>H3.pick [0] (by decide),?_⟩
 refine MP Y<|MZ Y<|cZ e49<|MP Y<|MV (fun wz hz=>xV Y Y)<|MP Y<|MV (fun wz hz=>zO Y)<|MO Y<|Xa Y<|OE<|⟨fun hne=>absurd Y hne,?_⟩
 refine cZ e49<|ME<|cR e49<|J5<|Kz Y Y Y<|⟨i,false,Y,⟨by omega,hlo,hhi,(fun h=>by cases h),fun _ p h2=>by have:=lt_of_get h2;omega⟩,H3.Af⟩
end Go.Proofs.YtjoeklkmnfaabaaGreat
