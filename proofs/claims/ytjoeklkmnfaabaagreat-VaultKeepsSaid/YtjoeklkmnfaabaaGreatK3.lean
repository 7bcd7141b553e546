/-
  Parts of the walk, one behind the other.
-/
import Derived.Test.YtjoeklkmnfaabaaGreatK2
import Derived.Laws.Strings
import Derived.Laws.IdiomStrings
import Derived.Laws.StructEq
import Derived.Laws.ResultCell
namespace Go.Proofs.YtjoeklkmnfaabaaGreat
open Go Go.RowKit
set_option linter.unusedVariables false
set_option linter.unusedSimpArgs false
structure Bal where
 r:Int
 n:Int
structure Vt where
 slot:Int
 b:Bal
 val:Blk
@[reducible] def Dl:=fun (a:Vt) b c=>([Aa a.slot,Aa a.b.r,Aa a.b.n,Ac b a.val.length c]:List Value)
structure En where
 slot:Int
 val:Blk
@[reducible] def Ey:=fun (a:En) b c=>([Aa a.slot,Ac b a.val.length c]:List Value)
structure Rt where
 g:Int
 key:Blk
 lease:Int
 net:Int
structure Mk where
 client:Int
 seq:Int
structure Sv where
 p:Bal
 Bd:List Vt
 index:Int
 image:Blk
 entries:List En
@[reducible] def Ij:=fun (a:Sv)=>([Aa a.p.r,Aa a.p.n]:List Value)
@[reducible] def Cb:=fun (a:Sv) b c d e f g=>([Aa a.p.r,Aa a.p.n,Ac b a.Bd.length c,Aa a.index,Ac d a.image.length e,Ac f a.entries.length g]:List Value)
structure Bo where
 groups:List Sv
 rights:List Rt
 last:List Mk
@[reducible] def Tz:=fun a (b:Bo) c d e f g h i=>([Ac a b.groups.length c,Ac d e f,Ac g h i]:List Value)
@[reducible] def Qd:=fun a (b:Bo) c d e f g h=>([Ac a b.groups.length c,Ac d e f,Ac g b.last.length h]:List Value)
@[reducible] def Iu:=fun a (b:Bo) c d e f=>([Ac a b.groups.length c,Ac d e f,Dj]:List Value)
@[reducible] def Az:=fun a (b:Bo) c d e f g=>([Ac a b.groups.length c,Ac d b.rights.length e,Ac f b.last.length g]:List Value)
structure Nt where
 kind:Int
 group:Int
 b:Bal
 Eb:Vt
 entry:En
 right:Rt
 client:Int
 seq:Int
@[reducible] def Gy:=fun (a:Nt) b c=>([Aa a.entry.slot,Ac b a.entry.val.length c]:List Value)
@[reducible] def Ju:=fun (a:Nt) b c=>([Aa a.Eb.slot,Aa a.Eb.b.r,Aa a.Eb.b.n,Ac b a.Eb.val.length c]:List Value)
def yI (s:Blk):Value:=.string ⟨s.toArray⟩
@[reducible] def Qy:=fun (a:Nt)=>([Aa a.right.g,yI a.right.key,Aa a.right.lease,Aa a.right.net]:List Value)
@[reducible] def Ua:=fun (a:Rt)=>([Aa 5,Aa 0,Aa 0,Aa 0,Aa 0,Aa 0,Aa 0,Dj,Aa 0,Dj,Aa a.g,yI a.key,Aa a.lease,Aa a.net,Aa 0,Aa 0]:List Value)
@[reducible] def Qz:=fun a (b:Sv) c d=>([Aa 4,Aa (a:Int),Aa 0,Aa 0,Aa 0,Aa 0,Aa 0,Dj,Aa b.index,Ac c b.image.length d,Aa 0,yI [],Aa 0,Aa 0,Aa 0,Aa 0]:List Value)
@[reducible] def Pj:=fun a (b:En) c d=>([Aa 3,Aa (a:Int),Aa 0,Aa 0,Aa 0,Aa 0,Aa 0,Dj,Aa b.slot,Ac c b.val.length d,Aa 0,yI [],Aa 0,Aa 0,Aa 0,Aa 0]:List Value)
@[reducible] def Me:=fun a (b:Sv)=>([Aa 1,Aa (a:Int),Aa b.p.r,Aa b.p.n,Aa 0,Aa 0,Aa 0,Dj,Aa 0,Dj,Aa 0,yI [],Aa 0,Aa 0,Aa 0,Aa 0]:List Value)
@[reducible] def Ku:=fun a (b:Vt) c d=>([Aa 2,Aa (a:Int),Aa 0,Aa 0,Aa b.slot,Aa b.b.r,Aa b.b.n,Ac c b.val.length d,Aa 0,Dj,Aa 0,yI [],Aa 0,Aa 0,Aa 0,Aa 0]:List Value)
@[reducible] def Dc:=fun (a:Rt)=>([Aa a.g,yI a.key,Aa a.lease,Aa a.net]:List Value)
@[reducible] def Dv:=fun (a:Nt) b c d e=>([Aa a.kind,Aa a.group,Aa a.b.r,Aa a.b.n,Aa a.Eb.slot,Aa a.Eb.b.r,Aa a.Eb.b.n,Ac b a.Eb.val.length c,Aa a.entry.slot,Ac d a.entry.val.length e,Aa a.right.g,yI a.right.key,Aa a.right.lease,Aa a.right.net,Aa a.client,Aa a.seq]:List Value)
def Bs (w:World) (ok:Nat→Prop) (A:Option Addr) (b:Blk):Prop:=Rd w A b.length 1 (u8s b)∧(0 < b.length→∀ p,A=some p→ok p.block)∧b.length≤140737488351232
def Sl {X:Type} (R:List Value→X→Prop) (sz:Nat) (w:World) (ok:Nat→Prop) (A:Option Addr) (xs:List X):Prop:=
 ∃ ps,Pl sz ps∧Rd w A xs.length sz ps.flatten∧(0 < xs.length→∀ p,A=some p→ok p.block)∧wT R ps xs
def Oc (w:World) (ok:Nat→Prop) (p:List Value) (x:Vt):Prop:=∃ A k,p=[.int .i64 x.slot,.int .i64 x.b.r,.int .i64 x.b.n,.slice A x.val.length k]∧Bs w ok A x.val
def Qu (w:World) (ok:Nat→Prop) (p:List Value) (x:En):Prop:=∃ A k,p=[.int .i64 x.slot,.slice A x.val.length k]∧Bs w ok A x.val
@[reducible] def Nz (x:Rt):List Value:=[.int .i64 x.g,yI x.key,.int .i64 x.lease,.int .i64 x.net]
@[reducible] def Uo (x:Mk):List Value:=[.int .i64 x.client,.int .i64 x.seq,.bool false,.int .i64 0,.int .i64 0,.int .i64 0,.int .i64 0]
def Px (p:List Value) (x:Rt):Prop:=p=Nz x
def Pq (p:List Value) (x:Mk):Prop:=p=Uo x
def Rl (w:World) (ok:Nat→Prop) (p:List Value) (s:Sv):Prop:=
 ∃ A1 k1 A2 k2 A3 k3,p=[.int .i64 s.p.r,.int .i64 s.p.n,.slice A1 s.Bd.length k1,.int .i64 s.index,.slice A2 s.image.length k2,.slice A3 s.entries.length k3]∧
  Sl (Oc w ok) 4 w ok A1 s.Bd∧Bs w ok A2 s.image∧Sl (Qu w ok) 2 w ok A3 s.entries
def Sj (w:World) (ok:Nat→Prop) (p:List Value) (b:Bo):Prop:=
 ∃ A1 k1 A2 k2 A3 k3,p=[.slice A1 b.groups.length k1,.slice A2 b.rights.length k2,.slice A3 b.last.length k3]∧
  Sl (Rl w ok) 6 w ok A1 b.groups∧Sl Px 4 w ok A2 b.rights∧Sl Pq 7 w ok A3 b.last
@[reducible] def ntC (n:Nt) (A1:Option Addr) (k1:Nat) (A2:Option Addr) (k2:Nat):List Value:=
 [.int .i64 n.kind,.int .i64 n.group,.int .i64 n.b.r,.int .i64 n.b.n,.int .i64 n.Eb.slot,.int .i64 n.Eb.b.r,.int .i64 n.Eb.b.n,.slice A1 n.Eb.val.length k1,.int .i64 n.entry.slot,.slice A2 n.entry.val.length k2,
  .int .i64 n.right.g,yI n.right.key,.int .i64 n.right.lease,.int .i64 n.right.net,.int .i64 n.client,.int .i64 n.seq]
def NtR (w:World) (ok:Nat→Prop) (p:List Value) (n:Nt):Prop:=
 ∃ A1 k1 A2 k2,p=ntC n A1 k1 A2 k2∧Bs w ok A1 n.Eb.val∧Bs w ok A2 n.entry.val
section
variable {w w':World} {ok ok':Nat→Prop} {S:List Nat} {es:List Ent} {A:Option Addr} {p:List Value}
theorem Rd.zero {n sz:Nat} {xs:List Value} (h:Rd w A n sz xs) (h0:n=0):Rd w' A n sz xs:=by
 have hx:xs=[]:=Ec (by rw[h.len,h0,Jq])
 subst hx
 exact⟨h.len,fun _ _ j u hu=>by simp at hu,h.nil⟩
theorem Rd.blk {n sz:Nat} {xs:List Value} (h:Rd w A n sz xs) (hn:0 < n) (hz:0 < sz):∀ a,A=some a→a.block < w.heap.size:=by
 intro a ha
 have hl:0 < xs.length:=by rw[h.len];exact Nat.mul_pos hn hz
 have h1:=Ir w _ (h.cells a ha 0 _ (Bq hl))
 rwa [Iq]at h1
theorem Rd.move {n sz:Nat} {xs:List Value} (h:Rd w A n sz xs) (hz:0 < sz) (ha:0 < n→∀ p,A=some p→ok p.block) (H:Hp w w' S es) (hk:∀ x,ok x→x < w.heap.size→x∉S∧ok' x):Rd w' A n sz xs∧(0 < n→∀ p,A=some p→ok' p.block):=by
 rcases Jr n with h0 | h0
 · exact⟨h.zero h0,fun h1=>by omega⟩
 exact⟨h.to H fun a e=>(hk _ (ha h0 a e) (h.blk h0 hz a e)).1,fun _ a e=>(hk _ (ha h0 a e) (h.blk h0 hz a e)).2⟩
theorem Bs.to {b:Blk} (h:Bs w ok A b) (H:Hp w w' S es) (hk:∀ x,ok x→x < w.heap.size→x∉S∧ok' x):Bs w' ok' A b:=by
 obtain⟨h1,h2⟩:=h.1.move (by decide) h.2.1 H hk
 exact⟨h1,h2,h.2.2⟩
theorem Sl.to {X:Type} {R R':List Value→X→Prop} {sz:Nat} {xs:List X} (h:Sl R sz w ok A xs) (hz:0 < sz) (H:Hp w w' S es) (hk:∀ x,ok x→x < w.heap.size→x∉S∧ok' x) (hR:∀ p x,R p x→R' p x):Sl R' sz w' ok' A xs:=by
 obtain⟨ps,hp,hr,ha,h2⟩:=h
 obtain⟨h3,h4⟩:=hr.move hz ha H hk
 exact⟨ps,hp,h3,h4,h2.imp hR⟩
theorem Oc.to {x:Vt} (h:Oc w ok p x) (H:Hp w w' S es) (hk:∀ x,ok x→x < w.heap.size→x∉S∧ok' x):Oc w' ok' p x:=by
 obtain⟨A,k,rfl,h⟩:=h
 exact⟨A,k,Y,h.to H hk⟩
theorem Qu.to {x:En} (h:Qu w ok p x) (H:Hp w w' S es) (hk:∀ x,ok x→x < w.heap.size→x∉S∧ok' x):Qu w' ok' p x:=by
 obtain⟨A,k,rfl,h⟩:=h
 exact⟨A,k,Y,h.to H hk⟩
theorem Sl.Qi {xs:List Vt} (h:Sl (Oc w ok) 4 w ok A xs) (H:Hp w w' S es) (hk:∀ x,ok x→x < w.heap.size→x∉S∧ok' x):Sl (Oc w' ok') 4 w' ok' A xs:=h.to (by decide) H hk fun _ _ h=>h.to H hk
theorem Sl.Si {xs:List En} (h:Sl (Qu w ok) 2 w ok A xs) (H:Hp w w' S es) (hk:∀ x,ok x→x < w.heap.size→x∉S∧ok' x):Sl (Qu w' ok') 2 w' ok' A xs:=h.to (by decide) H hk fun _ _ h=>h.to H hk
theorem Rl.to {x:Sv} (h:Rl w ok p x) (H:Hp w w' S es) (hk:∀ x,ok x→x < w.heap.size→x∉S∧ok' x):Rl w' ok' p x:=by
 obtain⟨A1,k1,A2,k2,A3,k3,rfl,h1,h2,h3⟩:=h
 exact⟨A1,k1,A2,k2,A3,k3,Y,h1.Qi H hk,h2.to H hk,h3.Si H hk⟩
theorem Sl.toS {xs:List Sv} (h:Sl (Rl w ok) 6 w ok A xs) (H:Hp w w' S es) (hk:∀ x,ok x→x < w.heap.size→x∉S∧ok' x):Sl (Rl w' ok') 6 w' ok' A xs:=h.to (by decide) H hk fun _ _ h=>h.to H hk
theorem Sl.toR {xs:List Rt} (h:Sl Px 4 w ok A xs) (H:Hp w w' S es) (hk:∀ x,ok x→x < w.heap.size→x∉S∧ok' x):Sl Px 4 w' ok' A xs:=h.to (by decide) H hk fun _ _ h=>h
theorem Sl.toM {xs:List Mk} (h:Sl Pq 7 w ok A xs) (H:Hp w w' S es) (hk:∀ x,ok x→x < w.heap.size→x∉S∧ok' x):Sl Pq 7 w' ok' A xs:=h.to (by decide) H hk fun _ _ h=>h
theorem Sj.to {x:Bo} (h:Sj w ok p x) (H:Hp w w' S es) (hk:∀ x,ok x→x < w.heap.size→x∉S∧ok' x):Sj w' ok' p x:=by
 obtain⟨A1,k1,A2,k2,A3,k3,rfl,h1,h2,h3⟩:=h
 exact⟨A1,k1,A2,k2,A3,k3,Y,h1.toS H hk,h2.toR H hk,h3.toM H hk⟩
theorem NtR.to {x:Nt} (h:NtR w ok p x) (H:Hp w w' S es) (hk:∀ x,ok x→x < w.heap.size→x∉S∧ok' x):NtR w' ok' p x:=by
 obtain⟨A1,k1,A2,k2,rfl,h1,h2⟩:=h
 exact⟨A1,k1,A2,k2,Y,h1.to H hk,h2.to H hk⟩
theorem Sl.toN {xs:List Nt} (h:Sl (NtR w ok) 16 w ok A xs) (H:Hp w w' S es) (hk:∀ x,ok x→x < w.heap.size→x∉S∧ok' x):Sl (NtR w' ok') 16 w' ok' A xs:=h.to (by decide) H hk fun _ _ h=>h.to H hk
theorem k0 :∀ x,ok x→x < w.heap.size→x∉([]:List Nat)∧ok x:=fun _ h _=>⟨by simp,h⟩
theorem kT :∀ x,ok x→x < w.heap.size→x∉([]:List Nat)∧(fun _=>True) x:=fun _ _ _=>⟨by simp,trivial⟩
theorem NtR.len {x:Nt} (h:NtR w ok p x):p.length=16:=by obtain⟨_,_,_,_,rfl,_⟩:=h;rfl
theorem Oc.ones {x:Vt} (h:Oc w ok p x):p.all (·.oneCell')=true:=by obtain⟨_,_,rfl,_⟩:=h;rfl
theorem Qu.ones {x:En} (h:Qu w ok p x):p.all (·.oneCell')=true:=by obtain⟨_,_,rfl,_⟩:=h;rfl
theorem Px.ones {x:Rt} (h:Px p x):p.all (·.oneCell')=true:=by rw[h];rfl
theorem Pq.ones {x:Mk} (h:Pq p x):p.all (·.oneCell')=true:=by rw[h];rfl
theorem Rl.ones {x:Sv} (h:Rl w ok p x):p.all (·.oneCell')=true:=by obtain⟨_,_,_,_,_,_,rfl,_⟩:=h;rfl
theorem NtR.ones {x:Nt} (h:NtR w ok p x):p.all (·.oneCell')=true:=by obtain⟨_,_,_,_,rfl,_⟩:=h;rfl
theorem wT.ones {X:Type} {R:List Value→X→Prop} (hR:∀ p x,R p x→p.all (·.oneCell')=true):∀ {ps:List (List Value)} {xs:List X},wT R ps xs→∀ p∈ps,p.all (·.oneCell')=true
 | [],[],_,p,hp=>by cases hp
 | q::ps,x::xs,h,p,hp=>by
  rcases Cm.1 hp with rfl | hp
  · exact hR _ _ h.1
  exact wT.ones hR h.2 p hp
theorem Bs.none (w:World) (ok:Nat→Prop):Bs w ok none []:=⟨Rd.none_ w 1,(fun h=>by cases h),by decide⟩
theorem Sl.none {X:Type} (R:List Value→X→Prop) (sz:Nat) (w:World) (ok:Nat→Prop):Sl R sz w ok Option.none []:=⟨[],Pl.nil _,Rd.none_ w sz,(fun h=>by cases h),trivial⟩
end
@[reducible] def Bal.lt (a b:Bal):Prop:=a.r < b.r∨(a.r=b.r∧a.n < b.n)
def Sv.last (s:Sv):Int:=s.index+s.entries.length
def Sv.raise (s:Sv) (b:Bal):Sv:=if s.p.lt b then { s with p:=b } else s
def Jv (l:List Vt) (v:Vt):List Vt:=l.filter (fun x=>decide (x.slot < v.slot))++v::l.filter (fun x=>decide (v.slot < x.slot))
def vR (l:List Vt) (n:Int):List Vt:=l.filter fun x=>decide (n < x.slot)
def rG (l:List En) (n:Int):List En:=match l.filter fun x=>decide (n < x.slot)with
 | []=>[]
 | e::r=>if e.slot=n+1 then e::r else[]
def Sv.goes (s:Sv) (n:Nt):Sv:=
 if n.kind=1 then s.raise n.b
 else if n.kind=2 then(if n.Eb.slot≤s.last then s else({ s with Bd:=Jv s.Bd n.Eb }:Sv).raise n.Eb.b)
 else if n.kind=3 then(if n.entry.slot=s.last+1 then { s with entries:=s.entries++[n.entry],Bd:=vR s.Bd n.entry.slot } else s)
 else if n.entry.slot≤s.index then s else { s with index:=n.entry.slot,image:=n.entry.val,entries:=rG s.entries n.entry.slot,Bd:=vR s.Bd n.entry.slot }
def tI :Int→List En→Bool
 | _,[]=>true
 | n,e::l=>decide (e.slot=n+1∧e.slot≤1099511627776∧e.val.length≤2048) && tI (n+1) l
def uE (p:Bal) (first:Int):Int→List Vt→Bool
 | _,[]=>true
 | n,v::l=>decide (n≤v.slot∧v.slot < first+16∧1≤v.b.r∧1≤v.b.n∧¬p.lt v.b∧v.val.length≤2048) && uE p first (v.slot+1) l
def chk (s:Sv):Bool:=
 decide ((s.p.r=0∧s.p.n=0)∨(1≤s.p.r∧1≤s.p.n∧s.p.n≤5)) && decide (0≤s.index∧s.index≤1099511627776∧(s.index=0→s.image.length=0)∧s.image.length≤8192) && tI s.index s.entries &&
  decide (s.index+s.entries.length+1≤1099511627776) && uE s.p (s.index+s.entries.length+1) (s.index+s.entries.length+1) s.Bd
@[reducible] def nK (r:Rt):Prop:=1≤r.g∧r.g < 8∧1≤r.key.length∧r.key.length≤16∧1≤r.lease
def Ox (a b:Rt):Bool:=decide (a.g < b.g) || (decide (a.g=b.g) && Op.bytesLess a.key b.key)
def Hg (l:List Rt) (r:Rt):List Rt:=l.filter (fun x=>Ox x r)++r::l.filter (fun x=>Ox r x)
def uN (l:List Mk) (m:Mk):List Mk:=l.filter (fun x=>decide (x.client < m.client))++m::l.filter (fun x=>decide (m.client < x.client))
def Fj (l:List Mk) (c:Int):Option Mk:=l.find? fun x=>decide (x.client=c)
def uT (l:List Mk) (c q:Int):List Mk:=
 if c < 1∨8 < c∨q < 1∨4611686018427387904 < q then l
 else match Fj l c with
  | some m=>if q≤m.seq then l else uN l ⟨c,q⟩
  | none=>uN l ⟨c,q⟩
def Bo.into (b:Bo) (n:Nt):Option Bo:=
 if n.kind=5 then(if nK n.right then some { b with rights:=Hg b.rights n.right,last:=uT b.last n.client n.seq } else none)
 else if n.kind < 1∨4 < n.kind∨n.group < 0∨8≤n.group then none
 else match b.groups[n.group.toNat]? with
  | some s=>if chk (s.goes n) then some { b with groups:=b.groups.set n.group.toNat (s.goes n) } else none
  | none=>none
def Sv.none :Sv:=⟨⟨0,0⟩,[],0,[],[]⟩
def Bo.empty :Bo:=⟨List.replicate 8 Sv.none,[],[]⟩
def xZ :Bo→List Nt→Option Bo
 | b,[]=>some b
 | b,n::l=>match b.into n with
  | some b'=>xZ b' l
  | none=>none
def qK :List Rt→Prop
 | []=>True
 | r::l=>nK r∧(∀ x∈l,Ox r x=true)∧qK l
def sC :Int→List Mk→Prop
 | _,[]=>True
 | c,m::l=>c < m.client∧m.client≤8∧1≤m.seq∧m.seq≤4611686018427387904∧sC m.client l
structure rU (b:Bo) (N:Nat):Prop where
 eight:b.groups.length=8
 chk:∀ s∈b.groups,chk s=true
 rts:qK b.rights
 Yk:sC 0 b.last
 few:b.rights.length≤N
section
variable {P:Program} {l:List Value} {w:World} {ty t t':TypeId} {x y:Operand}
theorem fU (s:Blk):(⟨s.toArray⟩:ByteArray).size=s.length:=by show s.toArray.size=_;simp
theorem HU {a b:Blk} (hx:ev l x=some (yI a)) (hy:ev l y=some (yI b)):Ex P l (.binOp .lss t x y t') ty w (.value (.bool (decide (Op.bytesLess a b=true)))) w:=fun _ _ _ _=>by
 have hr:(binOp .lss t (yI a) (yI b)).run P w=.ok (.bool (decide (Op.bytesLess a b=true))) w:=by
  show(Op.stringOp .lss ⟨a.toArray⟩ ⟨b.toArray⟩).run P w=_
  simp[Op.stringOp]
 have hg:eqGuard .lss t x y (yI a) (yI b)=pure ():=rfl
 simp only[execOp,zV hx,zV hy,hg]
 simp[hr]
theorem oI {s:Blk} {ats:Array TypeId} (ht:(ats[0]?).bind P.underlying=some .string) (hx:ev l x=some (yI s)):
 Ex P l (.call { callee:=.builtin .len,args:=#[x],argTypes:=ats }) ty w (.value (Aa (s.length:Int))) w:=by
 have h:=oX (P:=P) (l:=l) (w:=w) (ty:=ty) (x:=x) (s:=⟨s.toArray⟩) ht hx
 rwa [fU]at h
theorem eT {op:BinOp} {xs ys:List Value} {b:Bool} (hm:P.eqGuardType P.depth t=false) (he:∀ w,(Op.equalIn 10000 t (.agg xs.toArray) (.agg ys.toArray)).run P w=.ok b w) (hx:ev l x=some (.agg xs.toArray)) (hy:ev l y=some (.agg ys.toArray)) (ho:op=.eql∨op=.neq):
 Ex P l (.binOp op t x y t') ty w (.value (.bool (if op=.eql then b else !b))) w:=fun _ _ _ _=>by
 have hg:=run_eqGuard_agg (P:=P) w op t x y xs.toArray ys.toArray hm
 rcases ho with rfl | rfl
 · simp[execOp,zV hx,zV hy,hg,run_eql_struct,he]
 simp[execOp,zV hx,zV hy,hg,run_neq_struct,he]
end
section
variable {l:List Value} {w:World} {ty t t':TypeId} {x y:Operand}
theorem QX (a b c d:Int) (w:World) (n:Nat):(Op.equalIn (n+2) 75 (.agg [Aa a,Aa b].toArray) (.agg [Aa c,Aa d].toArray)).run Tryz.prog w=.ok (decide (a=c∧b=d)) w:=by
 have u3:=Tryz.underlying3
 have a3:=Tryz.isAgg3
 have z3:=Tryz.sizeOf3
 have hS:Tryz.prog.underlying 75=some (.struct (Tryz.prog.fieldsOf 75)):=by kernel_rfl
 have hp:Tryz.prog.stoodInHeld 75=false:=by kernel_rfl
 rw[show(n+2:Nat)=(n+1)+1 from rfl,run_equalIn_agg w (n+1) 75 _ _ hS hp]
 simp only[Program.fieldsOf,Tryz.underlying75]
 go_simp
 by_cases h1:a=c <;>by_cases h2:b=d <;>simp[h1,h2]
theorem qE {a b c d:Int} (hx:ev l x=some (.agg [Aa a,Aa b].toArray)) (hy:ev l y=some (.agg [Aa c,Aa d].toArray)):Ex Tryz.prog l (.binOp .neq 75 x y t') ty w (.value (.bool (decide (¬(a=c∧b=d))))) w:=by
 have h:=eT (ty:=ty) (t':=t') (w:=w) (op:=.neq) (P:=Tryz.prog) (t:=75) (by kernel_rfl) (fun w=>QX a b c d w 9998) hx hy (.inr rfl)
 simp only[reduceCtorEq,if_false]at h
 rw[decide_not];exact h
theorem mQ {a b c d:Int} (hx:ev l x=some (.agg [Aa a,Aa b].toArray)) (hy:ev l y=some (.agg [Aa c,Aa d].toArray)):Ex Tryz.prog l (.binOp .eql 75 x y t') ty w (.value (.bool (decide (a=c∧b=d)))) w:=by
 have h:=eT (ty:=ty) (t':=t') (w:=w) (op:=.eql) (P:=Tryz.prog) (t:=75) (by kernel_rfl) (fun w=>QX a b c d w 9998) hx hy (.inl rfl)
 simp only[if_true]at h
 exact h
theorem eq_rt (r:Rt) (w:World) (n:Nat):(Op.equalIn (n+2) 35 (.agg (Nz r).toArray) (.agg (Nz r).toArray)).run Tryz.prog w=.ok true w:=by
 have u3:=Tryz.underlying3
 have a3:=Tryz.isAgg3
 have z3:=Tryz.sizeOf3
 have u9:=Tryz.underlying9
 have a9:=Tryz.isAgg9
 have z9:=Tryz.sizeOf9
 have hS:Tryz.prog.underlying 35=some (.struct (Tryz.prog.fieldsOf 35)):=by kernel_rfl
 have hp:Tryz.prog.stoodInHeld 35=false:=by kernel_rfl
 rw[show(n+2:Nat)=(n+1)+1 from rfl,run_equalIn_agg w (n+1) 35 _ _ hS hp]
 simp only[Program.fieldsOf,Tryz.underlying35,Nz,yI]
 go_simp
theorem MB {r:Rt} (hx:ev l x=some (.agg (Nz r).toArray)) (hy:ev l y=some (.agg (Nz r).toArray)):Ex Tryz.prog l (.binOp .eql 35 x y t') ty w (.value (.bool true)) w:=by
 have h:=eT (ty:=ty) (t':=t') (w:=w) (op:=.eql) (P:=Tryz.prog) (t:=35) (by kernel_rfl) (fun w=>eq_rt r w 9998) hx hy (.inl rfl)
 simpa using h
theorem eq_an (w:World) (n:Nat):(Op.equalIn (n+2) 108 (.agg [Aa 0,Aa 0,Aa 0,Aa 0].toArray) (.agg [Aa 0,Aa 0,Aa 0,Aa 0].toArray)).run Tryz.prog w=.ok true w:=by
 have u3:=Tryz.underlying3
 have a3:=Tryz.isAgg3
 have z3:=Tryz.sizeOf3
 have u9:=Tryz.underlying24
 have a9:=Tryz.isAgg24
 have z9:=Tryz.sizeOf24
 have hS:Tryz.prog.underlying 108=some (.struct (Tryz.prog.fieldsOf 108)):=by kernel_rfl
 have hp:Tryz.prog.stoodInHeld 108=false:=by kernel_rfl
 rw[show(n+2:Nat)=(n+1)+1 from rfl,run_equalIn_agg w (n+1) 108 _ _ hS hp]
 simp only[Program.fieldsOf,Tryz.underlying108]
 go_simp
end
section
variable {P:Program} {l:List Value} {w:World} {ty t:TypeId} {x:Operand} {zs:List Value} {sz bytes:Nat} {agg:Bool}
theorem tU {e:TypeId} (ht:P.underlying t=some (.slice e)) (he:xQ P e zs sz bytes agg) {a:Addr} {len c i:Nat} {lo:Int} {kl:IntKind} {xl:Operand} (hx:ev l x=some (Ac (some a) len c)) (hl:ev l xl=some (.int kl lo)) (hi:lo=(i:Int)) (h:i≤len) (hc:i < c):
 Ex P l (.slice t x (some xl) none none) ty w (.value (Ac (some (a.add (i*sz))) (len - i) (c - i))) w:=by
 subst hi
 have h1:=vB (ty:=ty) (w:=w) ht he hx hl ⟨by omega,by omega⟩
 have h2:wE (some a) (i:Int).toNat c sz=some (a.add (i*sz)):=by
  unfold wE
  rw[if_neg (by omega)]
  rfl
 rw[h2]at h1
 exact h1
theorem fA {e:TypeId} (ht:P.underlying t=some (.slice e)) (he:xQ P e zs sz bytes agg) {A:Option Addr} {len c i:Nat} {hi:Int} {kh:IntKind} {xh:Operand} (hx:ev l x=some (Ac A len c)) (hh:ev l xh=some (.int kh hi)) (hi':hi=(i:Int)) (h:i≤c):
 Ex P l (.slice t x none (some xh) none) ty w (.value (Ac A i c)) w:=by
 subst hi'
 exact pX ht he hx hh ⟨by omega,by omega⟩
end
def Rw (w0 w':World) (r:Value) (T sz n:Nat) (cs:List Value):Prop:=
 ∃ g cap sp,r=.slice (hd g) n cap∧n≤cap∧cap*sz≤(cs++sp).length∧(g=none→cap=0)∧Hp w0 w' [] [(g,T,cs++sp)]
theorem gK {a b:Nat} (h:a≤b):Nat.min a b=a:=Ii h
theorem Rd.Zv {w:World} {A:Option Addr} {n sz i:Nat} {xs:List Value} (h:Rd w A n sz xs) (hi:i≤n) (hA:A=none→i=0):Rd w A i sz (xs.take (i*sz)):=by
 have hm:i*sz≤n*sz:=Dp _ hi
 refine⟨?_,fun a ha j u hu=>?_,hA⟩
 · rw[Aw,h.len];omega
 rw[Hw]at hu
 split at hu
 · exact h.cells a ha j u hu
 cases hu
def Prd (P:Program) (k:FuncId) (gc:Nat) (pr:List Value→Bool) (ps:List (List Value)) (w0:World):Prop:=
 yB P k=true∧gc < w0.heap.size∧∀ w1,w1.heap[gc]? =w0.heap[gc]?→∀ p∈ps,zO P k #[.agg p.toArray,.pointer (some ⟨gc,0,none⟩)] w1 (fun r w'=>r=.bool (pr p)∧Hp w1 w' [] [])
structure Cmp (P:Program) (k:FuncId) (tv:Value) (cf:List Value→Int) (ps:List (List Value)):Prop where
 go:yB P k=true
 does:∀ w1,∀ p∈ps,zO P k #[.agg p.toArray,tv] w1 (fun r w'=>r=.int .i64 (cf p)∧Hp w1 w' [] [])
 mono:∀ (i j:Nat) (p q:List Value),i≤j→ps[i]? =some p→ps[j]? =some q→cf q < 0→cf p < 0
structure BT (ps:List (List Value)) (cf:List Value→Int) (i:Nat) (f:Bool):Prop where
 le:i≤ps.length
 lo:∀ (k:Nat) (p:List Value),k < i→ps[k]? =some p→cf p < 0
 hi:∀ (k:Nat) (p:List Value),i≤k→ps[k]? =some p→0≤cf p
 yes:f=true→∃ p,ps[i]? =some p∧cf p=0
 no:f=false→∀ p,ps[i]? =some p→cf p≠0
def YG (ps:List (List Value)) (pr:List Value→Bool) (y:Int):Prop:=
 (y=-1∧∀ p∈ps,pr p=false)∨∃ (j:Nat) (p:List Value),y=(j:Int)∧ps[j]? =some p∧pr p=true∧∀ q∈ps.take j,pr q=false
theorem xE {α:Type} {l:List α} {j:Nat} {p:α} (h:l[j]? =some p):l.take (j+1)=l.take j++[p]:=by
 obtain⟨hl,rfl⟩:=Ea.1 h
 rw[List.take_succ_eq_append_getElem hl]
theorem yM {α:Type} {l:List α} {j:Nat} (h:j < l.length):∃ p,l[j]? =some p:=⟨_,Bq h⟩
theorem mem_of {α:Type} {l:List α} {j:Nat} {p:α} (h:l[j]? =some p):p∈l:=Fh h
theorem vX {ps:List (List Value)} {pr:List Value→Bool} (h:∀ p∈ps,pr p=false):ps.filter (fun p=>!pr p)=ps:=List.filter_eq_self.2 fun p hp=>by rw[h p hp];rfl
theorem oM {ps:List (List Value)} {pr:List Value→Bool} {j:Nat} {p:List Value} (h:∀ q∈ps.take j,pr q=false) (hp:ps[j]? =some p) (hf:pr p=false):∀ q∈ps.take (j+1),pr q=false:=by
 rw[xE hp]
 intro q hq
 rcases Bj.1 hq with hq | hq
 · exact h q hq
 rw[Bc.1 hq];exact hf
structure Del (ps qs:List (List Value)) (pr:List Value→Bool) (i j sz:Nat):Prop where
 len:qs.length=ps.length
 pl:Pl sz qs
 lt:i < j
 le:j≤ps.length
 rest:qs.drop j=ps.drop j
 kept:qs.take i=(ps.take j).filter fun p=>!pr p
theorem Del.start {ps:List (List Value)} {pr:List Value→Bool} {j sz:Nat} {p:List Value} (hp:Pl sz ps) (hj:ps[j]? =some p) (ht:pr p=true) (hn:∀ q∈ps.take j,pr q=false):Del ps ps pr j (j+1) sz:=by
 refine⟨Y,hp,by omega,lt_of_get hj,Y,?_⟩
 rw[xE hj,Ld,vX hn]
 simp[ht]
theorem Del.skip {ps qs:List (List Value)} {pr:List Value→Bool} {i j sz:Nat} {p:List Value} (h:Del ps qs pr i j sz) (hj:ps[j]? =some p) (ht:pr p=true):Del ps qs pr i (j+1) sz:=by
 have h1:=h.lt
 refine⟨h.len,h.pl,by omega,lt_of_get hj,?_,?_⟩
 · have:=congrArg (List.drop 1) h.rest
   simpa[Fz]using this
 rw[xE hj,Ld,h.kept]
 simp[ht]
theorem Del.keep {ps qs:List (List Value)} {pr:List Value→Bool} {i j sz:Nat} {p:List Value} (h:Del ps qs pr i j sz) (hj:ps[j]? =some p) (ht:pr p=false) (hl:p.length=sz):Del ps (qs.set i p) pr (i+1) (j+1) sz:=by
 have h1:=h.lt
 have h2:=lt_of_get hj
 have h3:=h.len
 refine⟨by rw[Ko];exact h.len,h.pl.Sr hl,by omega,h2,?_,?_⟩
 · rw[List.drop_set_of_lt (by omega)]
   have:=congrArg (List.drop 1) h.rest
   simpa[Fz]using this
 rw[xE hj,Ld,← h.kept]
 have h4:(qs.set i p)[i]? =some p:=by rw[List.getElem?_set_self (by omega)]
 rw[xE h4,List.take_set_of_le (Ai i)]
 simp[ht]
theorem Del.at {ps qs:List (List Value)} {pr:List Value→Bool} {i j sz:Nat} (h:Del ps qs pr i j sz):qs[j]? =ps[j]?:=by
 have h1:=congrArg (fun l=>l[0]?) h.rest
 simpa using h1
theorem Del.done {ps qs:List (List Value)} {pr:List Value→Bool} {i sz:Nat} (h:Del ps qs pr i ps.length sz):qs.take i=(ps.filter fun p=>!pr p)∧(ps.filter fun p=>!pr p).length=i:=by
 have h1:=h.kept
 rw[Cc]at h1
 refine⟨h1,?_⟩
 have h2:=h.lt
 have h3:=h.len
 rw[← h1,Aw];omega
theorem Del.cells {ps qs:List (List Value)} {pr:List Value→Bool} {i sz n:Nat} {sp vs:List Value} (h:Del ps qs pr i ps.length sz) (_:n=0):zG (qs.flatten++sp) (n+i*sz) vs=(ps.filter fun p=>!pr p).flatten++(vs++(qs.flatten++sp).drop (n+i*sz+vs.length)):=by
 subst n
 have h1:=h.lt
 have h2:=h.len
 have h3:i*sz≤qs.flatten.length:=by rw[h.pl.len];exact Dp _ (by omega)
 unfold zG
 rw[Au,Pz h3,h.pl.Vx,h.done.1,Bf]
theorem vK {cs vs:List Value} {o:Nat} (h:o+vs.length≤cs.length):(zG cs o vs).length=cs.length:=by
 simp only[zG,Af,Aw,Bh];omega
theorem CP {cs vs zs sp:List Value} {i n sz:Nat} {ps:List (List Value)} (hp:Pl sz ps) (hn:ps.length=n) (hi:i≤n) (hv:vs.length=sz) (hz:zs.length=(n+1 - i)*sz) (hc:cs=((ps.flatten.take (i*sz))++zs)++sp):
 zG (zG cs (i*sz) vs) ((i+1)*sz) (ps.flatten.drop (i*sz))=(ps.take i++vs::ps.drop i).flatten++sp:=by
 have hl:(ps.flatten.take (i*sz)).length=i*sz:=by rw[Aw,hp.len,hn];exact Ii (Dp _ hi)
 have hd:(ps.flatten.drop (i*sz)).length=(n - i)*sz:=by rw[Bh,hp.len,hn,← Lj]
 have hz2:zs.length=sz+(n - i)*sz:=by rw[hz,show n+1 - i=(n - i)+1 by omega,Du];omega
 have hs:(i+1)*sz=i*sz+sz:=by rw[Du];omega
 subst hc
 obtain⟨a,ha⟩:∃ a,ps.flatten.take (i*sz)=a:=⟨_,rfl⟩
 obtain⟨b,hb⟩:∃ b,ps.flatten.drop (i*sz)=b:=⟨_,rfl⟩
 rw[Jd,Ic,← hp.Vx,← hp.YJ,ha,hb]
 rw[ha]at hl
 rw[hb]at hd
 have e1:zG ((a++zs)++sp) (i*sz) vs=(a++vs)++(zs.drop sz++sp):=by
  unfold zG
  rw[Bf a,Jl hl,hv,← Fz,Gg hl,Qv (by omega)]
 have hl2:(a++vs).length=(i+1)*sz:=by rw[Af,hl,hv,hs]
 have hl3:(zs.drop sz).length=b.length:=by rw[Bh,hz2,hd];omega
 rw[e1]
 unfold zG
 rw[Jl hl2,← Fz,Gg hl2,Gg hl3]
 simp
theorem G2 {vs sp:List Value} {i n sz:Nat} {ps:List (List Value)} (hp:Pl sz ps) (hn:ps.length=n) (hi:i≤n) (hv:vs.length=sz) (hs:sz≤sp.length):
 zG (zG (ps.flatten++sp) ((i+1)*sz) (ps.flatten.drop (i*sz))) (i*sz) vs=(ps.take i++vs::ps.drop i).flatten++sp.drop sz:=by
 have hl:(ps.flatten.take (i*sz)).length=i*sz:=by rw[Aw,hp.len,hn];exact Ii (Dp _ hi)
 have hd:(ps.flatten.drop (i*sz)).length=(n - i)*sz:=by rw[Bh,hp.len,hn,← Lj]
 have hss:(i+1)*sz=i*sz+sz:=by rw[Du];omega
 have hall:ps.flatten.length=i*sz+(n - i)*sz:=by rw[hp.len,hn,← Du];congr 1;omega
 have e0:ps.flatten++sp=ps.flatten.take (i*sz)++(ps.flatten.drop (i*sz)++sp):=by rw[← Bf,Eu]
 obtain⟨a,ha⟩:∃ a,ps.flatten.take (i*sz)=a:=⟨_,rfl⟩
 obtain⟨b,hb⟩:∃ b,ps.flatten.drop (i*sz)=b:=⟨_,rfl⟩
 rw[e0,Jd,Ic,← hp.Vx,← hp.YJ,ha,hb]
 rw[ha]at hl
 rw[hb]at hd
 have e1:zG (a++(b++sp)) ((i+1)*sz) b=a++((b++sp).take sz++b)++sp.drop sz:=by
  unfold zG
  rw[hss,Oj,hl,Ej (by omega),Hq,List.drop_append,hl,Gm (by omega),show i*sz+sz+b.length - i*sz=b.length+sz by omega,← Fz,List.drop_left]
  simp
 rw[e1]
 have h5:((b++sp).take sz).length=sz:=by rw[Aw,Af];omega
 unfold zG
 rw[Bf a,Jl hl,hv,← Fz,Gg hl,Bf ((b++sp).take sz),Gg h5]
 simp
section
def sH (a b:Int):Int:=if a < b then -1 else if b < a then 1 else 0
variable {a b:Rt} {cp:List Value→Int} {ps:List (List Value)} {n:Int} {p:List Value}
theorem Md {a b:Int}:sH a b < 0↔a < b:=by unfold sH;repeat' split;all_goals omega
theorem Tq {a b:Int}:0 < sH a b↔b < a:=by unfold sH;repeat' split;all_goals omega
theorem Xh {a b:Int}:sH a b=0↔a=b:=by unfold sH;repeat' split;all_goals omega
def dK {X:Type} (cf:X→Int) (xs:List X):Prop:=∀ (i j:Nat) (a b:X),i < j→xs[i]? =some a→xs[j]? =some b→0≤cf a→0 < cf b
theorem dK.tail {X:Type} {cf:X→Int} {x:X} {xs:List X} (h:dK cf (x::xs)):dK cf xs:=fun i j a b hij ha hb h0=>h (i+1) (j+1) a b (by omega) (by simpa using ha) (by simpa using hb) h0
theorem sG {X:Type} {f:X→Bool} {xs:List X} (h:∀ x∈xs,f x=true):xs.filter f=xs:=List.filter_eq_self.2 h
theorem tK {X:Type} {f:X→Bool} {xs:List X} (h:∀ x∈xs,f x=false):xs.filter f=[]:=List.filter_eq_nil_iff.2 fun x hx=>by rw[h x hx];simp
theorem dK.put {X:Type} {cf:X→Int} {v:X}:∀ {xs:List X} {i:Nat} {f:Bool},dK cf xs→i≤xs.length→(∀ (k:Nat) (a:X),k < i→xs[k]? =some a→cf a < 0)→(∀ (k:Nat) (a:X),i≤k→xs[k]? =some a→0≤cf a)→
 (f=true→∃ a,xs[i]? =some a∧cf a=0)→(f=false→∀ a,xs[i]? =some a→cf a≠0)→
 xs.filter (fun x=>decide (cf x < 0))++v::xs.filter (fun x=>decide (0 < cf x))=if f=true then xs.set i v else xs.take i++v::xs.drop i
 | [],i,f,_,hi,_,_,hy,_=>by
  obtain rfl:i=0:=by simpa using hi
  cases f with
  | true=>obtain⟨a,ha,_⟩:=hy rfl;simp at ha
  | false=>simp
 | x::xs,0,f,hr,_,_,hhi,hy,hno=>by
  have h0:0≤cf x:=hhi 0 x (Ai _) rfl
  have hall:∀ a∈xs,0 < cf a:=fun a ha=>by
   obtain⟨k,hk⟩:=Dh ha
   exact hr 0 (k+1) x a (by omega) Y (by simpa using hk) h0
  have e1:xs.filter (fun x=>decide (cf x < 0))=[]:=tK fun a ha=>by have:=hall a ha;simp;omega
  have e2:xs.filter (fun x=>decide (0 < cf x))=xs:=sG fun a ha=>by simpa using hall a ha
  rw[Gu,Gu,e1,e2,if_neg (by simp;omega)]
  cases f with
  | true=>
   obtain⟨a,ha,hz⟩:=hy rfl
   simp only[Jc,Option.some.injEq]at ha
   subst ha
   rw[if_neg (by simp;omega)]
   simp
  | false=>
   have:=hno rfl x rfl
   rw[if_pos (by simp;omega)]
   simp
 | x::xs,i+1,f,hr,hi,hlo,hhi,hy,hno=>by
  have h0:cf x < 0:=hlo 0 x (by omega) rfl
  have ih:=dK.put (v:=v) (i:=i) (f:=f) hr.tail (by simpa using hi) (fun k a hk ha=>hlo (k+1) a (by omega) (by simpa using ha)) (fun k a hk ha=>hhi (k+1) a (by omega) (by simpa using ha)) (fun h=>by simpa using hy h) (fun h a ha=>hno h a (by simpa using ha))
  rw[Gu,Gu,if_pos (by simpa using h0),if_neg (by simp;omega),Je,ih]
  cases f <;>simp
theorem BT.put {X:Type} {R:List Value→X→Prop} {cf:X→Int} {xs:List X} {i:Nat} {f:Bool} {v:X} (h:BT ps cp i f) (h2:wT R ps xs) (hc:∀ p x,R p x→cp p=cf x) (hr:dK cf xs):
 xs.filter (fun x=>decide (cf x < 0))++v::xs.filter (fun x=>decide (0 < cf x))=if f=true then xs.set i v else xs.take i++v::xs.drop i:=by
 refine hr.put (by rw[← h2.len];exact h.le) (fun k a hk ha=>?_) (fun k a hk ha=>?_) (fun hf=>?_) (fun hf a ha=>?_)
 · obtain⟨p,hp,hR⟩:=h2.get ha
   rw[← hc p a hR];exact h.lo k p hk hp
 · obtain⟨p,hp,hR⟩:=h2.get ha
   rw[← hc p a hR];exact h.hi k p hk hp
 · obtain⟨p,hp,h0⟩:=h.yes hf
   obtain⟨x,hx,hR⟩:=h2.getL hp
   exact⟨x,hx,by rw[← hc p x hR];exact h0⟩
 obtain⟨p,hp,hR⟩:=h2.get ha
 rw[← hc p a hR];exact h.no hf p hp
theorem dK.mono {X:Type} {R:List Value→X→Prop} {cf:X→Int} {xs:List X} (hr:dK cf xs) (h2:wT R ps xs) (hc:∀ p x,R p x→cp p=cf x):∀ (i j:Nat) (p q:List Value),i≤j→ps[i]? =some p→ps[j]? =some q→cp q < 0→cp p < 0:=by
 intro i j p q hij hp hq h0
 rcases Nat.eq_or_lt_of_le hij with rfl | h
 · rw[hp]at hq;cases hq;exact h0
 obtain⟨x,hx,hR⟩:=h2.getL hp
 obtain⟨y,hy,hR2⟩:=h2.getL hq
 rw[hc p x hR]
 rw[hc q y hR2]at h0
 rcases Int.lt_or_le (cf x) 0 with h3 | h3
 · exact h3
 have:=hr i j x y h hx hy h3;omega
def WJ (n:Int) (p:List Value):Int:=match p with
 | .int _ s::_=>sH s n
 | _=>0
theorem B5 {w:World} {ok:Nat→Prop} {x:Vt} (h:Oc w ok p x):WJ n p=sH x.slot n:=by obtain⟨_,_,rfl,_⟩:=h;rfl
theorem hU {p:Bal} {first:Int}:∀ {l:List Vt} {n:Int},uE p first n l=true→(∀ x∈l,n≤x.slot)∧∀ (i j:Nat) (a b:Vt),i < j→l[i]? =some a→l[j]? =some b→a.slot < b.slot
 | [],_,_=>⟨(fun _ h=>by cases h),fun i j a b _ h=>by simp at h⟩
 | v::l,n,h=>by
  simp only[uE,Ce,decide_eq_true_eq]at h
  obtain⟨h1,h2⟩:=hU h.2
  refine⟨fun x hx=>?_,fun i j a b hij ha hb=>?_⟩
  · rcases Cm.1 hx with rfl | hx
    · exact h.1.1
    have:=h1 x hx;omega
  obtain⟨j,rfl⟩:∃ k,j=k+1:=⟨j - 1,by omega⟩
  simp only[Jp]at hb
  cases i with
  | zero=>
   simp only[Jc,Option.some.injEq]at ha
   subst ha
   have:=h1 b (Fh hb);omega
  | succ i=>
   simp only[Jp]at ha
   exact h2 i j a b (by omega) ha hb
theorem SX {l:List Vt} (h:∀ (i j:Nat) (a b:Vt),i < j→l[i]? =some a→l[j]? =some b→a.slot < b.slot) (n:Int):dK (fun x:Vt=>sH x.slot n) l:=fun i j a b hij ha hb h0=>by
 have h1:=h i j a b hij ha hb
 have h0':0≤sH a.slot n:=h0
 have h2:¬a.slot < n:=fun hh=>by have:=Md.2 hh;omega
 exact Tq.2 (by omega)
theorem D7 (l:List Vt) (v:Vt):Jv l v=l.filter (fun x=>decide (sH x.slot v.slot < 0))++v::l.filter (fun x=>decide (0 < sH x.slot v.slot)):=by
 unfold Jv
 congr 1
 · exact Lc fun x _=>by rw[decide_eq_decide];exact Md.symm
 congr 1
 exact Lc fun x _=>by rw[decide_eq_decide];exact Tq.symm
theorem IN {p:Bal} {first:Int}:∀ {l:List Vt} {n:Int},uE p first n l=true→n≤first+16→(l.length:Int)≤first+16 - n
 | [],n,_,h=>by simp;omega
 | v::l,n,h,hn=>by
  simp only[uE,Ce,decide_eq_true_eq]at h
  have:=IN h.2 (by omega)
  rw[Bg];omega
def PA (n:Int) (p:List Value):Int:=match p with
 | .int _ s::_=>sH s n
 | _=>0
theorem gO {x:Mk} (h:Pq p x):PA n p=sH x.client n:=by rw[h];rfl
theorem uA :∀ {l:List Mk} {n:Int},sC n l→(∀ x∈l,n < x.client∧x.client≤8∧1≤x.seq∧x.seq≤4611686018427387904)∧∀ (i j:Nat) (a b:Mk),i < j→l[i]? =some a→l[j]? =some b→a.client < b.client
 | [],_,_=>⟨(fun _ h=>by cases h),fun i j a b _ h=>by simp at h⟩
 | v::l,n,h=>by
  obtain⟨h1,h2⟩:=uA h.2.2.2.2
  refine⟨fun x hx=>?_,fun i j a b hij ha hb=>?_⟩
  · rcases Cm.1 hx with rfl | hx
    · exact⟨h.1,h.2.1,h.2.2.1,h.2.2.2.1⟩
    have h3:=h1 x hx
    have h4:=h.1
    exact⟨by omega,h3.2⟩
  obtain⟨j,rfl⟩:∃ k,j=k+1:=⟨j - 1,by omega⟩
  simp only[Jp]at hb
  cases i with
  | zero=>
   simp only[Jc,Option.some.injEq]at ha
   subst ha
   exact(h1 b (Fh hb)).1
  | succ i=>
   simp only[Jp]at ha
   exact h2 i j a b (by omega) ha hb
theorem IX {l:List Mk} (h:∀ (i j:Nat) (a b:Mk),i < j→l[i]? =some a→l[j]? =some b→a.client < b.client) (n:Int):dK (fun x:Mk=>sH x.client n) l:=fun i j a b hij ha hb h0=>by
 have h1:=h i j a b hij ha hb
 have h0':0≤sH a.client n:=h0
 have h2:¬a.client < n:=fun hh=>by have:=Md.2 hh;omega
 exact Tq.2 (by omega)
theorem N6 (l:List Mk) (v:Mk):uN l v=l.filter (fun x=>decide (sH x.client v.client < 0))++v::l.filter (fun x=>decide (0 < sH x.client v.client)):=by
 unfold uN
 congr 1
 · exact Lc fun x _=>by rw[decide_eq_decide];exact Md.symm
 congr 1
 exact Lc fun x _=>by rw[decide_eq_decide];exact Tq.symm
def nI (a b:Rt):Int:=if a.g≠b.g then(if a.g < b.g then -1 else 1) else Lib.compareBytes a.key b.key
theorem WC :∀ a b:Blk,Lib.compareBytes a b < 0↔Op.bytesLess a b=true
 | [],[]=>by simp[Lib.compareBytes,Op.bytesLess]
 | [],b::bs=>by simp[Lib.compareBytes,Op.bytesLess]
 | a::as',[]=>by simp[Lib.compareBytes,Op.bytesLess]
 | a::x,b::y=>by
  have ih:=WC x y
  unfold Lib.compareBytes Op.bytesLess
  by_cases h1:a < b
  · simp[h1]
  by_cases h2:b < a
  · have h3:¬a=b:=fun h=>by subst h;exact absurd h2 h1
    simp[h1,h2,h3]
  have h3:a=b:=UInt8.le_antisymm (UInt8.not_lt.1 h2) (UInt8.not_lt.1 h1)
  subst h3
  simp[ih]
theorem WD :∀ a b:Blk,0 < Lib.compareBytes a b↔Op.bytesLess b a=true
 | [],[]=>by simp[Lib.compareBytes,Op.bytesLess]
 | [],b::bs=>by simp[Lib.compareBytes,Op.bytesLess]
 | a::as',[]=>by simp[Lib.compareBytes,Op.bytesLess]
 | a::x,b::y=>by
  have ih:=WD x y
  unfold Lib.compareBytes Op.bytesLess
  by_cases h1:a < b
  · have h3:¬b < a:=fun h=>UInt8.lt_irrefl _ (UInt8.lt_trans h1 h)
    have h4:¬b=a:=fun h=>by subst h;exact UInt8.lt_irrefl _ h1
    simp[h1,h3,h4]
  by_cases h2:b < a
  · simp[h1,h2]
  have h3:a=b:=UInt8.le_antisymm (UInt8.not_lt.1 h2) (UInt8.not_lt.1 h1)
  subst h3
  simp[ih]
theorem F0 :∀ {a b c:Blk},Op.bytesLess a b=true→Op.bytesLess b c=true→Op.bytesLess a c=true
 | _,[],_,h,_=>by unfold Op.bytesLess at h;cases h
 | _,_::_,[],_,h=>by unfold Op.bytesLess at h;cases h
 | [],_::_,_::_,_,_=>by unfold Op.bytesLess;rfl
 | a::x,b::y,c::z,h1,h2=>by
  unfold Op.bytesLess at h1 h2 ⊢
  simp only[Bool.or_eq_true,Ce,decide_eq_true_eq,beq_iff_eq]at h1 h2 ⊢
  rcases h1 with h1 | ⟨rfl,h1⟩ <;>rcases h2 with h2 | ⟨rfl,h2⟩
  · exact .inl (UInt8.lt_trans h1 h2)
  · exact .inl h1
  · exact .inl h2
  exact .inr ⟨Y,F0 h1 h2⟩
theorem RG :∀ a:Blk,Op.bytesLess a a=false
 | []=>rfl
 | a::x=>by unfold Op.bytesLess;simp[RG x]
theorem TF:nI a b < 0↔Ox a b=true:=by
 unfold nI Ox
 by_cases h:a.g=b.g
 · rw[if_neg (by simpa using h)]
   simp[h,WC]
 rw[if_pos h]
 by_cases h2:a.g < b.g <;>simp[h,h2]
theorem TG:0 < nI a b↔Ox b a=true:=by
 unfold nI Ox
 by_cases h:a.g=b.g
 · rw[if_neg (by simpa using h)]
   simp[h,WD]
 rw[if_pos h]
 by_cases h2:a.g < b.g
 · simp[h2,Ne.symm h];omega
 simp[h2,Ne.symm h];omega
theorem nL {c:Rt} (h1:Ox a b=true) (h2:Ox b c=true):Ox a c=true:=by
 unfold Ox at*
 simp only[Bool.or_eq_true,Ce,decide_eq_true_eq]at*
 rcases h1 with h1 | ⟨h1,h3⟩ <;>rcases h2 with h2 | ⟨h2,h4⟩
 · exact .inl (by omega)
 · exact .inl (by omega)
 · exact .inl (by omega)
 exact .inr ⟨by omega,F0 h3 h4⟩
theorem Rh (a:Rt):Ox a a=false:=by unfold Ox;simp[RG]
theorem KB :∀ a b:Blk,Lib.compareBytes a b=0→a=b
 | [],[],_=>rfl
 | [],b::bs,h=>by simp[Lib.compareBytes]at h
 | a::as',[],h=>by simp[Lib.compareBytes]at h
 | a::x,b::y,h=>by
  unfold Lib.compareBytes at h
  by_cases h1:a < b
  · simp[h1]at h
  by_cases h2:b < a
  · simp[h1,h2]at h
  have h3:a=b:=UInt8.le_antisymm (UInt8.not_lt.1 h2) (UInt8.not_lt.1 h1)
  subst h3
  rw[if_neg h1,if_neg h1]at h
  rw[KB x y h]
theorem LM (h:nI a b=0):a.g=b.g∧a.key=b.key:=by
 unfold nI at h
 by_cases hg:a.g=b.g
 · rw[if_neg (by simpa using hg)]at h
   exact⟨hg,KB _ _ h⟩
 rw[if_pos hg]at h
 split at h <;>cases h
theorem sA :∀ {l:List Rt},qK l→(∀ x∈l,nK x)∧∀ (i j:Nat) (a b:Rt),i < j→l[i]? =some a→l[j]? =some b→Ox a b=true
 | [],_=>⟨(fun _ h=>by cases h),fun i j a b _ h=>by simp at h⟩
 | v::l,h=>by
  obtain⟨h1,h2⟩:=sA h.2.2
  refine⟨fun x hx=>?_,fun i j a b hij ha hb=>?_⟩
  · rcases Cm.1 hx with rfl | hx
    · exact h.1
    exact h1 x hx
  obtain⟨j,rfl⟩:∃ k,j=k+1:=⟨j - 1,by omega⟩
  simp only[Jp]at hb
  cases i with
  | zero=>
   simp only[Jc,Option.some.injEq]at ha
   subst ha
   exact h.2.1 b (Fh hb)
  | succ i=>
   simp only[Jp]at ha
   exact h2 i j a b (by omega) ha hb
theorem TE {r:Rt} (h:Ox a b=true) (h0:0≤nI a r):0 < nI b r:=by
 rcases Int.lt_or_eq_of_le h0 with h1 | h1
 · exact TG.2 (nL (TG.1 h1) h)
 obtain⟨e1,e2⟩:=LM h1.symm
 refine TG.2 ?_
 unfold Ox at h ⊢
 rw[← e1,← e2];exact h
theorem B9 {l:List Rt} (h:∀ (i j:Nat) (a b:Rt),i < j→l[i]? =some a→l[j]? =some b→Ox a b=true) (r:Rt):dK (fun x:Rt=>nI x r) l:=fun i j a b hij ha hb h0=>TE (h i j a b hij ha hb) h0
theorem D8 (l:List Rt) (v:Rt):Hg l v=l.filter (fun x=>decide (nI x v < 0))++v::l.filter (fun x=>decide (0 < nI x v)):=by
 unfold Hg
 congr 1
 · exact Lc fun x _=>by
    have:=TF (a:=x) (b:=v)
    cases h:Ox x v <;>simp_all
 congr 1
 exact Lc fun x _=>by
  have:=TG (a:=x) (b:=v)
  cases h:Ox v x <;>simp_all
end
def up (ok:Nat→Prop) (n:Nat):Nat→Prop:=fun b=>ok b∨n≤b
@[reducible] def rz (p b:Bal):Bal:=if p.lt b then b else p
theorem nF (s:Sv) (b:Bal):s.raise b={ s with p:=rz s.p b }:=by
 unfold Sv.raise rz
 split <;>rfl
theorem fH {w:World} {g o:Nat} {cs:List Value} {T:TypeId} {v:Value} (h:w.heap[g]? =some (.cells cs.toArray T (0,0))) (hv:cs[o]? =some v):w.cell? ⟨g,o,none⟩=some v:=by
 simp[World.cell?,h,hv]
theorem nV {ps:List (List Value)} {sp vs:List Value} {i sz:Nat} (hp:Pl sz ps) (hi:i < ps.length) (hv:vs.length=sz):zG (ps.flatten++sp) (0+i*sz) vs=(ps.set i vs).flatten++sp:=by
 have:(i+1)*sz≤ps.length*sz:=Dp _ hi
 rw[Du,Nat.one_mul]at this
 rw[Au,mA (by rw[hp.len,hv];exact this),hp.set_ hi hv]
section
variable {w0 w w':World} {S:List Nat} {es:List Ent} {ok ok':Nat→Prop} {i:Nat} {g:Option Nat} {T:TypeId} {sp:List Value}
theorem Sl.row {X:Type} {R:List Value→X→Prop} {sz:Nat} {ps:List (List Value)} {xs:List X} (H:Hp w0 w S es) (he:es[i]? =some (g,T,ps.flatten++sp)) (hp:Pl sz ps) (hz:0 < sz) (h2:wT R ps xs) (ha:∀ b,g=some b→ok b):Sl R sz w ok (hd g) xs:=by
 have hl:=h2.len
 refine⟨ps,hp,?_,fun _ p hq=>?_,h2⟩
 · rw[← hl];exact H.rd he hp.len hz
 cases g with
 | none=>cases hq
 | some b=>cases hq;exact ha b rfl
theorem Bs.row {b:Blk} (H:Hp w0 w S es) (he:es[i]? =some (g,T,u8s b++sp)) (hb:b.length≤140737488351232) (ha:∀ x,g=some x→ok x):Bs w ok (hd g) b:=by
 refine⟨H.rd he (yV b) (by decide),fun _ p hq=>?_,hb⟩
 cases g with
 | none=>cases hq
 | some x=>cases hq;exact ha x rfl
theorem wO (H:Hp w0 w S es) (he:es[i]? =some (g,T,sp)) (hS:∀ b∈S,g≠some b):∀ b,g=some b→up ok w0.heap.size b:=fun b hb=>by
 subst hb
 rcases H.place he with h | h
 · exact absurd Y (hS b h)
 exact .inr h
theorem KX {n:Nat} (h:∀ x,ok x→x∉S):∀ x,ok x→x < n→x∉S∧up ok n x:=fun x hx _=>⟨h x hx,.inl hx⟩
theorem vD {n m:Nat}:∀ x,ok x→x < n→x∉([]:List Nat)∧up ok m x:=fun x hx _=>⟨by simp,.inl hx⟩
end
def Ji (n:Int) (p:List Value):Bool:=match p with
 | .int _ s::_=>decide (s≤n)
 | _=>false
theorem IP {w:World} {ok:Nat→Prop} {n:Int} {p:List Value} {x:Vt} (h:Oc w ok p x):Ji n p=decide (x.slot≤n):=by obtain⟨_,_,rfl,_⟩:=h;rfl
theorem JZ {w:World} {ok:Nat→Prop} {n:Int} {p:List Value} {x:En} (h:Qu w ok p x):Ji n p=decide (x.slot≤n):=by obtain⟨_,_,rfl,_⟩:=h;rfl
def Iy (n:Int) (p:List Value):Bool:=match p with
 | .int _ s::_=>decide (s=n)
 | _=>false
theorem TS {n:Int} {p:List Value} {x:Mk} (h:Pq p x):Iy n p=decide (x.client=n):=by rw[h];rfl
def ST (r:Rt) (p:List Value):Int:=match p with
 | [.int _ g,.string s,_,_]=>nI ⟨g,s.data.toList,0,0⟩ r
 | _=>0
theorem dR {r:Rt} {p:List Value} {x:Rt} (h:Px p x):ST r p=nI x r:=by rw[h];simp[ST,Nz,yI,nI]
theorem MS (l:List Vt) (n:Int):(l.filter fun x=>!decide (x.slot≤n))=vR l n:=by
 unfold vR
 exact Lc fun x _=>by
  by_cases h:x.slot≤n
  · rw[decide_eq_true h,decide_eq_false (by omega)];rfl
  rw[decide_eq_false h,decide_eq_true (by omega)];rfl
def oT (p:Bal) (first:Int) (l:List Vt):Bool:=decide (1≤first∧first≤1099511627776) && decide ((p.r=0∧p.n=0)∨(1≤p.r∧1≤p.n)) && uE p first first l
section
variable {p:Bal} {first m:Int} {l r:List Vt} {x:Vt} {i:Nat} {s:Sv}
theorem VM (h:¬(1≤first∧first≤1099511627776)):oT p first l=false:=by unfold oT;rw[decide_eq_false h];rfl
theorem VL (h:¬((p.r=0∧p.n=0)∨(1≤p.r∧1≤p.n))):oT p first l=false:=by unfold oT;rw[decide_eq_false h,Bool.and_false,Bool.false_and]
theorem nM (h1:1≤first∧first≤1099511627776) (h2:(p.r=0∧p.n=0)∨(1≤p.r∧1≤p.n)):oT p first l=uE p first first l:=by unfold oT;rw[decide_eq_true h1,decide_eq_true h2];rfl
theorem uX {α:Type} {l:List α} {i:Nat} {x:α} (h:l[i]? =some x):l.drop i=x::l.drop (i+1):=by
 obtain⟨hl,rfl⟩:=Ea.1 h
 exact Oh hl
theorem sT (hx:l[i]? =some x) (h:¬(m≤x.slot∧x.slot < first+16∧1≤x.b.r∧1≤x.b.n∧¬p.lt x.b∧x.val.length≤2048)):uE p first m (l.drop i)=false:=by
 rw[uX hx,uE,decide_eq_false h];rfl
theorem BZ (hx:l[i]? =some x) (h:m≤x.slot∧x.slot < first+16∧1≤x.b.r∧1≤x.b.n∧¬p.lt x.b∧x.val.length≤2048):uE p first m (l.drop i)=uE p first (x.slot+1) (l.drop (i+1)):=by
 rw[uX hx,uE,decide_eq_true h,Bool.true_and]
theorem dM :uE p first m (l.drop l.length)=true:=by rw[List.drop_length];rfl
theorem qR {l:List En} {x:En} (hx:l[i]? =some x) (h:¬(x.slot=m+1∧x.slot≤1099511627776∧x.val.length≤2048)):tI m (l.drop i)=false:=by
 rw[uX hx,tI,decide_eq_false h];rfl
theorem C5 {l:List En} {x:En} (hx:l[i]? =some x) (h:x.slot=m+1∧x.slot≤1099511627776∧x.val.length≤2048):tI m (l.drop i)=tI (m+1) (l.drop (i+1)):=by
 rw[uX hx,tI,decide_eq_true h,Bool.true_and]
theorem cC {l:List En}:tI m (l.drop l.length)=true:=by rw[List.drop_length];rfl
theorem qF :∀ {l:List En} {n:Int},tI n l=true→∀ (i:Nat) (x:En),l[i]? =some x→x.slot=n+1+i∧x.slot≤1099511627776∧x.val.length≤2048
 | [],_,_,i,x,h=>by simp at h
 | e::l,n,h,i,x,hx=>by
  simp only[tI,Ce,decide_eq_true_eq]at h
  cases i with
  | zero=>
   simp only[Jc,Option.some.injEq]at hx
   subst hx
   have:=h.1
   exact⟨by omega,this.2⟩
  | succ i=>
   simp only[Jp]at hx
   have:=qF h.2 i x hx
   have:=h.1
   exact⟨by omega,by omega,by omega⟩
theorem RA (h:¬((s.p.r=0∧s.p.n=0)∨(1≤s.p.r∧1≤s.p.n∧s.p.n≤5))):chk s=false:=by unfold chk;rw[decide_eq_false h];rfl
theorem kI (h:¬(0≤s.index∧s.index≤1099511627776∧(s.index=0→s.image.length=0)∧s.image.length≤8192)):chk s=false:=by unfold chk;rw[decide_eq_false h,Bool.and_false,Bool.false_and,Bool.false_and,Bool.false_and]
theorem qS (h:tI s.index s.entries=false):chk s=false:=by unfold chk;rw[h,Bool.and_false,Bool.false_and,Bool.false_and]
theorem C8 (h1:(s.p.r=0∧s.p.n=0)∨(1≤s.p.r∧1≤s.p.n∧s.p.n≤5)) (h2:0≤s.index∧s.index≤1099511627776∧(s.index=0→s.image.length=0)∧s.image.length≤8192) (h3:tI s.index s.entries=true):chk s=oT s.p (s.index+s.entries.length+1) s.Bd:=by
 unfold chk oT
 rw[decide_eq_true h1,decide_eq_true h2,h3,decide_eq_true (p:=(s.p.r=0∧s.p.n=0)∨(1≤s.p.r∧1≤s.p.n)) (h1.imp id fun h=>⟨h.1,h.2.1⟩)]
 have e:decide (1≤s.index+(s.entries.length:Int)+1∧s.index+(s.entries.length:Int)+1≤1099511627776)=decide (s.index+(s.entries.length:Int)+1≤1099511627776):=by
  rw[decide_eq_decide];exact⟨fun h=>h.2,fun h=>⟨by have:=h2.1;omega,h⟩⟩
 rw[e]
 simp
end
structure aP (s:Sv):Prop where
 p:(s.p.r=0∧s.p.n=0)∨(1≤s.p.r∧1≤s.p.n∧s.p.n≤5)
 i:0≤s.index∧s.index≤1099511627776∧(s.index=0→s.image.length=0)∧s.image.length≤8192
 e:tI s.index s.entries=true
 n:s.index+s.entries.length+1≤1099511627776
 v:uE s.p (s.index+s.entries.length+1) (s.index+s.entries.length+1) s.Bd=true
theorem tC (s:Sv):chk s=true↔aP s:=by
 unfold chk
 simp only[Ce,decide_eq_true_eq]
 exact⟨fun h=>⟨h.1.1.1.1,h.1.1.1.2,h.1.1.2,h.1.2,h.2⟩,fun h=>⟨⟨⟨⟨h.p,h.i⟩,h.e⟩,h.n⟩,h.v⟩⟩
def Ans (b:Bool) (e:Int):Prop:=(b=true→e=0)∧(b=false→e=21)
theorem Ans.ok {b:Bool} (h:b=true):Ans b 0:=⟨fun _=>rfl,(fun h2=>by rw[h]at h2;cases h2)⟩
theorem Ans.no {b:Bool} (h:b=false):Ans b 21:=⟨(fun h2=>by rw[h]at h2;cases h2),fun _=>rfl⟩
section
variable {P:Program} {l:List Value} {w:World} {ty t t2 e:TypeId} {x y:Operand} {zs cs:List Value} {sz bytes len:Nat} {agg:Bool} {v:Value}
theorem aZ {p1 p2:Array TypeId} {b:Bool} (ht:P.underlying t=some (.func p1 p2 b)) {fn:Fn} {a c:Array Value} (d:Nat):(Op.equalIn (d+1) t (.func fn a c) .nilFunc).run P w=.ok false w:=by
 simp[Op.equalIn,run_underlying ht]
theorem oJ {p1 p2:Array TypeId} {b:Bool} (ht:P.underlying t=some (.func p1 p2 b)) {fn:Fn} {a c:Array Value} (hx:ev l x=some (.func fn a c)):Ex P l (.binOp .eql t x (.const .nilFunc) t2) ty w (.value (.bool false)) w:=jN hx rfl rfl rfl (aZ ht)
theorem C4 {p1 p2:Array TypeId} {b:Bool} (ht:P.underlying t=some (.func p1 p2 b)) (d:Nat):(Op.equalIn (d+1) t .nilFunc .nilFunc).run P w=.ok true w:=by
 simp[Op.equalIn,run_underlying ht]
theorem C0 {p1 p2:Array TypeId} {b:Bool} (ht:P.underlying t=some (.func p1 p2 b)) (hx:ev l x=some .nilFunc):Ex P l (.binOp .eql t x (.const .nilFunc) t2) ty w (.value (.bool true)) w:=jN hx rfl rfl rfl (C4 ht)
theorem MC (h:xQ P t zs sz bytes agg) (ht:P.underlying t=some (.array len e)) {ez:List Value} {es eb:Nat} {ea:Bool} (he:xQ P e ez es eb ea) {xs:List (Nat×Operand)} {vs:List (Nat×Value)} (hv:pN l xs=some vs) (hf:kD (fun i=>some (i*es,es)) zs vs=some cs):
 Ex P l (.build t xs.toArray) ty w (.value (.agg cs.toArray)) w:=fun _ _ _ _=>by
 have hvs:(xs.toArray.map fun(i,x)=>(i,rho l x)).toList=vs:=by simpa using oE hv
 have hf':=cB (fun i=>some (i*es,es)) vs zs cs hf
 obtain⟨i,z,d,hi,hz,hzs,_,_,hd,_⟩:=h.ex
 obtain⟨i2,z2,d2,hi2,hz2,hzs2,hs2,_,hd2,_⟩:=he.ex
 have hzc:z.cells=zs.toArray:=by rw[← hzs]
 have hb:P.built t (xs.toArray.map fun(i,x)=>(i,rho l x)).toList=some cs.toArray:=by
  rw[hvs]
  unfold Program.built
  rw[hi,ht]
  simp[hz,hi2,hs2,hzc,hf']
 have hr:=run_build (P:=P) w t _ _ hb
 simp only[execOp,Sem.run_bind]
 rw[hr]
 rfl
theorem mP (ht:P.underlying t=some (.array len e)) (he:xQ P e zs 1 bytes false) {vs:List Value} {k:IntKind} {n:Int} {i:Nat} (hx:ev l x=some (.agg vs.toArray)) (hy:ev l y=some (.int k n)) (hn:n=(i:Int)) (hi:i < len) (hv:vs[i]? =some v):
 Ex P l (.index t x y) ty w (.value v) w:=fun _ _ _ _=>by
 subst hn
 have h2:(0:Int)≤(i:Int)∧i < len:=⟨by omega,hi⟩
 simp[execOp,zV hx,zV hy,Instr.index,asIntOf,run_underlying ht,vH he,h2,part,fV he,hv]
end
theorem Hp.fresh {w0 w:World} {S:List Nat} {es:List Ent} (H:Hp w0 w S es):∀ x,w.heap.size≤x→x∉bl es:=fun x hx hb=>by have:=pZ H hb;omega
theorem G8 {ps:List (List Value)} {l:List Mk} {c:Int} {i:Nat} {f:Bool} (h:BT ps (PA c) i f) (h2:wT Pq ps l) (hr:∀ (i j:Nat) (a b:Mk),i < j→l[i]? =some a→l[j]? =some b→a.client < b.client):
 (f=true→∃ m,l[i]? =some m∧Fj l c=some m)∧(f=false→Fj l c=none):=by
 have hlo:∀ (k:Nat) (m:Mk),k < i→l[k]? =some m→m.client < c:=fun k m hk hm=>by
  obtain⟨p,hp,hR⟩:=h2.get hm
  have:=h.lo k p hk hp
  rw[gO hR]at this
  exact Md.1 this
 refine⟨fun hf=>?_,fun hf=>?_⟩
 · obtain⟨p,hp,h0⟩:=h.yes hf
   obtain⟨m,hm,hR⟩:=h2.getL hp
   rw[gO hR]at h0
   have hc:=Xh.1 h0
   refine⟨m,hm,?_⟩
   unfold Fj
   rw[List.find?_eq_some_iff_getElem]
   obtain⟨hl,he⟩:=Ea.1 hm
   refine⟨by simpa using hc,i,hl,he,fun j hj=>?_⟩
   have:=hlo j _ hj (Bq (by omega))
   simp;omega
 unfold Fj
 rw[List.find?_eq_none]
 intro m hm
 obtain⟨k,hk⟩:=Dh hm
 obtain⟨p,hp,hR⟩:=h2.get hk
 rcases Nat.lt_trichotomy k i with hki | hki | hki
 · have:=hlo k m hki hk
   simp;omega
 · subst hki
   have:=h.no hf p hp
   rw[gO hR]at this
   simp
   exact fun hh=>this (Xh.2 hh)
 have h3:=h.hi i
 have hil:i < l.length:=by have:=lt_of_get hk;omega
 obtain⟨mi,hmi⟩:=yM hil
 obtain⟨pi,hpi,hRi⟩:=h2.get hmi
 have h4:=h3 pi (Ai _) hpi
 rw[gO hRi]at h4
 have h5:¬mi.client < c:=fun hh=>by have:=Md.2 hh;omega
 have h6:=hr i k mi m hki hmi hk
 simp;omega
theorem jB {l:List Mk} {v:Mk} {i:Nat} (hr:∀ (i j:Nat) (a b:Mk),i < j→l[i]? =some a→l[j]? =some b→a.client < b.client)
 (hi:i≤(l.filter fun x=>!decide (x.client=v.client)).length) (hlo:∀ (k:Nat) (m:Mk),k < i→(l.filter fun x=>!decide (x.client=v.client))[k]? =some m→m.client < v.client)
 (hhi:i=(l.filter fun x=>!decide (x.client=v.client)).length∨∃ m,(l.filter fun x=>!decide (x.client=v.client))[i]? =some m∧¬m.client < v.client):
 (l.filter fun x=>!decide (x.client=v.client)).take i++v::(l.filter fun x=>!decide (x.client=v.client)).drop i=uN l v:=by
 have hp:(l.filter fun x=>!decide (x.client=v.client)).Pairwise fun a b=>a.client < b.client:=by
  refine List.Pairwise.filter _ ?_
  rw[Qk]
  exact fun i j hi hj hij=>hr i j _ _ hij (Bq hi) (Bq hj)
 have hr2:∀ (i j:Nat) (a b:Mk),i < j→(l.filter fun x=>!decide (x.client=v.client))[i]? =some a→(l.filter fun x=>!decide (x.client=v.client))[j]? =some b→a.client < b.client:=fun i j a b hij ha hb=>by
  obtain⟨h1,rfl⟩:=Ea.1 ha
  obtain⟨h2,rfl⟩:=Ea.1 hb
  exact Qk.1 hp i j h1 h2 hij
 have hne:∀ x∈(l.filter fun x=>!decide (x.client=v.client)),x.client≠v.client:=fun x hx=>by simpa using(Dy.1 hx).2
 have key:=(IX hr2 v.client).put (v:=v) (i:=i) (f:=false) hi (fun k a hk ha=>Md.2 (hlo k a hk ha)) (fun k a hk ha=>by
  rcases hhi with h | ⟨m,hm,h⟩
  · have:=lt_of_get ha;omega
  rcases Nat.eq_or_lt_of_le hk with rfl | h2
  · rw[hm]at ha
    simp only[Option.some.injEq]at ha
    subst ha
    have h3:¬sH m.client v.client < 0:=fun hh=>h (Md.1 hh)
    show 0≤sH m.client v.client
    omega
  have h3:=hr2 i k m a h2 hm ha
  have h4:¬sH a.client v.client < 0:=fun hh=>by have:=Md.1 hh;omega
  show 0≤sH a.client v.client
  omega) (fun h=>by cases h) (fun _ a ha h0=>hne a (Fh ha) (Xh.1 h0))
 rw[if_neg (by decide)]at key
 rw[← key,N6]
 congr 1
 · rw[List.filter_filter]
   exact Lc fun x _=>by
    by_cases h:sH x.client v.client < 0
    · have:=Md.1 h
      simp[h];omega
    simp[h]
 congr 1
 rw[List.filter_filter]
 exact Lc fun x _=>by
  by_cases h:0 < sH x.client v.client
  · have:=Tq.1 h
    simp[h];omega
  simp[h]
theorem EW {p:List Value} {x:Mk} {c:Int} (h:Pq p x):(!Iy c p)=!decide (x.client=c):=by rw[TS h]
theorem qI {l:List Mk} {c q:Int} (h:c < 1∨8 < c∨q < 1∨4611686018427387904 < q):uT l c q=l:=by unfold uT;rw[if_pos h]
theorem kW {l:List Mk} {c q:Int} {m:Mk} (hf:Fj l c=some m) (h:q≤m.seq):uT l c q=l:=by
 unfold uT
 split
 · rfl
 rw[hf];simp[h]
theorem nW {l:List Mk} {c q:Int} {m:Mk} (h0:¬(c < 1∨8 < c∨q < 1∨4611686018427387904 < q)) (hf:Fj l c=some m) (h:¬q≤m.seq):uT l c q=uN l ⟨c,q⟩:=by
 unfold uT
 rw[if_neg h0,hf];simp[h]
theorem kV {l:List Mk} {c q:Int} (h0:¬(c < 1∨8 < c∨q < 1∨4611686018427387904 < q)) (hf:Fj l c=none):uT l c q=uN l ⟨c,q⟩:=by
 unfold uT
 rw[if_neg h0,hf]
theorem EV :∀ {l:List Mk} {n:Int},(∀ x∈l,n < x.client∧x.client≤8∧1≤x.seq∧x.seq≤4611686018427387904)→l.Pairwise (fun a b=>a.client < b.client)→sC n l
 | [],_,_,_=>trivial
 | m::l,n,h,hp=>by
  obtain⟨h1,h2⟩:=List.pairwise_cons.1 hp
  obtain⟨a,b,c,d⟩:=h m (by simp)
  exact⟨a,b,c,d,EV (fun x hx=>⟨h1 x hx,(h x (Es _ hx)).2⟩) h2⟩
theorem O8 {l:List Mk} {n:Int} (h:sC n l):l.Pairwise (fun a b=>a.client < b.client):=by
 rw[Qk]
 exact fun i j hi hj hij=>(uA h).2 i j _ _ hij (Bq hi) (Bq hj)
theorem EK {X:Type} {R:X→X→Prop} {l:List X} {v:X} {f g:X→Bool} (hp:l.Pairwise R) (hf:∀ x∈l,f x=true→R x v) (hg:∀ x∈l,g x=true→R v x) (hfg:∀ a∈l,∀ b∈l,f a=true→g b=true→R a b):(l.filter f++v::l.filter g).Pairwise R:=by
 rw[List.pairwise_append,List.pairwise_cons]
 refine⟨hp.filter f,⟨fun a ha=>hg a (Dy.1 ha).1 (Dy.1 ha).2,hp.filter g⟩,fun a ha b hb=>?_⟩
 rcases Cm.1 hb with rfl | hb
 · exact hf a (Dy.1 ha).1 (Dy.1 ha).2
 exact hfg a (Dy.1 ha).1 b (Dy.1 hb).1 (Dy.1 ha).2 (Dy.1 hb).2
theorem CM {l:List Mk} {m:Mk} (h:sC 0 l) (h1:1≤m.client∧m.client≤8) (h2:1≤m.seq∧m.seq≤4611686018427387904):sC 0 (uN l m):=by
 have ha:=(uA h).1
 refine EV (fun x hx=>?_) ?_
 · unfold uN at hx
   rcases Bj.1 hx with hx | hx
   · exact ha x (Dy.1 hx).1
   rcases Cm.1 hx with rfl | hx
   · exact⟨by omega,h1.2,h2⟩
   exact ha x (Dy.1 hx).1
 refine EK (O8 h) (fun x _ hx=>by simpa using hx) (fun x _ hx=>by simpa using hx) (fun a _ b _ h1 h2=>?_)
 simp only[decide_eq_true_eq]at h1 h2
 omega
theorem NR {l:List Mk} {c q:Int} (h:sC 0 l):sC 0 (uT l c q):=by
 unfold uT
 split
 · exact h
 rename_i hc
 split
 · split
   · exact h
   exact CM h ⟨by show 1≤c;omega,by show c≤8;omega⟩ ⟨by show 1≤q;omega,by show q≤_;omega⟩
 exact CM h ⟨by show 1≤c;omega,by show c≤8;omega⟩ ⟨by show 1≤q;omega,by show q≤_;omega⟩
theorem cV :∀ {l:List Rt},(∀ x∈l,nK x)→l.Pairwise (fun a b=>Ox a b=true)→qK l
 | [],_,_=>trivial
 | m::l,h,hp=>by
  obtain⟨h1,h2⟩:=List.pairwise_cons.1 hp
  exact⟨h m (by simp),h1,cV (fun x hx=>h x (Es _ hx)) h2⟩
theorem cU {l:List Rt} (h:qK l):l.Pairwise (fun a b=>Ox a b=true):=by
 rw[Qk]
 exact fun i j hi hj hij=>(sA h).2 i j _ _ hij (Bq hi) (Bq hj)
theorem SQ {l:List Rt} {r:Rt} (h:qK l) (hr:nK r):qK (Hg l r):=by
 have ha:=(sA h).1
 refine cV (fun x hx=>?_) ?_
 · unfold Hg at hx
   rcases Bj.1 hx with hx | hx
   · exact ha x (Dy.1 hx).1
   rcases Cm.1 hx with rfl | hx
   · exact hr
   exact ha x (Dy.1 hx).1
 exact EK (cU h) (fun x _ hx=>hx) (fun x _ hx=>hx) (fun a _ b _ h1 h2=>nL h1 h2)
theorem AW (l:List Rt) (r:Rt):(Hg l r).length≤l.length+1:=by
 have key:∀ l:List Rt,(l.filter fun x=>Ox x r).length+(l.filter fun x=>Ox r x).length≤l.length:=by
  intro l
  induction l with
  | nil=>simp
  | cons a l ih=>
   rw[Gu,Gu]
   have:¬(Ox a r=true∧Ox r a=true):=fun h=>by
    have h2:=nL h.1 h.2
    rw[Rh]at h2;cases h2
   by_cases h1:Ox a r=true <;>by_cases h2:Ox r a=true <;>simp[h1,h2] <;>first | omega | exact absurd ⟨h1,h2⟩ this
 unfold Hg
 rw[Af,Bg]
 have:=key l
 omega
theorem rU.into {b b':Bo} {N:Nat} {n:Nt} (h:rU b N) (hi:b.into n=some b'):rU b' (N+1):=by
 unfold Bo.into at hi
 split at hi
 · split at hi
   · rename_i hm
     simp only[Option.some.injEq]at hi
     subst hi
     exact⟨h.eight,h.chk,SQ h.rts hm,NR h.Yk,Ci (AW _ _) (by have:=h.few;omega)⟩
   cases hi
 split at hi
 · cases hi
 split at hi
 · split at hi
   · rename_i hc
     simp only[Option.some.injEq]at hi
     subst hi
     refine⟨by rw[Ko];exact h.eight,fun s hs=>?_,h.rts,h.Yk,by have:=h.few;show b.rights.length≤N+1;omega⟩
     rcases List.mem_or_eq_of_mem_set hs with hs | rfl
     · exact h.chk s hs
     exact hc
   cases hi
 cases hi
theorem rU.empty :rU Bo.empty 0:=⟨rfl,fun s hs=>by rw[(List.mem_replicate.1 hs).2];rfl,trivial,trivial,Ai _⟩
theorem mF {l:List Mk} (h:sC 0 l):l.length≤8:=by
 have key:∀ (l:List Mk) (n:Int),sC n l→0≤n→n≤8→(l.length:Int)≤8 - n:=by
  intro l
  induction l with
  | nil=>intro n _ _ h;simp;omega
  | cons m l ih=>
   intro n h h0 h8
   have:=ih m.client h.2.2.2.2 (by have:=h.1;omega) h.2.1
   have:=h.1
   rw[Bg];omega
 have:=key l 0 h (by omega) (by omega)
 omega
section
variable {s:Sv} {n:Nt} {b:Bo}
theorem JI (h:n.kind=1):s.goes n=s.raise n.b:=by unfold Sv.goes;rw[if_pos h]
theorem FA (h:n.kind=2):s.goes n=if n.Eb.slot≤s.last then s else({ s with Bd:=Jv s.Bd n.Eb }:Sv).raise n.Eb.b:=by unfold Sv.goes;rw[if_neg (by omega),if_pos h]
theorem E9 (h:n.kind=3):s.goes n=if n.entry.slot=s.last+1 then { s with entries:=s.entries++[n.entry],Bd:=vR s.Bd n.entry.slot } else s:=by unfold Sv.goes;rw[if_neg (by omega),if_neg (by omega),if_pos h]
theorem bX (h:n.kind=4):s.goes n=if n.entry.slot≤s.index then s else { s with index:=n.entry.slot,image:=n.entry.val,entries:=rG s.entries n.entry.slot,Bd:=vR s.Bd n.entry.slot }:=by unfold Sv.goes;rw[if_neg (by omega),if_neg (by omega),if_neg (by omega)]
theorem LE (l:List Vt) (v:Vt):(Jv l v).length≤l.length+1:=by
 have key:∀ l:List Vt,(l.filter fun x=>decide (x.slot < v.slot)).length+(l.filter fun x=>decide (v.slot < x.slot)).length≤l.length:=by
  intro l
  induction l with
  | nil=>simp
  | cons a l ih=>
   rw[Gu,Gu]
   by_cases h1:a.slot < v.slot <;>by_cases h2:v.slot < a.slot <;>simp[h1,h2] <;>omega
 unfold Jv
 rw[Af,Bg]
 have:=key l
 omega
theorem bC (s:Sv) (b:Bal):(s.raise b).Bd=s.Bd∧(s.raise b).entries=s.entries:=by rw[nF];exact⟨rfl,rfl⟩
theorem LY (l:List En) (n:Int):(rG l n).length≤l.length:=by
 have h:=Nh (fun x:En=>decide (n < x.slot)) l
 unfold rG
 split
 · simp
 rename_i e r heq
 rw[heq]at h
 split
 · exact h
 simp
theorem nO (s:Sv) (n:Nt):(s.goes n).Bd.length≤s.Bd.length+1∧(s.goes n).entries.length≤s.entries.length+1:=by
 have hb:(vR s.Bd n.entry.slot).length≤s.Bd.length:=Nh _ _
 have hp:=LE s.Bd n.Eb
 have hi:=LY s.entries n.entry.slot
 unfold Sv.goes
 split
 · obtain⟨h1,h2⟩:=bC s n.b
   rw[h1,h2];omega
 split
 · split
   · omega
   obtain⟨h1,h2⟩:=bC ({ s with Bd:=Jv s.Bd n.Eb }:Sv) n.Eb.b
   rw[h1,h2];exact⟨hp,by show s.entries.length≤_;omega⟩
 split
 · split
   · simp only[Af,List.length_singleton];omega
   omega
 split
 · omega
 exact⟨by show(vR s.Bd n.entry.slot).length≤_;omega,by show(rG s.entries n.entry.slot).length≤_;omega⟩
theorem E4 (h5:n.kind≠5) (h:n.kind < 1∨4 < n.kind∨n.group < 0∨8≤n.group):b.into n=none:=by unfold Bo.into;rw[if_neg h5,if_pos h]
theorem JF (h5:n.kind≠5) (hs:b.groups[n.group.toNat]? =some s) (hc:chk (s.goes n)=false):b.into n=none:=by
 unfold Bo.into
 rw[if_neg h5,hs]
 split
 · rfl
 simp[hc]
theorem nN (h5:n.kind≠5) (h:¬(n.kind < 1∨4 < n.kind∨n.group < 0∨8≤n.group)) (hs:b.groups[n.group.toNat]? =some s) (hc:chk (s.goes n)=true):b.into n=some { b with groups:=b.groups.set n.group.toNat (s.goes n) }:=by
 unfold Bo.into
 rw[if_neg h5,if_neg h,hs]
 simp[hc]
theorem vI (h5:n.kind=5) (h:nK n.right):b.into n=some { b with rights:=Hg b.rights n.right,last:=uT b.last n.client n.seq }:=by unfold Bo.into;rw[if_pos h5,if_pos h]
theorem bT (h5:n.kind=5) (h:¬nK n.right):b.into n=none:=by unfold Bo.into;rw[if_pos h5,if_neg h]
theorem oC (h:aP s):s.Bd.length≤16:=by
 have:=IN h.v (by omega)
 omega
theorem pY (h:aP s):s.entries.length≤1099511627776:=by
 have h1:=h.n
 have h2:=h.i.1
 omega
theorem AQ {b:Bo}:∀ {l:List Nt} {n:Nt},xZ b (l++[n])=(xZ b l).bind fun b'=>b'.into n
 | [],n=>by
  show(match b.into n with | some b'=>xZ b' [] | none=>none)=b.into n
  cases b.into n <;>rfl
 | m::l,n=>by
  show(match b.into m with | some b'=>xZ b' (l++[n]) | none=>none)=(match b.into m with | some b'=>xZ b' l | none=>none).bind fun b'=>b'.into n
  cases h:b.into m with
  | none=>rfl
  | some b'=>exact AQ (b:=b') (l:=l)
theorem qA {b':Bo} {l:List Nt} {i:Nat} (h:xZ b (l.take i)=some b') (hn:l[i]? =some n):xZ b (l.take (i+1))=b'.into n:=by
 rw[xE hn,AQ,h];rfl
theorem kY {b:Bo} {l:List Nt} {i:Nat} (h:xZ b (l.take i)=none):xZ b l=none:=by
 rw[← Eu i l]
 generalize l.take i=x at h
 generalize l.drop i=y
 induction x generalizing b with
 | nil=>cases h
 | cons m x ih=>
  show(match b.into m with | some b'=>xZ b' (x++y) | none=>none)=none
  change (match b.into m with | some b'=>xZ b' x | none=>none)=none at h
  cases hm:b.into m with
  | none=>rfl
  | some b'=>rw[hm]at h;exact ih h
def Bo.zero :Bo:=⟨[],[],[]⟩
def Rep (l:List Nt) (b:Bo) (e:Int):Prop:=(xZ Bo.empty l=some b∧e=0∧rU b l.length)∨(xZ Bo.empty l=none∧b=Bo.zero∧e=21)
theorem Sj.zero (w:World) (ok:Nat→Prop):Sj w ok [Dj,Dj,Dj] Bo.zero:=⟨none,0,none,0,none,0,rfl,Sl.none _ _ _ _,Sl.none _ _ _ _,Sl.none _ _ _ _⟩
theorem eZ {b b':Bo} {l:List Nt} (i:Nat) (h:xZ b l=some b'):∃ c,xZ b (l.take i)=some c:=by
 cases hc:xZ b (l.take i)with
 | some c=>exact⟨c,rfl⟩
 | none=>rw[kY hc]at h;cases h
theorem rU.fews {N:Nat} (h:rU b N):∀ x∈b.groups,x.Bd.length≤1000000000000000000∧x.entries.length≤1000000000000000000:=fun x hx=>by
 have hc:=(tC x).1 (h.chk x hx)
 have h1:=oC hc
 have h2:=pY hc
 exact⟨by omega,by omega⟩
end
section
variable {P:Program} {l:List Value} {w:World} {ty t:TypeId} {x:Operand}
theorem yJ {f off:Nat} {ft:TypeId} (h:yC P t f=some (off,ft)) {a:Addr} (hx:ev l x=some (.pointer (some a))):Ex P l (.fieldAddr t x f) ty w (.value (.pointer (some (a.add off)))) w:=fun _ _ _ _=>by
 unfold yC at h
 split at h
 · rename_i fs hu
   split at h
   · rename_i fd hfd
     split at h
     · rename_i i hi
       split at h
       · cases h
       rename_i hsz
       simp only[Option.some.injEq,Prod.mk.injEq]at h
       obtain⟨rfl,rfl⟩:=h
       simp[execOp,zV hx,Instr.fieldAt,run_underlying hu,hfd,Instr.sureAddr,fieldPlace,sizeOf,typeInfo,hi,hsz]
     cases h
   cases h
 cases h
theorem aY {f off k:Nat} {ft:TypeId} (h:yC P t f=some (off,ft)) {a:Addr} (hx:ev l x=some (.pointer (some (a.add k)))):Ex P l (.fieldAddr t x f) ty w (.value (.pointer (some (a.add (k+off))))) w:=by
 have:=yJ (ty:=ty) (w:=w) h hx
 rwa [tV]at this
end
def awN :Nt:=⟨1,1,⟨2,1⟩,⟨0,⟨0,0⟩,[]⟩,⟨0,[]⟩,⟨0,[],0,0⟩,0,0⟩
def awS :Sv:=⟨⟨2,1⟩,[],0,[],[]⟩
def awB :Bo:={ Bo.empty with groups:=Bo.empty.groups.set 1 awS }
theorem RK :xZ Bo.empty [awN]=some awB:=by
 have h1:Sv.none.goes awN=awS:=rfl
 have h2:chk awS=true:=rfl
 have h3:Bo.empty.into awN=some awB:=by
  unfold Bo.into
  rw[if_neg (by decide),if_neg (by decide)]
  show(match some Sv.none with | some s=>if chk (s.goes awN)=true then some { Bo.empty with groups:=Bo.empty.groups.set 1 (s.goes awN) } else none | none=>none)=_
  simp only[h1,h2,if_true]
  rfl
 unfold xZ
 rw[h3]
 rfl
section more
variable {P:Program} {ds:List Deferred} {Q:vQ} {K:List Value→World→Prop} {all os:List Oper} {l:List Value} {w0 w w':World} {S S':List Nat} {es es':List Ent} {ty t:TypeId} {pos:String} {af:Array Edge} {d:Tmp} {v:Value} {op:Op}
 {zs cs:List Value} {sz bytes:Nat} {agg:Bool}
end more
@[reducible] def rc (A:Option Addr) (b:List UInt8) (c i e:Nat):List Value:=[.slice A b.length c,.int .i64 (i:Int),.int .i64 (e:Int)]
structure Rdr (w:World) (gr:Nat) (A:Option Addr) (c:Nat) (b:List UInt8) (i e:Nat):Prop where
 row:w.heap[gr]? =some (.cells (rc A b c i e).toArray 219 (0,0))
 rd:Rd w A b.length 1 (u8s b)
 apart:∀ a,A=some a→a.block≠gr
 le:i≤b.length
 cap:b.length≤c
 len:b.length≤211106232532900
section rdr
variable {w w':World} {gr:Nat} {A:Option Addr} {c:Nat} {b:List UInt8} {i e:Nat}
end rdr
def mL :List UInt8→Bool×Nat×Nat
 | []=>(false,0,20)
 | x::_=>if 1 < x.toNat then(false,0,21) else(decide (x.toNat=1),1,0)
def vF (b:List UInt8) (most:Int):List UInt8×Nat×Nat:=
 if(yA b most).2.2≠0 then([],0,(yA b most).2.2)
 else if b.length < (yA b most).2.1+(yA b most).1 then([],0,20)
 else((b.drop (yA b most).2.1).take (yA b most).1,(yA b most).2.1+(yA b most).1,0)
theorem fG (b:List UInt8) (most:Int):(yA b most).1 < 2^64∧(yA b most).2.1≤b.length∧(yA b most).2.1≤10∧
 ((yA b most).2.2=0∨(yA b most).2.2=20∨(yA b most).2.2=21∨(yA b most).2.2=22)∧((yA b most).2.2≠0→(yA b most).1=0∧(yA b most).2.1=0)∧
 ((yA b most).2.2=0→(xL b).2.2=0∧(yA b most).1=(xL b).1∧(yA b most).2.1=(xL b).2.1∧((xL b).1:Int)≤max most 0):=by
 have h:=pP b
 by_cases h1:(xL b).2.2=0
 · by_cases h2:max most 0 < ((xL b).1:Int)
   · rw[kG h1 h2];simp
   rw[oK h1 h2];exact⟨h.1,h.2.1,h.2.2.1,.inl rfl,fun h=>absurd rfl h,fun _=>⟨h1,rfl,rfl,by omega⟩⟩
 rw[kH h1]
 simp only
 exact⟨by omega,by omega,by omega,by have:=h.2.2.2.1;omega,fun _=>by simp,fun h=>absurd h h1⟩
def yK (b:List UInt8) (i e:Nat):Nat×Nat×Nat:=if e=0 then((xL (b.drop i)).1,i+(xL (b.drop i)).2.1,(xL (b.drop i)).2.2) else(0,i,e)
def wG (b:List UInt8) (most:Int) (i e:Nat):Nat×Nat×Nat:=if e=0 then((yA (b.drop i) most).1,i+(yA (b.drop i) most).2.1,(yA (b.drop i) most).2.2) else(0,i,e)
def sE (b:List UInt8) (i e:Nat):Bool×Nat×Nat:=if e=0 then((mL (b.drop i)).1,i+(mL (b.drop i)).2.1,(mL (b.drop i)).2.2) else(false,i,e)
def yG (b:List UInt8) (most:Int) (i e:Nat):List UInt8×Nat×Nat:=if e=0 then((vF (b.drop i) most).1,i+(vF (b.drop i) most).2.1,(vF (b.drop i) most).2.2) else([],i,e)
theorem L9 (b:List UInt8):(mL b).2.1≤b.length∧(mL b).2.2 < 100∧((mL b).2.2≠0→(mL b).2.1=0):=by
 cases b with
 | nil=>simp[mL]
 | cons x t=>by_cases h:1 < x.toNat <;>simp[mL,h]
theorem AK (b:List UInt8) (most:Int):(vF b most).2.1≤b.length∧(vF b most).2.2 < 100∧((vF b most).2.2≠0→(vF b most).2.1=0):=by
 have h:=fG b most
 unfold vF
 split
 · simp;omega
 split
 · simp
 simp;omega
def unz (v:Nat):Int:=if v % 2=1 then -((v / 2:Nat):Int) - 1 else((v / 2:Nat):Int)
theorem shr1 (v:Nat):((v:Int)).fdiv (2^(min (1:Int).toNat IntKind.u64.bits))=((v / 2:Nat):Int):=qZ v 1 64
theorem MI (m:Nat) (h:m < 2^63):bits .xor .i64 (-1) (m:Int)=-(m:Int) - 1:=by
 simp only[bits]
 have e2:BitVec.ofInt 64 (-1)=BitVec.allOnes 64:=by decide
 show IntKind.i64.wrap ((BitVec.ofInt 64 (-1)^^^BitVec.ofInt 64 (m:Int)).toNat:Int)=_
 rw[BitVec.ofInt_natCast,e2,BitVec.allOnes_xor,BitVec.toNat_not,BitVec.toNat_ofNat,Ig (by omega),IntKind.wrap_i64]
 omega
theorem mE (b:List UInt8) (i e:Nat):(yK b i e).1 < 2^64:=by
 unfold yK
 split
 · exact(pP _).1
 simp
def WH (w0 w':World) (r:Value) (b:List UInt8):Prop:=
 ∃ gr g cap sp,r=.pointer (some ⟨gr,0,none⟩)∧b.length≤cap∧cap*1≤(u8s b++sp).length∧(g=none→cap=0)∧Hp w0 w' [] [(some gr,219,rc (hd g) b cap 0 0),(g,5,u8s b++sp)]
theorem CD {w0 w:World} {S:List Nat} {es:List Ent} {j k gr c i e:Nat} {g:Option Nat} {b:List UInt8} {sp:List Value} (H:Hp w0 w S es) (h1:es[j]? =some (some gr,219,rc (hd g) b c i e)) (h2:es[k]? =some (g,5,u8s b++sp)) (hjk:j≠k)
 (hc:b.length≤c) (hb:b.length≤211106232532900) (hi:i≤b.length):Rdr w gr (hd g) c b i e:=by
 refine⟨H.at h1,H.rd h2 (yV b) (by decide),?_,hi,hc,hb⟩
 intro a ha
 cases g with
 | none=>simp[hd]at ha
 | some x=>
  simp only[hd,Hy,Option.some.injEq]at ha
  subst ha
  intro h
  simp only at h
  subst h
  exact hjk (H.apart j k _ _ x h1 h2 Y Y)
theorem TH {P:Program} {ds:List Deferred} {Q:vQ} {K:List Value→World→Prop} {all os:List Oper} {l:List Value} {w:World} {op:Op} {ty:TypeId} {pos:String} {af:Array Edge} {d:Tmp}
 {f:FuncId} {args:Array Value} {b:List UInt8} (hx:Ex P l op ty w (.enter f args) w) (hc:zO P f args w fun r w'=>WH w w' r b)
 (h:∀ w' gr g cap sp,b.length≤cap→cap*1≤(u8s b++sp).length→(g=none→cap=0)→Hp w w' [] [(some gr,219,rc (hd g) b cap 0 0),(g,5,u8s b++sp)]→Ops P ds all K Q os (l.set d (.pointer (some ⟨gr,0,none⟩))) w'):
 Ops P ds all K Q (⟨some d,op,ty,pos,af,none⟩::os) l w:=
 tF hx hc fun r w' ⟨gr,g,cap,sp,h1,h2,h3,h4,h5⟩=>by rw[h1];exact h w' gr g cap sp h2 h3 h4 h5
end Go.Proofs.YtjoeklkmnfaabaaGreat
namespace Go.Proofs.YtjoeklkmnfaabaaGreat
open Go Go.RowKit
set_option linter.unusedVariables false
set_option linter.unusedSimpArgs false
attribute [local irreducible] yT Ops zO Cd
set_option maxRecDepth 100000
set_option maxHeartbeats 4000000
theorem pl219 :wW Tryz.prog 219=some [(0,1),(1,1),(2,1)]:=by kernel_rfl
theorem OU (gv:Nat) (w0:World) (hg:w0.heap[gv]? =some (.cells [.int .u64 0].toArray 118 (0,0))) (A:Option Addr) (b:List UInt8) (c:Nat) (hr:Rd w0 A b.length 1 (u8s b)) (hb:b.length≤211106232532992):Aj 205 #[Ac A b.length c,Ah gv] w0 (fun r w'=>r=.tuple #[Aa ((xL b).2.1:Int),Aa ((xL b).2.2:Int)]∧Hp w0 w' [gv] [(some gv,118,[.int .u64 ((xL b).1:Int)])]):=by
 refine zE Tryz.func205 Tryz.ntmps205 Y<|cR e13 ?_
 have H:=Hp.old hg
 refine Rq<|Xa Y<|Xa Y<|Xr e13<|Rq<|Xm Y<|wQ (EC VN Y) (bL A b c _ hr hb)<|Xm Y<|Xe Y Y<|Ae e13<|Xe Y Y<|Xe Y Y<|OW nC H 0 Y Y Y Y (by first|exact NL Y|simp[zG]) Y<|fun w1 H1=>Xa Y<|Xa Y<|Xr e13<|Rq<|Xm Y<|Xm Y<|Xa Y<|Xa Y<|Xr e13<|J5<|Kw Y Y Y<|⟨Y,H1⟩
theorem KY (gv:Nat) (w0:World) (hg:w0.heap[gv]? =some (.cells [Dj].toArray 73 (0,0))) (gm:Nat) (most:Int) (hgm:w0.heap[gm]? =some (.cells [Aa most].toArray 3 (0,0))) (hlo:-9223372036854775808≤most) (hhi:most≤9223372036854775807) (A:Option Addr) (b:List UInt8) (c:Nat) (hr:Rd w0 A b.length 1 (u8s b)) (hb:b.length≤211106232532992) (hbc:b.length≤c):Aj 207 #[Ac A b.length c,Ah gm,Ah gv] w0 (fun r w'=>r=.tuple #[Aa ((vF b most).2.1:Int),Aa ((vF b most).2.2:Int)]∧∃ g cap sp,(vF b most).1.length≤cap∧cap*1≤(u8s (vF b most).1++sp).length∧(g=none→cap=0)∧Hp w0 w' [gv] [(some gv,73,[.slice (hd g) (vF b most).1.length cap]),(g,5,u8s (vF b most).1++sp)]):=by
 have hbd:=fG b most
 refine zE Tryz.func207 Tryz.ntmps207 Y<|cR e38 ?_
 have H:=Hp.old hg
 refine Rq<|Xa Y<|Xa Y<|Xr e38<|Rq<|Xm Y<|OV (EL ty3 Y (show w0.cell? ⟨gm,0,none⟩=some (Aa most) by simp[World.cell?,hgm]))<|wQ (EC gf208 Y) (FO A b c most _ hr hb hlo hhi)<|Xm Y<|Ae e38<|Xe Y Y<|Xe Y Y<|Xe Y Y<|Xa Y<|Ae e38<|Xa Y<|Xa Y<|Xr e38<|J1<|Rq<|Xm Y<|OT (yR Y Y) (fun hp17=>?_) (fun hp17=>?_)
 have ht:vF b most=([],0,(yA b most).2.2):=if_pos (by omega)
 refine Xr e38<|J3 Y<|Rq<|Xm Y<|Xa Y<|Xa Y<|Xr e38<|J5<|Kw Y Y Y ?_
 rw[ht]
 exact⟨Y,none,0,[],Ai _,by simp,fun _=>Y,H.nil 5⟩
 have h0:(yA b most).2.2=0:=by omega
 refine Xr e38<|J4 Y<|J6<|J1<|Rq<|Xm Y<|OV (ES Hf Y)<|Xm Y<|OV (uI Y Y (Ad _ (by omega)))<|Ae e38<|Xm Y<|OT (zR Y Y) (fun hp24=>?_) (fun hp24=>?_)
 have ht:vF b most=([],0,20):=(if_neg (by omega)).trans (if_pos (by omega))
 refine Xr e38<|J3 Y<|Rq<|Xa Y<|Xa Y<|Xr e38<|J5<|Kw Y Y Y ?_
 rw[ht]
 exact⟨Y,none,0,[],Ai _,by simp,fun _=>Y,H.nil 5⟩
 have ht:vF b most=((b.drop (yA b most).2.1).take (yA b most).1,(yA b most).2.1+(yA b most).1,0):=(if_neg (by omega)).trans (if_neg (by omega))
 have hle:(yA b most).2.1+(yA b most).1≤b.length:=by omega
 have hrm:=hr.mid hle
 have hlm:((b.drop (yA b most).2.1).take (yA b most).1).length=(yA b most).1:=by rw[Aw,Bh];omega
 have e1:(((yA b most).2.1:Nat):Int)+(((yA b most).1:Nat):Int)=(((yA b most).2.1+(yA b most).1:Nat):Int):=by omega
 refine Xr e38<|J4 Y<|J6<|Rq<|Xm Y<|Xm Y<|Xm Y<|Xm Y<|Ae e38<|OV (zL Y Y ((Ad _ (by omega)).trans e1))<|Xm Y<|Xm Y<|OV (zL Y Y ((Ad _ (by omega)).trans e1))<|Ae e38<|OV (aH Hf ty5 (lo:=(yA b most).2.1) (hi:=(yA b most).2.1+(yA b most).1) (mx:=(yA b most).2.1+(yA b most).1) (n:=((b.drop (yA b most).2.1).take (yA b most).1).length) (m:=((b.drop (yA b most).2.1).take (yA b most).1).length) Y Y Y Y (by omega) (by omega) (by omega))<|yW (EC jS Y) (vM _ _ _ _ hrm (by omega))<|fun w1 g1 c1 sp1 hm1 hc1 hg1 Hc=>have H1:=(H.call0 Hc);OW xG H1 0 Y Y Y Y (by first|exact NL Y|simp[zG]) Y<|fun w2 H2=>Xr e38<|Rq<|Xm Y<|Xm Y<|OV (zL Y Y ((Ad _ (by omega)).trans e1))<|Xa Y<|Ae e38<|Xa Y<|Xr e38<|J5<|Kw Y Y Y ?_
 rw[ht]
 exact⟨Y,g1,c1,sp1,hm1,hc1,hg1,H2⟩
theorem AJ (v:Value) (gr:Nat) (A:Option Addr) (c:Nat) (b:List UInt8) (i e:Nat) (w0:World) (hR:Rdr w0 gr A c b i e) (he:e≠0):Aj 204 #[Ah gr,v] w0 (fun r w'=>r=.bool false∧w'=w0):=by
 refine zE Tryz.func204 Tryz.ntmps204 Y<|cR e54 ?_
 have H:=Hp.old hR.row
 have hle:=hR.le
 have hln:=hR.len
 have hcp:=hR.cap
 refine Rq<|Xa Y<|Xr e54<|J1<|Rq<|Xm Y<|Jt (yE Uc Y) (by simp)<|Xm Y<|Ae e54<|OY Y<|Xm Y<|OY Y<|Xc Y<|Ae e54<|OY Y<|Xf mN Y<|OY Y<|OV (EL oA Y (H.cell (i:=0) Y Y))<|Ae e54<|OY Y<|Qg (yR Y Y) (by omega)<|Xu Y Y<|Xr e54<|J3 Y<|Rq<|Xa Y<|Xr e54<|J5<|Cj Y Y<|⟨Y,Y⟩
theorem DO (gr:Nat) (A:Option Addr) (c:Nat) (b:List UInt8) (i e:Nat) (w0:World) (hR:Rdr w0 gr A c b i e) (he:e=0) (fc:FuncId) (cap:List Value) (hf:yB Tryz.prog fc=true) (R:Nat→Nat→World→Prop) (hc:∀ w1,Hp w0 w1 [] []→Aj fc (Ac (wE A i b.length 1) (b.drop i).length (b.drop i).length::cap).toArray w1 (fun r w2=>∃ k f:Nat,r=.tuple #[Aa k,Aa f]∧R k f w2)) (hrow:∀ k f w2,R k f w2→w2.heap[gr]? =some (.cells (rc A b c i e).toArray 219 (0,0))) (hle2:∀ k f w2,R k f w2→i+k≤b.length∧f < 100) (hz:∀ k f w2,R k f w2→f≠0→k=0):Aj 204 #[Ah gr,.func (.func fc) #[] cap.toArray] w0 (fun r w'=>∃ k f w2,R k f w2∧r=.bool (decide (f=0))∧Hp w2 w' [gr] [(some gr,219,rc A b c (i+k) f)]):=by
 refine zE Tryz.func204 Tryz.ntmps204 Y<|cR e54 ?_
 have H:=Hp.old hR.row
 have hle:=hR.le
 have hln:=hR.len
 have hcp:=hR.cap
 refine Rq<|Xa Y<|Xr e54<|J1<|Rq<|Xm Y<|Jt (yE Uc Y) (by simp)<|Xm Y<|Ae e54<|OY Y<|Xm Y<|OY Y<|Xc Y<|Ae e54<|OY Y<|Xf mN Y<|OY Y<|OV (EL oA Y (H.cell (i:=0) Y Y))<|Ae e54<|OY Y<|Jt (yR Y Y) (by omega)<|Xu Y Y<|Xr e54<|J4 Y<|J6<|J1<|SP 20 1 yF (by kernel_rfl) Y Y ?_
 rintro w1 hw1
 have H1:=Hp.drew H;rw[← hw1]at H1
 refine SV (zK Y)<|SV (zK Y)<|SV (yH Y)<|SV (EF dX Y)<|vN e54<|SV (EL xG Y (H1.cell (i:=0) Y Y))<|SV (zK Y)<|SV (yH Y)<|SV (EF gW Y)<|vN e54<|SV (EL ty3 Y (H1.cell (i:=0) Y Y))<|SV (zK Y)<|SV (yH Y)<|SV (EF dX Y)<|vN e54<|SV (EL xG Y (H1.cell (i:=0) Y Y))<|SV (ES Hf Y)<|SV (zK Y)<|SV (yH Y)<|vN e54<|SV (EF dX Y)<|SV (EL xG Y (H1.cell (i:=0) Y Y))<|SV (ES Hf Y)<|SV (aH Hf ty5 (lo:=i) (hi:=b.length) (mx:=b.length) (n:=(b.drop i).length) (m:=(b.drop i).length) Y Y Y Y (by omega) Bh Bh)<|xP<|aV (xD hf Y Y) (hc _ (by rw[hw1];exact(Hp.refl w0).drew))<|fun k f w2 hk=>have H2:=Hp.old (hrow k f _ hk);have hk1:=hle2 k f _ hk;have hk2:=hz k f _ hk;Ae e54<|Xm Y<|OE<|SV (xA Y Y)<|SV (xA Y Y)<|SV (zP Y)<|vN e54<|SV (zP Y)<|xP<|cR e54 ?_
 refine J1<|Rq<|Xm Y<|OT (yR Y Y) (fun hp41=>?_) (fun hp41=>?_)
 refine Xr e54<|J3 Y<|Rq<|Xm Y<|Xm Y<|Xc Y<|Xf mN Y<|Ae e54<|OW oA H2 0 Y Y Y Y (by first|exact NL Y|simp[zG]) Y<|fun w3 H3=>Xr e54<|Rq<|Xa Y<|Xr e54<|J5<|Cj Y Y<|⟨k,f,_,hk,by rw[decide_eq_false (by omega)],?_⟩
 have h0:=hk2 (by omega)
 subst h0
 exact H3
 have h5:f=0:=by omega
 refine Xr e54<|J4 Y<|J6<|Rq<|Xm Y<|Xc Y<|Xf gW Y<|OV (EL ty3 Y (H2.cell (i:=0) Y Y))<|Ae e54<|Xm Y<|OV (zL Y Y ((Ad _ (by omega)).trans (show((i:Int)+(k:Int))=((i+k:Nat):Int) by omega)))<|Xc Y<|Xf gW Y<|Ae e54<|OW ty3 H2 0 Y Y Y Y (by first|exact NL Y|simp[zG]) Y<|fun w3 H3=>Xr e54<|Rq<|Xa Y<|Xr e54<|J5<|Cj Y Y<|⟨k,f,_,hk,by rw[decide_eq_true (by omega)],?_⟩
 subst h5
 subst he
 exact H3
theorem TN (A:Option Addr) (b:List UInt8) (c:Nat) (w0:World) (hr:Rd w0 A b.length 1 (u8s b)) (hb:b.length≤211106232532900):Aj 104 #[Ac A b.length c] w0 (fun r w'=>WH w0 w' r b):=by
 refine zE Tryz.func104 Tryz.ntmps104 Y<|cR e7 ?_
 have H:=Hp.refl w0
 refine Rq<|Xa Y<|Xr e7<|Rq<|Xm Y<|yW (EC jS Y) (vM A b c _ (hr.to0 H) (by omega))<|fun w1 g1 c1 sp1 hm1 hc1 hg1 Hc=>have H1:=H.call0 Hc;OV (EB ty219 pl219 Y Y)<|zW Y Y H1<|fun w2 g2 H2 hg2=>Ae e7<|Xa Y<|Xr e7<|J5<|Cj Y Y<|⟨g2,g1,c1,sp1,Y,hm1,hc1,hg1,H2.pick [1,0] (by decide)⟩
theorem W6 (gr:Nat) (A:Option Addr) (c:Nat) (b:List UInt8) (i e:Nat) (w0:World) (hR:Rdr w0 gr A c b i e) (he:e=0):Aj 182 #[Ah gr] w0 (fun r w'=>r=.int .u64 ((yK b i e).1:Int)∧Hp w0 w' [gr] [(some gr,219,rc A b c (yK b i e).2.1 (yK b i e).2.2)]):=by
 refine zE Tryz.func182 Tryz.ntmps182 Y<|cR e9 ?_
 have H:=Hp.old hR.row
 have hle:=hR.le
 have hln:=hR.len
 have hcp:=hR.cap
 refine Rq<|Xa Y<|Xr e9<|Rq<|OA nC H<|fun w1 g1 H1 hg1=>OW nC H1 1 Y Y Y Y (by first|exact NL Y|simp[zG]) Y<|fun w2 H2=>Xr e9<|J1<|Rq<|Xm Y<|OV (wH Y Y) ?_
 have hR1:Rdr w2 gr A c b i e:=⟨H2.at (i:=0) rfl,hR.rd.to H2 (by intro a ha;simp;exact hR.apart a ha),hR.apart,hR.le,hR.cap,hR.len⟩
 have hgv:=H2.at (i:=1) rfl
 have hne:gr≠g1:=fun h=>absurd (H2.apart 0 1 _ _ gr rfl rfl rfl (by rw[h])) (by decide)
 have hbd:=pP (b.drop i)
 have hdl:(b.drop i).length=b.length - i:=Bh
 refine BA (EC JJ rfl) (DO gr A c b i e _ hR1 he 205 [Ah g1] gf205 (fun k f wz=>k=(xL (b.drop i)).2.1∧f=(xL (b.drop i)).2.2∧Hp w2 wz [g1] [(some g1,118,[.int .u64 ((xL (b.drop i)).1:Int)])]) (fun w1x H1x=>(OU g1 w1x (H1x.keep hgv (by simp)) _ (b.drop i) _ ((hR1.rd.to0 H1x).tail hle) (by omega)).mono fun r w2 hh=>⟨_,_,hh.1,rfl,rfl,H1x.then hh.2⟩) (fun k f w2 hh=>hh.2.2.keep hR1.row (by simp[hne])) (fun k f w2 hh=>by obtain⟨h1,h2,_⟩:=hh;omega) (fun k f w2 hh h0=>by obtain⟨h1,h2,_⟩:=hh;omega))<|fun k f w2x w3 hk hm=>?_
 obtain⟨hk1,hk2,hk3⟩:=hk
 have H3:=((H2.call1 (i:=1) rfl hk3).call1 (i:=0) rfl hm).pick [3,2] (by decide)
 refine Xn Y<|Xr e9<|wP Y (fun hb7=>?_) (fun hb7=>?_)
 have hf0:f≠0:=by simpa using hb7
 have hz0:(xL (b.drop i)).1=0:=by omega
 refine Rq<|Xa Y<|Xr e9<|J5<|Cj Y Y ?_
 have hs:yK b i e=((xL (b.drop i)).1,i+(xL (b.drop i)).2.1,(xL (b.drop i)).2.2):=if_pos he
 rw[hs]
 rw[hk1,hk2]at H3
 rw[hz0]
 exact⟨Y,H3.pick [0] (by decide)⟩
 refine J6<|Rq<|OV (EL nC Y (H3.cell (i:=1) Y Y))<|Xa Y<|Xr e9<|J5<|Cj Y Y ?_
 have hs:yK b i e=((xL (b.drop i)).1,i+(xL (b.drop i)).2.1,(xL (b.drop i)).2.2):=if_pos he
 rw[hs]
 rw[hk1,hk2]at H3
 exact⟨Y,H3.pick [0] (by decide)⟩
theorem TJ (gr:Nat) (A:Option Addr) (c:Nat) (b:List UInt8) (i e:Nat) (w0:World) (hR:Rdr w0 gr A c b i e) (he:e≠0):Aj 182 #[Ah gr] w0 (fun r w'=>r=.int .u64 ((yK b i e).1:Int)∧Hp w0 w' [gr] [(some gr,219,rc A b c (yK b i e).2.1 (yK b i e).2.2)]):=by
 refine zE Tryz.func182 Tryz.ntmps182 Y<|cR e9 ?_
 have H:=Hp.old hR.row
 have hle:=hR.le
 have hln:=hR.len
 have hcp:=hR.cap
 refine Rq<|Xa Y<|Xr e9<|Rq<|OA nC H<|fun w1 g1 H1 hg1=>OW nC H1 1 Y Y Y Y (by first|exact NL Y|simp[zG]) Y<|fun w2 H2=>Xr e9<|J1<|Rq<|Xm Y<|OV (wH Y Y) ?_
 have hR1:Rdr w2 gr A c b i e:=⟨H2.at (i:=0) rfl,hR.rd.to H2 (by intro a ha;simp;exact hR.apart a ha),hR.apart,hR.le,hR.cap,hR.len⟩
 refine wQ (EC JJ Y) (AJ _ gr A c b i e _ hR1 he)<|Xn Y<|Xr e9<|J3 Y<|Rq<|Xa Y<|Xr e9<|J5<|Cj Y Y ?_
 have hs:yK b i e=(0,i,e):=if_neg he
 rw[hs]
 exact⟨Y,H2.pick [0] (by decide)⟩
theorem num_rd (gr:Nat) (A:Option Addr) (c:Nat) (b:List UInt8) (i e:Nat) (w0:World) (hR:Rdr w0 gr A c b i e):Aj 182 #[Ah gr] w0 (fun r w'=>r=.int .u64 ((yK b i e).1:Int)∧Hp w0 w' [gr] [(some gr,219,rc A b c (yK b i e).2.1 (yK b i e).2.2)]):=by
 by_cases he:e=0
 exact W6 gr A c b i e w0 hR he
 exact TJ gr A c b i e w0 hR he
theorem SF (gr:Nat) (A:Option Addr) (c:Nat) (b:List UInt8) (i e:Nat) (w0:World) (hR:Rdr w0 gr A c b i e) (most:Int) (hlo:-9223372036854775808≤most) (hhi:most≤9223372036854775807) (he:e=0):Aj 183 #[Ah gr,Aa most] w0 (fun r w'=>∃ g cap sp,r=.slice (hd g) (yG b most i e).1.length cap∧(yG b most i e).1.length≤cap∧cap*1≤(u8s (yG b most i e).1++sp).length∧(g=none→cap=0)∧Hp w0 w' [gr] [(some gr,219,rc A b c (yG b most i e).2.1 (yG b most i e).2.2),(g,5,u8s (yG b most i e).1++sp)]):=by
 refine zE Tryz.func183 Tryz.ntmps183 Y<|cR e10 ?_
 have H:=Hp.old hR.row
 have hle:=hR.le
 have hln:=hR.len
 have hcp:=hR.cap
 refine Rq<|zW Y Y H<|fun w1 g1 H1 hg1=>Xa Y<|Xr e10<|Rq<|OA xG H1<|fun w2 g2 H2 hg2=>Xr e10<|Rq<|Xm Y<|OV (wH Y Y) ?_
 have hR1:Rdr w2 gr A c b i e:=⟨H2.at (i:=0) rfl,hR.rd.to H2 (by intro a ha;simp;exact hR.apart a ha),hR.apart,hR.le,hR.cap,hR.len⟩
 have hgm:=H2.at (i:=1) rfl
 have hgv:=H2.at (i:=2) rfl
 have hne:gr≠g2:=fun h=>absurd (H2.apart 0 2 _ _ gr rfl rfl rfl (by rw[h])) (by decide)
 have hbd:=AK (b.drop i) most
 have hdl:(b.drop i).length=b.length - i:=Bh
 refine BA (EC JJ rfl) (DO gr A c b i e _ hR1 he 207 [Ah g1,Ah g2] gf207 (fun k f wz=>k=(vF (b.drop i) most).2.1∧f=(vF (b.drop i) most).2.2∧∃ g cap sp,(vF (b.drop i) most).1.length≤cap∧cap*1≤(u8s (vF (b.drop i) most).1++sp).length∧(g=none→cap=0)∧Hp w2 wz [g2] [(some g2,73,[.slice (hd g) (vF (b.drop i) most).1.length cap]),(g,5,u8s (vF (b.drop i) most).1++sp)]) (fun w1x H1x=>(KY g2 w1x (H1x.keep hgv (by simp)) g1 most (H1x.keep hgm (by simp)) hlo hhi _ (b.drop i) _ ((hR1.rd.to0 H1x).tail hle) (by omega) (Ai _)).mono fun r w2 hh=>(let ⟨h1,g,cap,sp,h2,h3,h4,h5⟩:=hh;⟨_,_,h1,rfl,rfl,g,cap,sp,h2,h3,h4,H1x.then h5⟩)) (fun k f w2 hh=>(let ⟨_,_,g,cap,sp,h2,h3,h4,h5⟩:=hh;h5.keep hR1.row (by simp[hne]))) (fun k f w2 hh=>by obtain⟨h1,h2,_⟩:=hh;omega) (fun k f w2 hh h0=>by obtain⟨h1,h2,_⟩:=hh;omega))<|fun k f w2x w3 hk hm=>?_
 obtain⟨hk1,hk2,g,cap,sp,hk4,hk5,hk6,hk3⟩:=hk
 have H3:=((H2.call1 (i:=2) rfl hk3).call1 (i:=0) rfl hm).pick [5,1,3,4] (by decide)
 refine Xr e10<|Rq<|OV (EL xG Y (H3.cell (i:=2) Y Y))<|Xa Y<|Xr e10<|J5<|Cj Y Y ?_
 have hs:yG b most i e=((vF (b.drop i) most).1,i+(vF (b.drop i) most).2.1,(vF (b.drop i) most).2.2):=if_pos he
 rw[hs]
 rw[hk1,hk2]at H3
 exact⟨g,cap,sp,Y,hk4,hk5,hk6,H3.pick [0,3] (by decide)⟩
theorem NJ (gr:Nat) (A:Option Addr) (c:Nat) (b:List UInt8) (i e:Nat) (w0:World) (hR:Rdr w0 gr A c b i e) (most:Int) (hlo:-9223372036854775808≤most) (hhi:most≤9223372036854775807) (he:e≠0):Aj 183 #[Ah gr,Aa most] w0 (fun r w'=>∃ g cap sp,r=.slice (hd g) (yG b most i e).1.length cap∧(yG b most i e).1.length≤cap∧cap*1≤(u8s (yG b most i e).1++sp).length∧(g=none→cap=0)∧Hp w0 w' [gr] [(some gr,219,rc A b c (yG b most i e).2.1 (yG b most i e).2.2),(g,5,u8s (yG b most i e).1++sp)]):=by
 refine zE Tryz.func183 Tryz.ntmps183 Y<|cR e10 ?_
 have H:=Hp.old hR.row
 have hle:=hR.le
 have hln:=hR.len
 have hcp:=hR.cap
 refine Rq<|zW Y Y H<|fun w1 g1 H1 hg1=>Xa Y<|Xr e10<|Rq<|OA xG H1<|fun w2 g2 H2 hg2=>Xr e10<|Rq<|Xm Y<|OV (wH Y Y) ?_
 have hR1:Rdr w2 gr A c b i e:=⟨H2.at (i:=0) rfl,hR.rd.to H2 (by intro a ha;simp;exact hR.apart a ha),hR.apart,hR.le,hR.cap,hR.len⟩
 refine wQ (EC JJ Y) (AJ _ gr A c b i e _ hR1 he)<|Xr e10<|Rq<|OV (EL xG Y (H2.cell (i:=2) Y Y))<|Xa Y<|Xr e10<|J5<|Cj Y Y ?_
 have hs:yG b most i e=([],i,e):=if_neg he
 rw[hs]
 exact⟨none,0,[],Y,Ai _,by simp,fun _=>Y,(H2.pick [0] (by decide)).nil 5⟩
theorem SE (gr:Nat) (A:Option Addr) (c:Nat) (b:List UInt8) (i e:Nat) (w0:World) (hR:Rdr w0 gr A c b i e) (most:Int) (hlo:-9223372036854775808≤most) (hhi:most≤9223372036854775807):Aj 183 #[Ah gr,Aa most] w0 (fun r w'=>∃ g cap sp,r=.slice (hd g) (yG b most i e).1.length cap∧(yG b most i e).1.length≤cap∧cap*1≤(u8s (yG b most i e).1++sp).length∧(g=none→cap=0)∧Hp w0 w' [gr] [(some gr,219,rc A b c (yG b most i e).2.1 (yG b most i e).2.2),(g,5,u8s (yG b most i e).1++sp)]):=by
 by_cases he:e=0
 exact SF gr A c b i e w0 hR most hlo hhi he
 exact NJ gr A c b i e w0 hR most hlo hhi he
theorem XG (gr:Nat) (A:Option Addr) (c:Nat) (b:List UInt8) (i e:Nat) (w0:World) (hR:Rdr w0 gr A c b i e):Aj 149 #[Ah gr] w0 (fun r w'=>r=Aa (unz (yK b i e).1)∧Hp w0 w' [gr] [(some gr,219,rc A b c (yK b i e).2.1 (yK b i e).2.2)]):=by
 refine zE Tryz.func149 Tryz.ntmps149 Y<|cR e16<|Rq<|Xa Y<|Xr e16<|Rq<|Xm Y<|OC (EC gf182 Y) (num_rd gr A c b i e _ hR)<|fun w1 H1=>have hlt:=mE b i e;?_
 have hu:unz (yK b i e).1=if(yK b i e).1 % 2=1 then -(((yK b i e).1 / 2:Nat):Int) - 1 else(((yK b i e).1 / 2:Nat):Int):=rfl
 generalize hN:(yK b i e).1=N at hlt hu
 refine Xa Y<|Xr e16<|J1<|Rq<|Xm Y<|OV (HY Y Y (and1 _ hlt))<|OT (yU Y Y) (fun hp8=>?_) (fun hp8=>?_)
 rw[if_pos (by omega)]at hu
 refine Xr e16<|J3 Y<|Rq<|Xm Y<|OV (oW Y Y (by omega) (shr1 _))<|OV (xJ Tryz.underlying3 Lp Y (Ad _ (by omega)))<|OV (FK Y (MI _ (by omega)))<|Ae e16<|Xa Y<|Xr e16<|J5<|Cj Y Y<|⟨?_,H1⟩
 rw[hu]
 rw[if_neg (by omega)]at hu
 refine Xr e16<|J4 Y<|J6<|Rq<|Xm Y<|OV (oW Y Y (by omega) (shr1 _))<|OV (xJ Tryz.underlying3 Lp Y (Ad _ (by omega)))<|Xa Y<|Xr e16<|J5<|Cj Y Y<|⟨?_,H1⟩
 rw[hu]
theorem QT (gr:Nat) (A:Option Addr) (c:Nat) (b:List UInt8) (i e:Nat) (w0:World) (hR:Rdr w0 gr A c b i e):Aj 180 #[Ah gr] w0 (fun r w'=>r=.tuple #[Aa (e:Int),Aa ((if e=0 then 0 else i:Nat):Int)]∧Hp w0 w' [] []):=by
 refine zE Tryz.func180 Tryz.ntmps180 Y<|cR e19 ?_
 have H:=Hp.old hR.row
 have hle:=hR.le
 have hln:=hR.len
 have hcp:=hR.cap
 have Hz:=Hp.refl w0
 refine Rq<|Xa Y<|Xa Y<|Xr e19<|J1<|Rq<|Xm Y<|Jt (yE Uc Y) (by simp)<|Xr e19<|J4 Y<|J6<|J1<|Rq<|Xm Y<|Xc Y<|Xf mN Y<|OV (EL oA Y (H.cell (i:=0) Y Y))<|Ae e19<|OT (yU Y Y) (fun hp10=>?_) (fun hp10=>?_)
 have he:e=0:=by omega
 refine Xr e19<|J3 Y<|Rq<|Xa Y<|Xa Y<|Xr e19<|J5<|Kw Y Y Y ?_
 rw[if_pos he]
 subst he
 exact⟨Y,Hp.refl _⟩
 have he:e≠0:=by omega
 refine Xr e19<|J4 Y<|J6<|J1<|uU yF (by kernel_rfl) ?_
 rintro w1 hw1
 have H1:=Hp.drew H;rw[← hw1]at H1
 refine SV (zK Y)<|SV (yH Y)<|SV (EF mN Y)<|SV (EL oA Y (H1.cell (i:=0) Y Y))<|vN e19<|SV (zK Y)<|SV (yH Y)<|SV (EF gW Y)<|SV (EL ty3 Y (H1.cell (i:=0) Y Y))<|vN e19<|SV (zP Y)<|SV (zP Y)<|xP<|cR e19<|J5<|Kw Y Y Y ?_
 rw[if_neg he]
 exact⟨Y,by rw[hw1];exact(Hp.refl w0).drew⟩
theorem X9 (gr:Nat) (A:Option Addr) (c:Nat) (b:List UInt8) (i e:Nat) (w0:World) (hR:Rdr w0 gr A c b i e):Aj 105 #[Ah gr] w0 (fun r w'=>r=Aa ((if e=0∧i < b.length then 24 else e:Nat):Int)∧Hp w0 w' [] []):=by
 refine zE Tryz.func105 Tryz.ntmps105 Y<|cR e26 ?_
 have H:=Hp.old hR.row
 have hle:=hR.le
 have hln:=hR.len
 have hcp:=hR.cap
 have Hz:=Hp.refl w0
 refine Rq<|Xa Y<|Xr e26<|J1<|Rq<|Xm Y<|Jt (yE Uc Y) (by simp)<|Xr e26<|J4 Y<|J6<|J1<|J1<|uU yF (by kernel_rfl) ?_
 rintro w1 hw1
 have H1:=Hp.drew H;rw[← hw1]at H1
 refine SV (zK Y)<|SV (yH Y)<|SV (EF mN Y)<|SV (EL oA Y (H1.cell (i:=0) Y Y))<|vN e26<|vG (yU Y Y) (fun hp9=>?_) (fun hp9=>?_)
 refine SV (zK Y)<|yS Y<|SV (zK Y)<|vN e26<|yS Y<|SV (yH Y)<|yS Y<|SV (EF gW Y)<|vN e26<|yS Y<|SV (EL ty3 Y (H1.cell (i:=0) Y Y))<|yS Y<|SV (zK Y)<|vN e26<|yS Y<|SV (yH Y)<|yS Y<|SV (EF dX Y)<|vN e26<|yS Y<|SV (EL xG Y (H1.cell (i:=0) Y Y))<|yS Y<|SV (ES Hf Y)<|vN e26<|yS Y<|vG (zR Y Y) (fun hp20=>?_) (fun hp20=>?_)
 refine SV (xS Y Y)<|xP<|cR e26<|J3 Y<|Rq<|Xa Y<|Xr e26<|J5<|Cj Y Y ?_
 rw[if_pos (by omega)]
 exact⟨Y,by rw[hw1];exact(Hp.refl w0).drew⟩
 refine SV (xS Y Y) ?_
 have m1:=()
 rotate_left 1
 refine SV (zK Y)<|yY Y<|vN e26<|yY Y<|yY Y<|vN e26<|yY Y<|yY Y<|vN e26<|yY Y<|yY Y<|vN e26<|yY Y<|yY Y<|vN e26<|yY Y<|SV (vL Y Y) ?_
 have m1:=()
 rotate_left 1
 any_goals
  clear m1
  refine xP<|cR e26<|J4 Y<|J6<|Rq<|Xm Y<|Xc Y<|Xf mN Y<|OV (EL oA Y (H1.cell (i:=0) Y Y))<|Ae e26<|Xa Y<|Xr e26<|J5<|Cj Y Y ?_
  rw[if_neg (by omega)]
  exact⟨Y,by rw[hw1];exact(Hp.refl w0).drew⟩

end Go.Proofs.YtjoeklkmnfaabaaGreat
namespace Go.Proofs.YtjoeklkmnfaabaaGreat
open Go Go.RowKit
set_option linter.unusedVariables false
set_option linter.unusedSimpArgs false
theorem pow7 (i:Nat):2^(7*(i+1))=128*2^(7*i):=by rw[Nat.mul_add,Nat.pow_add];omega
theorem A5 (v i:Nat):v % 128*2^(7*i)+v / 128*2^(7*(i+1))=v*2^(7*i):=by
 rw[pow7,← Nat.mul_assoc,← Du]
 congr 1
 omega
theorem LO (t:List UInt8) (v:Nat):∀ (i w:Nat),v*2^(7*i) < 2^64→(0 < i→0 < v)→i≤9→sQ (enc v++t) i w=(w+v*2^(7*i),i+(enc v).length,0):=by
 induction v using Nat.strongRecOn with
 | _ v ih=>
  intro i w hv h0 hi
  have h9:i=9→v≤1:=by
   rintro rfl
   have:(2:Nat)^(7*9)=9223372036854775808:=by decide
   rw[this]at hv
   have:(2:Nat)^64=18446744073709551616:=by decide
   omega
  by_cases h:v < 128
  · rw[enc_lt h]
    simp only[Je,Ih,sQ,u8n (show v < 256 by omega),Bg,Ed]
    rw[if_neg (by omega),if_neg (by omega),if_neg (by omega),Ig h]
  have hc:(UInt8.ofNat (v % 128+128)).toNat=v % 128+128:=u8n (by omega)
  rw[aJ (by omega)]
  simp only[Je,sQ,hc,Bg]
  have hle:v / 128*2^(7*(i+1))≤v*2^(7*i):=by have:=A5 v i;omega
  rw[if_neg (by omega),if_pos (by omega),ih (v / 128) (by omega) (i+1) _ (by omega) (fun _=>by omega) (by omega)]
  have e1:(v % 128+128) % 128=v % 128:=by omega
  rw[e1,Gf w,A5,Gf,Kq 1]
theorem jE (v:Nat) (t:List UInt8) (hv:v < 2^64):xL (enc v++t)=(v,(enc v).length,0):=by
 rw[ET,LO t v 0 0 (by simpa using hv) (by omega) (by omega)]
 simp
theorem GA (n:Int) (h1:-9223372036854775808≤n) (h2:n≤9223372036854775807):zig n < 2^64:=by
 unfold zig
 split <;>omega
theorem SD (n:Int):unz (zig n)=n:=by
 unfold zig unz
 split <;>split <;>omega
section app
variable {P:Program} {ds:List Deferred} {Q:vQ} {K:List Value→World→Prop} {all os:List Oper} {l:List Value} {w0 w w':World} {S S':List Nat} {es es':List Ent} {ty t:TypeId} {pos:String} {af:Array Edge} {d:Tmp} {v:Value} {op:Op}
 {zs cs:List Value} {agg:Bool} {x y:Operand}
end app
section rdw
variable {w w':World} {gr:Nat} {A:Option Addr} {c:Nat} {b:List UInt8} {i e:Nat}
end rdw
theorem tdivN (k:IntKind) (a b:Nat) (h:k.wrap ((a / b:Nat):Int)=((a / b:Nat):Int)):k.wrap (((a:Int)).tdiv (b:Int))=((a / b:Nat):Int):=h
theorem AB {b:List UInt8} {most:Int} {i e:Nat} (he:e≠0):wG b most i e=(0,i,e):=by unfold wG;rw[if_neg he]
theorem FSa {b:List UInt8} {most:Int} {i:Nat} (h:(xL (b.drop i)).2.2≠0):wG b most i 0=(0,i,(xL (b.drop i)).2.2):=by unfold wG;rw[if_pos rfl,kH h];rfl
theorem FQ {b:List UInt8} {most:Int} {i:Nat} (h:(xL (b.drop i)).2.2=0) (h2:max most 0 < ((xL (b.drop i)).1:Int)):wG b most i 0=(0,i,22):=by unfold wG;rw[if_pos rfl,kG h h2];rfl
theorem dI {b:List UInt8} {most:Int} {i:Nat} (h:(xL (b.drop i)).2.2=0) (h2:¬max most 0 < ((xL (b.drop i)).1:Int)):wG b most i 0=((xL (b.drop i)).1,i+(xL (b.drop i)).2.1,0):=by unfold wG;rw[if_pos rfl,oK h h2]
end Go.Proofs.YtjoeklkmnfaabaaGreat
namespace Go.Proofs.YtjoeklkmnfaabaaGreat
open Go Go.RowKit
set_option linter.unusedVariables false
set_option linter.unusedSimpArgs false
attribute [local irreducible] yT Ops zO Cd
set_option maxRecDepth 100000
set_option maxHeartbeats 4000000
section
variable {b:List UInt8} {i e:Nat}
theorem pO (h:i≤b.length):(yK b i e).2.1≤b.length:=by
 unfold yK
 split
 have:=(pP (b.drop i)).2.1
 rw[Bh]at this
 simp only;omega
 exact h
theorem MH (b:List UInt8) (most:Int) (i e:Nat):wG b most i e=if max most 0 < ((yK b i e).1:Int) then(0,i,22) else yK b i e:=by
 have hbd:=pP (b.drop i)
 unfold yK
 by_cases he:e=0
 simp only[he,if_true]
 by_cases h1:(xL (b.drop i)).2.2=0
 by_cases h2:max most 0 < ((xL (b.drop i)).1:Int)
 rw[FQ h1 h2,if_pos h2]
 rw[dI h1 h2,if_neg h2,h1]
 obtain⟨a1,a2⟩:=hbd.2.2.2.2.1 h1
 rw[FSa h1,a1,a2,if_neg (by omega)]
 rfl
 rw[AB he]
 simp only[he,if_false]
 rw[if_neg (by omega)]
theorem ER (h:(yK b i e).2.2≠0):(yK b i e).2.1=i:=by
 have hbd:=pP (b.drop i)
 unfold yK at h ⊢
 split
 rename_i he
 rw[if_pos he]at h
 have:=(hbd.2.2.2.2.1 h).2
 simp only;omega
 rfl
theorem C6 {most:Int} (h:i≤b.length):(wG b most i e).2.1≤b.length∧(wG b most i e).1 < 2^64∧((wG b most i e).1:Int)≤max most 0∧((wG b most i e).2.2≠0→(wG b most i e).2.1=i):=by
 rw[MH]
 have hlt:=mE b i e
 have h2:=pO (b:=b) (e:=e) h
 have h3:=@ER b i e
 split
 simp;omega
 exact⟨h2,hlt,by omega,h3⟩
end
end Go.Proofs.YtjoeklkmnfaabaaGreat
namespace Go.Proofs.YtjoeklkmnfaabaaGreat
open Go Go.RowKit
set_option linter.unusedVariables false
set_option linter.unusedSimpArgs false
section
variable {w0 w w':World} {S:List Nat} {es es' es1 es2 R:List Ent}
end
section
variable {P:Program} {l:List Value} {w:World} {ty t:TypeId} {x y:Operand} {zs:List Value} {sz bytes:Nat} {agg:Bool}
end
section
variable {P:Program} {ds:List Deferred} {Q:vQ} {K:List Value→World→Prop} {all os:List Oper} {l:List Value} {w0 w w':World} {S:List Nat} {es:List Ent} {ty src dst e:TypeId} {pos:String} {af:Array Edge} {d:Tmp} {x:Operand}
theorem mB (hs:P.underlying src=some .string) (hd:P.underlying dst=some (.slice e)) (he:P.underlying e=some (.int .u8)) (H:Hp w0 w S es) {s:List UInt8} (hx:ev l x=some (.string ⟨s.toArray⟩))
 (k:∀ w' g c,Hp w0 w' S es→Rd w' (some ⟨g,0,none⟩) s.length 1 (u8s s)→g=w.heap.size→w'.heap.size=w.heap.size+1→Ops P ds all K Q os (l.set d (.slice (some ⟨g,0,none⟩) s.length c)) w'):Ops P ds all K Q (⟨some d,.convert src dst x,ty,pos,af,none⟩::os) l w:=by
 have hr:=run_bytes_of_string (P:=P) w src dst e ⟨s.toArray⟩ hs hd he
 have hsz:(ByteArray.mk s.toArray).size=s.length:=by show s.toArray.size=_;simp
 rw[hsz]at hr
 refine zB (w':=w.drew.alloc (.cells (bytesRow ⟨s.toArray⟩ (grownCap w s.length 0 e)) e ((bytesRow ⟨s.toArray⟩ (grownCap w s.length 0 e)).size,(bytesRow ⟨s.toArray⟩ (grownCap w s.length 0 e)).size+1))) ?_ (k _ w.heap.size (grownCap w s.length 0 e) (H.drew.YL _) ⟨yV _,?_,fun h=>by cases h⟩ Y ?_)
 · intro _ _ _ _
   simp[execOp,zV hx,hr]
 · intro a ha j u hu
   cases ha
   have hj:j < s.length:=by have:=lt_of_get hu;simpa[u8s]using this
   rw[Ip,Au]
   refine(World.cell?_alloc_mark w.drew _ e _ j).trans ?_
   rw[bytesRow_at _ _ j (by simpa using hj),← hu]
   simp[u8s,hj]
 simp
theorem dH (hs:P.underlying src=some (.slice e)) (he:P.underlying e=some (.int .u8)) (hd:P.underlying dst=some .string) {A:Option Addr} {c:Nat} {s:List UInt8} (hx:ev l x=some (.slice A s.length c)) (hr:Rd w A s.length 1 (u8s s)):
 Ex P l (.convert src dst x) ty w (.value (.string ⟨s.toArray⟩)) w:=fun _ _ _ _=>by
 have h:(convert src dst (.slice A s.length c)).run P w=.ok (.string ⟨s.toArray⟩) w:=by
  cases A with
  | none=>
   have h0:=hr.nil rfl
   have:s=[]:=Ec h0
   subst this
   rw[run_convert_bytes_string w src dst e none _ c hs he hd]
   simp[Conv.bytesToString]
   rfl
  | some a=>exact run_convert_bytes_back w src dst e a c s hs he hd fun j hj=>hr.cells a rfl j _ (kP hj)
 simp[execOp,zV hx,h]
end
inductive Fv 
 | int (n:Int)
 | flag (x:Bool)
 | text (s:List UInt8)
 | bytes (s:List UInt8)
 | word (n:Nat)
 | count (n:Nat)
inductive Kd 
 | int
 | flag
 | text
 | bytes
 | word
 | count
def Fv.kd :Fv→Kd
 | .int _=> .int
 | .flag _=> .flag
 | .text _=> .text
 | .bytes _=> .bytes
 | .word _=> .word
 | .count _=> .count
def rJ :Fv→List UInt8
 | .int n=>uC n
 | .flag x=>[if x then 1 else 0]
 | .text s=>xW s
 | .bytes s=>xW s
 | .word n=>enc n
 | .count n=>enc n
def wK :Fv→Bool
 | .text s=>decide (65535 < s.length)
 | .bytes s=>decide (65535 < s.length)
 | .count n=>decide (1024 < n)
 | _=>false
structure WS where
 out:List UInt8
 long:Bool
def iX (x:List UInt8) (st:WS):WS:=if st.long=true∨65536 < st.out.length+x.length then⟨st.out,true⟩ else⟨st.out++x,st.long⟩
def qM (f:Fv) (st:WS):WS:=if st.long=true then st else if wK f=true then⟨st.out,true⟩ else iX (rJ f) st
def xV (fs:List Fv) (st:WS):WS:=fs.foldl (fun st f=>qM f st) st
theorem wV (a b:List Fv) (st:WS):xV (a++b) st=xV b (xV a st):=by simp[xV]
theorem cJ (f:Fv) (st:WS):xV [f] st=qM f st:=rfl
theorem fP {fs:List Fv} {q:Nat} (h:q < fs.length) (st:WS):xV (fs.take (q+1)) st=qM fs[q] (xV (fs.take q) st):=by
 rw[Jm,Bq h,wV];rfl
theorem tJ (fs:List Fv) (k n:Nat) (st:WS):xV ((fs.drop k).take n) (xV (fs.take k) st)=xV (fs.take (k+n)) st:=by
 rw[List.take_add,wV]
theorem nB {f:Fv} {st:WS} (h:st.long=true):qM f st=st:=if_pos h
theorem iY {f:Fv} {st:WS} (h:st.long=false) (h2:wK f=true):qM f st=⟨st.out,true⟩:=by unfold qM;rw[if_neg (by simp[h]),if_pos h2]
theorem lC {f:Fv} {st:WS} (h:st.long=false) (h2:wK f=false):qM f st=iX (rJ f) st:=by unfold qM;rw[if_neg (by simp[h]),if_neg (by simp[h2])]
theorem AD {fs:List Fv} {st:WS} (h:st.long=true):xV fs st=st:=by
 induction fs with
 | nil=>rfl
 | cons f fs ih=>
  show xV fs (qM f st)=st
  rw[nB h];exact ih
theorem R0 {x:List UInt8} {st:WS} (h:st.out.length≤65536):(iX x st).out.length≤65536:=by
 unfold iX
 split
 · exact h
 simp only[Af];omega
theorem R1 {f:Fv} {st:WS} (h:st.out.length≤65536):(qM f st).out.length≤65536:=by
 unfold qM
 split
 · exact h
 split
 · exact h
 exact R0 h
theorem R2 {fs:List Fv} {st:WS} (h:st.out.length≤65536):(xV fs st).out.length≤65536:=by
 induction fs generalizing st with
 | nil=>exact h
 | cons f fs ih=>exact ih (R1 h)
def YW (f:Fv) (st:WS):WS:=match f with
 | .int _ | .flag _ | .word _=>⟨st.out++rJ f,st.long⟩
 | f=>if st.long=true∨wK f=true then⟨st.out,true⟩ else⟨st.out++rJ f,false⟩
def qN (fs:List Fv) (st:WS):WS:=fs.foldl (fun st f=>YW f st) st
theorem DK (a b:List Fv) (st:WS):qN (a++b) st=qN b (qN a st):=by simp[qN]
theorem KV {fs:List Fv} {q:Nat} (h:q < fs.length) (st:WS):qN (fs.take (q+1)) st=YW fs[q] (qN (fs.take q) st):=by
 rw[Jm,Bq h,DK];rfl
theorem mW {x:List UInt8} {st:WS} (h:st.long=true∨wK (.bytes x)=true):qN [.bytes x] st=⟨st.out,true⟩:=if_pos h
theorem cK {x:List UInt8} {st:WS} (h:st.long=false) (h2:wK (.bytes x)=false):qN [.bytes x] st=⟨st.out++xW x,false⟩:=if_neg (by simp[h,h2])
theorem lD {x:List UInt8} {st:WS} (h:st.long=true∨wK (.text x)=true):qN [.text x] st=⟨st.out,true⟩:=if_pos h
def FOk :Fv→Prop
 | .int n=>-9223372036854775808≤n∧n≤9223372036854775807
 | .word n=>n < 4294967296
 | _=>True
theorem fD {f:Fv} (h:FOk f) (h2:wK f=false):(rJ f).length≤65545:=by
 cases f with
 | int n=>have:=uW (GA n h.1 h.2);show(uC n).length≤_;rw[rH];omega
 | flag x=>show 1≤65545;omega
 | text s=>
  have h3:s.length≤65535:=by simpa[wK]using h2
  have:=uW (v:=s.length) (by omega)
  show(xW s).length≤_
  rw[rB,Af];omega
 | bytes s=>
  have h3:s.length≤65535:=by simpa[wK]using h2
  have:=uW (v:=s.length) (by omega)
  show(xW s).length≤_
  rw[rB,Af];omega
 | word n=>
  have h1:n < 4294967296:=h
  have:=uW (v:=n) (by omega);show(enc n).length≤_;omega
 | count n=>
  have h3:n≤1024:=by simpa[wK]using h2
  have:=uW (v:=n) (by omega);show(enc n).length≤_;omega
def rW (a b:WS):Prop:=(a.long=true∧(b.long=true∨65536 < b.out.length))∨(a.long=false∧b.long=false∧a.out=b.out∧a.out.length≤65536)
theorem KU {f:Fv} {st:WS} (h:st.long=true):(YW f st).long=true:=by
 cases f <;>simp[YW,h]
theorem KT {f:Fv} {st:WS}:st.out.length≤(YW f st).out.length:=by
 cases f with
 | int n=>show _≤(st.out++_).length;simp
 | flag x=>show _≤(st.out++_).length;simp
 | text s=>show _≤(if _ then _ else _:WS).out.length;split <;>simp
 | bytes s=>show _≤(if _ then _ else _:WS).out.length;split <;>simp
 | word n=>show _≤(st.out++_).length;simp
 | count n=>show _≤(if _ then _ else _:WS).out.length;split <;>simp
theorem MU {a b:WS} (f:Fv) (h:rW a b):rW (qM f a) (YW f b):=by
 rcases h with ⟨h1,h2⟩ | ⟨h1,h2,h3,h4⟩
 · rw[nB h1]
   refine .inl ⟨h1,?_⟩
   rcases h2 with h2 | h2
   · exact .inl (KU h2)
   exact .inr (Nat.lt_of_lt_of_le h2 KT)
 have key:wK f=false→rW (iX (rJ f) a) ⟨b.out++rJ f,false⟩:=by
  intro _
  unfold iX
  split
  · rename_i h
    refine .inl ⟨Y,.inr ?_⟩
    rcases h with h | h
    · rw[h1]at h;cases h
    simp only[Af,← h3];exact h
  rename_i h
  have:=not_or.1 h
  exact .inr ⟨h1,Y,by simp[h3],by simp only[Af];omega⟩
 by_cases ht:wK f=true
 · rw[iY h1 ht]
   refine .inl ⟨Y,.inl ?_⟩
   cases f with
   | int n=>cases ht
   | flag x=>cases ht
   | text s=>show(if _ then _ else _:WS).long=true;rw[if_pos (.inr ht)]
   | bytes s=>show(if _ then _ else _:WS).long=true;rw[if_pos (.inr ht)]
   | word n=>cases ht
   | count n=>show(if _ then _ else _:WS).long=true;rw[if_pos (.inr ht)]
 have ht':wK f=false:=by simpa using ht
 rw[lC h1 ht']
 have hv:YW f b=⟨b.out++rJ f,false⟩:=by
  cases f with
  | int n=>show(⟨_,b.long⟩:WS)=_;rw[h2]
  | flag x=>show(⟨_,b.long⟩:WS)=_;rw[h2]
  | text s=>show(if _ then _ else _:WS)=_;rw[if_neg (by simp[h2,ht'])]
  | bytes s=>show(if _ then _ else _:WS)=_;rw[if_neg (by simp[h2,ht'])]
  | word n=>show(⟨_,b.long⟩:WS)=_;rw[h2]
  | count n=>show(if _ then _ else _:WS)=_;rw[if_neg (by simp[h2,ht'])]
 rw[hv]
 exact key ht'
theorem MW {a b:WS} (fs:List Fv) (h:rW a b):rW (xV fs a) (qN fs b):=by
 induction fs generalizing a b with
 | nil=>exact h
 | cons f fs ih=>exact ih (MU f h)
def tZ (b:List UInt8) (i e:Nat):Nat×Nat×Nat:=if 4294967295 < (yK b i e).1 then(0,i,21) else yK b i e
def rdF (k:Kd) (b:List UInt8) (i e:Nat):Fv×Nat×Nat:=match k with
 | .word=>(.word (tZ b i e).1,(tZ b i e).2)
 | .count=>(.count (wG b 1024 i e).1,(wG b 1024 i e).2)
 | .int=>(.int (unz (yK b i e).1),(yK b i e).2)
 | .flag=>(.flag (sE b i e).1,(sE b i e).2)
 | .text=>(.text (yG b 65535 i e).1,(yG b 65535 i e).2)
 | .bytes=>(.bytes (yG b 65535 i e).1,(yG b 65535 i e).2)
def vT :List Kd→List UInt8→Nat→Nat→List Fv×Nat×Nat
 | [],_,i,e=>([],i,e)
 | k::ks,b,i,e=>((rdF k b i e).1::(vT ks b (rdF k b i e).2.1 (rdF k b i e).2.2).1,(vT ks b (rdF k b i e).2.1 (rdF k b i e).2.2).2)
theorem nZ :∀ (a c:List Kd) (b:List UInt8) (i e:Nat),vT (a++c) b i e=((vT a b i e).1++(vT c b (vT a b i e).2.1 (vT a b i e).2.2).1,(vT c b (vT a b i e).2.1 (vT a b i e).2.2).2)
 | [],c,b,i,e=>rfl
 | k::a,c,b,i,e=>by
  simp only[Je,vT,nZ a c]
theorem LC {a c:List Kd} {b:List UInt8} {i e i1 e1 i2 e2:Nat} {f1 f2:List Fv} (h1:vT a b i e=(f1,i1,e1)) (h2:vT c b i1 e1=(f2,i2,e2)):vT (a++c) b i e=(f1++f2,i2,e2):=by
 rw[nZ,h1]
 simp only[h2]
theorem fW (k:Kd) (b:List UInt8) (i e:Nat):vT [k] b i e=([(rdF k b i e).1],(rdF k b i e).2):=rfl
theorem D6 :∀ (ks:List Kd) (b:List UInt8) (i e:Nat),(vT ks b i e).1.map Fv.kd=ks
 | [],_,_,_=>rfl
 | k::ks,b,i,e=>by
  simp only[vT,Jz]
  rw[D6 ks]
  cases k <;>rfl
def zF :Kd→Fv
 | .int=> .int 0
 | .flag=> .flag false
 | .text=> .text []
 | .bytes=> .bytes []
 | .word=> .word 0
 | .count=> .count 0
theorem BW {b:List UInt8} {i e:Nat} (h:e≠0):tZ b i e=(0,i,e):=by
 have h1:yK b i e=(0,i,e):=by unfold yK;rw[if_neg h]
 unfold tZ
 rw[h1,if_neg (by show ¬4294967295 < 0;decide)]
theorem dS {k:Kd} {b:List UInt8} {i e:Nat} (h:e≠0):rdF k b i e=(zF k,i,e):=by
 cases k
 · show(Fv.int (unz (yK b i e).1),(yK b i e).2)=_
   unfold yK;rw[if_neg h];show(Fv.int (unz 0),i,e)=(Fv.int 0,i,e);rw[show unz 0=0 by simp[unz]]
 · show(Fv.flag (sE b i e).1,(sE b i e).2)=_
   unfold sE;rw[if_neg h];rfl
 · show(Fv.text (yG b 65535 i e).1,(yG b 65535 i e).2)=_
   unfold yG;rw[if_neg h];rfl
 · show(Fv.bytes (yG b 65535 i e).1,(yG b 65535 i e).2)=_
   unfold yG;rw[if_neg h];rfl
 · show(Fv.word (tZ b i e).1,(tZ b i e).2)=_
   rw[BW h];rfl
 show(Fv.count (wG b 1024 i e).1,(wG b 1024 i e).2)=_
 unfold wG;rw[if_neg h];rfl
theorem lG {b:List UInt8} {i e:Nat} (h:i≤b.length):(yG b 65535 i e).2.1≤b.length∧(yG b 65535 i e).1.length≤b.length:=by
 unfold yG
 split
 · have h1:=(AK (b.drop i) 65535).1
   rw[Bh]at h1
   refine⟨by simp only;omega,?_⟩
   simp only
   unfold vF
   split
   · simp
   split
   · simp
   simp only[Aw,Bh];omega
 exact⟨h,by simp⟩
theorem FF {b:List UInt8} {i e:Nat} (h:i≤b.length):(sE b i e).2.1≤b.length:=by
 unfold sE
 split
 · have h1:=(L9 (b.drop i)).1
   rw[Bh]at h1
   simp only;omega
 exact h
theorem DF {b:List UInt8} {i e:Nat} (h:i≤b.length):(tZ b i e).2.1≤b.length:=by
 unfold tZ
 split
 · exact h
 exact pO h
theorem WR {k:Kd} {b:List UInt8} {i e:Nat} (h:i≤b.length):(rdF k b i e).2.1≤b.length:=by
 cases k
 · exact pO h
 · exact FF h
 · exact(lG h).1
 · exact(lG h).1
 · exact DF h
 exact(C6 h).1
theorem NH {v:Nat} (h:v < 2^64):-9223372036854775808≤unz v∧unz v≤9223372036854775807:=by
 unfold unz
 split <;>omega
def FP (w:World) (ok:Nat→Prop) (f:Fv) (v:Value):Prop:=match f with
 | .int n=>v=.int .i64 n∧-9223372036854775808≤n∧n≤9223372036854775807
 | .flag x=>v=.bool x
 | .text s=>v=yI s
 | .bytes s=>∃ (B:Option Addr) (c:Nat),v=.slice B s.length c∧Rd w B s.length 1 (u8s s)∧(0 < s.length→∀ p,B=some p→ok p.block)
 | .word n=>v=.int .u32 (n:Int)∧n < 4294967296
 | .count _=>v=.bool false
theorem Rd.apt {w w':World} {S:List Nat} {es:List Ent} {B:Option Addr} {n z:Nat} {xs:List Value} (hr:Rd w B n z xs) (hn:0 < n*z) (ha:∀ p,B=some p→p.block∉S) (H:Hp w w' S es):∀ p,B=some p→p.block∉bl es:=by
 intro p hp hb
 obtain⟨⟨g,T,cs⟩,he,hg⟩:=Fb.1 hb
 obtain⟨i,hi⟩:=Dh he
 simp only at hg
 subst hg
 have h1:=H.place hi
 have h2:0 < xs.length:=by rw[hr.len];exact hn
 have h3:=Ir w _ (hr.cells p hp 0 _ (Bq h2))
 rw[Iq]at h3
 rcases h1 with h1 | h1
 · exact ha p hp h1
 omega
section
variable {w w':World} {ok ok':Nat→Prop} {S:List Nat} {es es':List Ent} {f:Fv} {v:Value}
theorem FP.mono (h:FP w ok f v) (hs:∀ b,ok b→ok' b):FP w ok' f v:=by
 cases f with
 | bytes s=>
  obtain⟨B,c,h1,h2,h3⟩:=h
  exact⟨B,c,h1,h2,fun h0 p hp=>hs _ (h3 h0 p hp)⟩
 | _=>exact h
theorem FP.to (h:FP w ok f v) (H:Hp w w' S es) (hs:∀ b,ok b→b∉S):FP w' (fun b=>ok b∧b∉bl es) f v:=by
 cases f with
 | bytes s=>
  obtain⟨B,c,h1,h2,h3⟩:=h
  by_cases h0:0 < s.length
  · exact⟨B,c,h1,h2.to H fun p hp=>hs _ (h3 h0 p hp),fun _ p hp=>⟨h3 h0 p hp,h2.apt (by omega) (fun p hp=>hs _ (h3 h0 p hp)) H p hp⟩⟩
  have:s=[]:=Ec (by omega)
  subst this
  exact⟨B,c,h1,⟨Y,fun _ _ _ _ hu=>by simp[u8s]at hu,fun _=>Y⟩,fun h=>absurd h (by simp)⟩
 | _=>exact h
theorem FP.fok (h:FP w ok f v):FOk f:=by
 cases f with
 | int n=>exact h.2
 | word n=>exact h.2
 | _=>trivial
theorem FP.one (h:FP w ok f v):v.oneCell'=true:=by
 cases f with
 | int n=>rw[h.1];rfl
 | word n=>rw[h.1];rfl
 | flag x=>rw[show v=.bool x from h];rfl
 | text s=>rw[show v=yI s from h];rfl
 | bytes s=>obtain⟨B,c,h1,_⟩:=h;rw[h1];rfl
 | count n=>rw[show v=.bool false from h];rfl
end
abbrev FC (w:World) (es:List Ent) (f:Fv) (v:Value):Prop:=FP w (fun b=>b∉bl es) f v
def Tw (w:World) (b:Nat):Prop:=∃ arr U,w.heap[b]? =some (.cells arr U (0,0))
theorem Tw.to {w w':World} {S:List Nat} {es:List Ent} {b:Nat} (h:Tw w b) (H:Hp w w' S es) (hb:b∉S):Tw w' b:=by
 obtain⟨arr,U,h⟩:=h
 exact⟨arr,U,H.keep h hb⟩
def Fr (w:World) (n:Nat) (es:List Ent) (b:Nat):Prop:=n≤b∧b∉bl es∧Tw w b
theorem FC.to {w w':World} {es es':List Ent} {f:Fv} {v:Value} (h:FC w es f v) (H:Hp w w' (bl es) es'):FC w' es' f v:=(FP.to h H fun _ h=>h).mono fun _ h=>h.2
structure FPs (w:World) (ok:Nat→Prop) (fs:List Fv) (vs:List Value):Prop where
 len:vs.length=fs.length
 each:∀ i (h:i < fs.length),∃ v,vs[i]? =some v∧FP w ok fs[i] v
abbrev FCs (w:World) (es:List Ent) (fs:List Fv) (vs:List Value):Prop:=FPs w (fun b=>b∉bl es) fs vs
abbrev NFs (w:World) (n:Nat) (es:List Ent) (fs:List Fv) (vs:List Value):Prop:=FPs w (Fr w n es) fs vs
section
variable {w w':World} {ok ok':Nat→Prop} {S:List Nat} {es es':List Ent} {fs gs:List Fv} {vs us:List Value} {n:Nat}
theorem FPs.nil :FPs w ok [] []:=⟨rfl,fun i h=>by cases h⟩
theorem FPs.one {f:Fv} {v:Value} (h:FP w ok f v):FPs w ok [f] [v]:=⟨rfl,fun i hi=>by
 have:i=0:=by simp at hi;omega
 subst this
 exact⟨v,Y,h⟩⟩
theorem FPs.mono (h:FPs w ok fs vs) (hs:∀ b,ok b→ok' b):FPs w ok' fs vs:=⟨h.len,fun i hi=>by
 obtain⟨v,h1,h2⟩:=h.each i hi
 exact⟨v,h1,h2.mono hs⟩⟩
theorem FPs.to (h:FPs w ok fs vs) (H:Hp w w' S es) (hs:∀ b,ok b→b∉S):FPs w' (fun b=>ok b∧b∉bl es) fs vs:=⟨h.len,fun i hi=>by
 obtain⟨v,h1,h2⟩:=h.each i hi
 exact⟨v,h1,h2.to H hs⟩⟩
theorem NFs.to (h:NFs w n es fs vs) (H:Hp w w' (bl es) es'):NFs w' n es' fs vs:=(FPs.to h H fun _ h=>h.2.1).mono fun _ h=>⟨h.1.1,h.2,h.1.2.2.to H h.1.2.1⟩
theorem FPs.app (h:FPs w ok fs vs) (h2:FPs w ok gs us):FPs w ok (fs++gs) (vs++us):=by
 refine⟨by simp[h.len,h2.len],fun i hi=>?_⟩
 by_cases hin:i < fs.length
 · rw[List.getElem_append_left hin]
   obtain⟨v,q1,q2⟩:=h.each i hin
   exact⟨v,by rw[Di (by rw[h.len];exact hin)];exact q1,q2⟩
 rw[List.getElem_append_right (by omega)]
 have hi2:i - fs.length < gs.length:=by simp only[Af]at hi;omega
 obtain⟨v,q1,q2⟩:=h2.each _ hi2
 exact⟨v,by rw[Ef (by rw[h.len];omega),h.len];exact q1,q2⟩
theorem FPs.fok (h:FPs w ok fs vs):∀ f∈fs,FOk f:=by
 intro f hf
 obtain⟨i,hi,rfl⟩:=List.getElem_of_mem hf
 obtain⟨v,_,h2⟩:=h.each i hi
 exact h2.fok
theorem FPs.ones (h:FPs w ok fs vs):vs.all (·.oneCell')=true:=by
 rw[Ew]
 intro v hv
 obtain⟨i,hi,rfl⟩:=List.getElem_of_mem hv
 obtain⟨u,h1,h2⟩:=h.each i (by rw[← h.len];exact hi)
 rw[Bq hi]at h1
 cases h1
 exact h2.one
end
theorem GW {fs:List Fv} {k:Kd} (h:fs.map Fv.kd=[k]):∃ f,fs=[f]∧f.kd=k:=by
 match fs,h with
 | [f],h=>exact⟨f,rfl,by simpa using h⟩
theorem TI {fs:List Fv} (h:fs.map Fv.kd=[.int]):∃ x,fs=[.int x]:=by
 obtain⟨f,rfl,h⟩:=GW h
 cases f <;>first | exact⟨_,rfl⟩ | cases h
theorem OP {fs:List Fv} (h:fs.map Fv.kd=[.text]):∃ x,fs=[.text x]:=by
 obtain⟨f,rfl,h⟩:=GW h
 cases f <;>first | exact⟨_,rfl⟩ | cases h
theorem BC {fs:List Fv} (h:fs.map Fv.kd=[.bytes]):∃ x,fs=[.bytes x]:=by
 obtain⟨f,rfl,h⟩:=GW h
 cases f <;>first | exact⟨_,rfl⟩ | cases h
theorem FPs.head {w:World} {ok:Nat→Prop} {f:Fv} {vs:List Value} (h:FPs w ok [f] vs):∃ v,vs=[v]∧FP w ok f v:=by
 obtain⟨v,h1,h2⟩:=h.each 0 (by simp)
 have hl:=h.len
 match vs,hl,h1 with
 | [x],_,h1=>exact⟨v,by simpa using h1,h2⟩
theorem Rd.fc {w0 w:World} {S:List Nat} {es:List Ent} {B:Option Addr} {s:List UInt8} (h:Rd w0 B s.length 1 (u8s s)) (H:Hp w0 w S es) (ha:0 < s.length→∀ p,B=some p→p.block∉S):Rd w B s.length 1 (u8s s):=by
 by_cases h0:0 < s.length
 · exact h.to H (ha h0)
 have:s=[]:=Ec (by omega)
 subst this
 exact⟨Y,fun _ _ _ _ hu=>by simp[u8s]at hu,fun _=>Y⟩
theorem eM {w0 w:World} {S:List Nat} {es:List Ent} (H:Hp w0 w S es) {g:Nat} (hg:w.heap.size≤g):g∉bl es:=by
 intro hb
 obtain⟨⟨g2,T2,cs2⟩,hm,hg2⟩:=Fb.1 hb
 obtain⟨j,hj⟩:=Dh hm
 simp only at hg2
 subst hg2
 have:=H.lt hj
 omega
theorem DH {fs:List Fv} {q:Nat} (h:q < fs.length) (h2:wK fs[q]=true) (st:WS):xV fs st=⟨(xV (fs.take q) st).out,true⟩:=by
 have h3:xV fs st=xV (fs.drop (q+1)) (xV (fs.take (q+1)) st):=by rw[← wV,Eu]
 rw[h3,fP h]
 generalize xV (fs.take q) st=s1
 have h4:qM fs[q] s1=⟨s1.out,true⟩:=by
  cases hl:s1.long with
  | true=>rw[nB hl,← hl]
  | false=>exact iY hl h2
 rw[h4,AD rfl]
def At (cs:List Value) (o:Nat) (vs:List Value):Prop:=∀ j u,vs[j]? =some u→cs[o+j]? =some u
def zC :Kd→Value
 | .int=> .int .i64 0
 | .flag=> .bool false
 | .text=> .string ByteArray.empty
 | .bytes=> .slice none 0 0
 | .word=> .int .u32 0
 | .count=> .bool false
def zCs (ks:List Kd):List Value:=ks.map zC
theorem zFP (w:World) (ok:Nat→Prop) (k:Kd):FP w ok (zF k) (zC k):=by
 cases k
 · exact⟨Y,by decide,by decide⟩
 · rfl
 · rfl
 · exact⟨none,0,Y,Rd.none_ _ _,fun h=>absurd h (by simp)⟩
 · exact⟨Y,by decide⟩
 rfl
theorem pJ {cs vs:List Value} {o:Nat} (h:o+vs.length≤cs.length) (j:Nat):(zG cs o vs)[j]? =if j < o then cs[j]? else if j < o+vs.length then vs[j - o]? else cs[j]?:=by
 unfold zG
 by_cases h1:j < o
 · rw[if_pos h1,Bf,Di (by rw[Aw];omega),Py h1]
 rw[if_neg h1,Bf,Ef (by rw[Aw];omega),Aw,Ii (by omega)]
 by_cases h2:j < o+vs.length
 · rw[if_pos h2,Di (by omega)]
 rw[if_neg h2,Ef (by omega),Em]
 congr 1;omega
theorem AX {cs a c:List Value} {o:Nat} (h:o+a.length+c.length≤cs.length):zG (zG cs o a) (o+a.length) c=zG cs o (a++c):=by
 apply Oi
 intro j
 have e1:o+(a++c).length≤cs.length:=by rw[Af];omega
 have e2:o+a.length≤cs.length:=by omega
 have e3:(o+a.length)+c.length≤(zG cs o a).length:=by rw[vK e2];exact h
 rw[pJ e3,pJ e1,pJ e2]
 by_cases h1:j < o
 · rw[if_pos (by omega),if_pos h1,if_pos h1]
 rw[if_neg h1,if_neg h1,Af]
 by_cases h2:j < o+a.length
 · rw[if_pos h2,if_pos h2,if_pos (by omega),Di (by omega)]
 rw[if_neg h2,if_neg h2]
 by_cases h3:j < o+a.length+c.length
 · rw[if_pos h3,if_pos (by omega),Ef (by omega)]
   congr 1;omega
 rw[if_neg h3,if_neg (by omega)]
theorem jC (cs:List Value) (o:Nat):zG cs o []=cs:=by simp[zG]
theorem At.behind {cs a c:List Value} {o:Nat} (h:At cs (o+a.length) c) (h2:o+a.length≤cs.length):At (zG cs o a) (o+a.length) c:=by
 intro j u hu
 rw[pJ h2,if_neg (by omega),if_neg (by omega)]
 exact h j u hu
theorem gF {q:Nat} {k:Kd} {b:List UInt8} {i e i1 e1 i2 e2:Nat} {fd:List Fv} {f:Fv} (h:vT (List.replicate q k) b i e=(fd,i1,e1)) (h2:rdF k b i1 e1=(f,i2,e2)):vT (List.replicate (q+1) k) b i e=(fd++[f],i2,e2):=by
 rw[List.replicate_succ']
 refine LC h ?_
 rw[fW,h2]
theorem LD {b:List UInt8} {i e i2 e2:Nat} {fd:List Fv} (h:vT [.bytes] b i e=(fd,i2,e2)):∃ t,fd=[.bytes t]∧rdF .text b i e=(.text t,i2,e2):=by
 rw[fW]at h
 simp only[Prod.mk.injEq]at h
 refine⟨(yG b 65535 i e).1,h.1.symm,?_⟩
 show(Fv.text (yG b 65535 i e).1,(yG b 65535 i e).2)=_
 have:(yG b 65535 i e).2=(i2,e2):=h.2
 rw[this]
theorem gD {cs us:List Value} {o q:Nat} {v:Value} (hq:us.length=q) (h:o+q < cs.length):(zG cs o us).set (o+q) v=zG cs o (us++[v]):=by
 subst hq
 rw[← AX (by simp only[Bg,Ed];omega),fY (by rw[vK (by omega)];exact h)]
theorem lK {cs us:List Value} {o q:Nat} {v:Value} (hq:us.length=q) (h:cs[o+q]? =some v):zG cs o (us++[v])=zG cs o us:=by
 have hl:=lt_of_get h
 rw[← gD hq hl]
 apply Oi
 intro k
 rw[Kt]
 split
 · rename_i hk
   subst hk
   rw[if_pos (by rw[vK (by omega)];exact hl),pJ (by omega),if_neg (by omega),if_neg (by omega),h]
 rfl
theorem DX {cs us:List Value} {o q:Nat} (hq:us.length=q) (hf:o+q≤cs.length):(zG cs o us)[o+q]? =cs[o+q]?:=by
 rw[pJ (by omega),if_neg (by omega),if_neg (by omega)]
structure Cl (w:World) (S:List Nat) (a:Addr) (vs:List Value):Prop where
 cell:∀ j u,vs[j]? =some u→w.cell? (a.add j)=some u
 apart:0 < vs.length→a.block∉S
theorem sP (a:Addr) (j:Nat):(a.add j).block=a.block:=by unfold Addr.add;split <;>rfl
theorem jP {w w':World} {S:List Nat} {es:List Ent} {p:Addr} {u:Value} (h:w.cell? p=some u) (H:Hp w w' S es) (hp:p.block∉S):w'.cell? p=some u:=by
 have hlt:=Ir w _ h
 rw[World.cell?_of_block (w:=w)]
 · exact h
 exact H.frame _ hlt hp
theorem RE {w w':World} {S:List Nat} {es:List Ent} {p:Addr} {u:Value} (h:w.cell? p=some u) (H:Hp w w' S es) (hp:p.block∉S):p.block∉bl es:=by
 intro hb
 obtain⟨⟨g,T,cs⟩,he,hg⟩:=Fb.1 hb
 obtain⟨i,hi⟩:=Dh he
 simp only at hg
 subst hg
 have h3:=Ir w _ h
 rcases H.place hi with h1 | h1
 · exact hp h1
 omega
theorem Cl.to {w w':World} {S:List Nat} {es:List Ent} {a:Addr} {vs:List Value} (h:Cl w S a vs) (H:Hp w w' S es):Cl w' (bl es) a vs:=by
 refine⟨fun j u hu=>jP (h.cell j u hu) H ?_,fun h0=>?_⟩
 · rw[sP];exact h.apart (Nat.zero_lt_of_lt (lt_of_get hu))
 have:=RE (h.cell 0 _ (Bq h0)) H (by rw[sP];exact h.apart h0)
 rwa [sP]at this
theorem Cl.part {w:World} {S:List Nat} {a:Addr} {vs us:List Value} {o:Nat} (h:Cl w S a vs) (hat:At vs o us):Cl w S (a.add o) us:=by
 refine⟨fun j u hu=>?_,fun h0=>?_⟩
 · rw[tV];exact h.cell _ _ (hat j u hu)
 rw[sP];exact h.apart (by have:=lt_of_get (hat 0 _ (Bq h0));omega)
theorem Hp.cl {w0 w:World} {S:List Nat} {es:List Ent} {i g:Nat} {T:TypeId} {cs:List Value} (H:Hp w0 w S es) (he:es[i]? =some (some g,T,cs)) {S':List Nat} (hg:g∉S'):Cl w S' ⟨g,0,none⟩ cs:=by
 refine⟨fun j u hu=>?_,fun _=>hg⟩
 rw[Ip,Au];exact H.cell he hu
theorem At.self (cs:List Value):At cs 0 cs:=fun j u hu=>by rw[Au];exact hu
theorem At.trans {cs us vs:List Value} {o p:Nat} (h1:At cs o us) (h2:At us p vs):At cs (o+p) vs:=fun j u hu=>by rw[Gf];exact h1 _ _ (h2 j u hu)
def gI (a:Addr) (o n:Nat):List Value:=(List.range n).map fun i=> .pointer (some (a.add (o+i)))
theorem AZ {a:Addr} {o n i:Nat} (h:i < n):(gI a o n)[i]? =some (.pointer (some (a.add (o+i)))):=by simp[gI,h]
theorem CE (a:Addr) (o n:Nat):(gI a o n).length=n:=by simp[gI]
def fZ (g o n:Nat):List Value:=(List.range n).map fun i=> .pointer (some ⟨g,o+i,none⟩)
theorem bG {g o n i:Nat} (h:i < n):(fZ g o n)[i]? =some (.pointer (some ⟨g,o+i,none⟩)):=by simp[fZ,h]
theorem dC (g o n:Nat):(fZ g o n).length=n:=by simp[fZ]
@[reducible] def pw (gp:Nat) (g:Option Nat) (cap:Nat) (sp:List Value) (st:WS):List Ent:=[(some gp,178,[.pointer none,.slice (hd g) st.out.length cap,.bool st.long,.int .i64 0]),(g,5,u8s st.out++sp)]
@[reducible] def pr (gp gr:Nat) (g:Option Nat) (c:Nat) (sp:List Value) (b:List UInt8) (i e:Nat):List Ent:=[(some gp,178,[.pointer (some ⟨gr,0,none⟩),.slice none 0 0,.bool false,.int .i64 0]),(some gr,219,rc (hd g) b c i e),(g,5,u8s b++sp)]
@[reducible] def vw (gp:Nat) (g:Option Nat) (cap:Nat) (sp:List Value) (st:WS):List Ent:=[(some gp,167,[.slice (hd g) st.out.length cap,.pointer none,.bool st.long]),(g,5,u8s st.out++sp)]
structure POk (m:Nat) (g:Option Nat) (cap:Nat) (sp:List Value) (st:WS):Prop where
 le:st.out.length≤cap
 room:cap*1≤(u8s st.out++sp).length
 nil:g=none→cap=0
 most:st.out.length≤m
theorem POk.mono {m m':Nat} {g:Option Nat} {cap:Nat} {sp:List Value} {st:WS} (h:POk m g cap sp st) (hm:m≤m'):POk m' g cap sp st:=⟨h.1,h.2,h.3,Ci h.4 hm⟩
section
structure Th where
 X:Type
 sz:Nat
 mx:Nat
 zs:List Value
 fl:X→List Fv
 rd:List UInt8→Nat→Nat→X×Nat×Nat
 M:World→(Nat→Prop)→X→List Value→Prop
 z:X
 zM:∀ w ok,M w ok z zs
 zlen:zs.length=sz
 zone:zs.all (·.oneCell')=true
 len:∀ {w ok x vs},M w ok x vs→vs.length=sz
 mono:∀ {w ok ok' x vs},M w ok x vs→(∀ b,ok b→ok' b)→M w ok' x vs
 to:∀ {w w' ok x vs S es},M w ok x vs→Hp w w' S es→(∀ b,ok b→b∉S)→M w' (fun b=>ok b∧b∉bl es) x vs
 good:∀ {w ok x vs},M w ok x vs→∀ f∈fl x,FOk f
 ones:∀ {w ok x vs},M w ok x vs→vs.all (·.oneCell')=true
 bad:∀ {b i e},e≠0→(rd b i e).2=(i,e)
 le:∀ {b i e},i≤b.length→(rd b i e).2.1≤b.length
theorem AU :∀ (ks:List Kd) {b:List UInt8} {i e:Nat},e≠0→(vT ks b i e).2=(i,e)
 | [],_,_,_,_=>rfl
 | k::ks,b,i,e,h=>by
  show(vT ks b (rdF k b i e).2.1 (rdF k b i e).2.2).2=_
  rw[dS h]
  exact AU ks h
theorem D4 :∀ (ks:List Kd) {b:List UInt8} {i e:Nat},i≤b.length→(vT ks b i e).2.1≤b.length
 | [],_,_,_,h=>h
 | k::ks,b,i,e,h=>D4 ks (WR h)
variable {w w':World} {S:List Nat} {es:List Ent} {a:Addr} {n:Nat}
theorem zC_one (k:Kd):(zC k).oneCell'=true:=by cases k <;>rfl
theorem zFPs (w:World) (ok:Nat→Prop) (ks:List Kd):FPs w ok (ks.map zF) (zCs ks):=⟨by simp[zCs],fun i h=>by
 simp only[Bl]at h
 exact⟨zC ks[i],by simp[zCs,h],by simpa using zFP w ok ks[i]⟩⟩
@[reducible] def Th.flat (ks : List Kd) : Th where
  X := List Fv
  sz := ks.length
  mx := 65545 * ks.length
  zs := zCs ks
  fl x := x
  rd := vT ks
  M w ok x vs := x.map Fv.kd = ks ∧ FPs w ok x vs
  z := ks.map zF
  zM w ok := ⟨by rw [List.map_map]; conv => rhs; rw [← List.map_id ks]
                 exact List.map_congr_left fun k _ => by cases k <;> rfl, zFPs w ok ks⟩
  zlen := by simp [zCs]
  zone := by rw [zCs, List.all_map, Ew]; intro k _; exact zC_one k
  len h := by rw [h.2.len, ← h.1]; simp
  mono h hs := ⟨h.1, h.2.mono hs⟩
  to h H hs := ⟨h.1, h.2.to H hs⟩
  good h := h.2.fok
  ones h := h.2.ones
  bad h := AU ks h
  le h := D4 ks h
@[reducible] def Th.pair (A B:Th):Th where
 X:=A.X×B.X
 sz:=A.sz+B.sz
 mx:=A.mx+B.mx
 zs:=A.zs++B.zs
 fl x:=A.fl x.1++B.fl x.2
 rd b i e:=(((A.rd b i e).1,(B.rd b (A.rd b i e).2.1 (A.rd b i e).2.2).1),(B.rd b (A.rd b i e).2.1 (A.rd b i e).2.2).2)
 M w ok x vs:=A.M w ok x.1 (vs.take A.sz)∧B.M w ok x.2 (vs.drop A.sz)∧A.sz≤vs.length
 z:=(A.z,B.z)
 zM w ok:=⟨by rw[← A.zlen,List.take_left];exact A.zM w ok,by rw[← A.zlen,List.drop_left];exact B.zM w ok,by rw[Af,A.zlen];omega⟩
 zlen:=by rw[Af,A.zlen,B.zlen]
 zone:=by rw[List.all_append,A.zone,B.zone];rfl
 len h:=by
  have h2:=B.len h.2.1
  have h3:=h.2.2
  rw[Bh]at h2
  omega
 mono h hs:=⟨A.mono h.1 hs,B.mono h.2.1 hs,h.2.2⟩
 to h H hs:=⟨A.to h.1 H hs,B.to h.2.1 H hs,h.2.2⟩
 good h f hf:=by
  rcases Bj.1 hf with hf | hf
  · exact A.good h.1 f hf
  exact B.good h.2.1 f hf
 ones {w ok x vs} h:=by
  have h1:=A.ones h.1
  have h2:=B.ones h.2.1
  rw[← Eu A.sz vs,List.all_append,h1,h2];rfl
 bad {b i e} h:=by
  have h1:=A.bad (b:=b) (i:=i) h
  show(B.rd _ _ _).2=_
  rw[h1];exact B.bad h
 le h:=B.le (A.le h)
def qT (w:World) (a:Addr):Prop:=Tw w a.block
theorem qT.to (h:qT w a) (H:Hp w w' S es) (ha:a.block∉S):qT w' a:=by
 obtain⟨arr,U,h⟩:=h
 exact⟨arr,U,H.keep h ha⟩
theorem qT.add (h:qT w a) (k:Nat):qT w (a.add k):=by unfold qT;rw[sP];exact h
@[reducible] def M0 (a:Addr):Value:=.pointer (some a)
@[reducible] def Ptr0 (g:Nat):Value:=.pointer (some ⟨g,0,none⟩)
def nT (gp:Nat) (st:WS) (w0:World) (S:List Nat) (w':World):Prop:=∃ g cap sp,POk 65536 g cap sp st∧Hp w0 w' S (pw gp g cap sp st)
def IG (P:Program) (f:FuncId) (A:Th) (tw:Bool):Prop:=
 ∀ (gp:Nat) (g:Option Nat) (cap:Nat) (sp:List Value) (st:WS) (a:Addr) (x:A.X) (vs:List Value) (w0:World),Hp w0 w0 (bl (pw gp g cap sp st)) (pw gp g cap sp st)→POk 65536 g cap sp st→
  A.M w0 (fun b=>b∉bl (pw gp g cap sp st)) x vs→Cl w0 (bl (pw gp g cap sp st)) a vs→(tw=true→qT w0 a)→
  zO P f #[Ptr0 gp,M0 a] w0 (fun _ w'=>nT gp (xV (A.fl x) st) w0 (bl (pw gp g cap sp st)) w')
def RS (P:Program) (f:FuncId) (k:Kd):Prop:=
 ∀ (gp:Nat) (g:Option Nat) (cap:Nat) (sp:List Value) (st:WS) (a:Addr) (o m c:Nat) (x:List Fv) (vs:List Value) (w0:World) (A:Option Addr),m≤1000000→Hp w0 w0 (bl (pw gp g cap sp st)) (pw gp g cap sp st)→POk 65536 g cap sp st→
  (Th.flat (List.replicate m k)).M w0 (fun b=>b∉bl (pw gp g cap sp st)) x vs→Cl w0 (bl (pw gp g cap sp st)) (a.add o) vs→Rd w0 A m 1 (gI a o m)→(∀ p,A=some p→p.block∉bl (pw gp g cap sp st))→
  zO P f #[Ptr0 gp,.slice A m c] w0 (fun _ w'=>nT gp (xV x st) w0 (bl (pw gp g cap sp st)) w')
@[reducible] def vwo (gp:Nat) (g:Option Nat) (cap:Nat) (sp:List Value) (st:WS) (go:Nat) (T:TypeId) (cs:List Value):List Ent:=vw gp g cap sp st++[(some go,T,cs)]
def fM (m:Nat) (gp:Nat) (a:WS) (go:Nat) (T:TypeId) (cs:List Value) (w0:World) (S:List Nat) (w':World):Prop:=∃ st g cap sp,rW a st∧POk m g cap sp st∧Hp w0 w' S (vwo gp g cap sp st go T cs)
def fL (P:Program) (f:FuncId) (A:Th):Prop:=
 ∀ (gp go o:Nat) (g:Option Nat) (cap:Nat) (sp:List Value) (st:WS) (T:TypeId) (cs:List Value) (x:A.X) (vs:List Value) (w0:World) (m:Nat) (a:WS),Hp w0 w0 (bl (vwo gp g cap sp st go T cs)) (vwo gp g cap sp st go T cs)→m+A.mx≤1000000000→POk m g cap sp st→rW a st→
  A.M w0 (fun b=>b∉bl (vwo gp g cap sp st go T cs)) x vs→At cs o vs→
  zO P f #[Ptr0 gp,M0 ⟨go,o,none⟩] w0 (fun _ w'=>fM (m+A.mx) gp (xV (A.fl x) a) go T cs w0 (bl (vwo gp g cap sp st go T cs)) w')
def RO (P:Program) (f:FuncId) (k:Kd):Prop:=
 ∀ (gp go o n c:Nat) (g:Option Nat) (cap:Nat) (sp:List Value) (st:WS) (T:TypeId) (cs:List Value) (x:List Fv) (vs:List Value) (w0:World) (m:Nat) (a:WS) (A:Option Addr),n≤1000000→Hp w0 w0 (bl (vwo gp g cap sp st go T cs)) (vwo gp g cap sp st go T cs)→m+65545*n≤1000000000→POk m g cap sp st→rW a st→
  (Th.flat (List.replicate n k)).M w0 (fun b=>b∉bl (vwo gp g cap sp st go T cs)) x vs→At cs o vs→Rd w0 A n 1 (fZ go o n)→(∀ p,A=some p→p.block∉bl (vwo gp g cap sp st go T cs))→
  zO P f #[Ptr0 gp,.slice A n c] w0 (fun _ w'=>fM (m+65545*n) gp (xV x a) go T cs w0 (bl (vwo gp g cap sp st go T cs)) w')
abbrev BS :=Nat→Nat→List Ent
def nS (R:BS) (A:Th) (go o:Nat) (T:TypeId) (cs:List Value) (b:List UInt8) (i e:Nat) (n:Nat) (w0:World) (S:List Nat) (w':World):Prop:=
 ∃ us,us.length=A.sz∧us.all (·.oneCell')=true∧Hp w0 w' S (R (A.rd b i e).2.1 (A.rd b i e).2.2++[(some go,T,zG cs o us)])∧
  ((A.rd b i e).2.2=0→A.M w' (Fr w' n (R (A.rd b i e).2.1 (A.rd b i e).2.2++[(some go,T,zG cs o us)])) (A.rd b i e).1 us)
def KL (P:Program) (f:FuncId) (R:BS) (gp:Nat) (b:List UInt8) (A:Th):Prop:=
 ∀ (go o i e:Nat) (T:TypeId) (cs:List Value) (w0:World),Hp w0 w0 (bl (R i e++[(some go,T,cs)])) (R i e++[(some go,T,cs)])→i≤b.length→At cs o A.zs→o+A.sz≤cs.length→
  zO P f #[Ptr0 gp,M0 ⟨go,o,none⟩] w0 (fun _ w'=>nS R A go o T cs b i e w0.heap.size w0 (bl (R i e++[(some go,T,cs)])) w')
def F8 (P:Program) (f:FuncId) (R:BS) (gp:Nat) (b:List UInt8) (k:Kd):Prop:=
 ∀ (go o n c i e:Nat) (T:TypeId) (cs:List Value) (w0:World) (A:Option Addr),n≤1000000→Hp w0 w0 (bl (R i e++[(some go,T,cs)])) (R i e++[(some go,T,cs)])→i≤b.length→At cs o (zCs (List.replicate n k))→o+n≤cs.length→Rd w0 A n 1 (fZ go o n)→(∀ p,A=some p→p.block∉bl (R i e++[(some go,T,cs)]))→
  zO P f #[Ptr0 gp,.slice A n c] w0 (fun _ w'=>nS R (Th.flat (List.replicate n k)) go o T cs b i e w0.heap.size w0 (bl (R i e++[(some go,T,cs)])) w')
theorem bA {R:BS} {ks:List Kd} {go o:Nat} {T:TypeId} {cs:List Value} {b:List UInt8} {i e:Nat} {w0:World} 
 (h:∃ fd i1 e1 us,vT ks b i e=(fd,i1,e1)∧i1≤b.length∧NFs w' n (R i1 e1++[(some go,T,zG cs o us)]) fd us∧Hp w0 w' S (R i1 e1++[(some go,T,zG cs o us)])):nS R (Th.flat ks) go o T cs b i e n w0 S w':=by
 obtain⟨fd,i1,e1,us,hr,hi,hF,H⟩:=h
 have hr':(Th.flat ks).rd b i e=(fd,i1,e1):=hr
 have hk:=D6 ks b i e
 rw[hr]at hk
 unfold nS
 rw[hr']
 exact⟨us,by rw[hF.len];show fd.length=ks.length;rw[← hk];simp,hF.ones,H,fun _=>⟨hk,hF⟩⟩
theorem L7 {w w':World} {gr:Nat} {e0:TypeId×List Value} {es:List Ent} (H:Hp w w' [gr] ((some gr,e0)::es)) {i:Nat} {g:Option Nat} {T:TypeId} {cs:List Value} (he:es[i]? =some (g,T,cs)):∀ p,hd g=some p→w.heap.size≤p.block:=by
 refine lY H (i+1) he ?_
 intro p hp hb
 cases g with
 | none=>cases hp
 | some x=>
  cases hp
  simp only[Bc]at hb
  subst hb
  have:=H.apart 0 (i+1) _ _ x rfl he rfl rfl
  omega
theorem FP.zero {ok ok':Nat→Prop} {v:Value} (h:FP w ok (.bytes []) v):FP w' ok' (.bytes []) v:=by
 obtain⟨B,c,h1,h2,_⟩:=h
 exact⟨B,c,h1,⟨Y,fun _ _ _ _ hu=>by simp[u8s]at hu,fun _=>Y⟩,fun h=>absurd h (by simp)⟩
theorem Fr.to {A:Th} {es':List Ent} {x:A.X} {vs:List Value} (h:A.M w (Fr w n es) x vs) (H:Hp w w' (bl es) es'):A.M w' (Fr w' n es') x vs:=
 A.mono (A.to h H fun _ h=>h.2.1) fun _ h=>⟨h.1.1,h.2,h.1.2.2.to H h.1.2.1⟩
theorem Hp.tw {w0 w:World} {S:List Nat} {es:List Ent} {i:Nat} {g:Option Nat} {T:TypeId} {cs:List Value} (H:Hp w0 w S es) (he:es[i]? =some (g,T,cs)):∀ p,hd g=some p→Tw w p.block:=by
 intro p hp
 cases g with
 | none=>cases hp
 | some x=>cases hp;exact⟨_,_,H.at he⟩
theorem IJ {q:Nat} {k:Kd} (h:q < n):(zCs (List.replicate n k))[q]? =some (zC k):=by simp[zCs,h]
def M1 (P:Program) (f:FuncId) (A:Th):Prop:=∀ gp gr gb cb sb b,b.length≤cb→b.length≤65536→KL P f (pr gp gr gb cb sb b) gp b A
def WG (P:Program) (f:FuncId) (k:Kd):Prop:=∀ gp gr gb cb sb b,b.length≤cb→b.length≤65536→F8 P f (pr gp gr gb cb sb b) gp b k
end
end Go.Proofs.YtjoeklkmnfaabaaGreat
namespace Go.Proofs.YtjoeklkmnfaabaaGreat
open Go Go.RowKit
set_option linter.unusedVariables false
set_option linter.unusedSimpArgs false
attribute [local irreducible] yT Ops zO Cd
set_option maxRecDepth 100000
set_option maxHeartbeats 4000000
theorem I1 (gp:Nat) (g:Option Nat) (cap:Nat) (sp:List Value) (st:WS) (w0:World) (H0:Hp w0 w0 (bl (pw gp g cap sp st)) (pw gp g cap sp st)):Aj 146 #[Ah gp] w0 (fun r w'=>r=.bool st.long∧Hp w0 w' (bl (pw gp g cap sp st)) (pw gp g cap sp st)):=by
 refine zE Tryz.func146 Tryz.ntmps146 Y<|cR e31 ?_
 have H:=H0
 refine Rq<|Xa Y<|Xr e31<|J1<|Rq<|Xm Y<|Xc Y<|Xf tS Y<|OV (EL oD Y (H.cell (i:=0) Y Y))<|Ae e31<|Qg (yE Uc Y) (Y)<|Xr e31<|J3 Y<|Rq<|Xm Y<|Xc Y<|Xf oG Y<|OV (EL ty4 Y (H.cell (i:=0) Y Y))<|Ae e31<|Xa Y<|Xr e31<|J5<|Cj Y Y<|⟨Y,H⟩
theorem OD (gp:Nat) (g:Option Nat) (cap:Nat) (sp:List Value) (st:WS) (w0:World) (H0:Hp w0 w0 (bl (pw gp g cap sp st)) (pw gp g cap sp st)) (hP:POk 65536 g cap sp st) (A:Option Addr) (x:List UInt8) (c:Nat) (hr:Rd w0 A x.length 1 (u8s x)) (ha:∀ p,A=some p→p.block∉bl (pw gp g cap sp st)) (hx:x.length≤1000000000):Aj 147 #[Ah gp,Ac A x.length c] w0 (fun r w'=>∃ g1 cap1 sp1,POk 65536 g1 cap1 sp1 (iX x st)∧Hp w0 w' (bl (pw gp g cap sp st)) (pw gp g1 cap1 sp1 (iX x st))):=by
 refine zE Tryz.func147 Tryz.ntmps147 Y<|cR e31 ?_
 have H:=H0
 obtain⟨Nb,Vb⟩:=st
 have Gq:=hP.most
 simp only at Gq
 refine J1<|J1 ?_
 cases Vb
 refine J2<|Xm Y<|Xc Y<|Xf oG Y<|OV (EL ty4 Y (H.cell (i:=0) Y Y))<|Ae e31<|Xm Y<|OY Y<|Xm Y<|Ae e31<|OY Y<|OV (ES Hf Y)<|OY Y<|Xm Y<|Ae e31<|OY Y<|Xc Y<|OY Y<|Xf dY Y<|Ae e31<|OY Y<|OV (EL xG Y (H.cell (i:=0) Y Y))<|OY Y<|OV (ES Hf Y)<|Ae e31<|OY Y<|OV (uI Y Y (Ad _ (by dsimp only;omega)))<|OY Y<|OT (yP Y Y) (fun hp17=>?_) (fun hp17=>?_)
 dsimp only at hp17
 refine Xu Y Y<|Xr e31<|J3 Y<|Rq<|Xm Y<|Xc Y<|Xf oG Y<|OW ty4 H 0 Y Y Y Y (by first|exact NL Y|simp[zG]) Y<|fun w1 H1=>Xr e31<|J5<|rQ Y ?_
 have hw:iX x ⟨Nb,false⟩=⟨Nb,true⟩:=if_pos (.inr (by show 65536 < Nb.length+x.length;omega))
 rw[hw]
 exact⟨g,cap,sp,⟨hP.1,hP.2,hP.3,hP.4⟩,H1⟩
 dsimp only at hp17
 refine Xu Y Y<|Xr e31<|J4 Y<|J6<|J2<|Xm Y<|Xm Y<|Xc Y<|Xf dY Y<|Ae e31<|OV (EL xG Y (H.cell (i:=0) Y Y))<|Xm Y<|lP Hf ty5 H 1 (L:=Nb) (M:=x) (g:=g) (sp:=sp) Y Y hP.room hP.le hP.nil Y (hr.to H ha) (by have:=hP.most;simp only at this;omega)<|fun w1 g3 cap3 sp3 H1 hmc3 hcap3 hg3=>Xc Y<|Ae e31<|Xf dY Y<|OW xG H1 0 Y Y Y Y (by first|exact NL Y|simp[zG]) Y<|fun w2 H2=>Xr e31<|zA<|yO Y ?_
 have hw:iX x ⟨Nb,false⟩=⟨Nb++x,false⟩:=if_neg (by rintro(h | h);cases h;have:65536 < Nb.length+x.length:=h;omega)
 rw[hw]
 exact⟨g3,cap3,sp3,⟨hmc3,hcap3,hg3,by show(Nb++x).length≤_;rw[Af];omega⟩,H2⟩
 refine J2<|Xm Y<|Xc Y<|Xf oG Y<|OV (EL ty4 Y (H.cell (i:=0) Y Y))<|Ae e31<|Xm Y<|Oz 9 Y<|Ae e31<|Xt Y Y<|Xr e31<|J3 Y<|Rq<|Xm Y<|Xc Y<|Xf oG Y<|OW ty4 H 0 Y Y Y Y (by first|exact NL Y|simp[zG]) Y<|fun w1 H1=>Xr e31<|J5<|rQ Y ?_
 have hw:iX x ⟨Nb,true⟩=⟨Nb,true⟩:=if_pos (.inl rfl)
 rw[hw]
 exact⟨g,cap,sp,hP,H1⟩
theorem WX (gp:Nat) (g0:Option Nat) (cap0:Nat) (sp0:List Value) (st:WS) (a:Addr) (o m c:Nat) (fd:List Fv) (vs:List Value) (w0:World) (H0:Hp w0 w0 (bl (pw gp g0 cap0 sp0 st)) (pw gp g0 cap0 sp0 st)) (hP:POk 65536 g0 cap0 sp0 st) (A:Option Addr) (hm:m≤1000000) (hk:fd.map Fv.kd=List.replicate m .int) (hF:FCs w0 (pw gp g0 cap0 sp0 st) fd vs) (hC:Cl w0 (bl (pw gp g0 cap0 sp0 st)) (a.add o) vs) (hA:Rd w0 A m 1 (gI a o m)) (hS:∀ p,A=some p→p.block∉bl (pw gp g0 cap0 sp0 st)):Aj 106 #[Ah gp,Ac A m c] w0 (fun _ w'=>nT gp (xV fd st) w0 (bl (pw gp g0 cap0 sp0 st)) w'):=by
 refine zE Tryz.func106 Tryz.ntmps106 Y<|cR e35 ?_
 have H:=H0
 have hlen:fd.length=m:=by have:=congrArg List.length hk;simpa using this
 refine Rq<|Xm Y<|OV (ES Oa Y)<|Xm Y<|Xr e35<|J7<|zU (fun nQ lQ w=>∃ (q:Nat) (y:Int) (g:Option Nat) (cap:Nat) (sp:List Value),m - q=nQ∧xO (Ik [(0,Ah gp),(6,Ac A m c),(7,Aa m),(8,Aa y)] 0 35) lQ∧y=q∧q≤m∧POk 65536 g cap sp (xV (fd.take q) st)∧Hp w0 w (bl (pw gp g0 cap0 sp0 st)) (pw gp g cap sp (xV (fd.take q) st))) (m) ?_ ?_
 exact⟨0,_,g0,cap0,sp0,Y,(Ja Y Y Y Y Y),Y,Am _,hP,H⟩
 rintro nQ lQ w1 ⟨q,y,g,cap,sp,rfl,hfit,rfl,hq,hP,H1⟩
 obtain⟨j,rfl⟩:=hfit.open
 refine cR e35 ?_
 clear hfit
 refine Rq<|OT (zR Y Y) (fun hp9=>?_) (fun hp9=>?_)
 have Ib:q < m:=by omega
 have ZO:q < fd.length:=by omega
 obtain⟨v,hv1,hv2⟩:=hF.each q ZO
 have hsn:=fP ZO st
 have hcq:w0.cell? (a.add (o+q))=some v:=by have:=hC.cell q v hv1;rwa [tV]at this
 have hbq:(a.add (o+q)).block∉bl (pw gp g0 cap0 sp0 st):=by rw[sP];have:=hC.apart (by have:=hF.len;omega);rwa [sP]at this
 obtain⟨pa,hpa⟩:=hA.some_ (by omega)
 subst hpa
 have hkd:fd[q].kd=.int:=by
  have:=congrArg (fun l=>l[q]?) hk
  simpa[ZO,Ib]using this
 obtain⟨nn,hfq⟩:∃ x,fd[q]=.int x:=by
  generalize fd[q]=fq at hkd
  cases fq <;>first | exact⟨_,rfl⟩ | cases hkd
 rw[hfq]at hv2 hsn
 obtain⟨rfl,hn1,hn2⟩:=hv2
 obtain⟨st1,hst⟩:∃ x,xV (fd.take q) st=x:=⟨_,rfl⟩
 rw[hst]at hsn H1 hP
 refine Xr e35<|J1<|J3 Y<|J6<|J1<|J7<|Rq<|OV (EI Oa tQ Y Y Y Ib (Bz _))<|OV (EL tQ Y ((hA.to H1 hS).cells pa Y q _ (AZ Ib)))<|Xa Y<|Xr e35<|J7<|Rq<|Xm Y ?_
 have hk:=I1 gp g cap sp st1 _ H1.here
 refine OC (EC JM Y) hk<|fun w2 Hd=>have H2:=H1.all Hd;Xa Y<|Xr e35<|wP Y (fun Yc=>?_) (fun Yc=>?_)
 rw[nB Yc]at hsn
 refine J6<|zA (zD ?_)
 refine zA (zD ?_)
 refine J2<|OV (zL Y Y (Ad _ (by omega)))<|Xm Y<|Xr e35<|zA (zH ?_)
 exact⟨m - (q+1),by omega,q+1,_,g,cap,sp,Y,(Ja Y Y Y Y Y),Y,by omega,by rw[hsn];exact hP,by rw[hsn];exact H2⟩
 rw[lC Yc rfl]at hsn
 refine Rq<|Xm Y<|Xc Y<|Xf tS Y<|OV (EL oD Y (H2.cell (i:=0) Y Y))<|Ae e35<|Qg (yE Uc Y) (Y)<|Xa Y<|Xr e35<|J3 Y<|J2<|Xm Y<|Xm Y<|Xc Y<|OV (EL ty3 Y (jP hcq H2 hbq))<|Ae e35 ?_
 have hxl:(uC nn).length≤1000000000:=by have:=fD (f:=.int nn) ⟨hn1,hn2⟩ rfl;exact Ci this (by decide)
 refine yW (EC gf148 Y) (T6 nn _ hn1 hn2)<|fun w3 g1 c1 sp1 hm1 hc1 hg1 Hd=>have H3:=H2.call0 Hd;?_
 have HQ:Hp w0 w3 _ (pw gp g cap sp st1++[(g1,5,u8s (uC nn)++sp1)]):=H3
 have hk:=OD gp g cap sp st1 _ (HQ.less (es:=pw gp g cap sp st1) (R:=[(g1,5,u8s (uC nn)++sp1)])).here hP (hd g1) (uC nn) c1 (HQ.rd (i:=2) (o:=g1) (xs:=u8s (uC nn)) (sp:=sp1) rfl (yV _) (by decide)) (rZ HQ (i:=0) rfl) hxl
 refine OQ (EC VU Y) hk ?_
 rintro _ w4 ⟨g,cap,sp,hP,Hd⟩
 have H4:=Hp.less (es:=pw gp g cap sp _) (R:=[(g1,5,u8s (uC nn)++sp1)]) (HQ.front Hd)
 refine Xr e35<|zA (zD ?_)
 refine zA (zD ?_)
 refine J2<|OV (zL Y Y (Ad _ (by omega)))<|Xm Y<|Xr e35<|zA (zH ?_)
 exact⟨m - (q+1),by omega,q+1,_,g,cap,sp,Y,(Ja Y Y Y Y Y),Y,by omega,by rw[hsn];exact hP,by rw[hsn];exact H4⟩
 have hqm:q=m:=by omega
 subst hqm
 rw[Ej (by omega)]at H1 hP
 refine Xr e35<|J1<|J4 Y<|J8<|zT<|zS<|zA<|yO Y<|⟨g,cap,sp,hP,H1⟩
theorem iI :RS Tryz.prog 106 .int:=fun gp g cap sp st a o m c x vs w0 A hm H0 hP hM hC hA hS=>WX gp g cap sp st a o m c x vs w0 H0 hP A hm hM.1 hM.2 hC hA hS
theorem EA (gp:Nat) (g0:Option Nat) (cap0:Nat) (sp0:List Value) (st:WS) (a:Addr) (fd:List Fv) (vs:List Value) (w0:World) (H0:Hp w0 w0 (bl (pw gp g0 cap0 sp0 st)) (pw gp g0 cap0 sp0 st)) (hP:POk 65536 g0 cap0 sp0 st) (hk:fd.map Fv.kd=[.bytes]) (hF:FCs w0 (pw gp g0 cap0 sp0 st) fd vs) (hC:Cl w0 (bl (pw gp g0 cap0 sp0 st)) a vs):Aj 150 #[Ah gp,.pointer (some a)] w0 (fun _ w'=>nT gp (xV fd st) w0 (bl (pw gp g0 cap0 sp0 st)) w'):=by
 refine zE Tryz.func150 Tryz.ntmps150 Y<|cR e35 ?_
 have H:=H0
 obtain⟨x,rfl⟩:=BC hk
 obtain⟨v,rfl,hv2⟩:=hF.head
 have hcq:w0.cell? a=some v:=by have:=hC.cell 0 v rfl;rwa [Iq]at this
 have hbq:=hC.apart (by simp)
 obtain⟨B,c,Za,hrd,hap⟩:=hv2
 subst Za
 refine J7<|Rq<|Xm Y ?_
 have hk:=I1 gp g0 cap0 sp0 st _ H.here
 refine OC (EC JM Y) hk<|fun w1 Hd=>have H1:=H.all Hd;Xa Y<|Xr e35<|wP Y (fun Yd=>?_) (fun Yd=>?_)
 refine J6<|zA (zD ?_)
 refine zA<|yO Y ?_
 rw[cJ,nB Yd]
 exact⟨g0,cap0,sp0,hP,H1⟩
 refine Rq<|Xm Y<|Xc Y<|Xf tS Y<|OV (EL oD Y (H1.cell (i:=0) Y Y))<|Ae e35<|Jt (uB Uc Y) (by simp)<|Xa Y<|Xr e35<|J4 Y<|Rq<|Xm Y<|Xc Y<|OV (EL xG Y (jP hcq H1 hbq))<|OV (ES Hf Y)<|Ae e35<|OT (yP Y Y) (fun Nv=>?_) (fun Nv=>?_)
 refine Xa Y<|Xr e35<|J3 Y<|J2<|Xm Y<|Xc Y<|Xf oG Y<|OW ty4 H1 0 Y Y Y Y (by first|exact NL Y|simp[zG]) Y<|fun w2 H2=>Xr e35<|zA (zD ?_)
 refine zA<|yO Y ?_
 rw[cJ,iY Yd (by simp[wK];omega)]
 exact⟨g0,cap0,sp0,⟨hP.1,hP.2,hP.3,hP.4⟩,H2⟩
 refine Xa Y<|Xr e35<|J4 Y<|J2<|Xm Y<|Xm Y<|Xc Y<|OV (EL xG Y (jP hcq H1 hbq))<|Ae e35 ?_
 have hxl:(xW x).length≤1000000000:=by have:=fD (f:=.bytes x) trivial (by simp[wK];omega);exact Ci this (by decide)
 refine yW (EC gf184 Y) (NK B x c _ (hrd.fc H1 hap) (by omega))<|fun w2 g1 c1 sp1 hm1 hc1 hg1 Hd=>have H2:=H1.call0 Hd;?_
 have HQ:Hp w0 w2 _ (pw gp g0 cap0 sp0 st++[(g1,5,u8s (xW x)++sp1)]):=H2
 have hk:=OD gp g0 cap0 sp0 st _ (HQ.less (es:=pw gp g0 cap0 sp0 st) (R:=[(g1,5,u8s (xW x)++sp1)])).here hP (hd g1) (xW x) c1 (HQ.rd (i:=2) (o:=g1) (xs:=u8s (xW x)) (sp:=sp1) rfl (yV _) (by decide)) (rZ HQ (i:=0) rfl) hxl
 refine OQ (EC VU Y) hk ?_
 rintro _ w3 ⟨g,cap,sp,hP,Hd⟩
 have H3:=Hp.less (es:=pw gp g cap sp _) (R:=[(g1,5,u8s (xW x)++sp1)]) (HQ.front Hd)
 refine Xr e35<|zA (zD ?_)
 refine zA<|yO Y ?_
 rw[cJ,lC Yd (by simp[wK];omega)]
 exact⟨g,cap,sp,hP,H3⟩
theorem EG :IG Tryz.prog 150 (Th.flat [.bytes]) false:=fun gp g cap sp st a x vs w0 H0 hP hM hC _=>EA gp g cap sp st a x vs w0 H0 hP hM.1 hM.2 hC
theorem S6 (gp:Nat) (g0:Option Nat) (cap0:Nat) (sp0:List Value) (st:WS) (a:Addr) (o m c:Nat) (fd:List Fv) (vs:List Value) (w0:World) (H0:Hp w0 w0 (bl (pw gp g0 cap0 sp0 st)) (pw gp g0 cap0 sp0 st)) (hP:POk 65536 g0 cap0 sp0 st) (A:Option Addr) (hm:m≤1000000) (hk:fd.map Fv.kd=List.replicate m .text) (hF:FCs w0 (pw gp g0 cap0 sp0 st) fd vs) (hC:Cl w0 (bl (pw gp g0 cap0 sp0 st)) (a.add o) vs) (hA:Rd w0 A m 1 (gI a o m)) (hS:∀ p,A=some p→p.block∉bl (pw gp g0 cap0 sp0 st)):Aj 151 #[Ah gp,Ac A m c] w0 (fun _ w'=>nT gp (xV fd st) w0 (bl (pw gp g0 cap0 sp0 st)) w'):=by
 refine zE Tryz.func151 Tryz.ntmps151 Y<|cR e44 ?_
 have H:=H0
 have hlen:fd.length=m:=by have:=congrArg List.length hk;simpa using this
 refine Rq<|Xm Y<|OV (ES ZH Y)<|Xm Y<|Xr e44<|J7<|zU (fun nQ lQ w=>∃ (q:Nat) (y:Int) (g:Option Nat) (cap:Nat) (sp:List Value),m - q=nQ∧xO (Ik [(0,Ah gp),(7,Ac A m c),(8,Aa m),(9,Aa y)] 0 44) lQ∧y=q∧q≤m∧POk 65536 g cap sp (xV (fd.take q) st)∧Hp w0 w (bl (pw gp g0 cap0 sp0 st)) (pw gp g cap sp (xV (fd.take q) st))) (m) ?_ ?_
 exact⟨0,_,g0,cap0,sp0,Y,(Ja Y Y Y Y Y),Y,Am _,hP,H⟩
 rintro nQ lQ w1 ⟨q,y,g,cap,sp,rfl,hfit,rfl,hq,hP,H1⟩
 obtain⟨j,rfl⟩:=hfit.open
 refine cR e44 ?_
 clear hfit
 refine Rq<|OT (zR Y Y) (fun hp10=>?_) (fun hp10=>?_)
 have Ib:q < m:=by omega
 have ZO:q < fd.length:=by omega
 obtain⟨v,hv1,hv2⟩:=hF.each q ZO
 have hsn:=fP ZO st
 have hcq:w0.cell? (a.add (o+q))=some v:=by have:=hC.cell q v hv1;rwa [tV]at this
 have hbq:(a.add (o+q)).block∉bl (pw gp g0 cap0 sp0 st):=by rw[sP];have:=hC.apart (by have:=hF.len;omega);rwa [sP]at this
 obtain⟨pa,hpa⟩:=hA.some_ (by omega)
 subst hpa
 have hkd:fd[q].kd=.text:=by
  have:=congrArg (fun l=>l[q]?) hk
  simpa[ZO,Ib]using this
 obtain⟨s,hfq⟩:∃ x,fd[q]=.text x:=by
  generalize fd[q]=fq at hkd
  cases fq <;>first | exact⟨_,rfl⟩ | cases hkd
 rw[hfq]at hv2 hsn
 have Za:v=yI s:=hv2
 subst Za
 obtain⟨st1,hst⟩:∃ x,xV (fd.take q) st=x:=⟨_,rfl⟩
 have hcut:=DH ZO (st:=st)
 rw[hfq,hst]at hcut
 rw[hst]at hsn H1 hP
 refine Xr e44<|J1<|J3 Y<|J6<|J1<|J7<|Rq<|OV (EI ZH AH Y Y Y Ib (Bz _))<|OV (EL AH Y ((hA.to H1 hS).cells pa Y q _ (AZ Ib)))<|Xa Y<|Xr e44<|J1<|Rq<|Xm Y<|Xc Y<|Xf tS Y<|OV (EL oD Y (H1.cell (i:=0) Y Y))<|Ae e44<|Qg (yE Uc Y) (Y)<|Xm Y<|Ae e44<|OY Y<|Xm Y<|OY Y<|Xc Y<|Ae e44<|OY Y<|OV (EL ty9 Y (jP hcq H1 hbq))<|OY Y<|OV (oX Tryz.underlying9 Y) ?_
 rw[fU]
 refine Ae e44<|OY Y<|OT (yP Y Y) (fun hp23=>?_) (fun hp23=>?_)
 refine Xt Y Y<|Xr e44<|J3 Y<|Rq<|Xm Y<|Xc Y<|Xf oG Y<|OW ty4 H1 0 Y Y Y Y (by first|exact NL Y|simp[zG]) Y<|fun w2 H2=>Xr e44<|J5<|BR<|yN<|BR<|rQ Y ?_
 rw[hcut (by simp[wK];omega)]
 exact⟨g,cap,sp,⟨hP.1,hP.2,hP.3,hP.4⟩,H2⟩
 have hnl:wK (.text s)=false:=by simp[wK];omega
 refine Xt Y Y<|Xr e44<|J4 Y<|J6<|Rq<|Xm Y<|Xc Y<|OV (EL ty9 Y (jP hcq H1 hbq)) ?_
 have hgn:=eM H1 (g:=w1.heap.size) (Ai _)
 refine mB Tryz.underlying9 Hf Tryz.underlying5 H1 (s:=s) Y<|fun w2 gs cs1 HB hrs hgs hsz=>?_
 rw[← hgs]at hgn
 have H2:=HB.here
 refine Ae e44<|OA xG H2<|fun w3 gb H3 hgb=>OW xG H3 2 Y Y Y Y (by first|exact NL Y|simp[zG]) Y<|fun w4 H4=>Xr e44<|Rq<|Xm Y ?_
 have HQ:Hp _ w4 _ (pw gp g cap sp st1++[(some gb,73,[Ac (some ⟨gs,0,none⟩) s.length cs1])]):=H4
 have Rz:=rZ (es1:=pw gp g cap sp st1) (R:=[(some gb,73,[Ac (some ⟨gs,0,none⟩) s.length cs1])]) HQ (i:=0) (g:=some gb) rfl ⟨gb,0,none⟩ rfl
 have hk:=EA gp g cap sp st1 ⟨gb,0,none⟩ [.bytes s] [Ac (some ⟨gs,0,none⟩) s.length cs1] _ HQ.less.here hP rfl (FPs.one (f:=.bytes s) ⟨_,_,rfl,hrs.fc HQ.less (fun _ p hp=>by cases hp;exact hgn),fun h0=>aM hrs h0 (fun p hp=>by cases hp;exact hgn) HQ.less⟩) (HQ.cl (i:=2) rfl Rz)
 refine OQ (EC BJ Y) hk ?_
 rintro _ w5 ⟨g,cap,sp,hP,Hd⟩
 have H5:=(HB.all (HQ.front Hd)).pick [0,1] (by decide)
 refine Xr e44<|Rq<|Xm Y<|Xc Y<|Xf tS Y<|OV (EL oD Y (H5.cell (i:=0) Y Y))<|Ae e44<|Jt (uB Uc Y) (by simp)<|Xr e44<|J4 Y<|J6<|zA (zD ?_)
 refine J2<|OV (zL Y Y (Ad _ (by omega)))<|Xm Y<|Xr e44<|zA (zH ?_)
 exact⟨m - (q+1),by omega,q+1,_,g,cap,sp,Y,(Ja Y Y Y Y Y),Y,by omega,by rw[hsn];exact hP,by rw[hsn];exact H5⟩
 have hqm:q=m:=by omega
 subst hqm
 rw[Ej (by omega)]at H1 hP
 refine Xr e44<|J1<|J4 Y<|J8<|zT<|zS<|zA<|yO Y<|⟨g,cap,sp,hP,H1⟩
theorem S8 :RS Tryz.prog 151 .text:=fun gp g cap sp st a o m c x vs w0 A hm H0 hP hM hC hA hS=>S6 gp g cap sp st a o m c x vs w0 H0 hP A hm hM.1 hM.2 hC hA hS
theorem I2 (gp gr:Nat) (gb:Option Nat) (cb:Nat) (sb:List Value) (b:List UInt8) (i e:Nat) (w0:World) (H0:Hp w0 w0 (bl (pr gp gr gb cb sb b i e)) (pr gp gr gb cb sb b i e)) (hcb:b.length≤cb) (hbl:b.length≤65536) (hi:i≤b.length):Aj 146 #[Ah gp] w0 (fun r w'=>r=.bool (decide (e≠0))∧Hp w0 w' (bl (pr gp gr gb cb sb b i e)) (pr gp gr gb cb sb b i e)):=by
 refine zE Tryz.func146 Tryz.ntmps146 Y<|cR e31 ?_
 have H:=H0
 refine Rq<|Xa Y<|Xr e31<|J1<|Rq<|Xm Y<|Xc Y<|Xf tS Y<|OV (EL oD Y (H.cell (i:=0) Y Y))<|Ae e31<|Jt (yE Uc Y) (by simp)<|Xr e31<|J4 Y<|J6<|Rq<|Xm Y<|Xc Y<|Xf tS Y<|OV (EL oD Y (H.cell (i:=0) Y Y))<|Ae e31<|OC (EC gf180 Y) (QT gr (hd gb) cb b i e _ (CD H (j:=1) (k:=2) Y Y (by decide) hcb (by omega) hi))<|fun w1 Hd=>have H1:=H.call0 Hd;Xm Y<|Xe Y Y<|Xe Y Y<|Ae e31<|Xa Y<|Xa Y<|Xr e31<|Rq<|Xm Y<|OT (yR Y Y) (fun hp23=>?_) (fun hp23=>?_)
 have he:e≠0:=by omega
 refine Xm Y<|Ae e31<|Oz 5 Y<|Ae e31<|Xt Y Y<|Xa Y<|Xr e31<|J5<|Cj Y Y<|⟨by rw[decide_eq_true he],H1.pick [0,1,2] (by decide)⟩
 have he:e=0:=by omega
 refine Xm Y<|Ae e31<|OY Y<|Xm Y<|OY Y<|Xc Y<|Ae e31<|OY Y<|Xf JS Y<|OY Y<|OV (EL oA Y (H1.cell (i:=0) Y Y))<|Ae e31<|OY Y<|Jt (yR Y Y) (by simp)<|Xu Y Y<|Xa Y<|Xr e31<|J5<|Cj Y Y<|⟨by rw[decide_eq_false (by omega)],H1.pick [0,1,2] (by decide)⟩
theorem WY (gp gr go o:Nat) (gb:Option Nat) (cb:Nat) (sb:List Value) (b:List UInt8) (i e:Nat) (T:TypeId) (cs:List Value) (w0:World) (H0:Hp w0 w0 (bl (pr gp gr gb cb sb b i e++[(some go,T,cs)])) (pr gp gr gb cb sb b i e++[(some go,T,cs)])) (hcb:b.length≤cb) (hbl:b.length≤65536) (hi:i≤b.length) (m:Nat) (hat:At cs o (zCs (List.replicate m .int))) (A:Option Addr) (c:Nat) (hm:m≤1000000) (hA:Rd w0 A m 1 (fZ go o m)) (hS:∀ p,A=some p→p.block∉bl (pr gp gr gb cb sb b i e++[(some go,T,cs)])):Aj 106 #[Ah gp,Ac A m c] w0 (fun r w'=>∃ fd i1 e1 us,vT (List.replicate m .int) b i e=(fd,i1,e1)∧i1≤b.length∧NFs w' w0.heap.size (pr gp gr gb cb sb b i1 e1++[(some go,T,zG cs o us)]) fd us∧Hp w0 w' (bl (pr gp gr gb cb sb b i e++[(some go,T,cs)])) (pr gp gr gb cb sb b i1 e1++[(some go,T,zG cs o us)])):=by
 refine zE Tryz.func106 Tryz.ntmps106 Y<|cR e35 ?_
 have H:=H0
 refine Rq<|Xm Y<|OV (ES Oa Y)<|Xm Y<|Xr e35<|J7<|zU (fun nQ lQ w=>∃ (q:Nat) (y:Int) (i1 e1:Nat) (us:List Value) (fd:List Fv),m - q=nQ∧xO (Ik [(0,Ah gp),(6,Ac A m c),(7,Aa m),(8,Aa y)] 0 35) lQ∧y=q∧q≤m∧us.length=q∧vT (List.replicate q .int) b i e=(fd,i1,e1)∧i1≤b.length∧NFs w w0.heap.size (pr gp gr gb cb sb b i1 e1++[(some go,T,zG cs o us)]) fd us∧Hp w0 w (bl (pr gp gr gb cb sb b i e++[(some go,T,cs)])) (pr gp gr gb cb sb b i1 e1++[(some go,T,zG cs o us)])) (m) ?_ ?_
 exact⟨0,_,i,e,[],[],Y,(Ja Y Y Y Y Y),Y,Am _,Y,Y,hi,FPs.nil,by rw[jC];exact H⟩
 rintro nQ lQ w1 ⟨q,y,i1,e1,us,fd,rfl,hfit,rfl,hq,hus,hrd,hi1,hF,H1⟩
 obtain⟨j,rfl⟩:=hfit.open
 refine cR e35 ?_
 clear hfit
 refine Rq<|OT (zR Y Y) (fun hp9=>?_) (fun hp9=>?_)
 have Ib:q < m:=by omega
 have hcq:cs[o+q]? =some (Aa 0):=hat q _ (IJ Ib)
 have hfit:=lt_of_get hcq
 have hkeep:=DX (cs:=cs) hus (Nat.le_of_lt hfit)
 rw[hcq]at hkeep
 obtain⟨pa,hpa⟩:=hA.some_ (by omega)
 subst hpa
 have HB:=H1
 replace H1:=HB.here
 refine Xr e35<|J1<|J3 Y<|J6<|J1<|J7<|Rq<|OV (EI Oa tQ Y Y Y Ib (Bz _))<|OV (EL tQ Y ((hA.to (HB.all H1) hS).cells pa Y q _ (bG Ib)))<|Xa Y<|Xr e35<|J7<|Rq<|Xm Y ?_
 have hk:=I2 gp gr gb cb sb b i1 e1 _ (Hp.less (es:=pr gp gr gb cb sb b i1 e1) (R:=[(some go,T,zG cs o us)]) H1).here hcb hbl hi1
 refine OC (EC JM Y) hk<|fun w2 Hd=>have H2:=Hp.front (R:=[(some go,T,zG cs o us)]) H1 Hd;Xa Y<|Xr e35<|wP Y (fun Yc=>?_) (fun Yc=>?_)
 refine J6<|zA (zD ?_)
 refine zA (zD ?_)
 refine J2<|OV (zL Y Y (Ad _ (by omega)))<|Xm Y<|Xr e35<|zA (zH ?_)
 first
 | (have hb0:=Yc;simp only[decide_eq_true_eq]at hb0;have hbad:=dS (k:=.int) (b:=b) (i:=i1) (e:=e1) (by simpa using hb0);exact⟨m - (q+1),by omega,q+1,_,i1,e1,us++[Value.int .i64 0],_,rfl,(Ja rfl rfl rfl rfl rfl),rfl,by omega,by simp[hus],gF hrd hbad,hi1,by rw[lK hus hcq];exact(hF.to H2).app (FPs.one ⟨rfl,by decide,by decide⟩),by rw[lK hus hcq];exact HB.all H2⟩)
 | (have hrow:=gD (cs:=cs) (o:=o) (v:=Value.int .i64 (unz (yK b i1 e1).1)) hus hfit;have HN:=(show ∀ (wa wb:World) (SS:List Nat),Hp wa wb SS (pr gp gr gb cb sb b ((yK b i1 e1).2.1) ((yK b i1 e1).2.2)++[(some go,T,(zG cs o us).set (o+q) (Value.int .i64 (unz (yK b i1 e1).1)))])→Hp wa wb SS (pr gp gr gb cb sb b ((yK b i1 e1).2.1) ((yK b i1 e1).2.2)++[(some go,T,zG cs o (us++[Value.int .i64 (unz (yK b i1 e1).1)]))]) from fun wa wb SS h=>by rw[hrow]at h;exact h) _ _ _ H2;exact⟨m - (q+1),by omega,q+1,_,_,_,us++[Value.int .i64 (unz (yK b i1 e1).1)],_,rfl,(Ja rfl rfl rfl rfl rfl),rfl,by omega,by simp[hus],gF hrd rfl,pO hi1,(hF.to HN).app (FPs.one ⟨rfl,NH (mE b i1 e1)⟩),HB.all HN⟩)
 refine Rq<|Xm Y<|Xc Y<|Xf tS Y<|OV (EL oD Y (H2.cell (i:=0) Y Y))<|Ae e35<|Jt (yE Uc Y) (by simp)<|Xa Y<|Xr e35<|J4 Y<|J2<|Xm Y<|Xm Y<|Xc Y<|Xf tS Y<|Ae e35<|OV (EL oD Y (H2.cell (i:=0) Y Y))<|OC (EC gf149 Y) (XG gr (hd gb) cb b i1 e1 _ (CD H2 (j:=1) (k:=2) Y Y (by decide) hcb (by omega) hi1))<|fun w3 Hd=>?_
 have H3:=(H2.call1 (i:=1) rfl Hd).pick [0,4,2,3] (by decide)
 refine Xc Y<|OW ty3 H3 3 Y Y Y Y (by rw[vK (by omega)];omega) Y<|fun w4 H4=>Xr e35<|zA (zD ?_)
 refine zA (zD ?_)
 refine J2<|OV (zL Y Y (Ad _ (by omega)))<|Xm Y<|Xr e35<|zA (zH ?_)
 first
 | (have hb0:=Yc;simp only[decide_eq_true_eq]at hb0;have hbad:=dS (k:=.int) (b:=b) (i:=i1) (e:=e1) (by simpa using hb0);exact⟨m - (q+1),by omega,q+1,_,i1,e1,us++[Value.int .i64 0],_,rfl,(Ja rfl rfl rfl rfl rfl),rfl,by omega,by simp[hus],gF hrd hbad,hi1,by rw[lK hus hcq];exact(hF.to H4).app (FPs.one ⟨rfl,by decide,by decide⟩),by rw[lK hus hcq];exact HB.all H4⟩)
 | (have hrow:=gD (cs:=cs) (o:=o) (v:=Value.int .i64 (unz (yK b i1 e1).1)) hus hfit;have HN:=(show ∀ (wa wb:World) (SS:List Nat),Hp wa wb SS (pr gp gr gb cb sb b ((yK b i1 e1).2.1) ((yK b i1 e1).2.2)++[(some go,T,(zG cs o us).set (o+q) (Value.int .i64 (unz (yK b i1 e1).1)))])→Hp wa wb SS (pr gp gr gb cb sb b ((yK b i1 e1).2.1) ((yK b i1 e1).2.2)++[(some go,T,zG cs o (us++[Value.int .i64 (unz (yK b i1 e1).1)]))]) from fun wa wb SS h=>by rw[hrow]at h;exact h) _ _ _ H4;exact⟨m - (q+1),by omega,q+1,_,_,_,us++[Value.int .i64 (unz (yK b i1 e1).1)],_,rfl,(Ja rfl rfl rfl rfl rfl),rfl,by omega,by simp[hus],gF hrd rfl,pO hi1,(hF.to HN).app (FPs.one ⟨rfl,NH (mE b i1 e1)⟩),HB.all HN⟩)
 have hqm:q=m:=by omega
 subst hqm
 refine Xr e35<|J1<|J4 Y<|J8<|zT<|zS<|zA<|yO Y<|⟨fd,i1,e1,us,hrd,hi1,hF,H1⟩
theorem CF {P:Program} {ds:List Deferred} {Q:vQ} {K:List Value→World→Prop} {all os:List Oper} {l:List Value} {w:World} {op:Op} {ty:TypeId} {pos:String} {af:Array Edge} {d:Tmp} {f:FuncId} {args:Array Value} {n:Nat} {X:Option Nat→Nat→List Value→World→Prop}
 (hx:Ex P l op ty w (.enter f args) w) (hc:zO P f args w fun r w'=>∃ g cap sp,r=Ac (hd g) n cap∧X g cap sp w')
 (h:∀ w' g cap sp,X g cap sp w'→Ops P ds all K Q os (l.set d (Ac (hd g) n cap)) w'):Ops P ds all K Q (⟨some d,op,ty,pos,af,none⟩::os) l w:=
 tF hx hc fun r w' ⟨g,cap,sp,h1,h2⟩=>by rw[h1];exact h w' g cap sp h2
theorem ED (gp gr go o:Nat) (gb:Option Nat) (cb:Nat) (sb:List Value) (b:List UInt8) (i e:Nat) (T:TypeId) (cs:List Value) (w0:World) (H0:Hp w0 w0 (bl (pr gp gr gb cb sb b i e++[(some go,T,cs)])) (pr gp gr gb cb sb b i e++[(some go,T,cs)])) (hcb:b.length≤cb) (hbl:b.length≤65536) (hi:i≤b.length) (v:Value) (hv2:FP w0 (fun _=>True) (.bytes []) v) (hcq:cs[o]? =some v):Aj 150 #[Ah gp,.pointer (some ⟨go,o,none⟩)] w0 (fun r w'=>∃ fd i1 e1 us,vT [.bytes] b i e=(fd,i1,e1)∧i1≤b.length∧NFs w' w0.heap.size (pr gp gr gb cb sb b i1 e1++[(some go,T,zG cs o us)]) fd us∧Hp w0 w' (bl (pr gp gr gb cb sb b i e++[(some go,T,cs)])) (pr gp gr gb cb sb b i1 e1++[(some go,T,zG cs o us)])):=by
 refine zE Tryz.func150 Tryz.ntmps150 Y<|cR e35 ?_
 have H:=H0
 have hfit:=lt_of_get hcq
 refine J7<|Rq<|Xm Y ?_
 have hk:=I2 gp gr gb cb sb b i e _ (Hp.less (es:=pr gp gr gb cb sb b i e) (R:=[(some go,T,cs)]) H).here hcb hbl hi
 refine OC (EC JM Y) hk<|fun w1 Hd=>have H1:=Hp.front (R:=[(some go,T,cs)]) H Hd;Xa Y<|Xr e35<|wP Y (fun Yd=>?_) (fun Yd=>?_)
 refine J6<|zA (zD ?_)
 refine zA<|yO Y ?_
 have hbad:=dS (k:=.bytes) (b:=b) (i:=i) (e:=e) (by simpa using Yd)
 have hrow:=lK (cs:=cs) (us:=[]) (o:=o) (q:=0) rfl hcq
 rw[jC]at hrow
 exact⟨[.bytes []],i,e,[v],by rw[fW,hbad];rfl,hi,by rw[show[v]=[]++[v] from Y,hrow];exact FPs.one hv2.zero,by rw[show[v]=[]++[v] from Y,hrow];exact H1⟩
 refine Rq<|Xm Y<|Xc Y<|Xf tS Y<|OV (EL oD Y (H1.cell (i:=0) Y Y))<|Ae e35<|Qg (uB Uc Y) (by simp)<|Xa Y<|Xr e35<|J3 Y<|J2<|Xm Y<|Xm Y<|Xc Y<|Xf tS Y<|Ae e35<|OV (EL oD Y (H1.cell (i:=0) Y Y))<|CF (EC gf183 Y) (SE gr (hd gb) cb b i e _ (CD H1 (j:=1) (k:=2) Y Y (by decide) hcb (by omega) hi) 65535 (by decide) (by decide)) ?_
 intro w2 g1 c1 s1 ⟨hm1,hc1,hg1,Hd⟩
 have hsz0:=H1.size
 have H2:=(H1.call1 (i:=1) rfl Hd).pick [0,4,2,3,5] (by decide)
 refine Xc Y<|OW xG H2 3 Y Y Y Y hfit Y<|fun w3 H3=>Xr e35<|zA (zD ?_)
 refine zA<|yO Y ?_
 have hrow:=(fY (v:=(.slice (hd g1) (yG b 65535 i e).1.length c1)) hfit).symm
 have HN:=(show ∀ (wa wb:World) (SS:List Nat),Hp wa wb SS ((pr gp gr gb cb sb b ((yG b 65535 i e).2.1) ((yG b 65535 i e).2.2)++[(some go,T,cs.set o (.slice (hd g1) (yG b 65535 i e).1.length c1))])++[(g1,5,u8s (yG b 65535 i e).1++s1)])→Hp wa wb SS ((pr gp gr gb cb sb b ((yG b 65535 i e).2.1) ((yG b 65535 i e).2.2)++[(some go,T,zG cs o [(.slice (hd g1) (yG b 65535 i e).1.length c1)])])++[(g1,5,u8s (yG b 65535 i e).1++s1)]) from fun wa wb SS h=>by rw[hrow]at h;exact h) _ _ _ H3
 exact⟨_,_,_,[(.slice (hd g1) (yG b 65535 i e).1.length c1)],Y,(lG hi).1,FPs.one ⟨hd g1,c1,Y,HN.rd (i:=4) (o:=g1) (xs:=u8s (yG b 65535 i e).1) (sp:=s1) Y (yV _) (by decide),fun _ p hp=>⟨Ci hsz0 (L7 Hd (i:=0) Y p hp),rZ (es1:=pr gp gr gb cb sb b ((yG b 65535 i e).2.1) ((yG b 65535 i e).2.2)++[(some go,T,zG cs o [(.slice (hd g1) (yG b 65535 i e).1.length c1)])]) (R:=[(g1,5,u8s (yG b 65535 i e).1++s1)]) HN (i:=0) Y p hp,HN.tw (i:=4) Y p hp⟩⟩,HN.less⟩
theorem S7 (gp gr go o:Nat) (gb:Option Nat) (cb:Nat) (sb:List Value) (b:List UInt8) (i e:Nat) (T:TypeId) (cs:List Value) (w0:World) (H0:Hp w0 w0 (bl (pr gp gr gb cb sb b i e++[(some go,T,cs)])) (pr gp gr gb cb sb b i e++[(some go,T,cs)])) (hcb:b.length≤cb) (hbl:b.length≤65536) (hi:i≤b.length) (m:Nat) (hat:At cs o (zCs (List.replicate m .text))) (A:Option Addr) (c:Nat) (hm:m≤1000000) (hA:Rd w0 A m 1 (fZ go o m)) (hS:∀ p,A=some p→p.block∉bl (pr gp gr gb cb sb b i e++[(some go,T,cs)])):Aj 151 #[Ah gp,Ac A m c] w0 (fun r w'=>∃ fd i1 e1 us,vT (List.replicate m .text) b i e=(fd,i1,e1)∧i1≤b.length∧NFs w' w0.heap.size (pr gp gr gb cb sb b i1 e1++[(some go,T,zG cs o us)]) fd us∧Hp w0 w' (bl (pr gp gr gb cb sb b i e++[(some go,T,cs)])) (pr gp gr gb cb sb b i1 e1++[(some go,T,zG cs o us)])):=by
 refine zE Tryz.func151 Tryz.ntmps151 Y<|cR e44 ?_
 have H:=H0
 refine Rq<|Xm Y<|OV (ES ZH Y)<|Xm Y<|Xr e44<|J7<|zU (fun nQ lQ w=>∃ (q:Nat) (y:Int) (i1 e1:Nat) (us:List Value) (fd:List Fv),m - q=nQ∧xO (Ik [(0,Ah gp),(7,Ac A m c),(8,Aa m),(9,Aa y)] 0 44) lQ∧y=q∧q≤m∧us.length=q∧vT (List.replicate q .text) b i e=(fd,i1,e1)∧i1≤b.length∧NFs w w0.heap.size (pr gp gr gb cb sb b i1 e1++[(some go,T,zG cs o us)]) fd us∧Hp w0 w (bl (pr gp gr gb cb sb b i e++[(some go,T,cs)])) (pr gp gr gb cb sb b i1 e1++[(some go,T,zG cs o us)])) (m) ?_ ?_
 exact⟨0,_,i,e,[],[],Y,(Ja Y Y Y Y Y),Y,Am _,Y,Y,hi,FPs.nil,by rw[jC];exact H⟩
 rintro nQ lQ w1 ⟨q,y,i1,e1,us,fd,rfl,hfit,rfl,hq,hus,hrd,hi1,hF,H1⟩
 obtain⟨j,rfl⟩:=hfit.open
 refine cR e44 ?_
 clear hfit
 refine Rq<|OT (zR Y Y) (fun hp10=>?_) (fun hp10=>?_)
 have Ib:q < m:=by omega
 have hcq:cs[o+q]? =some (.string ⟨([]:List UInt8).toArray⟩):=hat q _ (IJ Ib)
 have hfit:=lt_of_get hcq
 have hkeep:=DX (cs:=cs) hus (Nat.le_of_lt hfit)
 rw[hcq]at hkeep
 obtain⟨pa,hpa⟩:=hA.some_ (by omega)
 subst hpa
 have HB:=H1
 replace H1:=HB.here
 have HB1:=HB
 refine Xr e44<|J1<|J3 Y<|J6<|J1<|J7<|Rq<|OV (EI ZH AH Y Y Y Ib (Bz _))<|OV (EL AH Y ((hA.to (HB.all H1) hS).cells pa Y q _ (bG Ib)))<|Xa Y<|Xr e44<|J1<|Rq<|Xm Y<|Xc Y<|Xf tS Y<|OV (EL oD Y (H1.cell (i:=0) Y Y))<|Ae e44<|Jt (yE Uc Y) (by simp)<|Xm Y<|Ae e44<|Oz 5 Y<|Ae e44<|Xu Y Y<|Xr e44<|J4 Y<|J6<|Rq<|Xm Y ?_
 refine Xc Y<|OV (EL ty9 Y (H1.cell (i:=3) Y hkeep)) ?_
 have hgn:=eM H1 (g:=w1.heap.size) (Ai _)
 refine mB Tryz.underlying9 Hf Tryz.underlying5 H1 (s:=[]) Y<|fun w2 gs cs1 HB2 hrs hgs hsz=>?_
 replace hF:=hF.to HB2
 replace HB:=HB1.all HB2
 have H2:=HB.here
 refine Ae e44<|OA xG H2<|fun w3 gv H3 hgv=>OW xG H3 4 Y Y Y Y (by decide) Y<|fun w4 H4=>Xr e44<|Rq<|Xm Y ?_
 have HQ:Hp _ w4 _ ((pr gp gr gb cb sb b i1 e1++[(some gv,73,[Ac (some ⟨gs,0,none⟩) ([]:List UInt8).length cs1])])++[(some go,T,zG cs o us)]):=H4.pick [0,1,2,4,3] (by decide)
 have hk:=ED gp gr gv 0 gb cb sb b i1 e1 73 [Ac (some ⟨gs,0,none⟩) ([]:List UInt8).length cs1] _ HQ.less.here hcb hbl hi1 _ ⟨_,_,rfl,⟨rfl,fun _ _ _ _ hu=>by simp[u8s]at hu,fun _=>rfl⟩,fun h0=>absurd h0 (by simp)⟩ rfl
 refine OQ (EC BJ Y) hk ?_
 rintro _ w5 ⟨fdn,i2,e2,un,hrn,hi2,hFn,Hd⟩
 have hrn2:=LD hrn
 obtain⟨tx,hfn,hrt⟩:=hrn2
 subst hfn
 obtain⟨vn,hun,hvn⟩:=hFn.head
 subst hun
 obtain⟨Bn,cn,hvs,hrdn,hapn⟩:=hvn
 subst hvs
 have HX:=HQ.front Hd
 have H5:Hp _ w5 _ (pr gp gr gb cb sb b i2 e2++[(some go,T,zG cs o us),(some gv,73,[Ac Bn tx.length cn])]):=HX.pick [0,1,2,4,3] (by decide)
 refine Xr e44<|Rq<|Xm Y<|Xc Y<|Xf tS Y<|OV (EL oD Y (H5.cell (i:=0) Y Y))<|Ae e44<|Qg (uB Uc Y) (by simp)<|Xr e44<|J3 Y<|J2<|Xm Y<|OV (EL xG Y (H5.cell (i:=4) Y Y))<|OV (dH Hf Tryz.underlying5 Tryz.underlying9 Y hrdn)<|Xc Y<|Ae e44<|OW ty9 H5 3 Y Y Y Y (by rw[vK (by omega)];omega) Y<|fun w6 H6=>Xr e44<|zA (zD ?_)
 refine J2<|OV (zL Y Y (Ad _ (by omega)))<|Xm Y<|Xr e44<|zA (zH ?_)
 have hrow:=gD (cs:=cs) (o:=o) (v:=(.string ⟨tx.toArray⟩)) hus hfit
 have HN:=(show ∀ (wa wb:World) (SS:List Nat),Hp wa wb SS ((pr gp gr gb cb sb b i2 e2++[(some go,T,(zG cs o us).set (o+q) (.string ⟨tx.toArray⟩))])++[(some gv,73,[Ac Bn tx.length cn])])→Hp wa wb SS ((pr gp gr gb cb sb b i2 e2++[(some go,T,zG cs o (us++[(.string ⟨tx.toArray⟩)]))])++[(some gv,73,[Ac Bn tx.length cn])]) from fun wa wb SS h=>by rw[hrow]at h;exact h) _ _ _ H6
 replace HN:=HN.less
 exact⟨m - (q+1),by omega,q+1,_,i2,e2,us++[(.string ⟨tx.toArray⟩)],_,Y,(Ja Y Y Y Y Y),Y,by omega,by simp[hus],gF hrd hrt,hi2,(hF.to HN).app (FPs.one (f:=.text tx) (show _=_ from Y)),HB.all HN⟩
 have hqm:q=m:=by omega
 subst hqm
 refine Xr e44<|J1<|J4 Y<|J8<|zT<|zS<|zA<|yO Y<|⟨fd,i1,e1,us,hrd,hi1,hF,H1⟩
theorem iJ :WG Tryz.prog 106 .int:=fun gp gr gb cb sb b hcb hbl go o n c i e T cs w0 A hn H0 hi hat _ hA hS=>(WY gp gr go o gb cb sb b i e T cs w0 H0 hcb hbl hi n hat A c hn hA hS).mono fun _ _ h=>bA h
theorem S9 :WG Tryz.prog 151 .text:=fun gp gr gb cb sb b hcb hbl go o n c i e T cs w0 A hn H0 hi hat _ hA hS=>(S7 gp gr go o gb cb sb b i e T cs w0 H0 hcb hbl hi n hat A c hn hA hS).mono fun _ _ h=>bA h
theorem EH :M1 Tryz.prog 150 (Th.flat [.bytes]):=fun gp gr gb cb sb b hcb hbl go o i e T cs w0 H0 hi hat _=>(ED gp gr go o gb cb sb b i e T cs w0 H0 hcb hbl hi _ (zFP _ _ .bytes) (by have:=hat 0 _ rfl;rwa [Ht]at this)).mono fun _ _ h=>bA h
end Go.Proofs.YtjoeklkmnfaabaaGreat
namespace Go.Proofs.YtjoeklkmnfaabaaGreat
open Go Go.RowKit
set_option linter.unusedVariables false
set_option linter.unusedSimpArgs false
theorem FPs.part {w:World} {ok:Nat→Prop} {fs:List Fv} {vs:List Value} (h:FPs w ok fs vs) (k n:Nat):FPs w ok ((fs.drop k).take n) ((vs.drop k).take n):=by
 refine⟨by simp[h.len],fun i hi=>?_⟩
 simp only[Aw,Bh]at hi
 obtain⟨v,q1,q2⟩:=h.each (k+i) (by omega)
 refine⟨v,?_,by simpa using q2⟩
 rw[Py (by omega),Em]
 exact q1
theorem Th.part {ks:List Kd} {w:World} {ok:Nat→Prop} {x:List Fv} {vs:List Value} (h:(Th.flat ks).M w ok x vs) (k n:Nat):(Th.flat ((ks.drop k).take n)).M w ok ((x.drop k).take n) ((vs.drop k).take n):=
 ⟨by rw[← h.1];simp[List.map_drop,List.map_take],h.2.part k n⟩
theorem Th.whole {ks:List Kd} {w:World} {ok:Nat→Prop} {x:List Fv} {vs:List Value} (h:(Th.flat ks).M w ok x vs):x.take ks.length=x:=Ej (by rw[← h.1];simp)
theorem At.sub (vs:List Value) (k n:Nat):At vs k ((vs.drop k).take n):=fun j u hu=>by
 rw[Hw]at hu
 split at hu
 · rwa [Em]at hu
 cases hu
section
variable {P:Program} {l:List Value} {w:World} {ty t:TypeId} {x:Operand}
end
structure YV (tw:Bool) (gp:Nat) (a:Addr) (w0:World) (S:List Nat) (w:World) (st:WS) (T:Th) (x:T.X) (vs:List Value) (g:Option Nat) (cap:Nat) (sp:List Value):Prop where
 H:Hp w0 w S (pw gp g cap sp st)
 P:POk 65536 g cap sp st
 M:T.M w (fun b=>b∉bl (pw gp g cap sp st)) x vs
 C:Cl w (bl (pw gp g cap sp st)) a vs
 tw_:tw=true→qT w a∧0 < vs.length
section
variable {P:Program} {f:FuncId} {tw tv:Bool} {gp o:Nat} {a:Addr} {w0 w w1:World} {S:List Nat} {st st1:WS} {T A:Th} {x:T.X} {y:A.X} {vs us:List Value} {g g1:Option Nat} {cap cap1:Nat} {sp sp1:List Value} {k:Kd} {ys:List Fv} {gs n:Nat} {PT:TypeId}
theorem YV.next (h:YV tw gp a w0 S w st T x vs g cap sp) (hP:POk 65536 g1 cap1 sp1 st1) (Hd:Hp w w1 (bl (pw gp g cap sp st)) (pw gp g1 cap1 sp1 st1)):YV tw gp a w0 S w1 st1 T x vs g1 cap1 sp1:=
 ⟨h.H.all Hd,hP,T.mono (T.to h.M Hd fun _ h=>h) fun _ h=>h.2,h.C.to Hd,fun ht=>⟨(h.tw_ ht).1.to Hd (h.C.apart (h.tw_ ht).2),(h.tw_ ht).2⟩⟩
theorem YV.one (h:YV tw gp a w0 S w st T x vs g cap sp) (hc:IG P f A tv) (ht:tv=true→tw=true) (hp:∀ w ok,T.M w ok x vs→A.M w ok y us) (hat:At vs o us):
 zO P f #[Ptr0 gp,M0 (a.add o)] w (fun _ w1=>∃ g1 cap1 sp1,YV tw gp a w0 S w1 (xV (A.fl y) st) T x vs g1 cap1 sp1):=
 (hc gp g cap sp st (a.add o) y us w h.H.here h.P (hp _ _ h.M) (h.C.part hat) (fun h1=>(h.tw_ (ht h1)).1.add o)).mono fun _ _ ⟨g1,cap1,sp1,hP,Hd⟩=>⟨g1,cap1,sp1,h.next hP Hd⟩
theorem YV.grp (h:YV tw gp a w0 S w st T x vs g cap sp) (hc:RS P f k) (H1:Hp w w1 (bl (pw gp g cap sp st)) (pw gp g cap sp st++[(some gs,PT,gI a o n)])) (hn:n≤1000000) (hp:∀ w ok,T.M w ok x vs→(Th.flat (List.replicate n k)).M w ok ys us) (hat:At vs o us):
 zO P f #[Ptr0 gp,.slice (hd (some gs)) n n] w1 (fun _ w2=>∃ g1 cap1 sp1,YV tw gp a w0 S w2 (xV ys st) T x vs g1 cap1 sp1):=by
 have hM:=T.to h.M H1.less fun _ h=>h
 have hC:=h.C.to H1.less
 refine(hc gp g cap sp st a o n n ys us w1 _ hn H1.less.here h.P (hp _ _ (T.mono hM fun _ h=>h.2)) (hC.part hat) (H1.rd (i:=2) (o:=some gs) (xs:=gI a o n) (T:=PT) (sp:=[]) (by rw[Dt];rfl) (by simp[CE]) (by decide)) (rZ H1 (i:=0) Y)).mono ?_
 rintro _ w2 ⟨g1,cap1,sp1,hP,Hd⟩
 exact⟨g1,cap1,sp1,h.next hP (H1.front Hd).less⟩
end
theorem YV.out {tw:Bool} {gp:Nat} {a:Addr} {w0 w:World} {S:List Nat} {st s2:WS} {T:Th} {x:T.X} {vs:List Value} {g:Option Nat} {cap:Nat} {sp:List Value} (h:YV tw gp a w0 S w st T x vs g cap sp) (e:st=s2):nT gp s2 w0 S w:=by subst e;exact⟨g,cap,sp,h.P,h.H⟩
theorem At.cast {cs us:List Value} {o o':Nat} (h:At cs o us) (e:o=o'):At cs o' us:=by subst e;exact h
structure Ri (gp go o:Nat) (w0:World) (S:List Nat) (w:World) (m:Nat) (a st:WS) (T:Th) (x:T.X) (vs:List Value) (U:TypeId) (cs:List Value) (g:Option Nat) (cap:Nat) (sp:List Value):Prop where
 H:Hp w0 w S (vwo gp g cap sp st go U cs)
 P:POk m g cap sp st
 L:rW a st
 M:T.M w (fun b=>b∉bl (vwo gp g cap sp st go U cs)) x vs
 at_:At cs o vs
section
variable {P:Program} {f:FuncId} {gp go o p:Nat} {w0 w w1:World} {S:List Nat} {st st1 a a1:WS} {T A:Th} {x:T.X} {y:A.X} {vs us cs:List Value} {g g1:Option Nat} {cap cap1:Nat} {sp sp1:List Value} {k:Kd} {ys:List Fv} {gs n m m1:Nat} {U PT:TypeId}
theorem Ri.next (h:Ri gp go o w0 S w m a st T x vs U cs g cap sp) (hL:rW a1 st1) (hP:POk m1 g1 cap1 sp1 st1) (Hd:Hp w w1 (bl (vwo gp g cap sp st go U cs)) (vwo gp g1 cap1 sp1 st1 go U cs)):Ri gp go o w0 S w1 m1 a1 st1 T x vs U cs g1 cap1 sp1:=
 ⟨h.H.all Hd,hP,hL,T.mono (T.to h.M Hd fun _ h=>h) fun _ h=>h.2,h.at_⟩
theorem Ri.one (h:Ri gp go o w0 S w m a st T x vs U cs g cap sp) (hc:fL P f A) (hm:m+A.mx≤1000000000) (hp:∀ w ok,T.M w ok x vs→A.M w ok y us) (hat:At vs p us):
 zO P f #[Ptr0 gp,M0 ⟨go,o+p,none⟩] w (fun _ w1=>∃ st1 g1 cap1 sp1,Ri gp go o w0 S w1 (m+A.mx) (xV (A.fl y) a) st1 T x vs U cs g1 cap1 sp1):=
 (hc gp go (o+p) g cap sp st U cs y us w m a h.H.here hm h.P h.L (hp _ _ h.M) (h.at_.trans hat)).mono fun _ _ ⟨st1,g1,cap1,sp1,hL,hP,Hd⟩=>⟨st1,g1,cap1,sp1,h.next hL hP Hd⟩
theorem Ri.grp (h:Ri gp go o w0 S w m a st T x vs U cs g cap sp) (hc:RO P f k) (H1:Hp w w1 (bl (vwo gp g cap sp st go U cs)) (vwo gp g cap sp st go U cs++[(some gs,PT,fZ go (o+p) n)])) (hn:n≤1000000) (hm:m+65545*n≤1000000000)
 (hp:∀ w ok,T.M w ok x vs→(Th.flat (List.replicate n k)).M w ok ys us) (hat:At vs p us):
 zO P f #[Ptr0 gp,.slice (hd (some gs)) n n] w1 (fun _ w2=>∃ st1 g1 cap1 sp1,Ri gp go o w0 S w2 (m+65545*n) (xV ys a) st1 T x vs U cs g1 cap1 sp1):=by
 have hM:=T.to h.M H1.less fun _ h=>h
 refine(hc gp go (o+p) n n g cap sp st U cs ys us w1 m a _ hn H1.less.here hm h.P h.L (hp _ _ (T.mono hM fun _ h=>h.2)) (h.at_.trans hat) (H1.rd (i:=3) (o:=some gs) (xs:=fZ go (o+p) n) (T:=PT) (sp:=[]) (by rw[Dt];rfl) (by simp[dC]) (by decide)) (rZ H1 (i:=0) Y)).mono ?_
 rintro _ w2 ⟨st1,g1,cap1,sp1,hL,hP,Hd⟩
 exact⟨st1,g1,cap1,sp1,h.next hL hP (H1.front Hd).less⟩
theorem Ri.re {m2:Nat} (h:Ri gp go o w0 S w m a st T x vs U cs g cap sp) (e:m=m2):Ri gp go o w0 S w m2 a st T x vs U cs g cap sp:=by subst e;exact h
theorem Ri.Z4 {m2:Nat} (h:Ri gp go o w0 S w m a st T x vs U cs g cap sp) (e:a=a1) (em:m=m2):fM m2 gp a1 go U cs w0 S w:=by subst e em;exact⟨st,g,cap,sp,h.L,h.P,h.H⟩
end
structure Vs (R:BS) (go o:Nat) (U:TypeId) (cs:List Value) (b:List UInt8) (i0 e0 n:Nat) (w0:World) (S:List Nat) (w:World) (A:Th) (us:List Value) (i e:Nat):Prop where
 rd:(A.rd b i0 e0).2=(i,e)
 ul:us.length=A.sz
 one_:us.all (·.oneCell')=true
 H:Hp w0 w S (R i e++[(some go,U,zG cs o us)])
 M:e=0→A.M w (Fr w n (R i e++[(some go,U,zG cs o us)])) (A.rd b i0 e0).1 us
 le:i≤b.length
 nle:n≤w.heap.size
section
variable {P:Program} {f:FuncId} {R:BS} {gp go o q:Nat} {U PT:TypeId} {cs us:List Value} {b:List UInt8} {i0 e0 i e n:Nat} {w0 w w1:World} {S:List Nat} {A B:Th} {ks js:List Kd} {k:Kd} {m gs r:Nat}
theorem Vs.out (h:Vs R go o U cs b i0 e0 n w0 S w A us i e):nS R A go o U cs b i0 e0 n w0 S w:=by
 obtain⟨h1,h2,h3,h4,h5,h6,h7⟩:=h
 refine⟨us,h2,h3,?_,?_⟩
 · rw[h1];exact h4
 intro h0
 rw[h1]at h0
 have:=h5 h0
 rw[h1]
 exact this
theorem Vs.start (H0:Hp w0 w0 S (R i0 e0++[(some go,U,cs)])) (hi:i0≤b.length):Vs R go o U cs b i0 e0 w0.heap.size w0 S w0 (Th.flat []) [] i0 e0:=
 ⟨rfl,rfl,rfl,by rw[jC];exact H0,fun _=>⟨rfl,FPs.nil⟩,hi,Ai _⟩
theorem Vs.step (h:Vs R go o U cs b i0 e0 n w0 S w A us i e) (hq:A.sz=q) (hfit:o+q+B.sz≤cs.length) {w1 w2:World} (H1:Hp w w1 (bl (R i e++[(some go,U,zG cs o us)])) (R i e++[(some go,U,zG cs o us)]))
 (Hd:nS R B go (o+q) U (zG cs o us) b i e w1.heap.size w1 (bl (R i e++[(some go,U,zG cs o us)])) w2):∃ us2 i2 e2,Vs R go o U cs b i0 e0 n w0 S w2 (Th.pair A B) (us++us2) i2 e2:=by
 subst hq
 obtain⟨us2,hl2,ho2,H2,hM2⟩:=Hd
 have ZN:=h.ul
 have hput:zG (zG cs o us) (o+A.sz) us2=zG cs o (us++us2):=by rw[← ZN];exact AX (by omega)
 rw[hput]at H2 hM2
 have hrd:((Th.pair A B).rd b i0 e0).2=(B.rd b i e).2:=by
  show(B.rd b (A.rd b i0 e0).2.1 (A.rd b i0 e0).2.2).2=_
  rw[h.rd]
 have hrd1:((Th.pair A B).rd b i0 e0).1=((A.rd b i0 e0).1,(B.rd b i e).1):=by
  show((A.rd b i0 e0).1,(B.rd b (A.rd b i0 e0).2.1 (A.rd b i0 e0).2.2).1)=_
  rw[h.rd]
 have H3:=H1.all H2
 have hsz1:=H1.size
 have hsz2:=H2.size
 have hn:=h.nle
 refine⟨us2,(B.rd b i e).2.1,(B.rd b i e).2.2,hrd,by rw[Af,ZN,hl2],by rw[List.all_append,h.one_,ho2];rfl,h.H.all H3,?_,B.le h.le,by omega⟩
 intro h0
 have he:e=0:=by
  apply Classical.byContradiction
  intro hne
  have:=B.bad (b:=b) (i:=i) hne
  rw[this]at h0
  exact hne h0
 rw[hrd1]
 have hA:=Fr.to (h.M he) H3
 refine⟨?_,?_,by simp only[Af];omega⟩
 · rw[← ZN,List.take_left]
   exact hA
 rw[← ZN,List.drop_left]
 exact B.mono (hM2 h0) fun _ h=>⟨by have:=h.1;omega,h.2⟩
theorem L8 {w:World} {ok:Nat→Prop} {x y:List Fv} {vs:List Value} (h1:(Th.flat ks).M w ok x (vs.take ks.length)) (h2:(Th.flat js).M w ok y (vs.drop ks.length)):(Th.flat (ks++js)).M w ok (x++y) vs:=by
 refine⟨by rw[Ez,h1.1,h2.1],?_⟩
 have:=h1.2.app h2.2
 rwa [Eu]at this
@[reducible] def fapp (a b:List Fv):List Fv:=a++b
theorem Vs.Oo (h:Vs R go o U cs b i0 e0 n w0 S w (Th.pair (Th.flat ks) (Th.flat js)) us i e):Vs R go o U cs b i0 e0 n w0 S w (Th.flat (ks++js)) us i e:=by
 have hx:(Th.flat (ks++js)).rd b i0 e0=(fapp ((Th.pair (Th.flat ks) (Th.flat js)).rd b i0 e0).1.1 ((Th.pair (Th.flat ks) (Th.flat js)).rd b i0 e0).1.2,((Th.pair (Th.flat ks) (Th.flat js)).rd b i0 e0).2):=nZ ks js b i0 e0
 refine⟨by rw[hx];exact h.rd,by rw[h.ul];exact Af.symm,h.one_,h.H,fun h0=>?_,h.le,h.nle⟩
 have:=h.M h0
 rw[hx]
 exact L8 this.1 this.2.1
theorem Vs.one (h:Vs R go o U cs b i0 e0 n w0 S w A us i e) (hc:KL P f R gp b B) (hq:A.sz=q) (hfit:o+q+B.sz≤cs.length) (hat:At cs (o+q) B.zs):
 zO P f #[Ptr0 gp,M0 ⟨go,o+q,none⟩] w (fun _ w1=>∃ us2 i2 e2,Vs R go o U cs b i0 e0 n w0 S w1 (Th.pair A B) (us++us2) i2 e2):=by
 have ZN:=h.ul
 refine(hc go (o+q) i e U (zG cs o us) w h.H.here h.le ?_ ?_).mono fun _ w1 hd=>h.step hq hfit h.H.here hd
 · rw[← hq,← ZN]at hat ⊢
   exact At.behind hat (by omega)
 rw[vK (by omega)];exact hfit
theorem Vs.grp (h:Vs R go o U cs b i0 e0 n w0 S w A us i e) (hc:F8 P f R gp b k) (hq:A.sz=q) (H1:Hp w w1 (bl (R i e++[(some go,U,zG cs o us)])) (R i e++[(some go,U,zG cs o us)]++[(some gs,PT,fZ go (o+q) m)])) (hm:m≤1000000)
 (hfit:o+q+m≤cs.length) (hat:At cs (o+q) (zCs (List.replicate m k))) (hR:(R i e++[(some go,U,zG cs o us)]).length=r) (hz:(Th.flat (List.replicate m k)).sz=m):
 zO P f #[Ptr0 gp,.slice (hd (some gs)) m m] w1 (fun _ w2=>∃ us2 i2 e2,Vs R go o U cs b i0 e0 n w0 S w2 (Th.pair A (Th.flat (List.replicate m k))) (us++us2) i2 e2):=by
 have ZN:=h.ul
 refine(hc go (o+q) m m i e U (zG cs o us) w1 _ hm H1.less.here h.le ?_ ?_ (H1.rd (i:=r) (o:=some gs) (xs:=fZ go (o+q) m) (T:=PT) (sp:=[]) ?_ (by simp[dC]) (by decide)) (rZ H1 (i:=0) Y)).mono fun _ w2 hd=>h.step hq (by rw[hz];exact hfit) H1.less hd
 · rw[← hq,← ZN]at hat ⊢
   exact At.behind hat (by omega)
 · rw[vK (by omega)];exact hfit
 rw[Ef (by omega),hR];simp
end
def sZ (st:WS):List UInt8:=if st.long=true then[] else st.out
def errOf (st:WS):Nat:=if st.long=true then 22 else 0
@[reducible] def W0 :WS:=⟨[],false⟩
def KI (w0 w':World) (r:Value) (st:WS):Prop:=
 ∃ g cap sp,r=.tuple #[.slice (hd g) (sZ st).length cap,.int .i64 (errOf st:Int)]∧(sZ st).length≤cap∧cap*1≤(u8s (sZ st)++sp).length∧(g=none→cap=0)∧(sZ st).length≤65536∧Hp w0 w' [] [(g,5,u8s (sZ st)++sp)]
def Qx (A:Th) (b:List UInt8):Nat:=if 65536 < b.length then 22 else if(A.rd b 0 0).2.2≠0 then(A.rd b 0 0).2.2 else if(A.rd b 0 0).2.1 < b.length then 24 else 0
def PV (A:Th) (b:List UInt8):A.X:=if Qx A b=0 then(A.rd b 0 0).1 else A.z
def WF (A:Th) (b:List UInt8) (w0 w':World) (r:Value):Prop:=
 ∃ cells,r=.tuple #[.agg cells.toArray,.int .i64 (Qx A b:Int)]∧A.M w' (fun p=>w0.heap.size≤p∧Tw w' p) (PV A b) cells∧Hp w0 w' [] []
section
variable {P:Program} {fn:Func} {l:List Value} {w w0:World} {R:Value→World→Prop} {zs:List Value} {sz bytes:Nat}
theorem Hp.cells {S:List Nat} {es:List Ent} (H:Hp w0 w S es) {i g:Nat} {T:TypeId} {cs:List Value} (he:es[i]? =some (some g,T,cs)):∀ j u,cs[j]? =some u→w.cell? ((⟨g,0,none⟩:Addr).add j)=some u:=fun j u hu=>by
 rw[Ip,Au];exact H.cell he hu
end
theorem MT {a st:WS} (h:rW a st):(st.long=true∨65536 < st.out.length→a.long=true)∧(¬(st.long=true∨65536 < st.out.length)→a.long=false∧a.out=st.out):=by
 rcases h with ⟨h1,h2⟩ | ⟨h1,h2,h3,h4⟩
 · exact⟨fun _=>h1,fun h=>absurd h2 h⟩
 refine⟨fun h=>?_,fun _=>⟨h1,h3⟩⟩
 rcases h with h | h
 · rw[h2]at h;cases h
 rw[← h3]at h;omega
theorem mT {st:WS} (h:st.long=true):sZ st=[]∧errOf st=22:=⟨if_pos h,if_pos h⟩
theorem fB {st:WS} (h:st.long=false):sZ st=st.out∧errOf st=0:=⟨if_neg (by simp[h]),if_neg (by simp[h])⟩
theorem JH {A:Th} {b:List UInt8} (h:Qx A b=0):PV A b=(A.rd b 0 0).1∧¬65536 < b.length∧(A.rd b 0 0).2.2=0∧¬(A.rd b 0 0).2.1 < b.length:=by
 refine⟨if_pos h,?_⟩
 unfold Qx at h
 split at h
 · cases h
 split at h
 · omega
 split at h
 · cases h
 rename_i h1 h2 h3;exact⟨h1,by omega,h3⟩
theorem PU {A:Th} {b:List UInt8} (h:Qx A b≠0):PV A b=A.z:=if_neg h
theorem UK {A:Th} {b:List UInt8} {x:A.X} {i e:Nat} (h:b.length≤65536) (hx:A.rd b 0 0=(x,i,e)):Qx A b=if e=0∧i < b.length then 24 else e:=by
 unfold Qx
 rw[if_neg (by omega),hx]
 simp only
 split
 · rw[if_neg (by omega)]
 split
 · rw[if_pos ⟨by omega,by assumption⟩]
 rw[if_neg (by omega)];omega
theorem GT {cs us:List Value} (h:us.length=cs.length):zG cs 0 us=us:=by
 unfold zG
 rw[Gm (by omega)]
 simp
theorem EQ {P:Program} {ds:List Deferred} {Q:vQ} {K:List Value→World→Prop} {all os:List Oper} {l:List Value} {w:World} {op:Op} {ty:TypeId} {pos:String} {af:Array Edge} {d:Tmp}
 {f:FuncId} {args:Array Value} {st:WS} (hx:Ex P l op ty w (.enter f args) w) (hc:zO P f args w fun r w'=>KI w w' r st)
 (h:∀ w' g cap sp,(sZ st).length≤cap→cap*1≤(u8s (sZ st)++sp).length→(g=none→cap=0)→(sZ st).length≤65536→Hp w w' [] [(g,5,u8s (sZ st)++sp)]→Ops P ds all K Q os (l.set d (.tuple #[.slice (hd g) (sZ st).length cap,.int .i64 (errOf st:Int)])) w'):
 Ops P ds all K Q (⟨some d,op,ty,pos,af,none⟩::os) l w:=
 tF hx hc fun r w' ⟨g,cap,sp,h1,h2,h3,h4,h5,h6⟩=>by rw[h1];exact h w' g cap sp h2 h3 h4 h5 h6
theorem CG {P:Program} {ds:List Deferred} {Q:vQ} {K:List Value→World→Prop} {all os:List Oper} {l:List Value} {w:World} {op:Op} {ty:TypeId} {pos:String} {af:Array Edge} {d:Tmp}
 {f:FuncId} {args:Array Value} {A:Th} {b:List UInt8} (hx:Ex P l op ty w (.enter f args) w) (hc:zO P f args w fun r w'=>WF A b w w' r)
 (h:∀ w' cells,A.M w' (fun p=>w.heap.size≤p∧Tw w' p) (PV A b) cells→Hp w w' [] []→Ops P ds all K Q os (l.set d (.tuple #[.agg cells.toArray,.int .i64 (Qx A b:Int)])) w'):
 Ops P ds all K Q (⟨some d,op,ty,pos,af,none⟩::os) l w:=
 tF hx hc fun r w' ⟨cells,h1,h2,h3⟩=>by rw[h1];exact h w' cells h2 h3

theorem eX (s t:List UInt8) (hs:s.length≤65535):vF (xW s++t) 65535=(s,(xW s).length,0):=by
 have h1:xL (xW s++t)=(s.length,(enc s.length).length,0):=by
  rw[rB,Bf];exact jE _ _ (by omega)
 have h2:yA (xW s++t) 65535=(s.length,(enc s.length).length,0):=by
  rw[oK (by rw[h1]) (by rw[h1];simp only;omega),h1]
 unfold vF
 rw[h2]
 simp only[ne_eq,not_true,if_false]
 rw[if_neg (by rw[rB];simp),rB,Bf,List.drop_left,List.take_left,Af]
theorem QE {f:Fv} {b t:List UInt8} {i:Nat} (hf:FOk f) (h2:wK f=false) (h:b.drop i=rJ f++t):rdF f.kd b i 0=(f,i+(rJ f).length,0):=by
 cases f with
 | int n=>
  show(Fv.int (unz (yK b i 0).1),(yK b i 0).2)=_
  have hs:yK b i 0=(zig n,i+(enc (zig n)).length,0):=by
   unfold yK
   rw[if_pos rfl,h]
   simp only[rJ]
   rw[rH,jE _ _ (GA n hf.1 hf.2)]
  rw[hs]
  simp only[SD,rJ]
  rw[rH]
 | flag v=>
  show(Fv.flag (sE b i 0).1,(sE b i 0).2)=_
  have hs:sE b i 0=(v,i+1,0):=by
   unfold sE
   rw[if_pos rfl,h]
   cases v <;>rfl
  rw[hs]
  rfl
 | text s=>
  show(Fv.text (yG b 65535 i 0).1,(yG b 65535 i 0).2)=_
  have hl:s.length≤65535:=by have:=of_decide_eq_false h2;omega
  have hs:yG b 65535 i 0=(s,i+(xW s).length,0):=by
   unfold yG
   rw[if_pos rfl,h]
   simp only[rJ]
   rw[eX s t hl]
  rw[hs]
  rfl
 | bytes s=>
  show(Fv.bytes (yG b 65535 i 0).1,(yG b 65535 i 0).2)=_
  have hl:s.length≤65535:=by have:=of_decide_eq_false h2;omega
  have hs:yG b 65535 i 0=(s,i+(xW s).length,0):=by
   unfold yG
   rw[if_pos rfl,h]
   simp only[rJ]
   rw[eX s t hl]
  rw[hs]
  rfl
 | word n=>
  show(Fv.word (tZ b i 0).1,(tZ b i 0).2)=_
  have hn:n < 4294967296:=hf
  have hs:yK b i 0=(n,i+(enc n).length,0):=by
   unfold yK
   rw[if_pos rfl,h]
   simp only[rJ]
   rw[jE _ _ (by omega)]
  unfold tZ
  rw[hs,if_neg (by simp only;omega)]
  rfl
 | count n=>
  show(Fv.count (wG b 1024 i 0).1,(wG b 1024 i 0).2)=_
  have hl:n≤1024:=by have:=of_decide_eq_false h2;omega
  have h1:xL (b.drop i)=(n,(enc n).length,0):=by
   rw[h]
   simp only[rJ]
   rw[jE _ _ (by omega)]
  rw[dI (by rw[h1]) (by rw[h1];simp only;omega),h1]
  rfl
theorem M9 (f:Fv) (st:WS):st.out <+:(qM f st).out:=by
 unfold qM
 split
 · exact List.prefix_refl _
 split
 · exact List.prefix_refl _
 unfold iX
 split
 · exact List.prefix_refl _
 exact List.prefix_append _ _
theorem DG :∀ (fs:List Fv) (st:WS),st.out <+:(xV fs st).out
 | [],_=>List.prefix_refl _
 | f::fs,st=>(M9 f st).trans (DG fs (qM f st))
theorem GE {a c:List Fv} {st:WS} (h:(xV (a++c) st).long=false):(xV a st).long=false:=by
 rw[wV]at h
 cases hl:(xV a st).long with
 | false=>rfl
 | true=>rw[AD hl,hl]at h;cases h
theorem KQ {f:Fv} {st:WS} (h0:st.long=false) (h:(qM f st).long=false):wK f=false∧qM f st=⟨st.out++rJ f,false⟩:=by
 cases ht:wK f with
 | true=>rw[iY h0 ht]at h;cases h
 | false=>
  refine⟨Y,?_⟩
  rw[lC h0 ht]at h ⊢
  unfold iX at h ⊢
  split at h
  · cases h
  rename_i hn
  rw[if_neg hn,h0]
theorem QZ {a c b:List UInt8} (h:a++c <+:b):∃ t,b.drop a.length=c++t:=by
 obtain⟨t,rfl⟩:=h
 exact⟨t,by rw[Bf,List.drop_left]⟩
theorem KE :∀ (x:List Fv),(∀ f∈x,FOk f)→∀ (st:WS) (b:List UInt8),st.long=false→(xV x st).long=false→(xV x st).out <+:b→vT (x.map Fv.kd) b st.out.length 0=(x,(xV x st).out.length,0)
 | [],_,_,_,_,_,_=>rfl
 | f::fs,hok,st,b,h0,hl,hp=>by
  have hl1:(qM f st).long=false:=GE (a:=[f]) (c:=fs) hl
  obtain⟨h2,h3⟩:=KQ h0 hl1
  have hp1:st.out++rJ f <+:b:=by
   have:=(DG fs (qM f st)).trans hp
   rw[h3]at this
   exact this
  obtain⟨t,ht⟩:=QZ hp1
  have hr:=QE (hok f (Gn ..)) h2 ht
  have hs:xV (f::fs) st=xV fs (qM f st):=rfl
  have ih:=KE fs (fun g hg=>hok g (Es _ hg)) (qM f st) b hl1 (by rw[← hs];exact hl) (by rw[← hs];exact hp)
  have hlen:(qM f st).out.length=st.out.length+(rJ f).length:=by rw[h3];simp
  rw[hlen]at ih
  rw[hs]
  show((rdF f.kd b st.out.length 0).1::(vT (fs.map Fv.kd) b (rdF f.kd b st.out.length 0).2.1 (rdF f.kd b st.out.length 0).2.2).1,(vT (fs.map Fv.kd) b (rdF f.kd b st.out.length 0).2.1 (rdF f.kd b st.out.length 0).2.2).2)=_
  rw[hr]
  simp only
  rw[ih]
section
variable {A:Th} {w:World} {ok:Nat→Prop} {x:A.X} {vs:List Value}
theorem WZ (st:List Fv):(sZ (xV st W0)).length≤65536:=by
 have h:=R2 (fs:=st) (st:=W0) (Am _)
 unfold sZ
 split
 · exact Am _
 exact h
end
end Go.Proofs.YtjoeklkmnfaabaaGreat
namespace Go.Proofs.YtjoeklkmnfaabaaGreat
open Go Go.RowKit
set_option linter.unusedVariables false
set_option linter.unusedSimpArgs false
attribute [local irreducible] yT Ops zO Cd
set_option maxRecDepth 100000
set_option maxHeartbeats 4000000
theorem OF :wW Tryz.prog 178=some [(0,1),(1,1),(2,1),(3,1)]:=by kernel_rfl
theorem WU :wW Tryz.prog 167=some [(0,1),(1,1),(2,1)]:=by kernel_rfl
theorem plw81 :wW Tryz.prog 81=some [(0,1),(1,1),(2,2),(4,4),(8,2),(10,4),(14,1),(15,1)]:=by kernel_rfl
theorem DB (fl:List Fv) (fc:FuncId) (capt:List Value) (w0:World) (hg:yB Tryz.prog fc=true) (hfc:∀ gp w1,Hp w0 w1 [] (pw gp none 0 [] W0)→Aj fc (Ptr0 gp::capt).toArray w1 (fun _ w'=>nT gp (xV fl W0) w1 (bl (pw gp none 0 [] W0)) w')):Aj 70 #[.func (.func fc) #[] capt.toArray] w0 (fun r w'=>KI w0 w' r (xV fl W0)):=by
 refine zE Tryz.func70 Tryz.ntmps70 Y<|cR e18 ?_
 have H:=Hp.refl w0
 refine Rq<|Xa Y<|Xa Y<|Xr e18<|Rq<|OV (EB VE OF Y Y)<|zW Y Y H<|fun w1 g1 H1 hg1=>Xa Y<|Xr e18<|Rq<|Xm Y<|Xm Y ?_
 have HP:Hp w0 w1 [] (pw g1 none 0 [] W0):=Hp.nil H1 5
 refine OQ (xD hg Y Y) (hfc _ _ HP) ?_
 rintro _ w2 ⟨g,cap,sp,hP,Hd⟩
 obtain⟨st,hst⟩:∃ st,xV fl W0=st:=⟨_,rfl⟩
 rw[hst]at hP Hd
 have H2:=HP.all Hd
 refine Xr e18<|J1<|Rq<|Xm Y<|Xc Y<|Xf oG Y<|OV (EL ty4 Y (H2.cell (i:=0) Y Y))<|Xr e18<|wP Y (fun hb13=>?_) (fun hb13=>?_)
 obtain⟨q1,q2⟩:=mT hb13
 refine Rq<|Xa Y<|Xa Y<|Xr e18<|J5<|Kw Y Y Y ?_
 rw[hst]
 exact⟨none,0,[],by rw[q1,q2];rfl,by rw[q1];exact Ai 0,Am _,fun _=>Y,by rw[q1];decide,by rw[q1];exact Hp.nil (H2.pick [] (by decide)) 5⟩
 obtain⟨q1,q2⟩:=fB hb13
 refine J6<|Rq<|Xm Y<|Xc Y<|Xf dY Y<|OV (EL xG Y (H2.cell (i:=0) Y Y))<|Ae e18<|Xa Y<|Xa Y<|Xr e18<|J5<|Kw Y Y Y ?_
 rw[hst]
 exact⟨g,cap,sp,by rw[q1,q2];rfl,by rw[q1];exact hP.le,by rw[q1];exact hP.room,hP.nil,by rw[q1];exact hP.most,by rw[q1];exact H2.pick [1] (by decide)⟩
theorem LB (A:Th) (AA:Option Addr) (b:List UInt8) (c:Nat) (go:Nat) (U:TypeId) (cs:List Value) (fc:FuncId) (capt:List Value) (w0:World) (H0:Hp w0 w0 [go] [(some go,U,cs)]) (hcs:cs.length=A.sz) (hr:Rd w0 AA b.length 1 (u8s b)) (hra:0 < b.length→∀ a,AA=some a→a.block∉[go]) (hg:yB Tryz.prog fc=true) (hfc:∀ gp gr gb cb sb w1,b.length≤cb→b.length≤65536→Hp w0 w1 [go] (pr gp gr gb cb sb b 0 0++[(some go,U,cs)])→Aj fc (Ptr0 gp::capt).toArray w1 (fun _ w'=>nS (pr gp gr gb cb sb b) A go 0 U cs b 0 0 w1.heap.size w1 (bl (pr gp gr gb cb sb b 0 0++[(some go,U,cs)])) w')):Aj 63 #[Ac AA b.length c,.func (.func fc) #[] capt.toArray] w0 (fun r w'=>r=Aa (Qx A b:Int)∧∃ cs',cs'.length=A.sz∧Hp w0 w' [go] [(some go,U,cs')]∧(Qx A b=0→A.M w' (fun p=>w0.heap.size≤p∧p∉[go]∧Tw w' p) (A.rd b 0 0).1 cs')):=by
 refine zE Tryz.func63 Tryz.ntmps63 Y<|cR e30 ?_
 have H:=H0
 refine Rq<|Xa Y<|Xr e30<|J1<|Rq<|Xm Y<|OV (ES Hf Y)<|OT (yP Y Y) (fun hp8=>?_) (fun hp8=>?_)
 have he:Qx A b=22:=if_pos (by omega)
 refine Xr e30<|J3 Y<|Rq<|Xa Y<|Xr e30<|J5<|Cj Y Y<|⟨by rw[he];rfl,cs,hcs,H,fun h=>by rw[he]at h;cases h⟩
 have hbl:b.length≤65536:=by omega
 refine Xr e30<|J4 Y<|J6<|Rq<|Xm Y<|TH (EC gf104 Y) (TN AA b c _ (hr.fc H hra) (by omega))<|fun w1 gr g cap sp hcb hroom hnil Hd=>have H1:=H.call0 Hd;OV (EB VE OF Y Y)<|zW Y Y H1<|fun w2 g2 H2 hg2=>Ae e30 ?_
 obtain⟨gpn,hgpn⟩:∃ x,x=g2:=⟨_,rfl⟩
 subst hgpn
 refine Xa Y<|Xr e30<|Rq<|Xm Y<|Xm Y ?_
 have HX:Hp w0 w2 [go] (pr gpn gr g cap sp b 0 0++[(some go,U,cs)]):=H2.pick [3,1,2,0] (by decide)
 refine OQ (xD hg Y Y) (hfc gpn gr g cap sp _ hcb hbl HX) ?_
 rintro _ w3 ⟨us,ZN,hone,Hd,hM⟩
 obtain⟨⟨x,i,e⟩,hx⟩:∃ y,A.rd b 0 0=y:=⟨_,rfl⟩
 rw[hx]at Hd hM
 simp only at Hd hM
 have hil:i≤b.length:=by have:=A.le (b:=b) (i:=0) (e:=0) (Am _);rw[hx]at this;exact this
 have hpu:zG cs 0 us=us:=by
  unfold zG
  rw[Gm (by omega)]
  simp
 rw[hpu]at Hd hM
 have hsz:=HX.size
 have H3:=HX.all Hd
 refine Xr e30<|J1<|Rq<|Xm Y<|Xc Y<|Xf JS Y<|OV (EL oA Y (H3.cell (i:=0) Y Y))<|Ae e30<|Jt (yR Y Y) (by simp)<|Xr e30<|J4 Y<|J6<|Rq<|Xm Y<|Xc Y<|Xf tS Y<|OV (EL oD Y (H3.cell (i:=0) Y Y))<|Ae e30<|OC (EC gf105 Y) (X9 gr (hd g) cap b i e _ (CD H3 (j:=1) (k:=2) Y Y (by decide) hcb (by omega) hil))<|fun w4 He=>have hMe:=fun h0=>Fr.to (hM h0) (H3.here.call0 He);have H4:=H3.call0 He;Xa Y<|Xr e30<|J5<|Cj Y Y ?_
 have he:Qx A b=if e=0∧i < b.length then 24 else e:=by
  unfold Qx
  rw[if_neg (by omega),hx]
  simp only
  split
  · rw[if_neg (by omega)]
  split
  · rw[if_pos ⟨by omega,by assumption⟩]
  rw[if_neg (by omega)];omega
 refine⟨by rw[he],us,ZN,H4.pick [3] (by decide),fun h0=>?_⟩
 rw[he]at h0
 have he0:e=0:=by split at h0 <;>omega
 have h2:=hMe he0
 rw[hx]
 exact A.mono h2 fun p hp=>⟨by have:=hp.1;omega,fun hq=>hp.2.1 (by simp only[Bc]at hq;subst hq;simp[bl]),hp.2.2⟩
@[reducible] def nD :Th:=Th.flat [.int,.int]
@[reducible] def fT :Th:=Th.flat [.int,.int,.int,.bytes]
@[reducible] def kU :Th:=Th.flat [.int,.bytes]
@[reducible] def kS :Th:=Th.flat [.int,.text,.int,.int]
@[reducible] def rM :Th:=Th.flat [.int,.int,.int,.int,.int,.int,.int,.bytes,.int,.bytes,.int,.text,.int,.int,.int,.int]
theorem LI (gp:Nat) (g:Option Nat) (cap:Nat) (sp:List Value) (st:WS) (a:Addr) (x:nD.X) (vs:List Value) (w0:World) (H0:Hp w0 w0 (bl (pw gp g cap sp st)) (pw gp g cap sp st)) (hP:POk 65536 g cap sp st) (hM:nD.M w0 (fun b=>b∉bl (pw gp g cap sp st)) x vs) (hC:Cl w0 (bl (pw gp g cap sp st)) a vs) (htw:false=true→qT w0 a):Aj 107 #[Ah gp,.pointer (some a)] w0 (fun _ w'=>nT gp (xV (nD.fl x) st) w0 (bl (pw gp g cap sp st)) w'):=by
 refine zE Tryz.func107 Tryz.ntmps107 Y<|cR e13 ?_
 have HS:YV false gp a w0 (bl (pw gp g cap sp st)) w0 st nD x vs g cap sp:=⟨H0,hP,hM,hC,fun h=>⟨htw h,by have hl:=nD.len hM;change vs.length=2 at hl;omega⟩⟩
 have H:=HS.H.here
 refine zQ 8 [(true,0),(true,1),(true,2),(true,3),(true,4),(true,5),(true,6),(false,7),(false,8)] H [0,1] yF (by decide) (by kernel_rfl) ?_
 rintro w1 hw1
 have H1:=Hp.drew H;rw[← hw1]at H1
 refine Zm Y Y<|Zm Y Y<|Zc Y Y<|cZ e13<|MP Y<|MV (fun wz hz=>yJ sW Y)<|Zm Y Y<|Zc Y Y<|cZ e13<|MP Y<|MV (fun wz hz=>yJ qC Y)<|MO Y<|zJ Oa tQ H1 Y (by decide) Y<|fun w2 g2 H2 hg2=>OE<|⟨fun hne=>H2.pick [0,1] (by decide),?_⟩
 refine cZ e13<|MO Y<|OQ (EC oF Y) (HS.grp (o:=0) iI H2 (by decide) (fun _ _ hM=>(Th.part hM 0 2)) (At.cast (At.trans (At.self _) (At.sub _ 0 2)) (by decide))) ?_
 rintro _ w3 ⟨g,cap,sp,HS⟩
 have H3:=HS.H.here
 refine OE ?_
 refine⟨fun hne=>absurd Y hne,?_⟩
 refine cZ e13<|ME<|cR e13<|zA<|yO Y ?_
 have hw0:List.take 2 x=x:=Th.whole hM
 refine HS.out ?_
 show _=xV (x) st
 simp only[Ei,tJ,wV,Nat.reduceAdd,hw0]
theorem A6 :IG Tryz.prog 107 nD false:=LI
theorem LJ (gp gr:Nat) (gb:Option Nat) (cb:Nat) (sb:List Value) (b:List UInt8) (hcb:b.length≤cb) (hbl:b.length≤65536) (go o i e:Nat) (U:TypeId) (cs:List Value) (w0:World) (H0:Hp w0 w0 (bl (pr gp gr gb cb sb b i e++[(some go,U,cs)])) (pr gp gr gb cb sb b i e++[(some go,U,cs)])) (hi:i≤b.length) (hat:At cs o nD.zs) (hfit:o+nD.sz≤cs.length):Aj 107 #[Ah gp,.pointer (some ⟨go,o,none⟩)] w0 (fun _ w'=>nS (pr gp gr gb cb sb b) nD go o U cs b i e w0.heap.size w0 (bl (pr gp gr gb cb sb b i e++[(some go,U,cs)])) w'):=by
 refine zE Tryz.func107 Tryz.ntmps107 Y<|cR e13 ?_
 change o+2≤cs.length at hfit
 have HS:=Vs.start (R:=pr gp gr gb cb sb b) (o:=o) H0 hi
 have H:=HS.H.here
 refine zQ 8 [(true,0),(true,1),(true,2),(true,3),(true,4),(true,5),(true,6),(false,7),(false,8)] H [0,1,2,3] yF (by decide) (by kernel_rfl) ?_
 rintro w1 hw1
 have H1:=Hp.drew H;rw[← hw1]at H1
 refine Zm Y Y<|Zm Y Y<|Zc Y Y<|cZ e13<|Zf Y sW Y<|Zm Y Y<|Zc Y Y<|cZ e13<|Zf Y qC Y<|MO Y<|zJ Oa tQ H1 Y (by decide) Y<|fun w2 g2 H2 hg2=>OE<|⟨fun hne=>H2.pick [0,1,2,3] (by decide),?_⟩
 refine cZ e13<|MO Y<|OQ (EC oF Y) (HS.grp (q:=0) (iJ gp gr gb cb sb b hcb hbl) (by decide) H2 (by decide) (show o+0+2≤_ by omega) (At.cast (hat.trans (At.sub _ 0 2)) Y) Y Y) ?_
 rintro _ w3 ⟨us,i1,e1,HS⟩
 replace HS:=HS.Oo
 have H3:=HS.H.here
 refine OE ?_
 refine⟨fun hne=>absurd Y hne,?_⟩
 refine cZ e13<|ME<|cR e13<|zA<|yO Y<|HS.out
theorem A7 :M1 Tryz.prog 107 nD:=LJ
theorem S2 (gp:Nat) (g:Option Nat) (cap:Nat) (sp:List Value) (st:WS) (a:Addr) (x:fT.X) (vs:List Value) (w0:World) (H0:Hp w0 w0 (bl (pw gp g cap sp st)) (pw gp g cap sp st)) (hP:POk 65536 g cap sp st) (hM:fT.M w0 (fun b=>b∉bl (pw gp g cap sp st)) x vs) (hC:Cl w0 (bl (pw gp g cap sp st)) a vs) (htw:false=true→qT w0 a):Aj 108 #[Ah gp,.pointer (some a)] w0 (fun _ w'=>nT gp (xV (fT.fl x) st) w0 (bl (pw gp g cap sp st)) w'):=by
 refine zE Tryz.func108 Tryz.ntmps108 Y<|cR e20 ?_
 have HS:YV false gp a w0 (bl (pw gp g cap sp st)) w0 st fT x vs g cap sp:=⟨H0,hP,hM,hC,fun h=>⟨htw h,by have hl:=fT.len hM;change vs.length=4 at hl;omega⟩⟩
 have H:=HS.H.here
 refine Rq<|Xm Y<|Xm Y<|Xc Y<|Ae e20<|OV (yJ wY Y)<|zJ Oa tQ H Y (by decide) Y<|fun w1 g1 H1 hg1=>OQ (EC oF Y) (HS.grp (o:=0) iI H1 (by decide) (fun _ _ hM=>(Th.part hM 0 1)) (At.cast (At.trans (At.self _) (At.sub _ 0 1)) (by decide))) ?_
 rintro _ w2 ⟨g,cap,sp,HS⟩
 have H2:=HS.H.here
 refine Xr e20<|Rq<|Xm Y<|Xm Y<|Xc Y<|Ae e20<|OV (yJ tA Y)<|OQ (EC JQ Y) (HS.one (o:=1) A6 (by decide) (fun _ _ hM=>(Th.part hM 1 2)) (At.cast (At.trans (At.self _) (At.sub _ 1 2)) (by decide))) ?_
 rintro _ w3 ⟨g,cap,sp,HS⟩
 have H3:=HS.H.here
 refine Xr e20<|J2<|Xm Y<|Xm Y<|Xc Y<|Ae e20<|OV (yJ tO Y)<|OQ (EC BJ Y) (HS.one (o:=3) EG (by decide) (fun _ _ hM=>(Th.part hM 3 1)) (At.cast (At.trans (At.self _) (At.sub _ 3 1)) (by decide))) ?_
 rintro _ w4 ⟨g,cap,sp,HS⟩
 have H4:=HS.H.here
 refine Xr e20<|zA<|yO Y ?_
 have hw0:List.take 4 x=x:=Th.whole hM
 refine HS.out ?_
 show _=xV (x) st
 simp only[Ei,tJ,wV,Nat.reduceAdd,hw0]
theorem S4 :IG Tryz.prog 108 fT false:=S2
theorem S3 (gp gr:Nat) (gb:Option Nat) (cb:Nat) (sb:List Value) (b:List UInt8) (hcb:b.length≤cb) (hbl:b.length≤65536) (go o i e:Nat) (U:TypeId) (cs:List Value) (w0:World) (H0:Hp w0 w0 (bl (pr gp gr gb cb sb b i e++[(some go,U,cs)])) (pr gp gr gb cb sb b i e++[(some go,U,cs)])) (hi:i≤b.length) (hat:At cs o fT.zs) (hfit:o+fT.sz≤cs.length):Aj 108 #[Ah gp,.pointer (some ⟨go,o,none⟩)] w0 (fun _ w'=>nS (pr gp gr gb cb sb b) fT go o U cs b i e w0.heap.size w0 (bl (pr gp gr gb cb sb b i e++[(some go,U,cs)])) w'):=by
 refine zE Tryz.func108 Tryz.ntmps108 Y<|cR e20 ?_
 change o+4≤cs.length at hfit
 have HS:=Vs.start (R:=pr gp gr gb cb sb b) (o:=o) H0 hi
 have H:=HS.H.here
 refine Rq<|Xm Y<|Xm Y<|Xc Y<|Ae e20<|Xf wY Y<|zJ Oa tQ H Y (by decide) Y<|fun w1 g1 H1 hg1=>OQ (EC oF Y) (HS.grp (q:=0) (iJ gp gr gb cb sb b hcb hbl) (by decide) H1 (by decide) (show o+0+1≤_ by omega) (At.cast (hat.trans (At.sub _ 0 1)) Y) Y Y) ?_
 rintro _ w2 ⟨us,i1,e1,HS⟩
 replace HS:=HS.Oo
 have H2:=HS.H.here
 refine Xr e20<|Rq<|Xm Y<|Xm Y<|Xc Y<|Ae e20<|Xf tA Y<|OQ (EC JQ Y) (HS.one (q:=1) (A7 gp gr gb cb sb b hcb hbl) (by decide) (show o+1+2≤_ by omega) (At.cast (hat.trans (At.sub _ 1 2)) Y)) ?_
 rintro _ w3 ⟨us,i1,e1,HS⟩
 replace HS:=HS.Oo
 have H3:=HS.H.here
 refine Xr e20<|J2<|Xm Y<|Xm Y<|Xc Y<|Ae e20<|Xf tO Y<|OQ (EC BJ Y) (HS.one (q:=3) (EH gp gr gb cb sb b hcb hbl) (by decide) (show o+3+1≤_ by omega) (At.cast (hat.trans (At.sub _ 3 1)) Y)) ?_
 rintro _ w4 ⟨us,i1,e1,HS⟩
 replace HS:=HS.Oo
 have H4:=HS.H.here
 refine Xr e20<|zA<|yO Y<|HS.out
theorem S5 :M1 Tryz.prog 108 fT:=S3
theorem OG (gp:Nat) (g:Option Nat) (cap:Nat) (sp:List Value) (st:WS) (a:Addr) (x:kU.X) (vs:List Value) (w0:World) (H0:Hp w0 w0 (bl (pw gp g cap sp st)) (pw gp g cap sp st)) (hP:POk 65536 g cap sp st) (hM:kU.M w0 (fun b=>b∉bl (pw gp g cap sp st)) x vs) (hC:Cl w0 (bl (pw gp g cap sp st)) a vs) (htw:false=true→qT w0 a):Aj 109 #[Ah gp,.pointer (some a)] w0 (fun _ w'=>nT gp (xV (kU.fl x) st) w0 (bl (pw gp g cap sp st)) w'):=by
 refine zE Tryz.func109 Tryz.ntmps109 Y<|cR e15 ?_
 have HS:YV false gp a w0 (bl (pw gp g cap sp st)) w0 st kU x vs g cap sp:=⟨H0,hP,hM,hC,fun h=>⟨htw h,by have hl:=kU.len hM;change vs.length=2 at hl;omega⟩⟩
 have H:=HS.H.here
 refine Rq<|Xm Y<|Xm Y<|Xc Y<|Ae e15<|OV (yJ xX Y)<|zJ Oa tQ H Y (by decide) Y<|fun w1 g1 H1 hg1=>OQ (EC oF Y) (HS.grp (o:=0) iI H1 (by decide) (fun _ _ hM=>(Th.part hM 0 1)) (At.cast (At.trans (At.self _) (At.sub _ 0 1)) (by decide))) ?_
 rintro _ w2 ⟨g,cap,sp,HS⟩
 have H2:=HS.H.here
 refine Xr e15<|J2<|Xm Y<|Xm Y<|Xc Y<|Ae e15<|OV (yJ uH Y)<|OQ (EC BJ Y) (HS.one (o:=1) EG (by decide) (fun _ _ hM=>(Th.part hM 1 1)) (At.cast (At.trans (At.self _) (At.sub _ 1 1)) (by decide))) ?_
 rintro _ w3 ⟨g,cap,sp,HS⟩
 have H3:=HS.H.here
 refine Xr e15<|zA<|yO Y ?_
 have hw0:List.take 2 x=x:=Th.whole hM
 refine HS.out ?_
 show _=xV (x) st
 simp only[Ei,tJ,wV,Nat.reduceAdd,hw0]
theorem OI :IG Tryz.prog 109 kU false:=OG
theorem OH (gp gr:Nat) (gb:Option Nat) (cb:Nat) (sb:List Value) (b:List UInt8) (hcb:b.length≤cb) (hbl:b.length≤65536) (go o i e:Nat) (U:TypeId) (cs:List Value) (w0:World) (H0:Hp w0 w0 (bl (pr gp gr gb cb sb b i e++[(some go,U,cs)])) (pr gp gr gb cb sb b i e++[(some go,U,cs)])) (hi:i≤b.length) (hat:At cs o kU.zs) (hfit:o+kU.sz≤cs.length):Aj 109 #[Ah gp,.pointer (some ⟨go,o,none⟩)] w0 (fun _ w'=>nS (pr gp gr gb cb sb b) kU go o U cs b i e w0.heap.size w0 (bl (pr gp gr gb cb sb b i e++[(some go,U,cs)])) w'):=by
 refine zE Tryz.func109 Tryz.ntmps109 Y<|cR e15 ?_
 change o+2≤cs.length at hfit
 have HS:=Vs.start (R:=pr gp gr gb cb sb b) (o:=o) H0 hi
 have H:=HS.H.here
 refine Rq<|Xm Y<|Xm Y<|Xc Y<|Ae e15<|Xf xX Y<|zJ Oa tQ H Y (by decide) Y<|fun w1 g1 H1 hg1=>OQ (EC oF Y) (HS.grp (q:=0) (iJ gp gr gb cb sb b hcb hbl) (by decide) H1 (by decide) (show o+0+1≤_ by omega) (At.cast (hat.trans (At.sub _ 0 1)) Y) Y Y) ?_
 rintro _ w2 ⟨us,i1,e1,HS⟩
 replace HS:=HS.Oo
 have H2:=HS.H.here
 refine Xr e15<|J2<|Xm Y<|Xm Y<|Xc Y<|Ae e15<|Xf uH Y<|OQ (EC BJ Y) (HS.one (q:=1) (EH gp gr gb cb sb b hcb hbl) (by decide) (show o+1+1≤_ by omega) (At.cast (hat.trans (At.sub _ 1 1)) Y)) ?_
 rintro _ w3 ⟨us,i1,e1,HS⟩
 replace HS:=HS.Oo
 have H3:=HS.H.here
 refine Xr e15<|zA<|yO Y<|HS.out
theorem OJ :M1 Tryz.prog 109 kU:=OH
theorem N7 (gp:Nat) (g:Option Nat) (cap:Nat) (sp:List Value) (st:WS) (a:Addr) (x:kS.X) (vs:List Value) (w0:World) (H0:Hp w0 w0 (bl (pw gp g cap sp st)) (pw gp g cap sp st)) (hP:POk 65536 g cap sp st) (hM:kS.M w0 (fun b=>b∉bl (pw gp g cap sp st)) x vs) (hC:Cl w0 (bl (pw gp g cap sp st)) a vs) (htw:false=true→qT w0 a):Aj 110 #[Ah gp,.pointer (some a)] w0 (fun _ w'=>nT gp (xV (kS.fl x) st) w0 (bl (pw gp g cap sp st)) w'):=by
 refine zE Tryz.func110 Tryz.ntmps110 Y<|cR e25 ?_
 have HS:YV false gp a w0 (bl (pw gp g cap sp st)) w0 st kS x vs g cap sp:=⟨H0,hP,hM,hC,fun h=>⟨htw h,by have hl:=kS.len hM;change vs.length=4 at hl;omega⟩⟩
 have H:=HS.H.here
 refine Rq<|Xm Y<|Xm Y<|Xc Y<|Ae e25<|OV (yJ qD Y)<|zJ Oa tQ H Y (by decide) Y<|fun w1 g1 H1 hg1=>OQ (EC oF Y) (HS.grp (o:=0) iI H1 (by decide) (fun _ _ hM=>(Th.part hM 0 1)) (At.cast (At.trans (At.self _) (At.sub _ 0 1)) (by decide))) ?_
 rintro _ w2 ⟨g,cap,sp,HS⟩
 have H2:=HS.H.here
 refine Xr e25<|Rq<|Xm Y<|Xm Y<|Xc Y<|Ae e25<|OV (yJ oV Y)<|zJ ZH AH H2 Y (by decide) Y<|fun w3 g3 H3 hg3=>OQ (EC VT Y) (HS.grp (o:=1) S8 H3 (by decide) (fun _ _ hM=>(Th.part hM 1 1)) (At.cast (At.trans (At.self _) (At.sub _ 1 1)) (by decide))) ?_
 rintro _ w4 ⟨g,cap,sp,HS⟩
 have H4:=HS.H.here
 refine Xr e25<|zQ 8 [(true,0),(true,1),(true,2),(true,3),(true,4),(true,5),(true,6),(false,7),(false,8)] H4 [0,1] yF (by decide) (by kernel_rfl) ?_
 rintro w5 hw5
 have H5:=Hp.drew H4;rw[← hw5]at H5
 refine Zm Y Y<|Zm Y Y<|Zc Y Y<|cZ e25<|MP Y<|MV (fun wz hz=>yJ aC Y)<|Zm Y Y<|Zc Y Y<|cZ e25<|MP Y<|MV (fun wz hz=>yJ G7 Y)<|MO Y<|zJ Oa tQ H5 Y (by decide) Y<|fun w6 g6 H6 hg6=>OE<|⟨fun hne=>H6.pick [0,1] (by decide),?_⟩
 refine cZ e25<|MO Y<|OQ (EC oF Y) (HS.grp (o:=2) iI H6 (by decide) (fun _ _ hM=>(Th.part hM 2 2)) (At.cast (At.trans (At.self _) (At.sub _ 2 2)) (by decide))) ?_
 rintro _ w7 ⟨g,cap,sp,HS⟩
 have H7:=HS.H.here
 refine OE ?_
 refine⟨fun hne=>absurd Y hne,?_⟩
 refine cZ e25<|ME<|cR e25<|zA<|yO Y ?_
 have hw0:List.take 4 x=x:=Th.whole hM
 refine HS.out ?_
 show _=xV (x) st
 simp only[Ei,tJ,wV,Nat.reduceAdd,hw0]
theorem N9 :IG Tryz.prog 110 kS false:=N7
theorem N8 (gp gr:Nat) (gb:Option Nat) (cb:Nat) (sb:List Value) (b:List UInt8) (hcb:b.length≤cb) (hbl:b.length≤65536) (go o i e:Nat) (U:TypeId) (cs:List Value) (w0:World) (H0:Hp w0 w0 (bl (pr gp gr gb cb sb b i e++[(some go,U,cs)])) (pr gp gr gb cb sb b i e++[(some go,U,cs)])) (hi:i≤b.length) (hat:At cs o kS.zs) (hfit:o+kS.sz≤cs.length):Aj 110 #[Ah gp,.pointer (some ⟨go,o,none⟩)] w0 (fun _ w'=>nS (pr gp gr gb cb sb b) kS go o U cs b i e w0.heap.size w0 (bl (pr gp gr gb cb sb b i e++[(some go,U,cs)])) w'):=by
 refine zE Tryz.func110 Tryz.ntmps110 Y<|cR e25 ?_
 change o+4≤cs.length at hfit
 have HS:=Vs.start (R:=pr gp gr gb cb sb b) (o:=o) H0 hi
 have H:=HS.H.here
 refine Rq<|Xm Y<|Xm Y<|Xc Y<|Ae e25<|Xf qD Y<|zJ Oa tQ H Y (by decide) Y<|fun w1 g1 H1 hg1=>OQ (EC oF Y) (HS.grp (q:=0) (iJ gp gr gb cb sb b hcb hbl) (by decide) H1 (by decide) (show o+0+1≤_ by omega) (At.cast (hat.trans (At.sub _ 0 1)) Y) Y Y) ?_
 rintro _ w2 ⟨us,i1,e1,HS⟩
 replace HS:=HS.Oo
 have H2:=HS.H.here
 refine Xr e25<|Rq<|Xm Y<|Xm Y<|Xc Y<|Ae e25<|Xf oV Y<|zJ ZH AH H2 Y (by decide) Y<|fun w3 g3 H3 hg3=>OQ (EC VT Y) (HS.grp (q:=1) (S9 gp gr gb cb sb b hcb hbl) (by decide) H3 (by decide) (show o+1+1≤_ by omega) (At.cast (hat.trans (At.sub _ 1 1)) Y) Y Y) ?_
 rintro _ w4 ⟨us,i1,e1,HS⟩
 replace HS:=HS.Oo
 have H4:=HS.H.here
 refine Xr e25<|zQ 8 [(true,0),(true,1),(true,2),(true,3),(true,4),(true,5),(true,6),(false,7),(false,8)] H4 [0,1,2,3] yF (by decide) (by kernel_rfl) ?_
 rintro w5 hw5
 have H5:=Hp.drew H4;rw[← hw5]at H5
 refine Zm Y Y<|Zm Y Y<|Zc Y Y<|cZ e25<|Zf Y aC Y<|Zm Y Y<|Zc Y Y<|cZ e25<|Zf Y G7 Y<|MO Y<|zJ Oa tQ H5 Y (by decide) Y<|fun w6 g6 H6 hg6=>OE<|⟨fun hne=>H6.pick [0,1,2,3] (by decide),?_⟩
 refine cZ e25<|MO Y<|OQ (EC oF Y) (HS.grp (q:=2) (iJ gp gr gb cb sb b hcb hbl) (by decide) H6 (by decide) (show o+2+2≤_ by omega) (At.cast (hat.trans (At.sub _ 2 2)) Y) Y Y) ?_
 rintro _ w7 ⟨us,i1,e1,HS⟩
 replace HS:=HS.Oo
 have H7:=HS.H.here
 refine OE ?_
 refine⟨fun hne=>absurd Y hne,?_⟩
 refine cZ e25<|ME<|cR e25<|zA<|yO Y<|HS.out
theorem OB :M1 Tryz.prog 110 kS:=N8
theorem TA (gp:Nat) (g:Option Nat) (cap:Nat) (sp:List Value) (st:WS) (a:Addr) (x:rM.X) (vs:List Value) (w0:World) (H0:Hp w0 w0 (bl (pw gp g cap sp st)) (pw gp g cap sp st)) (hP:POk 65536 g cap sp st) (hM:rM.M w0 (fun b=>b∉bl (pw gp g cap sp st)) x vs) (hC:Cl w0 (bl (pw gp g cap sp st)) a vs) (htw:false=true→qT w0 a):Aj 65 #[Ah gp,.pointer (some a)] w0 (fun _ w'=>nT gp (xV (rM.fl x) st) w0 (bl (pw gp g cap sp st)) w'):=by
 refine zE Tryz.func65 Tryz.ntmps65 Y<|cR e42 ?_
 have HS:YV false gp a w0 (bl (pw gp g cap sp st)) w0 st rM x vs g cap sp:=⟨H0,hP,hM,hC,fun h=>⟨htw h,by have hl:=rM.len hM;change vs.length=16 at hl;omega⟩⟩
 have H:=HS.H.here
 refine J1<|zQ 8 [(true,0),(true,1),(true,2),(true,3),(true,4),(true,5),(true,6),(false,7),(false,8)] H [0,1] yF (by decide) (by kernel_rfl) ?_
 rintro w1 hw1
 have H1:=Hp.drew H;rw[← hw1]at H1
 refine Zm Y Y<|Zm Y Y<|Zc Y Y<|cZ e42<|MP Y<|MV (fun wz hz=>yJ qP Y)<|Zm Y Y<|Zc Y Y<|cZ e42<|MP Y<|MV (fun wz hz=>yJ fl81_1 Y)<|MO Y<|zJ Oa tQ H1 Y (by decide) Y<|fun w2 g2 H2 hg2=>OE<|⟨fun hne=>H2.pick [0,1] (by decide),?_⟩
 refine cZ e42<|MO Y<|OQ (EC oF Y) (HS.grp (o:=0) iI H2 (by decide) (fun _ _ hM=>(Th.part hM 0 2)) (At.cast (At.trans (At.self _) (At.sub _ 0 2)) (by decide))) ?_
 rintro _ w3 ⟨g,cap,sp,HS⟩
 have H3:=HS.H.here
 refine OE ?_
 refine⟨fun hne=>absurd Y hne,?_⟩
 refine cZ e42<|ME<|cR e42<|Rq<|Xm Y<|Xm Y<|Xc Y<|Ae e42<|OV (yJ mM Y)<|OQ (EC JQ Y) (HS.one (o:=2) A6 (by decide) (fun _ _ hM=>(Th.part hM 2 2)) (At.cast (At.trans (At.self _) (At.sub _ 2 2)) (by decide))) ?_
 rintro _ w4 ⟨g,cap,sp,HS⟩
 have H4:=HS.H.here
 refine Xr e42<|Rq<|Xm Y<|Xm Y<|Xc Y<|Ae e42<|OV (yJ qO Y)<|OQ (EC V8 Y) (HS.one (o:=4) S4 (by decide) (fun _ _ hM=>(Th.part hM 4 4)) (At.cast (At.trans (At.self _) (At.sub _ 4 4)) (by decide))) ?_
 rintro _ w5 ⟨g,cap,sp,HS⟩
 have H5:=HS.H.here
 refine Xr e42<|Rq<|Xm Y<|Xm Y<|Xc Y<|Ae e42<|OV (yJ vV Y)<|OQ (EC V7 Y) (HS.one (o:=8) OI (by decide) (fun _ _ hM=>(Th.part hM 8 2)) (At.cast (At.trans (At.self _) (At.sub _ 8 2)) (by decide))) ?_
 rintro _ w6 ⟨g,cap,sp,HS⟩
 have H6:=HS.H.here
 refine Xr e42<|Rq<|Xm Y<|Xm Y<|Xc Y<|Ae e42<|OV (yJ kB Y)<|OQ (EC V6 Y) (HS.one (o:=10) N9 (by decide) (fun _ _ hM=>(Th.part hM 10 4)) (At.cast (At.trans (At.self _) (At.sub _ 10 4)) (by decide))) ?_
 rintro _ w7 ⟨g,cap,sp,HS⟩
 have H7:=HS.H.here
 refine Xr e42<|zQ 8 [(true,0),(true,1),(true,2),(true,3),(true,4),(true,5),(true,6),(false,7),(false,8)] H7 [0,1] yF (by decide) (by kernel_rfl) ?_
 rintro w8 hw8
 have H8:=Hp.drew H7;rw[← hw8]at H8
 refine Zm Y Y<|Zm Y Y<|Zc Y Y<|cZ e42<|MP Y<|MV (fun wz hz=>yJ uQ Y)<|Zm Y Y<|Zc Y Y<|cZ e42<|MP Y<|MV (fun wz hz=>yJ tN Y)<|MO Y<|zJ Oa tQ H8 Y (by decide) Y<|fun w9 g9 H9 hg9=>OE<|⟨fun hne=>H9.pick [0,1] (by decide),?_⟩
 refine cZ e42<|MO Y<|OQ (EC oF Y) (HS.grp (o:=14) iI H9 (by decide) (fun _ _ hM=>(Th.part hM 14 2)) (At.cast (At.trans (At.self _) (At.sub _ 14 2)) (by decide))) ?_
 rintro _ w10 ⟨g,cap,sp,HS⟩
 have Df:=HS.H.here
 refine OE ?_
 refine⟨fun hne=>absurd Y hne,?_⟩
 refine cZ e42<|ME<|cR e42<|zA<|yO Y ?_
 have hw0:List.take 16 x=x:=Th.whole hM
 refine HS.out ?_
 show _=xV (x) st
 simp only[Ei,tJ,wV,Nat.reduceAdd,hw0]
theorem pnote_W :IG Tryz.prog 65 rM false:=TA
theorem TB (gp gr:Nat) (gb:Option Nat) (cb:Nat) (sb:List Value) (b:List UInt8) (hcb:b.length≤cb) (hbl:b.length≤65536) (go o i e:Nat) (U:TypeId) (cs:List Value) (w0:World) (H0:Hp w0 w0 (bl (pr gp gr gb cb sb b i e++[(some go,U,cs)])) (pr gp gr gb cb sb b i e++[(some go,U,cs)])) (hi:i≤b.length) (hat:At cs o rM.zs) (hfit:o+rM.sz≤cs.length):Aj 65 #[Ah gp,.pointer (some ⟨go,o,none⟩)] w0 (fun _ w'=>nS (pr gp gr gb cb sb b) rM go o U cs b i e w0.heap.size w0 (bl (pr gp gr gb cb sb b i e++[(some go,U,cs)])) w'):=by
 refine zE Tryz.func65 Tryz.ntmps65 Y<|cR e42 ?_
 change o+16≤cs.length at hfit
 have HS:=Vs.start (R:=pr gp gr gb cb sb b) (o:=o) H0 hi
 have H:=HS.H.here
 refine J1<|zQ 8 [(true,0),(true,1),(true,2),(true,3),(true,4),(true,5),(true,6),(false,7),(false,8)] H [0,1,2,3] yF (by decide) (by kernel_rfl) ?_
 rintro w1 hw1
 have H1:=Hp.drew H;rw[← hw1]at H1
 refine Zm Y Y<|Zm Y Y<|Zc Y Y<|cZ e42<|Zf Y qP Y<|Zm Y Y<|Zc Y Y<|cZ e42<|Zf Y fl81_1 Y<|MO Y<|zJ Oa tQ H1 Y (by decide) Y<|fun w2 g2 H2 hg2=>OE<|⟨fun hne=>H2.pick [0,1,2,3] (by decide),?_⟩
 refine cZ e42<|MO Y<|OQ (EC oF Y) (HS.grp (q:=0) (iJ gp gr gb cb sb b hcb hbl) (by decide) H2 (by decide) (show o+0+2≤_ by omega) (At.cast (hat.trans (At.sub _ 0 2)) Y) Y Y) ?_
 rintro _ w3 ⟨us,i1,e1,HS⟩
 replace HS:=HS.Oo
 have H3:=HS.H.here
 refine OE ?_
 refine⟨fun hne=>absurd Y hne,?_⟩
 refine cZ e42<|ME<|cR e42<|Rq<|Xm Y<|Xm Y<|Xc Y<|Ae e42<|Xf mM Y<|OQ (EC JQ Y) (HS.one (q:=2) (A7 gp gr gb cb sb b hcb hbl) (by decide) (show o+2+2≤_ by omega) (At.cast (hat.trans (At.sub _ 2 2)) Y)) ?_
 rintro _ w4 ⟨us,i1,e1,HS⟩
 replace HS:=HS.Oo
 have H4:=HS.H.here
 refine Xr e42<|Rq<|Xm Y<|Xm Y<|Xc Y<|Ae e42<|Xf qO Y<|OQ (EC V8 Y) (HS.one (q:=4) (S5 gp gr gb cb sb b hcb hbl) (by decide) (show o+4+4≤_ by omega) (At.cast (hat.trans (At.sub _ 4 4)) Y)) ?_
 rintro _ w5 ⟨us,i1,e1,HS⟩
 replace HS:=HS.Oo
 have H5:=HS.H.here
 refine Xr e42<|Rq<|Xm Y<|Xm Y<|Xc Y<|Ae e42<|Xf vV Y<|OQ (EC V7 Y) (HS.one (q:=8) (OJ gp gr gb cb sb b hcb hbl) (by decide) (show o+8+2≤_ by omega) (At.cast (hat.trans (At.sub _ 8 2)) Y)) ?_
 rintro _ w6 ⟨us,i1,e1,HS⟩
 replace HS:=HS.Oo
 have H6:=HS.H.here
 refine Xr e42<|Rq<|Xm Y<|Xm Y<|Xc Y<|Ae e42<|Xf kB Y<|OQ (EC V6 Y) (HS.one (q:=10) (OB gp gr gb cb sb b hcb hbl) (by decide) (show o+10+4≤_ by omega) (At.cast (hat.trans (At.sub _ 10 4)) Y)) ?_
 rintro _ w7 ⟨us,i1,e1,HS⟩
 replace HS:=HS.Oo
 have H7:=HS.H.here
 refine Xr e42<|zQ 8 [(true,0),(true,1),(true,2),(true,3),(true,4),(true,5),(true,6),(false,7),(false,8)] H7 [0,1,2,3] yF (by decide) (by kernel_rfl) ?_
 rintro w8 hw8
 have H8:=Hp.drew H7;rw[← hw8]at H8
 refine Zm Y Y<|Zm Y Y<|Zc Y Y<|cZ e42<|Zf Y uQ Y<|Zm Y Y<|Zc Y Y<|cZ e42<|Zf Y tN Y<|MO Y<|zJ Oa tQ H8 Y (by decide) Y<|fun w9 g9 H9 hg9=>OE<|⟨fun hne=>H9.pick [0,1,2,3] (by decide),?_⟩
 refine cZ e42<|MO Y<|OQ (EC oF Y) (HS.grp (q:=14) (iJ gp gr gb cb sb b hcb hbl) (by decide) H9 (by decide) (show o+14+2≤_ by omega) (At.cast (hat.trans (At.sub _ 14 2)) Y) Y Y) ?_
 rintro _ w10 ⟨us,i1,e1,HS⟩
 replace HS:=HS.Oo
 have Df:=HS.H.here
 refine OE ?_
 refine⟨fun hne=>absurd Y hne,?_⟩
 refine cZ e42<|ME<|cR e42<|zA<|yO Y<|HS.out
theorem pnote_R :M1 Tryz.prog 65 rM:=TB
theorem US (gp:Nat) (g:Option Nat) (cap:Nat) (sp:List Value) (st:WS) (a:Addr) (x:rM.X) (vs:List Value) (w0:World) (H0:Hp w0 w0 (bl (pw gp g cap sp st)) (pw gp g cap sp st)) (hP:POk 65536 g cap sp st) (hM:rM.M w0 (fun b=>b∉bl (pw gp g cap sp st)) x vs) (hC:Cl w0 (bl (pw gp g cap sp st)) a vs):Aj 71 #[Ah gp,.pointer (some a)] w0 (fun _ w'=>nT gp (xV (rM.fl x) st) w0 (bl (pw gp g cap sp st)) w'):=by
 refine zE Tryz.func71 Tryz.ntmps71 Y<|cR e5<|J2<|Xm Y<|OQ (EC gf65 Y) (pnote_W gp g cap sp st a x vs w0 H0 hP hM hC (fun h=>by cases h)) ?_
 rintro _ w1 hq
 refine Xr e5<|zA<|yO Y<|hq
theorem UT (gp gr:Nat) (gb:Option Nat) (cb:Nat) (sb:List Value) (b:List UInt8) (hcb:b.length≤cb) (hbl:b.length≤65536) (go o i e:Nat) (U:TypeId) (cs:List Value) (w0:World) (H0:Hp w0 w0 (bl (pr gp gr gb cb sb b i e++[(some go,U,cs)])) (pr gp gr gb cb sb b i e++[(some go,U,cs)])) (hi:i≤b.length) (hat:At cs o rM.zs) (hfit:o+rM.sz≤cs.length):Aj 64 #[Ah gp,.pointer (some ⟨go,o,none⟩)] w0 (fun _ w'=>nS (pr gp gr gb cb sb b) rM go o U cs b i e w0.heap.size w0 (bl (pr gp gr gb cb sb b i e++[(some go,U,cs)])) w'):=by
 refine zE Tryz.func64 Tryz.ntmps64 Y<|cR e5<|J2<|Xm Y<|OQ (EC gf65 Y) (pnote_R gp gr gb cb sb b hcb hbl go o i e U cs w0 H0 hi hat hfit) ?_
 rintro _ w1 hq
 refine Xr e5<|zA<|yO Y<|hq
theorem I4 (x:rM.X) (cells:List Value) (w0:World) (hM:rM.M w0 (fun _=>True) x cells):Aj 34 #[.agg cells.toArray] w0 (fun r w'=>KI w0 w' r (xV (rM.fl x) W0)):=by
 refine zE Tryz.func34 Tryz.ntmps34 Y<|cR e8 ?_
 have hlen:cells.length=16:=rM.len hM
 have H:=Hp.refl w0
 refine Rq<|zW Y Y H<|fun w1 g1 H1 hg1=>Xa Y<|Xa Y<|Xr e8<|Rq<|OV (wH Y Y)<|EQ (EC gf70 Y) (DB (rM.fl x) 71 [Ah g1] _ gf71 fun gp w2 HP=>?_) ?_
 have hM1:=rM.to hM H1 (fun _ _=>by simp)
 have hM2:=rM.to hM1 HP (fun _ _=>by simp)
 exact US gp none 0 [] W0 ⟨g1,0,none⟩ x cells w2 HP.here ⟨Ai _,Ai _,fun _=>Y,Am _⟩ (rM.mono hM2 fun _ h=>h.2) ((H1.cl (i:=0) (S':=[]) Y (by simp)).to HP)
 intro w2 g cap sp q1 q2 q3 q4 Hd
 have H2:=H1.call0 Hd
 refine Xe Y Y<|Xe Y Y<|Ae e8<|Xa Y<|Xa Y<|Xr e8<|J5<|Kw Y Y Y<|⟨g,cap,sp,Y,q1,q2,q3,q4,H2.pick [1] (by decide)⟩
theorem TL (AA:Option Addr) (b:List UInt8) (c:Nat) (w0:World) (hr:Rd w0 AA b.length 1 (u8s b)) (hb:b.length≤211106232532900):Aj 31 #[Ac AA b.length c] w0 (fun r w'=>WF rM b w0 w' r):=by
 refine zE Tryz.func31 Tryz.ntmps31 Y<|cR e14 ?_
 have H:=Hp.refl w0
 refine Rq<|OA xT H<|fun w1 g1 H1 hg1=>Xa Y<|Xr e14<|Rq<|OA xT H1<|fun w2 g2 H2 hg2=>Xr e14<|J1<|Rq<|Xm Y<|OV (wH Y Y) ?_
 have HX:=Hp.old (H2.at (i:=1) rfl)
 have hk:=LB rM AA b c g2 81 [Aa 0,Aa 0,Aa 0,Aa 0,Aa 0,Aa 0,Aa 0,Dj,Aa 0,Dj,Aa 0,.string .empty,Aa 0,Aa 0,Aa 0,Aa 0] 64 [Ah g2] _ HX rfl (hr.to0 H2) (fun h0 a ha hq=>by
  simp only[Bc]at hq
  have hlt:=H2.place (i:=1) rfl
  have:=H2.size
  have hc:=Ir _ _ (hr.cells a ha 0 _ (kP h0))
  rw[Iq]at hc
  rcases hlt with h1 | h1
  · simp at h1
  omega) gf64 (fun gp gr gb cb sb w1 hcb hbl HP=>UT gp gr gb cb sb b hcb hbl g2 0 0 0 81 _ w1 HP.here (Am _) (At.self _) (Ai _))
 refine OQ (EC gf63 Y) hk ?_
 rintro _ w3 ⟨rfl,cs2,hl,Hd,hM⟩
 have hsz1:=H2.size
 have hg1:g1 < w2.heap.size:=H2.lt (i:=0) rfl
 have hg2:g2 < w2.heap.size:=H2.lt (i:=1) rfl
 have H3:=(H2.call1 (i:=1) rfl Hd).pick [0,2] (by decide)
 refine Xa Y<|Xr e14<|Rq<|Xm Y<|OT (yR Y Y) (fun hp10=>?_) (fun hp10=>?_)
 have he:Qx rM b≠0:=by omega
 refine Xr e14<|J3 Y<|Rq<|OV (EB xT plw81 Y Y)<|Xm Y<|OS xT H3 0 Y Y Y Y Y (by first|exact NL Y|simp[zG]) Y<|fun w4 H4=>Xa Y<|Xr e14<|J5<|xN Y xT Y Y Y (H4.cells (i:=0) Y)<|⟨_,Y,by rw[PU he];exact rM.zM _ _,H4.pick [] (by decide)⟩
 have he:Qx rM b=0:=by omega
 have hm:=hM he
 have HA:=H3
 replace H3:=HA.here
 refine Xr e14<|J4 Y<|J6<|Rq<|OV (EN xT Y (vs:=cs2) hl (H3.cells (i:=1) Y))<|OS xT H3 0 Y Y Y Y hl (by rw[hl];decide) (rM.ones hm)<|fun w4 H4=>?_
 have hpu:zG [Aa 0,Aa 0,Aa 0,Aa 0,Aa 0,Aa 0,Aa 0,Dj,Aa 0,Dj,Aa 0,.string .empty,Aa 0,Aa 0,Aa 0,Aa 0] 0 cs2=cs2:=GT hl
 rw[hpu]at H4
 refine Xa Y<|Xr e14<|J5<|xN Y xT Y Y hl (H4.cells (i:=0) Y) ?_
 have hm2:=rM.to hm H4 (fun p hp hq=>by simp[bl]at hq;have:=hp.1;rcases hq with hq | hq <;>omega)
 exact⟨cs2,by rw[he];rfl,by rw[(JH he).1];exact rM.mono hm2 (fun p hp=>⟨by have:=hp.1.1;omega,hp.1.2.2.to H4 (by intro hq;simp[bl]at hq;have:=hp.1.1;rcases hq with hq | hq <;>omega)⟩),(HA.all H4).pick [] (by decide)⟩
end Go.Proofs.YtjoeklkmnfaabaaGreat
namespace Go.Proofs.YtjoeklkmnfaabaaGreat
open Go Go.RowKit
set_option linter.unusedVariables false
set_option linter.unusedSimpArgs false
def Gw (sz:Nat) (g:Option Nat) (cap:Nat) (qs:List (List Value)) (sp:List Value):Prop:=cap*sz≤(qs.flatten++sp).length∧qs.length≤cap∧(g=none→cap=0)∧Pl sz qs
theorem Gw.nil (sz:Nat):Gw sz none 0 [] []:=⟨by simp,Ai _,fun _=>rfl,Pl.nil _⟩
section
variable {P:Program} {ds:List Deferred} {Q:vQ} {K:List Value→World→Prop} {all os:List Oper} {l:List Value} {w0 w w':World} {S S':List Nat} {es es':List Ent} {ty t:TypeId} {pos:String} {af:Array Edge} {d:Tmp} {v:Value} {op:Op}
theorem xU {e:TypeId} {x y:Operand} {zs:List Value} {sz bytes:Nat} {agg:Bool} (ht:P.underlying t=some (.slice e)) (he:xQ P e zs sz bytes agg) (hsz:0 < sz) (H:Hp w0 w S es) (i:Nat) {g:Option Nat} {cap:Nat} {qs:List (List Value)} {sp:List Value} (G:Gw sz g cap qs sp)
 (hx:ev l x=some (Ac (hd g) qs.length cap)) (hi:es[i]? =some (g,e,qs.flatten++sp)) {A:Option Addr} {m c:Nat} {rs:List (List Value)} (hm:rs.length=m) (hy:ev l y=some (Ac A m c)) (hr:Rd w A m sz rs.flatten) (hp2:Pl sz rs) (h1:∀ p∈rs,p.all (·.oneCell')=true)
 (hb:(qs.length+m)*bytes≤211106232532992) (h63:qs.length+m≤9223372036854775807) (hb2:bytes≤1048576)
 (k:∀ w' g' cap' sp',Hp w0 w' S (es.set i (g',e,(qs++rs).flatten++sp'))→Gw sz g' cap' (qs++rs) sp'→Ops P ds all K Q os (l.set d (Ac (hd g') (qs++rs).length cap')) w'):
 Ops P ds all K Q (⟨some d,.call { callee:=.builtin .append,args:=#[x,y],argTypes:=#[t,t] },ty,pos,af,none⟩::os) l w:=by
 refine yX ht he hsz H i hx hi G.2.2.2.len G.1 G.2.1 G.2.2.1 hy hr (xF h1) h63 hb hb2 fun w' g' cap' sp' H' h2 h3 h4=>?_
 have:=k w' g' cap' sp' (by rw[Jd];exact H') ⟨by rw[Jd];exact h2,by rw[Af,hm];exact h3,h4,G.2.2.2.app hp2⟩
 rw[Af,hm]at this
 exact this
end
section
variable {α:Type} {f:α→Bool} {ps:List α} {i:Nat} {p:α}
theorem GI (h:ps[i]? =some p) (hf:f p=true):(ps.take (i+1)).filter f=(ps.take i).filter f++[p]:=by
 rw[Jm,h,Ld];simp[hf]
theorem GJ (h:ps[i]? =some p) (hf:f p=false):(ps.take (i+1)).filter f=(ps.take i).filter f:=by
 rw[Jm,h,Ld];simp[hf]
theorem iF :((ps.take i).filter f).length≤i:=Ci (Nh _ _) (by rw[Aw];omega)
end
def B4 (n:Int) (p:List Value):Bool:=match p with
 | .int _ s::_=>decide (s < n)
 | _=>false
section
variable {w:World} {ok:Nat→Prop} {ps:List (List Value)} {l:List Vt} {q:List Value} {v:Vt} {n:Int}
theorem R7 {p:List Value} {x:Vt} (h:Oc w ok p x):B4 n p=decide (x.slot < n):=by obtain⟨_,_,rfl,_⟩:=h;rfl
theorem uP (h2:wT (Oc w ok) ps l):wT (Oc w ok) (ps.filter fun p=>!Ji n p) (vR l n):=by
 unfold vR
 exact h2.filter (f:=fun p=>!Ji n p) (g:=fun x=>decide (n < x.slot)) fun p x h=>by
  rw[IP h]
  by_cases hx:x.slot≤n
  · rw[decide_eq_true hx,decide_eq_false (by omega)];rfl
  rw[decide_eq_false hx,decide_eq_true (by omega)];rfl
theorem bF (h2:wT (Oc w ok) ps l) (hv:Oc w ok q v):wT (Oc w ok) (ps.filter (B4 v.slot)++[q]++ps.filter fun p=>!Ji v.slot p) (Jv l v):=by
 unfold Jv
 rw[Bf]
 exact(h2.filter fun p x h=>R7 h).app ⟨hv,uP h2⟩
theorem MD {ps:List (List Value)} {l:List En} (h2:wT (Qu w ok) ps l):wT (Qu w ok) (ps.filter fun p=>!Ji n p) (l.filter fun x=>decide (n < x.slot)):=
 h2.filter (f:=fun p=>!Ji n p) (g:=fun x=>decide (n < x.slot)) fun p x h=>by
  rw[JZ h]
  by_cases hx:x.slot≤n
  · rw[decide_eq_true hx,decide_eq_false (by omega)];rfl
  rw[decide_eq_false hx,decide_eq_true (by omega)];rfl
end
section
theorem IV :∀ l:List Rt,wT Px (l.map Nz) l
 | []=>trivial
 | _::l=>⟨rfl,IV l⟩
theorem I7 :∀ l:List Mk,wT Pq (l.map Uo) l
 | []=>trivial
 | _::l=>⟨rfl,I7 l⟩
variable {l:List Mk} {c:Int} {m:Mk}
theorem rt_pl (l:List Rt):Pl 4 (l.map Nz):=fun p hp=>by
 obtain⟨x,_,rfl⟩:=Ie.1 hp
 rfl
theorem mk_pl (l:List Mk):Pl 7 (l.map Uo):=fun p hp=>by
 obtain⟨x,_,rfl⟩:=Ie.1 hp
 rfl
theorem SR (l:List Rt):∀ p∈l.map Nz,p.all (·.oneCell')=true:=fun p hp=>by
 obtain⟨x,_,rfl⟩:=Ie.1 hp
 rfl
theorem GS (l:List Rt) (r:Rt):(l.filter (fun x=>Ox x r)).map Nz++[Nz r]++(l.filter (fun x=>Ox r x)).map Nz=(Hg l r).map Nz:=by
 unfold Hg
 rw[Ez,Jz,Bf];rfl
theorem UH {i:Nat} {x:Mk} (hx:l[i]? =some x) (hc:x.client=c) (hno:∀ y∈l.take i,y.client≠c):Fj l c=some x:=by
 obtain⟨hl,he⟩:=Ea.1 hx
 unfold Fj
 rw[List.find?_eq_some_iff_getElem]
 refine⟨by simpa using hc,i,hl,he,fun j hj=>?_⟩
 have:=hno l[j] (by
  have h2:(l.take i)[j]? =some l[j]:=by rw[Hw,if_pos hj];exact Bq (by omega)
  exact Fh h2)
 simpa using this
theorem QK (hno:∀ y∈l.take l.length,y.client≠c):Fj l c=none:=by
 rw[Cc]at hno
 unfold Fj
 rw[List.find?_eq_none]
 intro x hx
 simpa using hno x hx
theorem O9 :∀ {l:List Mk} {n:Int},sC n l→∀ x∈l,n < x.client
 | [],_,_,_,h=>by cases h
 | m::l,n,h,x,hx=>by
  rcases Cm.1 hx with rfl | hx
  · exact h.1
  have:=O9 h.2.2.2.2 x hx
  have:=h.1
  omega
theorem B7 :∀ {l:List Mk} {n c:Int},sC n l→l.filter (fun x=>decide (x.client < c+1))=l.filter (fun x=>decide (x.client < c))++(Fj l c).toList
 | [],_,_,_=>rfl
 | m::l,n,c,h=>by
  have hl:=h.2.2.2.2
  have hgt:=O9 hl
  unfold Fj
  rw[List.find?_cons]
  by_cases h1:m.client < c
  · rw[Gu,Gu,if_pos (by simp;omega),if_pos (by simpa using h1),B7 hl,show decide (m.client=c)=false from decide_eq_false (by omega)]
    rfl
  have hn:l.filter (fun x=>decide (x.client < c))=[]:=tK fun x hx=>decide_eq_false (by have:=hgt x hx;omega)
  by_cases h2:m.client=c
  · have hn2:l.filter (fun x=>decide (x.client < c+1))=[]:=tK fun x hx=>decide_eq_false (by have:=hgt x hx;omega)
    rw[Gu,Gu,if_pos (by simp;omega),if_neg (by simpa using h1),hn,hn2,show decide (m.client=c)=true from decide_eq_true h2]
    rfl
  rw[Gu,Gu,if_neg (by simp;omega),if_neg (by simpa using h1),B7 hl,show decide (m.client=c)=false from decide_eq_false h2]
  rfl
theorem CY (c:Int) (f:Mk→Bool) (hf:∀ x:Mk,x.client=c→f x=true):∀ l:List Mk,Fj (l.filter f) c=Fj l c
 | []=>rfl
 | a::l=>by
  have IH:=CY c f hf l
  unfold Fj at IH ⊢
  rw[Gu,List.find?_cons]
  by_cases hx:a.client=c
  · rw[if_pos (hf a hx),List.find?_cons,show decide (a.client=c)=true from decide_eq_true hx]
  rw[show decide (a.client=c)=false from decide_eq_false hx]
  split
  · rw[List.find?_cons,show decide (a.client=c)=false from decide_eq_false hx];exact IH
  exact IH
theorem aD (c:Int) (f:Mk→Bool) (hf:∀ x:Mk,x.client=c→f x=false) (l:List Mk):Fj (l.filter f) c=none:=by
 unfold Fj
 rw[List.find?_eq_none]
 intro x hx
 have:=(Dy.1 hx).2
 by_cases hc:x.client=c
 · rw[hf x hc]at this;cases this
 simpa using hc
theorem QJ (l:List Mk) (m:Mk) (c:Int):Fj (uN l m) c=if c=m.client then some m else Fj l c:=by
 have h:Fj (uN l m) c=(Fj (l.filter (fun x=>decide (x.client < m.client))) c).or (if m.client=c then some m else Fj (l.filter (fun x=>decide (m.client < x.client))) c):=by
  unfold Fj uN
  rw[List.find?_append,List.find?_cons]
  by_cases hm:m.client=c
  · rw[if_pos hm,show decide (m.client=c)=true from decide_eq_true hm]
  rw[if_neg hm,show decide (m.client=c)=false from decide_eq_false hm]
 rw[h]
 by_cases hc:c=m.client
 · rw[if_pos hc,if_pos hc.symm,aD c _ (fun x hx=>decide_eq_false (by omega))];rfl
 rw[if_neg hc,if_neg fun h=>hc h.symm]
 by_cases hlt:c < m.client
 · rw[CY c _ (fun x hx=>decide_eq_true (by omega)),aD c _ (fun x hx=>decide_eq_false (by omega))]
   cases Fj l c <;>rfl
 rw[aD c _ (fun x hx=>decide_eq_false (by omega)),CY c _ (fun x hx=>decide_eq_true (by omega))];rfl
theorem U6 (h:sC 0 (uN l m)):(uN l m).filter (fun x=>decide (x.client < 9))=uN l m:=
 sG fun x hx=>decide_eq_true (by have:=(uA h).1 x hx;omega)
theorem O5 (h:sC 0 (uN l m)):(uN l m).filter (fun x=>decide (x.client < 1))=[]:=
 tK fun x hx=>decide_eq_false (by have:=(uA h).1 x hx;omega)
end
theorem Sl.take {X:Type} {R:List Value→X→Prop} {sz:Nat} {w:World} {ok:Nat→Prop} {A:Option Addr} {xs:List X} (h:Sl R sz w ok A xs) {i:Nat} (hi:i≤xs.length):Sl R sz w ok A (xs.take i):=by
 obtain⟨ps,hp,hr,ha,h2⟩:=h
 have hl:=h2.len
 refine⟨ps.take i,hp.sub fun x hx=>Fa hx,⟨?_,fun a e j u hu=>?_,fun e=>?_⟩,fun h0 p e=>ha (by rw[Aw]at h0;omega) p e,h2.take i⟩
 · rw[(hp.sub fun x hx=>Fa hx:Pl sz (ps.take i)).len,Aw,Aw,hl]
 · refine hr.cells a e j u ?_
   rw[← hp.Vx i,Hw]at hu
   split at hu
   · exact hu
   cases hu
 have:=hr.nil e
 rw[Aw];omega
def U8 (cs:List Value):Prop:=∀ x A n k z,cs=[x,.slice A n k,z]→n≤k
section
@[reducible] def ntI (g:Int) (s:Sv):Nt:=⟨4,g,⟨0,0⟩,⟨0,⟨0,0⟩,[]⟩,⟨s.index,s.image⟩,⟨0,[],0,0⟩,0,0⟩
@[reducible] def Yj (g:Int) (e:En):Nt:=⟨3,g,⟨0,0⟩,⟨0,⟨0,0⟩,[]⟩,e,⟨0,[],0,0⟩,0,0⟩
@[reducible] def ntP (g:Int) (p:Bal):Nt:=⟨1,g,p,⟨0,⟨0,0⟩,[]⟩,⟨0,[]⟩,⟨0,[],0,0⟩,0,0⟩
@[reducible] def ntV (g:Int) (v:Vt):Nt:=⟨2,g,⟨0,0⟩,v,⟨0,[]⟩,⟨0,[],0,0⟩,0,0⟩
@[reducible] def ntF (r:Rt):Nt:=⟨5,0,⟨0,0⟩,⟨0,⟨0,0⟩,[]⟩,⟨0,[]⟩,r,0,0⟩
def oB (g:Int) (s:Sv):List Nt:=if s.index≠0 then[ntI g s] else[]
def oQ (g:Int) (s:Sv):List Nt:=if ¬(s.p.r=0∧s.p.n=0) then[ntP g s.p] else[]
def Xk (g:Int) (s:Sv):List Nt:=oB g s++s.entries.map (Yj g)++oQ g s++s.Bd.map (ntV g)
def gN (l:List Sv):List Nt:=l.zipIdx.flatMap fun x=>Xk x.2 x.1
def Bo.notes (b:Bo):List Nt:=gN b.groups++b.rights.map ntF
variable {s:Sv} {b:Bo} {g:Int}
theorem gU (l:List Sv) (s:Sv):gN (l++[s])=gN l++Xk l.length s:=by
 unfold gN
 rw[List.zipIdx_append]
 simp
theorem XY (l m:List Sv):∃ R,gN (l++m)=gN l++R:=by
 unfold gN
 rw[List.zipIdx_append,List.flatMap_append]
 exact⟨_,Y⟩
theorem gN_at {l:List Sv} {i:Nat} (h:l[i]? =some s):∃ R,gN l=gN (l.take i)++(Xk i s++R):=by
 have hi:=(Ea.1 h).1
 have h1:=gU (l.take i) s
 rw[← xE h,Aw,Ii (by omega)]at h1
 obtain⟨R,hR⟩:=XY (l.take (i+1)) (l.drop (i+1))
 rw[Eu,h1,Bf]at hR
 exact⟨R,hR⟩
def Ph :List Sv→Nat
 | []=>0
 | s::l=>s.entries.length+Ph l
theorem BM :∀ {l:List Sv} {i:Nat} {s t:Sv},l[i]? =some s→t.entries.length≤s.entries.length+1→Ph (l.set i t)≤Ph l+1
 | [],i,s,t,h,_=>by simp at h
 | a::l,0,s,t,h,ht=>by
  simp only[Jc,Option.some.injEq]at h
  subst h
  simp only[List.set_cons_zero,Ph]
  omega
 | a::l,i+1,s,t,h,ht=>by
  simp only[Jp]at h
  have:=BM h ht
  simp only[List.set_cons_succ,Ph]
  omega
def Bo.cnt (b:Bo):Nat:=Ph b.groups+b.rights.length
theorem PN {b':Bo} {n:Nt} (h:b.into n=some b'):b'.cnt≤b.cnt+1:=by
 unfold Bo.into at h
 split at h
 · split at h
   · simp only[Option.some.injEq]at h
     subst h
     have:=AW b.rights n.right
     show Ph b.groups+(Hg b.rights n.right).length≤Ph b.groups+b.rights.length+1
     omega
   cases h
 split at h
 · cases h
 split at h
 · rename_i s hs
   split at h
   · simp only[Option.some.injEq]at h
     subst h
     have:=BM hs (nO s n).2
     show Ph (b.groups.set n.group.toNat (s.goes n))+b.rights.length≤Ph b.groups+b.rights.length+1
     omega
   cases h
 cases h
theorem DY :∀ {l:List Nt} {b b':Bo},xZ b l=some b'→b'.cnt≤b.cnt+l.length
 | [],b,b',h=>by
  simp only[xZ,Option.some.injEq]at h
  subst h;simp
 | n::l,b,b',h=>by
  unfold xZ at h
  split at h
  · rename_i c hc
    have h1:=PN hc
    have h2:=DY h
    rw[Bg];omega
  cases h
theorem SH (h:aP s):(Xk g s).length≤s.entries.length+18:=by
 have hv:=oC h
 unfold Xk oB oQ
 simp only[Af,Bl]
 split <;>split <;>simp <;>omega
theorem XX :∀ (l:List Sv),(∀ s∈l,chk s=true)→(gN l).length≤Ph l+18*l.length:=by
 have key:∀ (l:List Sv) (k:Nat),(∀ s∈l,chk s=true)→((l.zipIdx k).flatMap fun x=>Xk x.2 x.1).length≤Ph l+18*l.length:=by
  intro l
  induction l with
  | nil=>intro k _;simp[Ph]
  | cons s l ih=>
   intro k h
   have h1:=SH (g:=k) ((tC s).1 (h s Gn))
   have h2:=ih (k+1) fun t ht=>h t (Es _ ht)
   simp only[List.zipIdx_cons,Jo,Af,Bg,Ph]
   omega
 exact fun l=>key l 0
theorem LP {l:List Nt} (hg:rU b l.length) (h:xZ Bo.empty l=some b):b.notes.length≤l.length+144:=by
 have h1:=XX b.groups hg.chk
 have h2:=DY h
 have h3:Bo.empty.cnt=0:=rfl
 have h4:=hg.eight
 unfold Bo.notes
 unfold Bo.cnt at h2 h3
 simp only[Af,Bl]
 omega
theorem JX :∀ {l m:List En} {n:Int},tI n (l++m)=true→tI n l=true
 | [],_,_,_=>rfl
 | e::l,m,n,h=>by
  simp only[Je,tI,Ce]at h ⊢
  exact⟨h.1,JX h.2⟩
theorem IOa {p:Bal} {first:Int}:∀ {l m:List Vt} {n:Int},uE p first n (l++m)=true→uE p first n l=true
 | [],_,_,_=>rfl
 | e::l,m,n,h=>by
  simp only[Je,uE,Ce]at h ⊢
  exact⟨h.1,IOa h.2⟩
theorem B0 {p:Bal} {first:Int}:∀ {l:List Vt} {n:Int},uE p first n l=true→∀ v∈l,n≤v.slot∧¬p.lt v.b
 | [],_,_,v,hv=>by cases hv
 | e::l,n,h,v,hv=>by
  simp only[uE,Ce,decide_eq_true_eq]at h
  rcases Cm.1 hv with rfl | hv
  · exact⟨h.1.1,h.1.2.2.2.2.1⟩
  have:=B0 h.2 v hv
  exact⟨by have:=h.1.1;omega,this.2⟩
def sD :Sv→List Nt→Option Sv
 | s,[]=>some s
 | s,n::l=>if chk (s.goes n) then sD (s.goes n) l else none
theorem jJ :∀ {l m:List Nt} {s t:Sv},sD s l=some t→sD s (l++m)=sD t m
 | [],m,s,t,h=>by
  simp only[sD,Option.some.injEq]at h
  subst h;rfl
 | n::l,m,s,t,h=>by
  rw[sD]at h
  split at h
  · rename_i hc
    rw[Je,sD,if_pos hc]
    exact jJ h
  cases h
theorem bW {g:Int} {ix:Int} {im:Blk}:∀ {m l:List En},aP ⟨⟨0,0⟩,[],ix,im,l++m⟩→sD ⟨⟨0,0⟩,[],ix,im,l⟩ (m.map (Yj g))=some ⟨⟨0,0⟩,[],ix,im,l++m⟩
 | [],l,_=>by simp[sD]
 | e::m,l,h=>by
  have hs:=(qF h.e l.length e (by simp)).1
  have h1:aP ⟨⟨0,0⟩,[],ix,im,(l++[e])++m⟩:=by rw[Bf];exact h
  have h2:(⟨⟨0,0⟩,[],ix,im,l⟩:Sv).goes (Yj g e)=⟨⟨0,0⟩,[],ix,im,l++[e]⟩:=by
   rw[E9 rfl,if_pos (by show e.slot=ix+(l.length:Int)+1;have:e.slot=ix+1+(l.length:Int):=hs;omega)]
   rfl
  have hn:=h.n
  have h3:chk ⟨⟨0,0⟩,[],ix,im,l++[e]⟩=true:=(tC _).2 ⟨h.p,h.i,JX h1.e,by
   simp only[Af,Bg]at hn ⊢
   simp only[Ed]
   omega,rfl⟩
  rw[Jz,sD,h2,if_pos h3,bW h1,Bf]
  rfl
theorem I0 {l:List Vt} {v:Vt} (h:∀ x∈l,x.slot < v.slot):Jv l v=l++[v]:=by
 unfold Jv
 rw[sG fun x hx=>decide_eq_true (h x hx),tK fun x hx=>decide_eq_false (by have:=h x hx;omega)]
theorem bD {b:Bal} (h:¬s.p.lt b):s.raise b=s:=by unfold Sv.raise;rw[if_neg h]
theorem BI {g:Int} {p:Bal} {ix:Int} {im:Blk} {es:List En}:∀ {m l:List Vt},aP ⟨p,l++m,ix,im,es⟩→sD ⟨p,l,ix,im,es⟩ (m.map (ntV g))=some ⟨p,l++m,ix,im,es⟩
 | [],l,_=>by simp[sD]
 | v::m,l,h=>by
  have hv:=B0 h.v v (by simp)
  have hr:=(hU h.v).2
  have h1:aP ⟨p,(l++[v])++m,ix,im,es⟩:=by rw[Bf];exact h
  have hlt:∀ x∈l,x.slot < v.slot:=fun x hx=>by
   obtain⟨i,hi⟩:=Dh hx
   have hil:=(Ea.1 hi).1
   exact hr i l.length x v hil (by show(l++v::m)[i]? =some x;rw[Di hil];exact hi) (by show(l++v::m)[l.length]? =some v;simp)
  have h2:(⟨p,l,ix,im,es⟩:Sv).goes (ntV g v)=⟨p,l++[v],ix,im,es⟩:=by
   rw[FA rfl,if_neg (by show ¬v.slot≤ix+(es.length:Int);have:ix+(es.length:Int)+1≤v.slot:=hv.1;omega)]
   have h4:(⟨p,Jv l v,ix,im,es⟩:Sv).raise v.b=⟨p,Jv l v,ix,im,es⟩:=bD hv.2
   rw[I0 hlt]at h4
   show(⟨p,Jv l v,ix,im,es⟩:Sv).raise v.b=_
   rw[I0 hlt]
   exact h4
  have h3:chk ⟨p,l++[v],ix,im,es⟩=true:=(tC _).2 ⟨h.p,h.i,h.e,h.n,IOa h1.v⟩
  rw[Jz,sD,h2,if_pos h3,BI h1,Bf]
  rfl
theorem L3 (h:aP s):sD Sv.none (Xk g s)=some s:=by
 obtain⟨p,vs,ix,im,es⟩:=s
 have hi:=h.i
 have he:tI ix es=true:=h.e
 have hn:ix+(es.length:Int)+1≤1099511627776:=h.n
 have hE:aP ⟨⟨0,0⟩,[],ix,im,[]++es⟩:=⟨.inl ⟨rfl,rfl⟩,h.i,he,hn,rfl⟩
 have s1:sD Sv.none (oB g ⟨p,vs,ix,im,es⟩)=some ⟨⟨0,0⟩,[],ix,im,[]⟩:=by
  unfold oB
  split
  · rename_i hx
    have hx:ix≠0:=hx
    have h0:0≤ix:=hi.1
    have h2:Sv.none.goes (ntI g ⟨p,vs,ix,im,es⟩)=⟨⟨0,0⟩,[],ix,im,[]⟩:=by
     rw[bX rfl,if_neg (by show ¬ix≤0;omega)]
     rfl
    have h3:chk ⟨⟨0,0⟩,[],ix,im,[]⟩=true:=(tC _).2 ⟨.inl ⟨rfl,rfl⟩,h.i,rfl,by show ix+0+1≤1099511627776;omega,rfl⟩
    rw[sD,h2,if_pos h3];rfl
  rename_i hx
  have hx:ix=0:=by simpa using hx
  have him:im=[]:=Ec (hi.2.2.1 hx)
  subst hx him
  rfl
 have s2:sD ⟨⟨0,0⟩,[],ix,im,[]⟩ (es.map (Yj g))=some ⟨⟨0,0⟩,[],ix,im,es⟩:=bW (g:=g) hE
 have s3:sD ⟨⟨0,0⟩,[],ix,im,es⟩ (oQ g ⟨p,vs,ix,im,es⟩)=some ⟨p,[],ix,im,es⟩:=by
  unfold oQ
  split
  · rename_i hx
    have hx:¬(p.r=0∧p.n=0):=hx
    have hp:1≤p.r∧1≤p.n∧p.n≤5:=h.p.resolve_left hx
    have h2:(⟨⟨0,0⟩,[],ix,im,es⟩:Sv).goes (ntP g p)=⟨p,[],ix,im,es⟩:=by
     rw[JI rfl]
     unfold Sv.raise
     rw[if_pos (by show(0:Int) < p.r∨_;left;omega)]
    have h3:chk ⟨p,[],ix,im,es⟩=true:=(tC _).2 ⟨h.p,h.i,h.e,h.n,rfl⟩
    show sD _ [ntP g p]=_
    rw[sD,h2,if_pos h3];rfl
  rename_i hx
  have hx:p.r=0∧p.n=0:=by
   rcases h.p with h1 | h1
   · exact h1
   exact absurd (show ¬(p.r=0∧p.n=0) from fun h2=>by have:1≤p.r:=h1.1;omega) hx
  obtain⟨r,n⟩:=p
  obtain⟨h1,h2⟩:=hx
  simp only at h1 h2
  subst h1 h2
  rfl
 have s4:=BI (g:=g) (l:=[]) h
 unfold Xk
 rw[Bf,Bf,jJ s1,jJ s2,jJ s3]
 exact s4
theorem pM :∀ {l m:List Nt} {b c:Bo},xZ b l=some c→xZ b (l++m)=xZ c m
 | [],m,b,c,h=>by
  simp only[xZ,Option.some.injEq]at h
  subst h;rfl
 | n::l,m,b,c,h=>by
  rw[xZ]at h
  split at h
  · rename_i d hd
    rw[Je,xZ,hd]
    exact pM h
  cases h
theorem AS :∀ {l:List Nt} {b:Bo} {g:Nat} {s t:Sv},g < 8→b.groups[g]? =some s→(∀ n∈l,n.group=g∧1≤n.kind∧n.kind≤4)→sD s l=some t→xZ b l=some { b with groups:=b.groups.set g t }
 | [],b,g,s,t,hg,hs,_,h=>by
  simp only[sD,Option.some.injEq]at h
  subst h
  obtain⟨hl,he⟩:=Ea.1 hs
  have:b.groups.set g s=b.groups:=by rw[← he];exact List.set_getElem_self hl
  rw[this];rfl
 | n::l,b,g,s,t,hg,hs,hn,h=>by
  unfold sD at h
  split at h
  · rename_i hc
    obtain⟨h1,h2,h3⟩:=hn n Gn
    have hl:=(Ea.1 hs).1
    have h4:b.into n=some { b with groups:=b.groups.set g (s.goes n) }:=by
     have:=nN (b:=b) (n:=n) (s:=s) (by omega) (by rw[h1];omega) (by rw[h1];exact hs) hc
     rw[this,h1];rfl
    unfold xZ
    rw[h4]
    have:=AS (b:={ b with groups:=b.groups.set g (s.goes n) }) (g:=g) (s:=s.goes n) (t:=t) hg (by simp[hl]) (fun x hx=>hn x (Es _ hx)) h
    show xZ { b with groups:=b.groups.set g (s.goes n) } l=_
    rw[this]
    simp
  cases h
theorem IS {g:Nat} :∀ n∈Xk g s,n.group=g∧1≤n.kind∧n.kind≤4:=by
 intro n hn
 unfold Xk oB oQ at hn
 rcases Bj.1 hn with hn | hn
 · rcases Bj.1 hn with hn | hn
   · rcases Bj.1 hn with hn | hn
     · split at hn
       · rw[Bc.1 hn];exact⟨rfl,by show(1:Int)≤4;decide,by show(4:Int)≤4;decide⟩
       cases hn
     obtain⟨e,_,rfl⟩:=Ie.1 hn
     exact⟨Y,by show(1:Int)≤3;decide,by show(3:Int)≤4;decide⟩
   split at hn
   · rw[Bc.1 hn];exact⟨rfl,by show(1:Int)≤1;decide,by show(1:Int)≤4;decide⟩
   cases hn
 obtain⟨e,_,rfl⟩:=Ie.1 hn
 exact⟨Y,by show(1:Int)≤2;decide,by show(2:Int)≤4;decide⟩
theorem dA {L:List Sv} (h8:L.length=8) (hc:∀ s∈L,chk s=true):∀ i,i≤8→xZ Bo.empty (gN (L.take i))=some ⟨L.take i++List.replicate (8 - i) Sv.none,[],[]⟩
 | 0,_=>rfl
 | i+1,hi=>by
  have ih:=dA h8 hc i (by omega)
  obtain⟨s,hs⟩:=yM (l:=L) (j:=i) (by omega)
  have hl:(L.take i).length=i:=by rw[Aw];omega
  rw[xE hs,gU,pM ih,hl,AS (g:=i) (s:=Sv.none) (t:=s) (by omega) ?_ IS (L3 ((tC s).1 (hc s (mem_of hs))))]
  · simp only[Option.some.injEq,Bo.mk.injEq,and_true]
    rw[show 8 - i=(8 - (i+1))+1 by omega,List.replicate_succ,List.set_append_right _ _ (by omega),hl,Le,List.set_cons_zero,Bf]
    rfl
  show(L.take i++List.replicate (8 - i) Sv.none)[i]? =some Sv.none
  rw[Ef (by omega),hl,Le,List.getElem?_replicate,if_pos (by omega)]
theorem IU :∀ {l m:List Rt},qK (l++m)→(∀ x∈l,∀ y∈m,Ox x y=true)∧(∀ y∈m,nK y)
 | [],m,h=>⟨fun x hx=>(by cases hx),(sA h).1⟩
 | r::l,m,h=>by
  obtain⟨h1,h2,h3⟩:=h
  obtain⟨h4,h5⟩:=IU h3
  refine⟨fun x hx y hy=>?_,h5⟩
  rcases Cm.1 hx with rfl | hx
  · exact h2 y (Nl _ hy)
  exact h4 x hx y hy
theorem eY {G:List Sv}:∀ {m l:List Rt},qK (l++m)→xZ ⟨G,l,[]⟩ (m.map ntF)=some ⟨G,l++m,[]⟩
 | [],l,_=>by simp[xZ]
 | r::m,l,h=>by
  obtain⟨h1,h2⟩:=IU h
  have h3:Hg l r=l++[r]:=by
   unfold Hg
   rw[sG fun x hx=>h1 x hx r Gn,tK fun x hx=>?_]
   cases hb:Ox r x with
   | false=>rfl
   | true=>
    have:=nL (h1 x hx r Gn) hb
    rw[Rh]at this;cases this
  have h4:(⟨G,l,[]⟩:Bo).into (ntF r)=some ⟨G,l++[r],[]⟩:=by
   rw[vI rfl (h2 r Gn),qI (.inl (by show(0:Int) < 1;decide))]
   show some (⟨G,Hg l r,[]⟩:Bo)=_
   rw[h3]
  rw[Jz,xZ,h4]
  have:=eY (G:=G) (m:=m) (l:=l++[r]) (by rw[Bf];exact h)
  rw[Bf]at this
  exact this
theorem bM {N:Nat} (h:rU b N):xZ Bo.empty b.notes=some ⟨b.groups,b.rights,[]⟩:=by
 unfold Bo.notes
 have h1:=dA h.eight h.chk 8 (Ai _)
 rw[Ej (by rw[h.eight];exact Ai _)]at h1
 rw[pM h1]
 have h2:=eY (G:=b.groups++List.replicate (8 - 8) Sv.none) (m:=b.rights) (l:=[]) h.rts
 rw[h2]
 simp
end
def Pn (n:Nt):List Fv:=[.int n.kind,.int n.group,.int n.b.r,.int n.b.n,.int n.Eb.slot,.int n.Eb.b.r,.int n.Eb.b.n,.bytes n.Eb.val,.int n.entry.slot,.bytes n.entry.val,.int n.right.g,.text n.right.key,.int n.right.lease,.int n.right.net,.int n.client,.int n.seq]
@[reducible] def i64 (n:Int):Prop:=-9223372036854775808≤n∧n≤9223372036854775807
structure NtB (n:Nt):Prop where
 kind:i64 n.kind
 group:i64 n.group
 br:i64 n.b.r
 bn:i64 n.b.n
 vs:i64 n.Eb.slot
 vr:i64 n.Eb.b.r
 vn:i64 n.Eb.b.n
 es:i64 n.entry.slot
 rg:i64 n.right.g
 rl:i64 n.right.lease
 rn:i64 n.right.net
 cl:i64 n.client
 sq:i64 n.seq
section
variable {w:World} {ok:Nat→Prop} {cs:List Value} {n:Nt}
theorem FP.YK {A:Option Addr} {b:Blk} {k:Nat} (h:Bs w ok A b):FP w ok (.bytes b) (Ac A b.length k):=⟨A,k,rfl,h.1,h.2.1⟩
theorem FP.Mc {x:Int} (h:i64 x):FP w ok (.int x) (Aa x):=⟨rfl,h⟩
theorem W8 (h:NtR w ok cs n) (hb:NtB n):rM.M w ok (Pn n) cs:=by
 obtain⟨A1,k1,A2,k2,rfl,h1,h2⟩:=h
 refine⟨Y,?_⟩
 exact(FPs.one (FP.Mc hb.kind)).app ((FPs.one (FP.Mc hb.group)).app ((FPs.one (FP.Mc hb.br)).app ((FPs.one (FP.Mc hb.bn)).app ((FPs.one (FP.Mc hb.vs)).app ((FPs.one (FP.Mc hb.vr)).app ((FPs.one (FP.Mc hb.vn)).app ((FPs.one (FP.YK h1)).app ((FPs.one (FP.Mc hb.es)).app ((FPs.one (FP.YK h2)).app ((FPs.one (FP.Mc hb.rg)).app ((FPs.one (f:=.text n.right.key) Y).app ((FPs.one (FP.Mc hb.rl)).app ((FPs.one (FP.Mc hb.rn)).app ((FPs.one (FP.Mc hb.cl)).app (FPs.one (FP.Mc hb.sq))))))))))))))))
theorem M_nt (h:rM.M w ok (Pn n) cs) (hv:n.Eb.val.length≤140737488351232) (he:n.entry.val.length≤140737488351232):NtR w ok cs n:=by
 obtain⟨_,h⟩:=h
 have hl:cs.length=16:=h.len
 match cs,hl with
 | [c0,c1,c2,c3,c4,c5,c6,c7,c8,c9,c10,c11,c12,c13,c14,c15],_=>
  have key:∀ (i:Nat) (c:Value) (f:Fv),[c0,c1,c2,c3,c4,c5,c6,c7,c8,c9,c10,c11,c12,c13,c14,c15][i]? =some c→(Pn n)[i]? =some f→FP w ok f c:=fun i c f hc hf=>by
   obtain⟨hi,rfl⟩:=Ea.1 hf
   obtain⟨v,h1,h2⟩:=h.2 i hi
   rw[hc]at h1;cases h1;exact h2
  obtain⟨B1,k1,h7,r1,o1⟩:=key 7 c7 (.bytes n.Eb.val) rfl rfl
  obtain⟨B2,k2,h9,r2,o2⟩:=key 9 c9 (.bytes n.entry.val) rfl rfl
  have h11:c11=yI n.right.key:=key 11 c11 (.text n.right.key) rfl rfl
  refine⟨B1,k1,B2,k2,?_,⟨r1,o1,hv⟩,⟨r2,o2,he⟩⟩
  rw[(key 0 c0 (.int n.kind) rfl rfl).1,(key 1 c1 (.int n.group) rfl rfl).1,(key 2 c2 (.int n.b.r) rfl rfl).1,(key 3 c3 (.int n.b.n) rfl rfl).1,(key 4 c4 (.int n.Eb.slot) rfl rfl).1,(key 5 c5 (.int n.Eb.b.r) rfl rfl).1,(key 6 c6 (.int n.Eb.b.n) rfl rfl).1,h7,
   (key 8 c8 (.int n.entry.slot) rfl rfl).1,h9,(key 10 c10 (.int n.right.g) rfl rfl).1,h11,(key 12 c12 (.int n.right.lease) rfl rfl).1,(key 13 c13 (.int n.right.net) rfl rfl).1,(key 14 c14 (.int n.client) rfl rfl).1,(key 15 c15 (.int n.seq) rfl rfl).1]
end
def xM (n:Nt):Blk:=sZ (xV (Pn n) W0)
def Nc (n:Nt):Nat:=errOf (xV (Pn n) W0)
theorem jF (n:Nt):(xM n).length≤65536:=WZ _
def tM (n:Nt):Prop:=Nc n=0∧(xM n).length≤16384
instance (n:Nt):Decidable (tM n):=inferInstanceAs (Decidable (_∧_))
theorem NT {α:Type} {l:List α} {i:Nat} {x:α} (h:l[i]? =some x):l.set i x=l:=by
 obtain⟨hl,rfl⟩:=Ea.1 h
 exact List.set_getElem_self hl
theorem LW {b:Bo} {n:Nt} {s:Sv} {g:Nat} (hg:g < 8) (hn:n.group=g∧1≤n.kind∧n.kind≤4) (hs:b.groups[g]? =some s) (hc:chk s=true) (h:s.goes n=s):b.into n=some b:=by
 have:=nN (b:=b) (n:=n) (s:=s) (by omega) (by rw[hn.1];omega) (by rw[hn.1];exact hs) (by rw[h];exact hc)
 rw[this,hn.1,h]
 show some { b with groups:=b.groups.set g s }=some b
 rw[NT hs]
theorem MA {l:List Vt} {v:Vt} {i:Nat} (hr:∀ (i j:Nat) (a b:Vt),i < j→l[i]? =some a→l[j]? =some b→a.slot < b.slot) (hi:l[i]? =some v):Jv l v=l:=by
 have hl:=(Ea.1 hi).1
 unfold Jv
 have h1:l.filter (fun x=>decide (x.slot < v.slot))=l.take i:=by
  conv=>lhs;rw[← Eu i l]
  rw[Ld,sG fun x hx=>?_,tK fun x hx=>?_,Dt]
  · obtain⟨k,hk⟩:=Dh hx
    rw[Em]at hk
    refine decide_eq_false fun h2=>?_
    rcases Jr k with h0 | h0
    · subst h0;rw[Ht,hi]at hk;cases hk;omega
    have:=hr i (i+k) v x (by omega) hi hk;omega
  obtain⟨k,hk⟩:=Dh hx
  rw[Hw]at hk
  split at hk
  · exact decide_eq_true (hr k i x v ‹_› hk hi)
  cases hk
 have h2:l.filter (fun x=>decide (v.slot < x.slot))=l.drop (i+1):=by
  conv=>lhs;rw[← Eu (i+1) l]
  rw[Ld,tK fun x hx=>?_,sG fun x hx=>?_,Ih]
  · obtain⟨k,hk⟩:=Dh hx
    rw[Em]at hk
    exact decide_eq_true (hr i (i+1+k) v x (by omega) hi hk)
  obtain⟨k,hk⟩:=Dh hx
  rw[Hw]at hk
  split at hk
  · refine decide_eq_false fun h2=>?_
    rcases Jg k i with h3 | h3
    · have:=hr k i x v h3 hk hi;omega
    obtain rfl:k=i:=by omega
    rw[hi]at hk;cases hk;omega
  cases hk
 rw[h1,h2,← uX hi,Eu]
theorem L2 {g:Int} {s:Sv} (h:aP s):∀ n∈Xk g s,s.goes n=s:=by
 intro n hn
 unfold Xk oB oQ at hn
 rcases Bj.1 hn with hn | hn
 · rcases Bj.1 hn with hn | hn
   · rcases Bj.1 hn with hn | hn
     · split at hn
       · rw[Bc.1 hn,bX rfl,if_pos (Int.le_refl _)]
       cases hn
     obtain⟨e,he,rfl⟩:=Ie.1 hn
     obtain⟨i,hi⟩:=Dh he
     have hs:=(qF h.e i e hi).1
     have hil:=(Ea.1 hi).1
     rw[E9 rfl,if_neg (by show ¬e.slot=s.index+(s.entries.length:Int)+1;omega)]
   split at hn
   · rw[Bc.1 hn,JI rfl]
     exact bD fun h2=>by
      have h3:s.p.lt s.p:=h2
      rcases h3 with h3 | h3 <;>omega
   cases hn
 obtain⟨v,hv,rfl⟩:=Ie.1 hn
 obtain⟨i,hi⟩:=Dh hv
 have hva:=B0 h.v v hv
 rw[FA rfl,if_neg (by show ¬v.slot≤s.index+(s.entries.length:Int);have:=hva.1;omega)]
 have h1:Jv s.Bd v=s.Bd:=MA (hU h.v).2 hi
 show({ s with Bd:=Jv s.Bd v }:Sv).raise v.b=s
 rw[h1]
 exact bD hva.2
theorem GR {l:List Rt} {i:Nat} {r:Rt} (hr:∀ (i j:Nat) (a b:Rt),i < j→l[i]? =some a→l[j]? =some b→Ox a b=true) (hi:l[i]? =some r):Hg l r=l:=by
 have hl:=(Ea.1 hi).1
 have no:∀ {a b:Rt},Ox a b=true→Ox b a=false:=fun {a b} h=>by
  cases hb:Ox b a with
  | false=>rfl
  | true=>have:=nL h hb;rw[Rh]at this;cases this
 unfold Hg
 have h1:l.filter (fun x=>Ox x r)=l.take i:=by
  conv=>lhs;rw[← Eu i l]
  rw[Ld,sG fun x hx=>?_,tK fun x hx=>?_,Dt]
  · obtain⟨k,hk⟩:=Dh hx
    rw[Em]at hk
    rcases Jr k with h0 | h0
    · subst h0;rw[Ht,hi]at hk;cases hk;exact Rh _
    exact no (hr i (i+k) r x (by omega) hi hk)
  obtain⟨k,hk⟩:=Dh hx
  rw[Hw]at hk
  split at hk
  · exact hr k i x r ‹_› hk hi
  cases hk
 have h2:l.filter (fun x=>Ox r x)=l.drop (i+1):=by
  conv=>lhs;rw[← Eu (i+1) l]
  rw[Ld,tK fun x hx=>?_,sG fun x hx=>?_,Ih]
  · obtain⟨k,hk⟩:=Dh hx
    rw[Em]at hk
    exact hr i (i+1+k) r x (by omega) hi hk
  obtain⟨k,hk⟩:=Dh hx
  rw[Hw]at hk
  split at hk
  · rcases Jg k i with h3 | h3
    · exact no (hr k i x r h3 hk hi)
    obtain rfl:k=i:=by omega
    rw[hi]at hk;cases hk;exact Rh _
  cases hk
 rw[h1,h2,← uX hi,Eu]
theorem PE {l:List Sv} {n:Nt} (h:n∈gN l):∃ (g:Nat) (s:Sv),l[g]? =some s∧n∈Xk g s:=by
 unfold gN at h
 obtain⟨⟨s,g⟩,h1,h2⟩:=List.mem_flatMap.1 h
 obtain⟨_,hg,he⟩:=List.mem_zipIdx h1
 refine⟨g,s,?_,h2⟩
 rw[Bq (by omega),he]
 simp
theorem LV {b:Bo} {N:Nat} (hg:rU b N):∀ n∈b.notes,b.into n=some b:=by
 intro n hn
 unfold Bo.notes at hn
 rcases Bj.1 hn with hn | hn
 · obtain⟨g,s,hs,hm⟩:=PE hn
   have hc:=hg.chk s (mem_of hs)
   have h8:=hg.eight
   have hgl:=(Ea.1 hs).1
   exact LW (by omega) (IS n hm) hs hc (L2 ((tC s).1 hc) n hm)
 obtain⟨r,hr,rfl⟩:=Ie.1 hn
 obtain⟨i,hi⟩:=Dh hr
 have hrs:=sA hg.rts
 rw[vI rfl (hrs.1 r hr),qI (.inl (by show(0:Int) < 1;decide))]
 show some { b with rights:=Hg b.rights r }=some b
 rw[GR hrs.2 hi]
theorem AR {b:Bo} {N:Nat} (hg:rU b N):∀ l:List Nt,(∀ n∈l,n∈b.notes)→xZ b l=some b
 | [],_=>rfl
 | n::l,h=>by
  rw[xZ,LV hg n (h n Gn)]
  exact AR hg l fun x hx=>h x (Es _ hx)
end Go.Proofs.YtjoeklkmnfaabaaGreat
namespace Go.Proofs.YtjoeklkmnfaabaaGreat
open Go Go.RowKit
set_option linter.unusedVariables false
set_option linter.unusedSimpArgs false
attribute [local irreducible] yT Ops zO Cd
set_option maxRecDepth 100000
set_option maxHeartbeats 4000000
theorem IA (A:Option Addr) (n c:Nat) (cs:List Value) (w0:World) (hr:Rd w0 A n 4 cs) (ho:cs.all (·.oneCell')=true) (hb:n*48≤211106232532992):Aj 87 #[Ac A n c] w0 (fun r w'=>Rw w0 w' r 77 4 n cs):=by
 refine zE Tryz.func87 Tryz.ntmps87 Y<|cR e8 ?_
 have H:=Hp.refl w0
 refine Rq<|Xa Y<|Xr e8<|J1<|Rq<|Xm Y<|OT (vA Jj Y) (fun hp4=>?_) (fun hp4=>?_)
 refine Xr e8<|J3 Y<|Rq<|Xa Y<|Xr e8<|J5<|Cj Y Y ?_
 have hn0:n=0:=hr.nil hp4
 subst hn0
 have hb:cs=[]:=Ec (by rw[hr.len,Jq])
 subst hb
 exact⟨none,0,[],Y,Ai _,by simp,fun _=>Y,by have:=H.nil 77;exact this⟩
 refine Xr e8<|J4 Y<|J6<|Rq<|zJ Jj xC H Y (by decide) Y<|fun w1 g1 H1 hg1=>Xm Y<|yX Jj xC (by decide) H1 0 (g:=some g1) (xs:=[]) (sp:=[]) Y Y Y (by decide) (by decide) (by simp) Y (hr.to0 H1) ho (by omega) (by omega) (by decide)<|fun w2 g3 cap3 sp3 H2 hcap3 hmc3 hg3=>Xa Y<|Xr e8<|J5<|Cj Y Y ?_
 rw[Au]at hmc3
 refine⟨g3,cap3,sp3,?_,hmc3,hcap3,hg3,H2.pick [0] (by decide)⟩
 rw[Au]
theorem C7 (A:Option Addr) (n c:Nat) (cs:List Value) (w0:World) (hr:Rd w0 A n 2 cs) (ho:cs.all (·.oneCell')=true) (hb:n*32≤211106232532992):Aj 88 #[Ac A n c] w0 (fun r w'=>Rw w0 w' r 79 2 n cs):=by
 refine zE Tryz.func88 Tryz.ntmps88 Y<|cR e8 ?_
 have H:=Hp.refl w0
 refine Rq<|Xa Y<|Xr e8<|J1<|Rq<|Xm Y<|OT (vA Na Y) (fun hp4=>?_) (fun hp4=>?_)
 refine Xr e8<|J3 Y<|Rq<|Xa Y<|Xr e8<|J5<|Cj Y Y ?_
 have hn0:n=0:=hr.nil hp4
 subst hn0
 have hb:cs=[]:=Ec (by rw[hr.len,Jq])
 subst hb
 exact⟨none,0,[],Y,Ai _,by simp,fun _=>Y,by have:=H.nil 79;exact this⟩
 refine Xr e8<|J4 Y<|J6<|Rq<|zJ Na wJ H Y (by decide) Y<|fun w1 g1 H1 hg1=>Xm Y<|yX Na wJ (by decide) H1 0 (g:=some g1) (xs:=[]) (sp:=[]) Y Y Y (by decide) (by decide) (by simp) Y (hr.to0 H1) ho (by omega) (by omega) (by decide)<|fun w2 g3 cap3 sp3 H2 hcap3 hmc3 hg3=>Xa Y<|Xr e8<|J5<|Cj Y Y ?_
 rw[Au]at hmc3
 refine⟨g3,cap3,sp3,?_,hmc3,hcap3,hg3,H2.pick [0] (by decide)⟩
 rw[Au]
theorem IB (A:Option Addr) (n c:Nat) (cs:List Value) (w0:World) (hr:Rd w0 A n 4 cs) (ho:cs.all (·.oneCell')=true) (hb:n*40≤211106232532992):Aj 38 #[Ac A n c] w0 (fun r w'=>Rw w0 w' r 35 4 n cs):=by
 refine zE Tryz.func38 Tryz.ntmps38 Y<|cR e8 ?_
 have H:=Hp.refl w0
 refine Rq<|Xa Y<|Xr e8<|J1<|Rq<|Xm Y<|OT (vA Kv Y) (fun hp4=>?_) (fun hp4=>?_)
 refine Xr e8<|J3 Y<|Rq<|Xa Y<|Xr e8<|J5<|Cj Y Y ?_
 have hn0:n=0:=hr.nil hp4
 subst hn0
 have hb:cs=[]:=Ec (by rw[hr.len,Jq])
 subst hb
 exact⟨none,0,[],Y,Ai _,by simp,fun _=>Y,by have:=H.nil 35;exact this⟩
 refine Xr e8<|J4 Y<|J6<|Rq<|zJ Kv xR H Y (by decide) Y<|fun w1 g1 H1 hg1=>Xm Y<|yX Kv xR (by decide) H1 0 (g:=some g1) (xs:=[]) (sp:=[]) Y Y Y (by decide) (by decide) (by simp) Y (hr.to0 H1) ho (by omega) (by omega) (by decide)<|fun w2 g3 cap3 sp3 H2 hcap3 hmc3 hg3=>Xa Y<|Xr e8<|J5<|Cj Y Y ?_
 rw[Au]at hmc3
 refine⟨g3,cap3,sp3,?_,hmc3,hcap3,hg3,H2.pick [0] (by decide)⟩
 rw[Au]
theorem IC (A:Option Addr) (n c:Nat) (cs:List Value) (w0:World) (hr:Rd w0 A n 7 cs) (ho:cs.all (·.oneCell')=true) (hb:n*56≤211106232532992):Aj 89 #[Ac A n c] w0 (fun r w'=>Rw w0 w' r 110 7 n cs):=by
 refine zE Tryz.func89 Tryz.ntmps89 Y<|cR e8 ?_
 have H:=Hp.refl w0
 refine Rq<|Xa Y<|Xr e8<|J1<|Rq<|Xm Y<|OT (vA La Y) (fun hp4=>?_) (fun hp4=>?_)
 refine Xr e8<|J3 Y<|Rq<|Xa Y<|Xr e8<|J5<|Cj Y Y ?_
 have hn0:n=0:=hr.nil hp4
 subst hn0
 have hb:cs=[]:=Ec (by rw[hr.len,Jq])
 subst hb
 exact⟨none,0,[],Y,Ai _,by simp,fun _=>Y,by have:=H.nil 110;exact this⟩
 refine Xr e8<|J4 Y<|J6<|Rq<|zJ La yQ H Y (by decide) Y<|fun w1 g1 H1 hg1=>Xm Y<|yX La yQ (by decide) H1 0 (g:=some g1) (xs:=[]) (sp:=[]) Y Y Y (by decide) (by decide) (by simp) Y (hr.to0 H1) ho (by omega) (by omega) (by decide)<|fun w2 g3 cap3 sp3 H2 hcap3 hmc3 hg3=>Xa Y<|Xr e8<|J5<|Cj Y Y ?_
 rw[Au]at hmc3
 refine⟨g3,cap3,sp3,?_,hmc3,hcap3,hg3,H2.pick [0] (by decide)⟩
 rw[Au]
theorem Q9 (A:Option Addr) (n c:Nat) (cs:List Value) (w0:World) (hr:Rd w0 A n 6 cs) (ho:cs.all (·.oneCell')=true) (hb:n*96≤211106232532992):Aj 69 #[Ac A n c] w0 (fun r w'=>Rw w0 w' r 97 6 n cs):=by
 refine zE Tryz.func69 Tryz.ntmps69 Y<|cR e8 ?_
 have H:=Hp.refl w0
 refine Rq<|Xa Y<|Xr e8<|J1<|Rq<|Xm Y<|OT (vA Ub Y) (fun hp4=>?_) (fun hp4=>?_)
 refine Xr e8<|J3 Y<|Rq<|Xa Y<|Xr e8<|J5<|Cj Y Y ?_
 have hn0:n=0:=hr.nil hp4
 subst hn0
 have hb:cs=[]:=Ec (by rw[hr.len,Jq])
 subst hb
 exact⟨none,0,[],Y,Ai _,by simp,fun _=>Y,by have:=H.nil 97;exact this⟩
 refine Xr e8<|J4 Y<|J6<|Rq<|zJ Ub xY H Y (by decide) Y<|fun w1 g1 H1 hg1=>Xm Y<|yX Ub xY (by decide) H1 0 (g:=some g1) (xs:=[]) (sp:=[]) Y Y Y (by decide) (by decide) (by simp) Y (hr.to0 H1) ho (by omega) (by omega) (by decide)<|fun w2 g3 cap3 sp3 H2 hcap3 hmc3 hg3=>Xa Y<|Xr e8<|J5<|Cj Y Y ?_
 rw[Au]at hmc3
 refine⟨g3,cap3,sp3,?_,hmc3,hcap3,hg3,H2.pick [0] (by decide)⟩
 rw[Au]
theorem XH (A:Option Addr) (c:Nat) (ps:List (List Value)) (n k gc:Nat) (hn:ps.length=n) (pr:List Value→Bool) (w0:World) (hp:Pl 4 ps) (hr:Rd w0 A ps.length 4 ps.flatten) (hl:ps.length≤4611686018427387904) (hk:Prd Tryz.prog k gc pr ps w0):Aj 213 #[Ac A n c,.func (.func k) #[] #[Ah gc]] w0 (fun r w'=>∃ y:Int,r=Aa y∧YG ps pr y∧Hp w0 w' [] []):=by
 refine zE Tryz.func213 Tryz.ntmps213 Y<|cR e19 ?_
 subst hn
 have H:=Hp.refl w0
 refine Rq<|Xa Y<|Xr e19<|J1<|Rq<|Xm Y<|OV (ES Jj Y)<|Xm Y<|Xr e19<|J7<|zU (fun nQ lQ w=>∃ (jj:Nat) (y:Int),ps.length - jj=nQ∧xO (Ik [(0,Ac A ps.length c),(1,.func (.func k) #[] #[Ah gc]),(7,Aa (ps.length:Int)),(8,Aa y)] 0 19) lQ∧y=(jj:Int)∧jj≤ps.length∧(∀ q∈ps.take jj,pr q=false)∧Hp w0 w [] []) (ps.length) ?_ ?_
 exact⟨0,_,Y,(Ja Y Y Y Y Y),Y,Am _,fun q hq=>by simp at hq,H⟩
 rintro nQ lQ w1 ⟨jj,y,rfl,hfit,rfl,hj,hno,H1⟩
 obtain⟨j,rfl⟩:=hfit.open
 refine cR e19 ?_
 clear hfit
 refine Rq<|OT (zR Y Y) (fun hp9=>?_) (fun hp9=>?_)
 have hjl:jj < ps.length:=by omega
 obtain⟨p1,hp1⟩:=yM hjl
 obtain⟨a1,ha1⟩:=hr.some_ (by omega)
 subst ha1
 refine Xr e19<|J1<|J3 Y<|J6<|J1<|J7<|Rq<|Xm Y<|Xa Y<|Xr e19<|Rq<|Xm Y<|Xm Y<|Xm Y<|OV (EI Jj xC Y Y Y hjl Y)<|Ae e19<|OV (EN xC Y (vs:=p1) (hp.at hp1) ((hr.to0 H1).elem hp hp1))<|OC (xD hk.1 Y Y) (hk.2.2 w1 (H1.frame gc hk.2.1 (by simp)) p1 (mem_of hp1))<|fun w2 Hd=>have H2:=H1.Ap Hd;Xr e19<|wP Y (fun hb16=>?_) (fun hb16=>?_)
 refine Rq<|Xm Y<|Xa Y<|Xr e19<|J5<|BR<|yN<|BR<|Cj Y Y<|⟨_,Y,.inr ⟨jj,p1,Y,hp1,hb16,hno⟩,H2.Ag⟩
 refine J6<|zA (zD ?_)
 refine J2<|OV (zL Y Y (Ad _ (by omega)))<|Xm Y<|Xr e19<|zA (zH ?_)
 exact⟨ps.length - (jj+1),by omega,jj+1,_,Y,(Ja Y Y Y Y Y),by omega,by omega,oM hno hp1 hb16,H2⟩
 obtain rfl:jj=ps.length:=by omega
 refine Xr e19<|J1<|J4 Y<|J8<|zT<|zS<|Rq<|Xa Y<|Xr e19<|J5<|Cj Y Y<|⟨_,Y,.inl ⟨Y,by rw[Cc]at hno;exact hno⟩,H1.Ag⟩
theorem UP (g:Option Nat) (cap n:Nat) (ps:List (List Value)) (hn:ps.length=n) (sp:List Value) (k gc:Nat) (pr:List Value→Bool) (w0:World) (H0:Hp w0 w0 (bl [((g,77,ps.flatten++sp):Ent)]) [((g,77,ps.flatten++sp):Ent)]) (hp:Pl 4 ps) (ho:∀ p∈ps,p.all (·.oneCell')=true) (hl:ps.length≤cap) (hl2:ps.length≤4611686018427387903) (hcz:cap*4≤(ps.flatten++sp).length) (hk:Prd Tryz.prog k gc pr ps w0) (hgc:gc∉bl [((g,77,ps.flatten++sp):Ent)]):Aj 194 #[Ac (hd g) n cap,.func (.func k) #[] #[Ah gc]] w0 (fun r w'=>∃ sp',r=Ac (hd g) (ps.filter fun p=>!pr p).length cap∧((ps.filter fun p=>!pr p).flatten++sp').length=(ps.flatten++sp).length∧Hp w0 w' (bl [((g,77,ps.flatten++sp):Ent)]) [((g,77,(ps.filter fun p=>!pr p).flatten++sp'):Ent)]):=by
 refine zE Tryz.func194 Tryz.ntmps194 Y<|cR e42 ?_
 subst hn
 have H:=H0
 refine Rq<|Xa Y<|Xr e42<|Rq<|Xm Y<|Xm Y<|OQ (EC gf213 Y) (XH (hd g) cap ps _ k gc Y pr _ hp (H.rd (i:=0) Y hp.len (by decide)) (by omega) hk) ?_
 rintro r w1 ⟨y,rfl,hix,Hd⟩
 have H1:=H.Ap Hd
 refine Xa Y<|Xr e42<|J1<|Rq<|Xm Y<|OT (yU Y Y) (fun Np=>?_) (fun Np=>?_)
 have hnone:∀ p∈ps,pr p=false:=by
  rcases hix with ⟨_,h⟩ | ⟨jj,p,h,_⟩
  · exact h
  omega
 refine Xr e42<|J3 Y<|Rq<|Xm Y<|Xa Y<|Xr e42<|J5<|Cj Y Y<|⟨sp,by rw[vX hnone],by rw[vX hnone],by rw[vX hnone];exact H1⟩
 obtain⟨j0,p0,rfl,hj0,ht0,hn0⟩:∃ (jj:Nat) (p:List Value),y=(jj:Int)∧ps[jj]? =some p∧pr p=true∧∀ q∈ps.take jj,pr q=false:=by
  rcases hix with ⟨h,_⟩ | h
  · omega
  exact h
 have hj0l:=lt_of_get hj0
 obtain⟨gx,rfl⟩:=vO H1 (i:=0) rfl (by rw[Af,hp.len];have:0 < ps.length*4:=Nat.mul_pos (by omega) (by decide);omega)
 clear hix
 refine Xr e42<|J4 Y<|J6<|J1<|Rq<|Xm Y<|OV (zL Y Y (Ad _ (by omega)))<|Xa Y<|Xr e42<|J7<|zU (fun nQ lQ w=>∃ (i jj:Nat) (y z:Int) (qs:List (List Value)),ps.length - jj=nQ∧xO (Ik [(0,Ac (hd (some gx)) ps.length cap),(1,.func (.func k) #[] #[Ah gc]),(5,Aa y),(6,Aa z)] 0 42) lQ∧y=(i:Int)∧z=(jj:Int)∧Del ps qs pr i jj 4∧Hp w0 w (bl [((some gx,77,ps.flatten++sp):Ent)]) [((some gx,77,qs.flatten++sp):Ent)]) (ps.length - (j0+1)) ?_ ?_
 exact⟨j0,j0+1,_,_,ps,Y,(Ja Y Y Y Y Y),Y,by omega,Del.start hp hj0 ht0 hn0,H1⟩
 rintro nQ lQ w2 ⟨i,jj,y,z,qs,rfl,hfit,rfl,rfl,hdel,H2⟩
 obtain⟨j,rfl⟩:=hfit.open
 refine cR e42 ?_
 clear hfit
 have hdl:=hdel.lt
 have hde:=hdel.le
 have Wh:=hdel.len
 refine J1<|Rq<|Xm Y<|Xm Y<|OV (ES Jj Y)<|OT (zR Y Y) (fun hp19=>?_) (fun hp19=>?_)
 have hjl:jj < ps.length:=by omega
 obtain⟨p1,hp1⟩:=yM hjl
 have hq1:qs[jj]? =some p1:=hdel.at.trans hp1
 refine Xr e42<|J3 Y<|J6<|J1<|J7<|Rq<|Xm Y<|Xm Y<|OV (EI Jj xC Y Y Y hjl Y)<|OV (EN xC Y (vs:=p1) (hp.at hp1) (H2.elem (k:=0) Y hdel.pl hq1))<|Ae e42<|OA xC H2<|fun w3 g3 H3 hg3=>OS xC H3 1 Y Y Y Y (hp.at hp1) (by rw[hp.at hp1];decide) (ho p1 (mem_of hp1))<|fun w4 H4=>?_
 rw[qB (by rw[hp.at hp1];rfl)]at H4
 refine Xr e42<|Rq<|Xm Y<|OV (EN xC Y (vs:=p1) (hp.at hp1) (H4.Ak (i:=1) Y (by rw[Ei,Cc])))<|OC (xD hk.1 Y Y) (hk.2.2 w4 (H4.frame gc hk.2.1 hgc) p1 (mem_of hp1))<|fun w5 Hd=>have H5:=H4.Ap Hd;Xn Y<|Xr e42<|wP Y (fun Vk=>?_) (fun Vk=>?_)
 refine Rq<|Xm Y<|Xm Y<|OV (EN xC Y (vs:=p1) (hp.at hp1) (H5.Ak (i:=1) Y (by rw[Ei,Cc])))<|OV (uS Jj xC Y Y Y (by omega))<|Ae e42<|OS xC H5 0 Y Y Y Y (hp.at hp1) (by rw[hp.at hp1,Af,hdel.pl.len,Au];have:(i+1)*4≤qs.length*4:=Dp _ (by omega);omega) (ho p1 (mem_of hp1))<|fun w6 H6=>?_
 rw[Au,mA (by rw[hp.at hp1,hdel.pl.len];have:(i+1)*4≤qs.length*4:=Dp _ (by omega);omega),hdel.pl.set_ (by omega) (hp.at hp1)]at H6
 refine Xr e42<|J2<|Xm Y<|OV (zL Y Y (Ad _ (by omega)))<|Xa Y<|Xr e42<|zA (zD ?_)
 refine J2<|Xm Y<|OV (zL Y Y (Ad _ (by omega)))<|Xa Y<|Xr e42<|zA (zH ?_)
 exact⟨ps.length - (jj+1),by omega,i+1,jj+1,_,_,qs.set i p1,Y,(Ja Y Y Y Y Y),by omega,by omega,hdel.keep hp1 (by simpa using Vk) (hp.at hp1),H6.pick [0] (by decide)⟩
 refine J6<|zA (zD ?_)
 refine J2<|Xm Y<|OV (zL Y Y (Ad _ (by omega)))<|Xa Y<|Xr e42<|zA (zH ?_)
 exact⟨ps.length - (jj+1),by omega,i,jj+1,_,_,qs,Y,(Ja Y Y Y Y Y),Y,by omega,hdel.skip hp1 (by simpa using Vk),H5.pick [0] (by decide)⟩
 obtain rfl:jj=ps.length:=by omega
 refine Xr e42<|J4 Y<|J8<|zT<|zS<|Rq<|Xm Y<|Xm Y ?_
 have hdn:=hdel.done
 refine OV (tU Jj xC Y Y Y (by omega) (by omega)) ?_
 rw[Ip]
 have hfit:0+i*4+(ps.length - i)*4≤(qs.flatten++sp).length:=by
  rw[Af,hdel.pl.len,Wh,Au,← Du,show i+(ps.length - i)=ps.length by omega];omega
 refine eF Jj xC H2 0 Y Y hfit Y<|fun w3 H3=>Xr e42<|Rq<|Xm Y<|Xm Y<|OV (fA Jj xC Y Y Y (by omega))<|Xa Y<|Xr e42<|J5<|Cj Y Y ?_
 have hpl:=vK (cs:=qs.flatten++sp) (vs:=initL [Aa 0,Aa 0,Aa 0,Dj] (ps.length - i)) (o:=0+i*4) (by rw[wR];exact hfit)
 rw[hdel.cells rfl]at hpl
 have HZ:=H3
 change Hp _ _ _ [((some gx,77,zG (qs.flatten++sp) (0+i*4) _):Ent)]at HZ
 rw[hdel.cells rfl]at HZ
 refine⟨_,by rw[hdn.2],?_,HZ⟩
 rw[hpl,Af,Af,hdel.pl.len,hp.len,Wh]
theorem XJ (A:Option Addr) (c:Nat) (ps:List (List Value)) (n k gc:Nat) (hn:ps.length=n) (pr:List Value→Bool) (w0:World) (hp:Pl 2 ps) (hr:Rd w0 A ps.length 2 ps.flatten) (hl:ps.length≤4611686018427387904) (hk:Prd Tryz.prog k gc pr ps w0):Aj 196 #[Ac A n c,.func (.func k) #[] #[Ah gc]] w0 (fun r w'=>∃ y:Int,r=Aa y∧YG ps pr y∧Hp w0 w' [] []):=by
 refine zE Tryz.func196 Tryz.ntmps196 Y<|cR e19 ?_
 subst hn
 have H:=Hp.refl w0
 refine Rq<|Xa Y<|Xr e19<|J1<|Rq<|Xm Y<|OV (ES Na Y)<|Xm Y<|Xr e19<|J7<|zU (fun nQ lQ w=>∃ (jj:Nat) (y:Int),ps.length - jj=nQ∧xO (Ik [(0,Ac A ps.length c),(1,.func (.func k) #[] #[Ah gc]),(7,Aa (ps.length:Int)),(8,Aa y)] 0 19) lQ∧y=(jj:Int)∧jj≤ps.length∧(∀ q∈ps.take jj,pr q=false)∧Hp w0 w [] []) (ps.length) ?_ ?_
 exact⟨0,_,Y,(Ja Y Y Y Y Y),Y,Am _,fun q hq=>by simp at hq,H⟩
 rintro nQ lQ w1 ⟨jj,y,rfl,hfit,rfl,hj,hno,H1⟩
 obtain⟨j,rfl⟩:=hfit.open
 refine cR e19 ?_
 clear hfit
 refine Rq<|OT (zR Y Y) (fun hp9=>?_) (fun hp9=>?_)
 have hjl:jj < ps.length:=by omega
 obtain⟨p1,hp1⟩:=yM hjl
 obtain⟨a1,ha1⟩:=hr.some_ (by omega)
 subst ha1
 refine Xr e19<|J1<|J3 Y<|J6<|J1<|J7<|Rq<|Xm Y<|Xa Y<|Xr e19<|Rq<|Xm Y<|Xm Y<|Xm Y<|OV (EI Na wJ Y Y Y hjl Y)<|Ae e19<|OV (EN wJ Y (vs:=p1) (hp.at hp1) ((hr.to0 H1).elem hp hp1))<|OC (xD hk.1 Y Y) (hk.2.2 w1 (H1.frame gc hk.2.1 (by simp)) p1 (mem_of hp1))<|fun w2 Hd=>have H2:=H1.Ap Hd;Xr e19<|wP Y (fun hb16=>?_) (fun hb16=>?_)
 refine Rq<|Xm Y<|Xa Y<|Xr e19<|J5<|BR<|yN<|BR<|Cj Y Y<|⟨_,Y,.inr ⟨jj,p1,Y,hp1,hb16,hno⟩,H2.Ag⟩
 refine J6<|zA (zD ?_)
 refine J2<|OV (zL Y Y (Ad _ (by omega)))<|Xm Y<|Xr e19<|zA (zH ?_)
 exact⟨ps.length - (jj+1),by omega,jj+1,_,Y,(Ja Y Y Y Y Y),by omega,by omega,oM hno hp1 hb16,H2⟩
 obtain rfl:jj=ps.length:=by omega
 refine Xr e19<|J1<|J4 Y<|J8<|zT<|zS<|Rq<|Xa Y<|Xr e19<|J5<|Cj Y Y<|⟨_,Y,.inl ⟨Y,by rw[Cc]at hno;exact hno⟩,H1.Ag⟩
theorem UQ (g:Option Nat) (cap n:Nat) (ps:List (List Value)) (hn:ps.length=n) (sp:List Value) (k gc:Nat) (pr:List Value→Bool) (w0:World) (H0:Hp w0 w0 (bl [((g,79,ps.flatten++sp):Ent)]) [((g,79,ps.flatten++sp):Ent)]) (hp:Pl 2 ps) (ho:∀ p∈ps,p.all (·.oneCell')=true) (hl:ps.length≤cap) (hl2:ps.length≤4611686018427387903) (hcz:cap*2≤(ps.flatten++sp).length) (hk:Prd Tryz.prog k gc pr ps w0) (hgc:gc∉bl [((g,79,ps.flatten++sp):Ent)]):Aj 168 #[Ac (hd g) n cap,.func (.func k) #[] #[Ah gc]] w0 (fun r w'=>∃ sp',r=Ac (hd g) (ps.filter fun p=>!pr p).length cap∧((ps.filter fun p=>!pr p).flatten++sp').length=(ps.flatten++sp).length∧Hp w0 w' (bl [((g,79,ps.flatten++sp):Ent)]) [((g,79,(ps.filter fun p=>!pr p).flatten++sp'):Ent)]):=by
 refine zE Tryz.func168 Tryz.ntmps168 Y<|cR e42 ?_
 subst hn
 have H:=H0
 refine Rq<|Xa Y<|Xr e42<|Rq<|Xm Y<|Xm Y<|OQ (EC gf196 Y) (XJ (hd g) cap ps _ k gc Y pr _ hp (H.rd (i:=0) Y hp.len (by decide)) (by omega) hk) ?_
 rintro r w1 ⟨y,rfl,hix,Hd⟩
 have H1:=H.Ap Hd
 refine Xa Y<|Xr e42<|J1<|Rq<|Xm Y<|OT (yU Y Y) (fun Np=>?_) (fun Np=>?_)
 have hnone:∀ p∈ps,pr p=false:=by
  rcases hix with ⟨_,h⟩ | ⟨jj,p,h,_⟩
  · exact h
  omega
 refine Xr e42<|J3 Y<|Rq<|Xm Y<|Xa Y<|Xr e42<|J5<|Cj Y Y<|⟨sp,by rw[vX hnone],by rw[vX hnone],by rw[vX hnone];exact H1⟩
 obtain⟨j0,p0,rfl,hj0,ht0,hn0⟩:∃ (jj:Nat) (p:List Value),y=(jj:Int)∧ps[jj]? =some p∧pr p=true∧∀ q∈ps.take jj,pr q=false:=by
  rcases hix with ⟨h,_⟩ | h
  · omega
  exact h
 have hj0l:=lt_of_get hj0
 obtain⟨gx,rfl⟩:=vO H1 (i:=0) rfl (by rw[Af,hp.len];have:0 < ps.length*2:=Nat.mul_pos (by omega) (by decide);omega)
 clear hix
 refine Xr e42<|J4 Y<|J6<|J1<|Rq<|Xm Y<|OV (zL Y Y (Ad _ (by omega)))<|Xa Y<|Xr e42<|J7<|zU (fun nQ lQ w=>∃ (i jj:Nat) (y z:Int) (qs:List (List Value)),ps.length - jj=nQ∧xO (Ik [(0,Ac (hd (some gx)) ps.length cap),(1,.func (.func k) #[] #[Ah gc]),(5,Aa y),(6,Aa z)] 0 42) lQ∧y=(i:Int)∧z=(jj:Int)∧Del ps qs pr i jj 2∧Hp w0 w (bl [((some gx,79,ps.flatten++sp):Ent)]) [((some gx,79,qs.flatten++sp):Ent)]) (ps.length - (j0+1)) ?_ ?_
 exact⟨j0,j0+1,_,_,ps,Y,(Ja Y Y Y Y Y),Y,by omega,Del.start hp hj0 ht0 hn0,H1⟩
 rintro nQ lQ w2 ⟨i,jj,y,z,qs,rfl,hfit,rfl,rfl,hdel,H2⟩
 obtain⟨j,rfl⟩:=hfit.open
 refine cR e42 ?_
 clear hfit
 have hdl:=hdel.lt
 have hde:=hdel.le
 have Wh:=hdel.len
 refine J1<|Rq<|Xm Y<|Xm Y<|OV (ES Na Y)<|OT (zR Y Y) (fun hp19=>?_) (fun hp19=>?_)
 have hjl:jj < ps.length:=by omega
 obtain⟨p1,hp1⟩:=yM hjl
 have hq1:qs[jj]? =some p1:=hdel.at.trans hp1
 refine Xr e42<|J3 Y<|J6<|J1<|J7<|Rq<|Xm Y<|Xm Y<|OV (EI Na wJ Y Y Y hjl Y)<|OV (EN wJ Y (vs:=p1) (hp.at hp1) (H2.elem (k:=0) Y hdel.pl hq1))<|Ae e42<|OA wJ H2<|fun w3 g3 H3 hg3=>OS wJ H3 1 Y Y Y Y (hp.at hp1) (by rw[hp.at hp1];decide) (ho p1 (mem_of hp1))<|fun w4 H4=>?_
 rw[qB (by rw[hp.at hp1];rfl)]at H4
 refine Xr e42<|Rq<|Xm Y<|OV (EN wJ Y (vs:=p1) (hp.at hp1) (H4.Ak (i:=1) Y (by rw[Ei,Cc])))<|OC (xD hk.1 Y Y) (hk.2.2 w4 (H4.frame gc hk.2.1 hgc) p1 (mem_of hp1))<|fun w5 Hd=>have H5:=H4.Ap Hd;Xn Y<|Xr e42<|wP Y (fun Vk=>?_) (fun Vk=>?_)
 refine Rq<|Xm Y<|Xm Y<|OV (EN wJ Y (vs:=p1) (hp.at hp1) (H5.Ak (i:=1) Y (by rw[Ei,Cc])))<|OV (uS Na wJ Y Y Y (by omega))<|Ae e42<|OS wJ H5 0 Y Y Y Y (hp.at hp1) (by rw[hp.at hp1,Af,hdel.pl.len,Au];have:(i+1)*2≤qs.length*2:=Dp _ (by omega);omega) (ho p1 (mem_of hp1))<|fun w6 H6=>?_
 rw[Au,mA (by rw[hp.at hp1,hdel.pl.len];have:(i+1)*2≤qs.length*2:=Dp _ (by omega);omega),hdel.pl.set_ (by omega) (hp.at hp1)]at H6
 refine Xr e42<|J2<|Xm Y<|OV (zL Y Y (Ad _ (by omega)))<|Xa Y<|Xr e42<|zA (zD ?_)
 refine J2<|Xm Y<|OV (zL Y Y (Ad _ (by omega)))<|Xa Y<|Xr e42<|zA (zH ?_)
 exact⟨ps.length - (jj+1),by omega,i+1,jj+1,_,_,qs.set i p1,Y,(Ja Y Y Y Y Y),by omega,by omega,hdel.keep hp1 (by simpa using Vk) (hp.at hp1),H6.pick [0] (by decide)⟩
 refine J6<|zA (zD ?_)
 refine J2<|Xm Y<|OV (zL Y Y (Ad _ (by omega)))<|Xa Y<|Xr e42<|zA (zH ?_)
 exact⟨ps.length - (jj+1),by omega,i,jj+1,_,_,qs,Y,(Ja Y Y Y Y Y),Y,by omega,hdel.skip hp1 (by simpa using Vk),H5.pick [0] (by decide)⟩
 obtain rfl:jj=ps.length:=by omega
 refine Xr e42<|J4 Y<|J8<|zT<|zS<|Rq<|Xm Y<|Xm Y ?_
 have hdn:=hdel.done
 refine OV (tU Na wJ Y Y Y (by omega) (by omega)) ?_
 rw[Ip]
 have hfit:0+i*2+(ps.length - i)*2≤(qs.flatten++sp).length:=by
  rw[Af,hdel.pl.len,Wh,Au,← Du,show i+(ps.length - i)=ps.length by omega];omega
 refine eF Na wJ H2 0 Y Y hfit Y<|fun w3 H3=>Xr e42<|Rq<|Xm Y<|Xm Y<|OV (fA Na wJ Y Y Y (by omega))<|Xa Y<|Xr e42<|J5<|Cj Y Y ?_
 have hpl:=vK (cs:=qs.flatten++sp) (vs:=initL [Aa 0,Dj] (ps.length - i)) (o:=0+i*2) (by rw[wR];exact hfit)
 rw[hdel.cells rfl]at hpl
 have HZ:=H3
 change Hp _ _ _ [((some gx,79,zG (qs.flatten++sp) (0+i*2) _):Ent)]at HZ
 rw[hdel.cells rfl]at HZ
 refine⟨_,by rw[hdn.2],?_,HZ⟩
 rw[hpl,Af,Af,hdel.pl.len,hp.len,Wh]
theorem XI (A:Option Addr) (c:Nat) (ps:List (List Value)) (n k gc:Nat) (hn:ps.length=n) (pr:List Value→Bool) (w0:World) (hp:Pl 7 ps) (hr:Rd w0 A ps.length 7 ps.flatten) (hl:ps.length≤4611686018427387904) (hk:Prd Tryz.prog k gc pr ps w0):Aj 159 #[Ac A n c,.func (.func k) #[] #[Ah gc]] w0 (fun r w'=>∃ y:Int,r=Aa y∧YG ps pr y∧Hp w0 w' [] []):=by
 refine zE Tryz.func159 Tryz.ntmps159 Y<|cR e19 ?_
 subst hn
 have H:=Hp.refl w0
 refine Rq<|Xa Y<|Xr e19<|J1<|Rq<|Xm Y<|OV (ES La Y)<|Xm Y<|Xr e19<|J7<|zU (fun nQ lQ w=>∃ (jj:Nat) (y:Int),ps.length - jj=nQ∧xO (Ik [(0,Ac A ps.length c),(1,.func (.func k) #[] #[Ah gc]),(7,Aa (ps.length:Int)),(8,Aa y)] 0 19) lQ∧y=(jj:Int)∧jj≤ps.length∧(∀ q∈ps.take jj,pr q=false)∧Hp w0 w [] []) (ps.length) ?_ ?_
 exact⟨0,_,Y,(Ja Y Y Y Y Y),Y,Am _,fun q hq=>by simp at hq,H⟩
 rintro nQ lQ w1 ⟨jj,y,rfl,hfit,rfl,hj,hno,H1⟩
 obtain⟨j,rfl⟩:=hfit.open
 refine cR e19 ?_
 clear hfit
 refine Rq<|OT (zR Y Y) (fun hp9=>?_) (fun hp9=>?_)
 have hjl:jj < ps.length:=by omega
 obtain⟨p1,hp1⟩:=yM hjl
 obtain⟨a1,ha1⟩:=hr.some_ (by omega)
 subst ha1
 refine Xr e19<|J1<|J3 Y<|J6<|J1<|J7<|Rq<|Xm Y<|Xa Y<|Xr e19<|Rq<|Xm Y<|Xm Y<|Xm Y<|OV (EI La yQ Y Y Y hjl Y)<|Ae e19<|OV (EN yQ Y (vs:=p1) (hp.at hp1) ((hr.to0 H1).elem hp hp1))<|OC (xD hk.1 Y Y) (hk.2.2 w1 (H1.frame gc hk.2.1 (by simp)) p1 (mem_of hp1))<|fun w2 Hd=>have H2:=H1.Ap Hd;Xr e19<|wP Y (fun hb16=>?_) (fun hb16=>?_)
 refine Rq<|Xm Y<|Xa Y<|Xr e19<|J5<|BR<|yN<|BR<|Cj Y Y<|⟨_,Y,.inr ⟨jj,p1,Y,hp1,hb16,hno⟩,H2.Ag⟩
 refine J6<|zA (zD ?_)
 refine J2<|OV (zL Y Y (Ad _ (by omega)))<|Xm Y<|Xr e19<|zA (zH ?_)
 exact⟨ps.length - (jj+1),by omega,jj+1,_,Y,(Ja Y Y Y Y Y),by omega,by omega,oM hno hp1 hb16,H2⟩
 obtain rfl:jj=ps.length:=by omega
 refine Xr e19<|J1<|J4 Y<|J8<|zT<|zS<|Rq<|Xa Y<|Xr e19<|J5<|Cj Y Y<|⟨_,Y,.inl ⟨Y,by rw[Cc]at hno;exact hno⟩,H1.Ag⟩
theorem KA (g:Option Nat) (cap n:Nat) (ps:List (List Value)) (hn:ps.length=n) (sp:List Value) (k gc:Nat) (pr:List Value→Bool) (w0:World) (H0:Hp w0 w0 (bl [((g,110,ps.flatten++sp):Ent)]) [((g,110,ps.flatten++sp):Ent)]) (hp:Pl 7 ps) (ho:∀ p∈ps,p.all (·.oneCell')=true) (hl:ps.length≤cap) (hl2:ps.length≤4611686018427387903) (hcz:cap*7≤(ps.flatten++sp).length) (hk:Prd Tryz.prog k gc pr ps w0) (hgc:gc∉bl [((g,110,ps.flatten++sp):Ent)]):Aj 113 #[Ac (hd g) n cap,.func (.func k) #[] #[Ah gc]] w0 (fun r w'=>∃ sp',r=Ac (hd g) (ps.filter fun p=>!pr p).length cap∧((ps.filter fun p=>!pr p).flatten++sp').length=(ps.flatten++sp).length∧Hp w0 w' (bl [((g,110,ps.flatten++sp):Ent)]) [((g,110,(ps.filter fun p=>!pr p).flatten++sp'):Ent)]):=by
 refine zE Tryz.func113 Tryz.ntmps113 Y<|cR e42 ?_
 subst hn
 have H:=H0
 refine Rq<|Xa Y<|Xr e42<|Rq<|Xm Y<|Xm Y<|OQ (EC gf159 Y) (XI (hd g) cap ps _ k gc Y pr _ hp (H.rd (i:=0) Y hp.len (by decide)) (by omega) hk) ?_
 rintro r w1 ⟨y,rfl,hix,Hd⟩
 have H1:=H.Ap Hd
 refine Xa Y<|Xr e42<|J1<|Rq<|Xm Y<|OT (yU Y Y) (fun Np=>?_) (fun Np=>?_)
 have hnone:∀ p∈ps,pr p=false:=by
  rcases hix with ⟨_,h⟩ | ⟨jj,p,h,_⟩
  · exact h
  omega
 refine Xr e42<|J3 Y<|Rq<|Xm Y<|Xa Y<|Xr e42<|J5<|Cj Y Y<|⟨sp,by rw[vX hnone],by rw[vX hnone],by rw[vX hnone];exact H1⟩
 obtain⟨j0,p0,rfl,hj0,ht0,hn0⟩:∃ (jj:Nat) (p:List Value),y=(jj:Int)∧ps[jj]? =some p∧pr p=true∧∀ q∈ps.take jj,pr q=false:=by
  rcases hix with ⟨h,_⟩ | h
  · omega
  exact h
 have hj0l:=lt_of_get hj0
 obtain⟨gx,rfl⟩:=vO H1 (i:=0) rfl (by rw[Af,hp.len];have:0 < ps.length*7:=Nat.mul_pos (by omega) (by decide);omega)
 clear hix
 refine Xr e42<|J4 Y<|J6<|J1<|Rq<|Xm Y<|OV (zL Y Y (Ad _ (by omega)))<|Xa Y<|Xr e42<|J7<|zU (fun nQ lQ w=>∃ (i jj:Nat) (y z:Int) (qs:List (List Value)),ps.length - jj=nQ∧xO (Ik [(0,Ac (hd (some gx)) ps.length cap),(1,.func (.func k) #[] #[Ah gc]),(5,Aa y),(6,Aa z)] 0 42) lQ∧y=(i:Int)∧z=(jj:Int)∧Del ps qs pr i jj 7∧Hp w0 w (bl [((some gx,110,ps.flatten++sp):Ent)]) [((some gx,110,qs.flatten++sp):Ent)]) (ps.length - (j0+1)) ?_ ?_
 exact⟨j0,j0+1,_,_,ps,Y,(Ja Y Y Y Y Y),Y,by omega,Del.start hp hj0 ht0 hn0,H1⟩
 rintro nQ lQ w2 ⟨i,jj,y,z,qs,rfl,hfit,rfl,rfl,hdel,H2⟩
 obtain⟨j,rfl⟩:=hfit.open
 refine cR e42 ?_
 clear hfit
 have hdl:=hdel.lt
 have hde:=hdel.le
 have Wh:=hdel.len
 refine J1<|Rq<|Xm Y<|Xm Y<|OV (ES La Y)<|OT (zR Y Y) (fun hp19=>?_) (fun hp19=>?_)
 have hjl:jj < ps.length:=by omega
 obtain⟨p1,hp1⟩:=yM hjl
 have hq1:qs[jj]? =some p1:=hdel.at.trans hp1
 refine Xr e42<|J3 Y<|J6<|J1<|J7<|Rq<|Xm Y<|Xm Y<|OV (EI La yQ Y Y Y hjl Y)<|OV (EN yQ Y (vs:=p1) (hp.at hp1) (H2.elem (k:=0) Y hdel.pl hq1))<|Ae e42<|OA yQ H2<|fun w3 g3 H3 hg3=>OS yQ H3 1 Y Y Y Y (hp.at hp1) (by rw[hp.at hp1];decide) (ho p1 (mem_of hp1))<|fun w4 H4=>?_
 rw[qB (by rw[hp.at hp1];rfl)]at H4
 refine Xr e42<|Rq<|Xm Y<|OV (EN yQ Y (vs:=p1) (hp.at hp1) (H4.Ak (i:=1) Y (by rw[Ei,Cc])))<|OC (xD hk.1 Y Y) (hk.2.2 w4 (H4.frame gc hk.2.1 hgc) p1 (mem_of hp1))<|fun w5 Hd=>have H5:=H4.Ap Hd;Xn Y<|Xr e42<|wP Y (fun Vk=>?_) (fun Vk=>?_)
 refine Rq<|Xm Y<|Xm Y<|OV (EN yQ Y (vs:=p1) (hp.at hp1) (H5.Ak (i:=1) Y (by rw[Ei,Cc])))<|OV (uS La yQ Y Y Y (by omega))<|Ae e42<|OS yQ H5 0 Y Y Y Y (hp.at hp1) (by rw[hp.at hp1,Af,hdel.pl.len,Au];have:(i+1)*7≤qs.length*7:=Dp _ (by omega);omega) (ho p1 (mem_of hp1))<|fun w6 H6=>?_
 rw[Au,mA (by rw[hp.at hp1,hdel.pl.len];have:(i+1)*7≤qs.length*7:=Dp _ (by omega);omega),hdel.pl.set_ (by omega) (hp.at hp1)]at H6
 refine Xr e42<|J2<|Xm Y<|OV (zL Y Y (Ad _ (by omega)))<|Xa Y<|Xr e42<|zA (zD ?_)
 refine J2<|Xm Y<|OV (zL Y Y (Ad _ (by omega)))<|Xa Y<|Xr e42<|zA (zH ?_)
 exact⟨ps.length - (jj+1),by omega,i+1,jj+1,_,_,qs.set i p1,Y,(Ja Y Y Y Y Y),by omega,by omega,hdel.keep hp1 (by simpa using Vk) (hp.at hp1),H6.pick [0] (by decide)⟩
 refine J6<|zA (zD ?_)
 refine J2<|Xm Y<|OV (zL Y Y (Ad _ (by omega)))<|Xa Y<|Xr e42<|zA (zH ?_)
 exact⟨ps.length - (jj+1),by omega,i,jj+1,_,_,qs,Y,(Ja Y Y Y Y Y),Y,by omega,hdel.skip hp1 (by simpa using Vk),H5.pick [0] (by decide)⟩
 obtain rfl:jj=ps.length:=by omega
 refine Xr e42<|J4 Y<|J8<|zT<|zS<|Rq<|Xm Y<|Xm Y ?_
 have hdn:=hdel.done
 refine OV (tU La yQ Y Y Y (by omega) (by omega)) ?_
 rw[Ip]
 have hfit:0+i*7+(ps.length - i)*7≤(qs.flatten++sp).length:=by
  rw[Af,hdel.pl.len,Wh,Au,← Du,show i+(ps.length - i)=ps.length by omega];omega
 refine eF La yQ H2 0 Y Y hfit Y<|fun w3 H3=>Xr e42<|Rq<|Xm Y<|Xm Y<|OV (fA La yQ Y Y Y (by omega))<|Xa Y<|Xr e42<|J5<|Cj Y Y ?_
 have hpl:=vK (cs:=qs.flatten++sp) (vs:=initL Tv (ps.length - i)) (o:=0+i*7) (by rw[wR];exact hfit)
 rw[hdel.cells rfl]at hpl
 have HZ:=H3
 change Hp _ _ _ [((some gx,110,zG (qs.flatten++sp) (0+i*7) _):Ent)]at HZ
 rw[hdel.cells rfl]at HZ
 refine⟨_,by rw[hdn.2],?_,HZ⟩
 rw[hpl,Af,Af,hdel.pl.len,hp.len,Wh]
theorem RB (A:Option Addr) (c:Nat) (ps:List (List Value)) (n:Nat) (hn:ps.length=n) (k:FuncId) (tn:Int) (cf:List Value→Int) (w0:World) (hp:Pl 4 ps) (hr:Rd w0 A ps.length 4 ps.flatten) (hl:ps.length≤4611686018427387903) (hC:Cmp Tryz.prog k (Aa tn) cf ps):Aj 164 #[Ac A n c,Aa tn,.func (.func k) #[] #[]] w0 (fun r w'=>∃ (i:Nat) (f:Bool),r=.tuple #[Aa (i:Int),.bool f]∧BT ps cf i f∧Hp w0 w' [] []):=by
 refine zE Tryz.func164 Tryz.ntmps164 Y<|cR e49 ?_
 subst hn
 have H:=Hp.refl w0
 have hn:=hr.len
 refine Rq<|Xa Y<|Xa Y<|Xr e49<|Rq<|Xm Y<|OV (ES Jj Y)<|Xa Y<|Xr e49<|Rq<|Xm Y<|Xa Y<|Xa Y<|Xr e49<|J1<|J7<|zU (fun nQ lQ w=>∃ (i m:Nat) (y z:Int),m - i=nQ∧xO (Ik [(0,Ac A ps.length c),(1,Aa tn),(2,.func (.func k) #[] #[]),(8,Aa (ps.length:Int)),(9,Aa y),(10,Aa z)] 0 49) lQ∧y=(i:Int)∧z=(m:Int)∧i≤m∧m≤ps.length∧(∀ (k:Nat) (p:List Value),k < i→ps[k]? =some p→cf p < 0)∧(∀ (k:Nat) (p:List Value),m≤k→ps[k]? =some p→0≤cf p)∧Hp w0 w [] []) (ps.length - 0) ?_ ?_
 exact⟨0,ps.length,_,_,Y,(Ye Y Y Y Y Y Y Y),Y,Y,Am _,Ai _,fun k p hk=>by omega,fun k p hk hkp=>by have:=lt_of_get hkp;omega,H⟩
 rintro nQ lQ w1 ⟨i,m,y,z,rfl,hfit,rfl,rfl,him,hmn,hlo,hhi,H1⟩
 obtain⟨j,rfl⟩:=hfit.open
 refine cR e49 ?_
 clear hfit
 refine J1<|Rq<|Xm Y<|Xm Y<|OT (zR Y Y) (fun hp17=>?_) (fun hp17=>?_)
 obtain⟨p1,hp1⟩:=yM (l:=ps) (j:=(i+m) / 2) (by omega)
 have Ib:=lt_of_get hp1
 obtain⟨a1,ha1⟩:=hr.some_ (by omega)
 subst ha1
 refine Xr e49<|J3 Y<|J6<|J7<|Rq<|Xm Y<|Xm Y<|OV (zL Y Y ((Ad _ (by omega)).trans (show(i:Int)+(m:Int)=((i+m:Nat):Int) by omega)))<|OV (xJ ZI Tryz.underlying3 Y ((show IntKind.u64.wrap ((i+m:Nat):Int)=((i+m:Nat):Int) by rw[IntKind.wrap_u64];omega)))<|Ae e49<|OV (oW Y Y (by omega) (show(((i+m:Nat):Int)).fdiv (2^(min (1:Int).toNat IntKind.u64.bits))=(((i+m) / 2:Nat):Int) from qZ (i+m) 1 64))<|OV (xJ Tryz.underlying3 ZI Y (Ad _ (by omega)))<|Xa Y<|Xr e49<|Rq<|Xm Y<|Xm Y<|Xm Y<|OV (EI Jj xC Y Y Y Ib Y)<|Ae e49<|OV (EN xC Y (vs:=p1) (hp.at hp1) ((hr.to0 H1).elem hp hp1))<|Xm Y<|OC (xD hC.go Y Y) (hC.does w1 p1 (mem_of hp1))<|fun w2 Hd=>have H2:=H1.Ap Hd;OT (zR Y Y) (fun Nv=>?_) (fun Nv=>?_)
 refine Xr e49<|J3 Y<|J2<|Xm Y<|OV (zL Y Y (Ad _ (by omega)))<|Xa Y<|Xr e49<|zA (zD ?_)
 refine zA (zH ?_)
 exact⟨m - ((i+m) / 2+1),by omega,(i+m) / 2+1,m,_,_,Y,(Ye Y Y Y Y Y Y Y),by omega,Y,by omega,by omega,fun k p hk hkp=>hC.mono k _ p p1 (by omega) hkp hp1 Nv,hhi,H2⟩
 refine Xr e49<|J4 Y<|J2<|Xm Y<|Xa Y<|Xr e49<|zA (zD ?_)
 refine zA (zH ?_)
 exact⟨(i+m) / 2 - i,by omega,i,(i+m) / 2,_,_,Y,(Ye Y Y Y Y Y Y Y),Y,Y,by omega,by omega,hlo,fun k p hk hkp=>by
  rcases Int.lt_or_le (cf p) 0 with h | h
  · exact absurd (hC.mono _ k p1 p (by omega) hp1 hkp h) Nv
  exact h,H2⟩
 obtain rfl:i=m:=by omega
 refine Xr e49<|J4 Y<|J8<|zT<|zS<|Rq<|Xm Y<|Xm Y<|Xm Y<|OT (zR Y Y) (fun hp38=>?_) (fun hp38=>?_)
 obtain⟨p1,hp1⟩:=yM (l:=ps) (j:=i) (by omega)
 have Ib:=lt_of_get hp1
 obtain⟨a1,ha1⟩:=hr.some_ (by omega)
 subst ha1
 refine Xm Y<|Ae e49<|OY Y<|Xm Y<|OY Y<|Xm Y<|Ae e49<|OY Y<|Xm Y<|OY Y<|OV (EI Jj xC Y Y Y Ib Y)<|Ae e49<|OY Y<|OV (EN xC Y (vs:=p1) (hp.at hp1) ((hr.to0 H1).elem hp hp1))<|OY Y<|Xm Y<|Ae e49<|OY Y<|OC (xD hC.go Y Y) (hC.does w1 p1 (mem_of hp1))<|fun w2 Hd=>have H2:=H1.Ap Hd;OY Y<|OT (yU Y Y) (fun Ot=>?_) (fun Ot=>?_)
 refine Xt Y Y<|Xa Y<|Xa Y<|Xr e49<|J5<|Kw Y Y Y<|⟨i,true,Y,⟨by omega,hlo,hhi,fun _=>⟨p1,hp1,Ot⟩,fun h=>by cases h⟩,H2.Ag⟩
 refine Xt Y Y<|Xa Y<|Xa Y<|Xr e49<|J5<|Kw Y Y Y ?_
 exact⟨i,false,Y,⟨by omega,hlo,hhi,(fun h=>by cases h),fun _ p h2=>by
  rw[hp1]at h2
  cases h2
  exact Ot⟩,H2.Ag⟩
 refine Xm Y<|Ae e49<|Oz 8 Y<|Ae e49<|Xu Y Y<|Xa Y<|Ae e49<|Xa Y<|Xr e49<|J5<|Kw Y Y Y<|⟨i,false,Y,⟨by omega,hlo,hhi,(fun h=>by cases h),fun _ p h2=>by have:=lt_of_get h2;omega⟩,H1.Ag⟩
theorem RD (A:Option Addr) (c:Nat) (ps:List (List Value)) (n:Nat) (hn:ps.length=n) (k:FuncId) (tn:Int) (cf:List Value→Int) (w0:World) (hp:Pl 7 ps) (hr:Rd w0 A ps.length 7 ps.flatten) (hl:ps.length≤4611686018427387903) (hC:Cmp Tryz.prog k (Aa tn) cf ps):Aj 189 #[Ac A n c,Aa tn,.func (.func k) #[] #[]] w0 (fun r w'=>∃ (i:Nat) (f:Bool),r=.tuple #[Aa (i:Int),.bool f]∧BT ps cf i f∧Hp w0 w' [] []):=by
 refine zE Tryz.func189 Tryz.ntmps189 Y<|cR e49 ?_
 subst hn
 have H:=Hp.refl w0
 have hn:=hr.len
 refine Rq<|Xa Y<|Xa Y<|Xr e49<|Rq<|Xm Y<|OV (ES La Y)<|Xa Y<|Xr e49<|Rq<|Xm Y<|Xa Y<|Xa Y<|Xr e49<|J1<|J7<|zU (fun nQ lQ w=>∃ (i m:Nat) (y z:Int),m - i=nQ∧xO (Ik [(0,Ac A ps.length c),(1,Aa tn),(2,.func (.func k) #[] #[]),(8,Aa (ps.length:Int)),(9,Aa y),(10,Aa z)] 0 49) lQ∧y=(i:Int)∧z=(m:Int)∧i≤m∧m≤ps.length∧(∀ (k:Nat) (p:List Value),k < i→ps[k]? =some p→cf p < 0)∧(∀ (k:Nat) (p:List Value),m≤k→ps[k]? =some p→0≤cf p)∧Hp w0 w [] []) (ps.length - 0) ?_ ?_
 exact⟨0,ps.length,_,_,Y,(Ye Y Y Y Y Y Y Y),Y,Y,Am _,Ai _,fun k p hk=>by omega,fun k p hk hkp=>by have:=lt_of_get hkp;omega,H⟩
 rintro nQ lQ w1 ⟨i,m,y,z,rfl,hfit,rfl,rfl,him,hmn,hlo,hhi,H1⟩
 obtain⟨j,rfl⟩:=hfit.open
 refine cR e49 ?_
 clear hfit
 refine J1<|Rq<|Xm Y<|Xm Y<|OT (zR Y Y) (fun hp17=>?_) (fun hp17=>?_)
 obtain⟨p1,hp1⟩:=yM (l:=ps) (j:=(i+m) / 2) (by omega)
 have Ib:=lt_of_get hp1
 obtain⟨a1,ha1⟩:=hr.some_ (by omega)
 subst ha1
 refine Xr e49<|J3 Y<|J6<|J7<|Rq<|Xm Y<|Xm Y<|OV (zL Y Y ((Ad _ (by omega)).trans (show(i:Int)+(m:Int)=((i+m:Nat):Int) by omega)))<|OV (xJ ZI Tryz.underlying3 Y ((show IntKind.u64.wrap ((i+m:Nat):Int)=((i+m:Nat):Int) by rw[IntKind.wrap_u64];omega)))<|Ae e49<|OV (oW Y Y (by omega) (show(((i+m:Nat):Int)).fdiv (2^(min (1:Int).toNat IntKind.u64.bits))=(((i+m) / 2:Nat):Int) from qZ (i+m) 1 64))<|OV (xJ Tryz.underlying3 ZI Y (Ad _ (by omega)))<|Xa Y<|Xr e49<|Rq<|Xm Y<|Xm Y<|Xm Y<|OV (EI La yQ Y Y Y Ib Y)<|Ae e49<|OV (EN yQ Y (vs:=p1) (hp.at hp1) ((hr.to0 H1).elem hp hp1))<|Xm Y<|OC (xD hC.go Y Y) (hC.does w1 p1 (mem_of hp1))<|fun w2 Hd=>have H2:=H1.Ap Hd;OT (zR Y Y) (fun Nv=>?_) (fun Nv=>?_)
 refine Xr e49<|J3 Y<|J2<|Xm Y<|OV (zL Y Y (Ad _ (by omega)))<|Xa Y<|Xr e49<|zA (zD ?_)
 refine zA (zH ?_)
 exact⟨m - ((i+m) / 2+1),by omega,(i+m) / 2+1,m,_,_,Y,(Ye Y Y Y Y Y Y Y),by omega,Y,by omega,by omega,fun k p hk hkp=>hC.mono k _ p p1 (by omega) hkp hp1 Nv,hhi,H2⟩
 refine Xr e49<|J4 Y<|J2<|Xm Y<|Xa Y<|Xr e49<|zA (zD ?_)
 refine zA (zH ?_)
 exact⟨(i+m) / 2 - i,by omega,i,(i+m) / 2,_,_,Y,(Ye Y Y Y Y Y Y Y),Y,Y,by omega,by omega,hlo,fun k p hk hkp=>by
  rcases Int.lt_or_le (cf p) 0 with h | h
  · exact absurd (hC.mono _ k p1 p (by omega) hp1 hkp h) Nv
  exact h,H2⟩
 obtain rfl:i=m:=by omega
 refine Xr e49<|J4 Y<|J8<|zT<|zS<|Rq<|Xm Y<|Xm Y<|Xm Y<|OT (zR Y Y) (fun hp38=>?_) (fun hp38=>?_)
 obtain⟨p1,hp1⟩:=yM (l:=ps) (j:=i) (by omega)
 have Ib:=lt_of_get hp1
 obtain⟨a1,ha1⟩:=hr.some_ (by omega)
 subst ha1
 refine Xm Y<|Ae e49<|OY Y<|Xm Y<|OY Y<|Xm Y<|Ae e49<|OY Y<|Xm Y<|OY Y<|OV (EI La yQ Y Y Y Ib Y)<|Ae e49<|OY Y<|OV (EN yQ Y (vs:=p1) (hp.at hp1) ((hr.to0 H1).elem hp hp1))<|OY Y<|Xm Y<|Ae e49<|OY Y<|OC (xD hC.go Y Y) (hC.does w1 p1 (mem_of hp1))<|fun w2 Hd=>have H2:=H1.Ap Hd;OY Y<|OT (yU Y Y) (fun Ot=>?_) (fun Ot=>?_)
 refine Xt Y Y<|Xa Y<|Xa Y<|Xr e49<|J5<|Kw Y Y Y<|⟨i,true,Y,⟨by omega,hlo,hhi,fun _=>⟨p1,hp1,Ot⟩,fun h=>by cases h⟩,H2.Ag⟩
 refine Xt Y Y<|Xa Y<|Xa Y<|Xr e49<|J5<|Kw Y Y Y ?_
 exact⟨i,false,Y,⟨by omega,hlo,hhi,(fun h=>by cases h),fun _ p h2=>by
  rw[hp1]at h2
  cases h2
  exact Ot⟩,H2.Ag⟩
 refine Xm Y<|Ae e49<|Oz 8 Y<|Ae e49<|Xu Y Y<|Xa Y<|Ae e49<|Xa Y<|Xr e49<|J5<|Kw Y Y Y<|⟨i,false,Y,⟨by omega,hlo,hhi,(fun h=>by cases h),fun _ p h2=>by have:=lt_of_get h2;omega⟩,H1.Ag⟩
theorem RC (A:Option Addr) (c:Nat) (ps:List (List Value)) (n:Nat) (hn:ps.length=n) (k:FuncId) (tc:List Value) (htc:tc.length=4) (cf:List Value→Int) (w0:World) (hp:Pl 4 ps) (hr:Rd w0 A ps.length 4 ps.flatten) (hl:ps.length≤4611686018427387903) (hC:Cmp Tryz.prog k (.agg tc.toArray) cf ps):Aj 154 #[Ac A n c,.agg tc.toArray,.func (.func k) #[] #[]] w0 (fun r w'=>∃ (i:Nat) (f:Bool),r=.tuple #[Aa (i:Int),.bool f]∧BT ps cf i f∧Hp w0 w' [] []):=by
 refine zE Tryz.func154 Tryz.ntmps154 Y<|cR e49 ?_
 subst hn
 have H:=Hp.refl w0
 have hn:=hr.len
 refine Rq<|zW Y Y H<|fun w1 g4 H1 hg4=>Xa Y<|Xa Y<|Xr e49<|Rq<|Xm Y<|OV (ES Kv Y)<|Xa Y<|Xr e49<|Rq<|Xm Y<|Xa Y<|Xa Y<|Xr e49<|J1<|J7<|zU (fun nQ lQ w=>∃ (i m:Nat) (y z:Int) (g4:Nat),m - i=nQ∧xO (Ik [(0,Ac A ps.length c),(2,.func (.func k) #[] #[]),(4,Ah g4),(8,Aa (ps.length:Int)),(9,Aa y),(10,Aa z)] 0 49) lQ∧y=(i:Int)∧z=(m:Int)∧i≤m∧m≤ps.length∧(∀ (k:Nat) (p:List Value),k < i→ps[k]? =some p→cf p < 0)∧(∀ (k:Nat) (p:List Value),m≤k→ps[k]? =some p→0≤cf p)∧Hp w0 w [] [((some g4,35,tc):Ent)]) (ps.length - 0) ?_ ?_
 exact⟨0,ps.length,_,_,_,Y,(Ye Y Y Y Y Y Y Y),Y,Y,Am _,Ai _,fun k p hk=>by omega,fun k p hk hkp=>by have:=lt_of_get hkp;omega,H1⟩
 rintro nQ lQ w2 ⟨i,m,y,z,g4,rfl,hfit,rfl,rfl,him,hmn,hlo,hhi,H2⟩
 obtain⟨j,rfl⟩:=hfit.open
 refine cR e49 ?_
 clear hfit
 refine J1<|Rq<|Xm Y<|Xm Y<|OT (zR Y Y) (fun hp17=>?_) (fun hp17=>?_)
 obtain⟨p1,hp1⟩:=yM (l:=ps) (j:=(i+m) / 2) (by omega)
 have Ib:=lt_of_get hp1
 obtain⟨a1,ha1⟩:=hr.some_ (by omega)
 subst ha1
 refine Xr e49<|J3 Y<|J6<|J7<|Rq<|Xm Y<|Xm Y<|OV (zL Y Y ((Ad _ (by omega)).trans (show(i:Int)+(m:Int)=((i+m:Nat):Int) by omega)))<|OV (xJ ZI Tryz.underlying3 Y ((show IntKind.u64.wrap ((i+m:Nat):Int)=((i+m:Nat):Int) by rw[IntKind.wrap_u64];omega)))<|Ae e49<|OV (oW Y Y (by omega) (show(((i+m:Nat):Int)).fdiv (2^(min (1:Int).toNat IntKind.u64.bits))=(((i+m) / 2:Nat):Int) from qZ (i+m) 1 64))<|OV (xJ Tryz.underlying3 ZI Y (Ad _ (by omega)))<|Xa Y<|Xr e49<|J1<|zQ 7 [(true,0),(true,1),(true,2),(true,3),(true,4),(true,5),(false,6),(false,7)] H2 [0] yF (by decide) (by kernel_rfl) ?_
 rintro w3 hw3
 have H3:=Hp.drew H2;rw[← hw3]at H3
 refine Zm Y Y<|Zm Y Y<|Zm Y Y<|MP Y<|MV (fun wz hz=>EI Kv xR Y Y Y Ib Y)<|cZ e49<|MP Y<|MV (fun wz hz=>EN xR Y (vs:=p1) (hp.at hp1) ((hr.to0 hz).elem hp hp1))<|MP Y<|MV (fun wz hz=>EN xR Y (vs:=tc) htc (hz.Ak (i:=0) Y (by rw[Ei,Cc])))<|MO Y<|OC (xD hC.go Y Y) (hC.does w3 p1 (mem_of hp1))<|fun w4 Hd=>have H4:=H3.Ap Hd;OE<|⟨fun hne=>H4.pick [0] (by decide),?_⟩
 refine cZ e49<|MO Y<|OT (zR Y Y) (fun Nv=>?_) (fun Nv=>?_)
 refine OE ?_
 refine⟨fun hne=>absurd Y hne,?_⟩
 refine ME<|cR e49<|J3 Y<|J2<|Xm Y<|OV (zL Y Y (Ad _ (by omega)))<|Xa Y<|Xr e49<|zA (zD ?_)
 refine zA (zH ?_)
 exact⟨m - ((i+m) / 2+1),by omega,(i+m) / 2+1,m,_,_,_,Y,(Ye Y Y Y Y Y Y Y),by omega,Y,by omega,by omega,fun k p hk hkp=>hC.mono k _ p p1 (by omega) hkp hp1 Nv,hhi,H4⟩
 refine OE ?_
 refine⟨fun hne=>absurd Y hne,?_⟩
 refine ME<|cR e49<|J4 Y<|J2<|Xm Y<|Xa Y<|Xr e49<|zA (zD ?_)
 refine zA (zH ?_)
 exact⟨(i+m) / 2 - i,by omega,i,(i+m) / 2,_,_,_,Y,(Ye Y Y Y Y Y Y Y),Y,Y,by omega,by omega,hlo,fun k p hk hkp=>by
  rcases Int.lt_or_le (cf p) 0 with h | h
  · exact absurd (hC.mono _ k p1 p (by omega) hp1 hkp h) Nv
  exact h,H4⟩
 obtain rfl:i=m:=by omega
 refine Xr e49<|J4 Y<|J8<|zT<|zS<|J1<|zQ 15 [(true,0),(true,1),(true,2),(true,3),(true,4),(true,5),(true,6),(true,7),(true,8),(true,9),(true,10),(false,11),(true,12),(true,13),(true,14),(false,15)] H2 [0] yF (by decide) (by kernel_rfl) ?_
 rintro w3 hw3
 have H3:=Hp.drew H2;rw[← hw3]at H3
 refine Zm Y Y<|Zm Y Y<|Zm Y Y<|MP Y<|vZ (fun wz hz=>zR Y Y) (fun hp38=>?_) (fun hp38=>?_)
 obtain⟨p1,hp1⟩:=yM (l:=ps) (j:=i) (by omega)
 have Ib:=lt_of_get hp1
 obtain⟨a1,ha1⟩:=hr.some_ (by omega)
 subst ha1
 refine Zm Y Y<|cZ e49<|MP Y<|MY Y<|MV (fun wz hz=>zK Y)<|MP Y<|MY Y<|MV (fun wz hz=>zK Y)<|MP Y<|MY Y<|MV (fun wz hz=>zK Y)<|MP Y<|MY Y<|MV (fun wz hz=>EI Kv xR Y Y Y Ib Y)<|cZ e49<|MP Y<|MY Y<|MV (fun wz hz=>EN xR Y (vs:=p1) (hp.at hp1) ((hr.to0 hz).elem hp hp1))<|MP Y<|MY Y<|MV (fun wz hz=>EN xR Y (vs:=tc) htc (hz.Ak (i:=0) Y (by rw[Ei,Cc])))<|MO Y<|OY Y<|OC (xD hC.go Y Y) (hC.does w3 p1 (mem_of hp1))<|fun w4 Hd=>have H4:=H3.Ap Hd;OE<|⟨fun hne=>H4.pick [0] (by decide),?_⟩
 refine cZ e49<|MP Y<|MY Y<|vZ (fun wz hz=>yU Y Y) (fun Ot=>?_) (fun Ot=>?_)
 refine MP Y<|MV (fun wz hz=>xS Y Y)<|MP Y<|MV (fun wz hz=>zP Y)<|MO Y<|Xa Y<|OE<|⟨fun hne=>absurd Y hne,?_⟩
 refine cZ e49<|ME<|cR e49<|J5<|Kw Y Y Y<|⟨i,true,Y,⟨by omega,hlo,hhi,fun _=>⟨p1,hp1,Ot⟩,fun h=>by cases h⟩,H4.Ag⟩
 refine MP Y<|MV (fun wz hz=>xS Y Y)<|MP Y<|MV (fun wz hz=>zP Y)<|MO Y<|Xa Y<|OE<|⟨fun hne=>absurd Y hne,?_⟩
 refine cZ e49<|ME<|cR e49<|J5<|Kw Y Y Y ?_
 exact⟨i,false,Y,⟨by omega,hlo,hhi,(fun h=>by cases h),fun _ p h2=>by
  rw[hp1]at h2
  cases h2
  exact Ot⟩,H4.Ag⟩
 refine Zm Y Y<|cZ e49<|MP Y<|MZ Y<|MP Y<|MZ Y<|cZ e49<|MP Y<|MZ Y<|MP Y<|MZ Y<|cZ e49<|MP Y<|MZ Y<|MP Y<|MZ Y<|cZ e49<|MO Y<|OZ Y<|OE<|⟨fun hne=>H3.pick [0] (by decide),?_⟩
 refine MP Y<|MZ Y<|cZ e49<|MP Y<|MV (fun wz hz=>vL Y Y)<|MP Y<|MV (fun wz hz=>zP Y)<|MO Y<|Xa Y<|OE<|⟨fun hne=>absurd Y hne,?_⟩
 refine cZ e49<|ME<|cR e49<|J5<|Kw Y Y Y<|⟨i,false,Y,⟨by omega,hlo,hhi,(fun h=>by cases h),fun _ p h2=>by have:=lt_of_get h2;omega⟩,H3.Ag⟩
end Go.Proofs.YtjoeklkmnfaabaaGreat
