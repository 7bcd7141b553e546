/-
  Parts of the walk, one behind the other.
-/
import Derived.Test.YtjoeklkmnfaabaaGreatRows
import Derived.WalkKit
import Derived.Deep.LoopGhost
import Derived.Deep.WholeRow
import Derived.StillTail
import Derived.OrdersHeld
import Derived.Laws.CopyRow
import Derived.Laws.StructEq
import Derived.Laws.ResultCell
import Derived.Lib.AppendZerosOnto
import Derived.Lib.Overlaps
import Derived.Lib.Bytealg
import Derived.MapKept
import Derived.Laws.Externs
import Derived.RangeFuncRecord
import Derived.OrdersIn
import Derived.TacticsIn
import Derived.Recover
namespace Go.Proofs.YtjoeklkmnfaabaaGreat
open Go Go.RowKit
set_option linter.unusedVariables false
set_option linter.unusedSimpArgs false
theorem Y {α : Sort _} {a : α} : a = a := rfl
def nth :List Value→Nat→Option Value
 | [],_=>none
 | a::_,0=>some a
 | _::l,n+1=>nth l n
theorem pK :∀ (l:List Value) (n:Nat),nth l n=l[n]?
 | [],n=>by simp[nth]
 | _::_,0=>by simp[nth]
 | _::l,n+1=>by simpa[nth]using pK l n
def ev (l:List Value):Operand→Option Value
 | .tmp t=>nth l t
 | .const v=>some v
 | .global g=>some (.pointer (some ⟨g,0,none⟩))
 | .func f=>some (.func (.func f) #[] #[])
def evs (l:List Value):List Operand→Option (List Value)
 | []=>some []
 | x::xs=>match ev l x,evs l xs with
  | some v,some vs=>some (v::vs)
  | _,_=>none
def rho (l:List Value):Operand→Value:=Act.eval ⟨l.toArray,[]⟩
theorem tU (l:List Value) (ds:List Deferred):Act.eval ⟨l.toArray,ds⟩=rho l:=by
 funext x;cases x <;>rfl
theorem zV {l:List Value} {x:Operand} {v:Value} (h:ev l x=some v):rho l x=v:=by
 cases x with
 | tmp t=>
  simp only[ev,pK]at h
  simp[rho,Act.eval,h]
 | const c=>simpa[ev,rho,Act.eval]using h
 | global g=>simpa[ev,rho,Act.eval]using h
 | func f=>simpa[ev,rho,Act.eval]using h
theorem nO {l:List Value}:∀ {xs:List Operand} {vs:List Value},evs l xs=some vs→xs.map (rho l)=vs
 | [],vs,h=>by simp[evs]at h;simp[h]
 | x::xs,vs,h=>by
  simp only[evs]at h
  cases hx:ev l x with
  | none=>rw[hx]at h;simp at h
  | some v=>
   cases hxs:evs l xs with
   | none=>rw[hx,hxs]at h;simp at h
   | some us=>
    rw[hx,hxs]at h
    simp only[Option.some.injEq]at h
    subst h
    simp[zV hx,nO hxs]
def xN :List (Option Value)→List Value→Prop
 | [],l=>l=[]
 | some v::ps,l=>∃ l',l=v::l'∧xN ps l'
 | none::ps,l=>∃ x l',l=x::l'∧xN ps l'
theorem f0 :xN [] []:=rfl
theorem fs {v:Value} {ps:List (Option Value)} {l:List Value} (h:xN ps l):xN (some v::ps) (v::l):=⟨l,rfl,h⟩
theorem fn {x:Value} {ps:List (Option Value)} {l:List Value} (h:xN ps l):xN (none::ps) (x::l):=⟨x,l,rfl,h⟩
def told (j:Nat→Value):List (Option Value)→Nat→List Value
 | [],_=>[]
 | some v::ps,k=>v::told j ps (k+1)
 | none::ps,k=>j k::told j ps (k+1)
theorem xN.Ri :∀ {ps:List (Option Value)} {l:List Value} (k:Nat),xN ps l→∃ j,l=told j ps k
 | [],l,k,h=>⟨fun _=>undef,h⟩
 | some v::ps,l,k,h=>by
  obtain⟨l',rfl,h'⟩:=h
  obtain⟨j,rfl⟩:=xN.Ri (k+1) h'
  exact⟨j,rfl⟩
 | none::ps,l,k,h=>by
  obtain⟨x,l',rfl,h'⟩:=h
  obtain⟨j,rfl⟩:=xN.Ri (k+1) h'
  have key:∀ (qs:List (Option Value)) (m:Nat),k < m→told (fun i=>if i=k then x else j i) qs m=told j qs m:=by
   intro qs
   induction qs with
   | nil=>intro m _;rfl
   | cons q qs ih=>
    intro m hm
    cases q with
    | none=>simp only[told];rw[if_neg (by omega),ih (m+1) (by omega)]
    | some v=>simp only[told];rw[ih (m+1) (by omega)]
  refine⟨fun i=>if i=k then x else j i,?_⟩
  simp only[told,if_true]
  rw[key ps (k+1) (by omega)]
theorem xN.open {ps:List (Option Value)} {l:List Value} (h:xN ps l):∃ j,l=told j ps 0:=h.Ri 0
def zP (P:Program) (f:FuncId) (args:Array Value) (w:World) (R:Value→World→Prop):Prop:=
 Calls P f args w fun e w'=>∃ v,e=.returned v∧R v w'
theorem zP.mono {P:Program} {f:FuncId} {args:Array Value} {w:World} {R R':Value→World→Prop} (h:zP P f args w R) (hr:∀ v w',R v w'→R' v w'):zP P f args w R':=
 Calls.mono h fun _ _ ⟨v,he,hv⟩=>⟨v,he,hr v _ hv⟩
abbrev vN :=Exit→List Value→World→Prop
def Cd (P:Program) (ds:List Deferred) (c:Code) (Q:vN) (l:List Value) (w:World):Prop:=
 Code.wp P c (fun e a w'=>a.defers=ds∧Q e a.tmps.toList w') ⟨l.toArray,ds⟩ w
def Ops (P:Program) (ds:List Deferred) (all:List Oper) (K:List Value→World→Prop) (Q:vN) (os:List Oper) (l:List Value) (w:World):Prop:=
 wpList P all.toArray (Exit.then (fun a w'=>a.defers=ds∧K a.tmps.toList w') (fun e a w'=>a.defers=ds∧Q e a.tmps.toList w')) os ⟨l.toArray,ds⟩ w
def yT (P:Program) (ds:List Deferred) (all:List Oper) (w:World) (K:List Value→Prop) (os:List Oper) (l:List Value):Prop:=
 wpStill P all.toArray w (fun a=>a.defers=ds∧K a.tmps.toList) os ⟨l.toArray,ds⟩
section code
variable {P:Program} {ds:List Deferred} {Q:vN} {l:List Value} {w:World} {x y z:Code} {cs:List Code}
def uQ (K:List Value→World→Prop) (Q:vN):vN
 | .normal,l,w=>K l w
 | e,l,w=>Q e l w
def Run (P:Program) (ds:List Deferred):List Code→vN→List Value→World→Prop
 | [],Q=>Q .normal
 | c::cs,Q=>Cd P ds c (uQ (Run P ds cs Q) Q)
theorem zA (h:Q .normal l w):Run P ds [] Q l w:=h
theorem zN (h:Run P ds (x::y::cs) Q l w):Run P ds (.seq x y::cs) Q l w:=by
 refine wp_seq (Go.wp_mono h ?_)
 rintro e ⟨t,d⟩ w' ⟨hd,h2⟩
 cases e with
 | normal=>
  simp only at hd
  subst hd
  exact Go.wp_mono h2 (fun e a w h=>by cases e <;>exact h)
 | _=>exact⟨hd,h2⟩
theorem xH (h:Run P ds cs Q l w):Run P ds (.skip::cs) Q l w:=wp_skip ⟨rfl,h⟩
theorem wF (h:Q .ret l w):Run P ds (.ret::cs) Q l w:=wp_ret ⟨rfl,h⟩
theorem tD {n:Nat} (h:Q (.exit n) l w):Run P ds (.exit n::cs) Q l w:=wp_exit ⟨rfl,h⟩
theorem kV {x:Operand} {v:Value} (h:ev l x=some v):(⟨l.toArray,ds⟩:Act).eval x=v:=by
 rw[tU];exact zV h
theorem yL {c:Operand} (hc:ev l c=some (.bool true)) (h:Run P ds (x::cs) Q l w):Run P ds (.cond c x y::cs) Q l w:=
 wp_cond_true (kV hc) h
theorem zW {c:Operand} (hc:ev l c=some (.bool false)) (h:Run P ds (y::cs) Q l w):Run P ds (.cond c x y::cs) Q l w:=
 wp_cond_false (kV hc) h
theorem wU {c:Operand} {b:Bool} (hc:ev l c=some (.bool b)) (h1:b=true→Run P ds (x::cs) Q l w) (h2:b=false→Run P ds (y::cs) Q l w):Run P ds (.cond c x y::cs) Q l w:=by
 cases b
 · exact zW hc (h2 rfl)
 · exact yL hc (h1 rfl)
def iB (n:Nat) (K:List Value→World→Prop) (Q:vN):vN
 | .normal,l,w=>K l w
 | .exit i,l,w=>if i=n then K l w else Q (.exit i) l w
 | e,l,w=>Q e l w
theorem wH {n:Nat} (h:Run P ds [x] (iB n (Run P ds cs Q) Q) l w):Run P ds (.block n x::cs) Q l w:=by
 refine wp_block (Go.wp_mono h ?_)
 rintro e a w' ⟨hd,h2⟩
 cases e with
 | exit i=>
  simp only[Exit.inBlock]
  simp only[uQ,iB]at h2
  split
  · rename_i hi;rw[if_pos hi]at h2;exact⟨hd,h2⟩
  · rename_i hi;rw[if_neg hi]at h2;exact⟨hd,h2⟩
 | _=>exact⟨hd,h2⟩
theorem zB {n:Nat} {K:List Value→World→Prop} (h:K l w):iB n K Q .normal l w:=h
theorem zS {n:Nat} {K:List Value→World→Prop} (h:K l w):iB n K Q (.exit n) l w:=by simpa[iB]using h
theorem K8 {n i:Nat} {K:List Value→World→Prop} (hi:(i==n)=false) (h:Q (.exit i) l w):iB n K Q (.exit i) l w:=by
 have:¬i=n:=by simpa using hi
 simpa[iB,this]using h
theorem vG {n:Nat} {K:List Value→World→Prop} (h:Q .ret l w):iB n K Q .ret l w:=h
def A7 (K:List Value→World→Prop) (Q:vN):vN
 | .normal,l,w=>K l w
 | e,l,w=>Q e l w
theorem zI {K:List Value→World→Prop} (h:K l w):A7 K Q .normal l w:=h
theorem zT {n:Nat} {K:List Value→World→Prop} (h:Q (.exit n) l w):A7 K Q (.exit n) l w:=h
theorem yR {K:List Value→World→Prop} (h:Q .ret l w):A7 K Q .ret l w:=h
theorem zU (I:Nat→List Value→World→Prop) (n₀:Nat) (h₀:I n₀ l w)
 (round:∀ n l w,I n l w→Run P ds [x] (A7 (fun l' w'=>∃ n',n' < n∧I n' l' w') Q) l w):Run P ds (.loop x::cs) Q l w:=by
 refine wp_loop_ghost (fun n a w=>a.defers=ds∧I n a.tmps.toList w) n₀ ⟨rfl,h₀⟩ ?_
 rintro n ⟨t,d⟩ w' ⟨hd,hI⟩
 simp only at hd
 subst hd
 refine Go.wp_mono (round n _ _ hI) ?_
 rintro e a w2 ⟨hd,h2⟩
 cases e with
 | normal=>exact(let ⟨n',hn,hI'⟩:=h2;⟨n',hn,hd,hI'⟩)
 | _=>exact⟨hd,h2⟩
theorem zJ {n:Nat} {os:List Oper} (h:Ops P ds os (Run P ds cs Q) Q os l w):Run P ds (.region n os.toArray false::cs) Q l w:=by
 refine wp_region_lit ?_
 have e:(Exit.then (fun(a:Act) w'=>a.defers=ds∧Run P ds cs Q a.tmps.toList w') (fun e a w'=>a.defers=ds∧Q e a.tmps.toList w'))=
  fun e (a:Act) w'=>a.defers=ds∧uQ (Run P ds cs Q) Q e a.tmps.toList w':=by
  funext e a w';cases e <;>rfl
 rw[← e]
 exact h
theorem yD {all:List Oper} {K:List Value→World→Prop} (h:K l w):Ops P ds all K Q [] l w:=wpList_nil ⟨rfl,h⟩
theorem still_mono {all:List Oper} {K K':Act→Prop} (hk:∀ a,K a→K' a):∀ (os:List Oper) (a:Act),wpStill P all.toArray w K os a→wpStill P all.toArray w K' os a
 | [],_,h=>hk _ h
 | o::os,a,h=>by
  unfold wpStill at h ⊢
  split
  · rename_i hw;rw[if_pos hw]at h;exact Oper.still_mono (fun a h=>still_mono hk os a h) h
  · rename_i hw;rw[if_neg hw]at h;exact still_mono hk os _ h
theorem uT {n:Nat} {os:List Oper} (hm:P.follows .mixedOrders=true) (hB:Region.lexB .any os.toArray=true)
 (h:∀ w',w'={ w with drawn:=w.drawn+1 }→yT P ds os w' (fun l'=>Run P ds cs Q l' w') os l):Run P ds (.region n os.toArray true::cs) Q l w:=by
 refine wp_region_still_lit hm hB ?_
 exact h _ rfl
end code
abbrev Ent :=Option Nat×TypeId×List Value
def qR (w0 w:World) (S:List Nat) (e:Ent):Prop:=
 match e.1 with
 | none=>e.2.2=[]
 | some g=>w.heap[g]? =some (.cells e.2.2.toArray e.2.1 (0,0))∧(g∈S∨w0.heap.size≤g)
structure Hp (w0 w:World) (S:List Nat) (es:List Ent):Prop where
 os:w.os=w0.os
 tape:w.tape=w0.tape
 output:w.output=w0.output
 size:w0.heap.size≤w.heap.size
 frame:∀ k,k < w0.heap.size→k∉S→w.heap[k]? =w0.heap[k]?
 ent:∀ (i:Nat) (e:Ent),es[i]? =some e→qR w0 w S e
 apart:∀ (i j:Nat) (e f:Ent) (g:Nat),es[i]? =some e→es[j]? =some f→e.1=some g→f.1=some g→i=j
abbrev hd (g:Option Nat):Option Addr:=g.map fun b=>⟨b,0,none⟩
section mem
variable {w0 w w':World} {S S':List Nat} {es es':List Ent} {i:Nat} {g:Nat} {T:TypeId} {cs:List Value}
theorem Hp.refl (w:World):Hp w w [] []:=⟨rfl,rfl,rfl,Nat.le_refl _,fun _ _ _=>rfl,by simp,by simp⟩
theorem Hp.at (H:Hp w0 w S es) (he:es[i]? =some (some g,T,cs)):w.heap[g]? =some (.cells cs.toArray T (0,0)):=(H.ent i _ he).1
theorem Hp.lt (H:Hp w0 w S es) (he:es[i]? =some (some g,T,cs)):g < w.heap.size:=(Array.getElem?_eq_some_iff.1 (H.at he)).1
theorem Hp.place (H:Hp w0 w S es) (he:es[i]? =some (some g,T,cs)):g∈S∨w0.heap.size≤g:=(H.ent i _ he).2
theorem Hp.none_ (H:Hp w0 w S es) (he:es[i]? =some (none,T,cs)):cs=[]:=H.ent i _ he
theorem Hp.cell (H:Hp w0 w S es) (he:es[i]? =some (some g,T,cs)) {o:Nat} {v:Value} (hv:cs[o]? =some v):w.cell? ⟨g,o,none⟩=some v:=by
 simp[World.cell?,H.at he,hv]
theorem Hp.drew (H:Hp w0 w S es):Hp w0 { w with drawn:=w.drawn+1 } S es:=⟨H.os,H.tape,H.output,H.size,H.frame,H.ent,H.apart⟩
theorem lt_of_get {α:Type} {l:List α} {i:Nat} {x:α} (h:l[i]? =some x):i < l.length:=(List.getElem?_eq_some_iff.1 h).1
theorem Hp.Ll (H:Hp w0 w S es) {e:Ent} (he:es[i]? =some e) {g:Nat} (hg:e.1=some g):g < w.heap.size:=by
 obtain⟨a,b,c⟩:=e
 simp only at hg
 subst hg
 exact H.lt he
theorem Hp.alloc (H:Hp w0 w S es) (T:TypeId) (cs:List Value):Hp w0 (w.alloc (.cells cs.toArray T)) S (es++[(some w.heap.size,T,cs)]):=by
 refine⟨H.os,H.tape,H.output,?_,?_,?_,?_⟩
 · have:=H.size;simp;omega
 · intro k hk hS
   rw[heap_alloc_old w _ (by have:=H.size;omega)]
   exact H.frame k hk hS
 · intro i e he
   rcases Nat.lt_or_ge i es.length with hi | hi
   · rw[List.getElem?_append_left hi]at he
     have h:=H.ent i e he
     unfold qR at h ⊢
     split
     · rename_i hn;rw[hn]at h;exact h
     · rename_i g hg
       rw[hg]at h
       exact⟨by rw[heap_alloc_old w _ (H.Ll he hg)];exact h.1,h.2⟩
   · rw[List.getElem?_append_right hi]at he
     cases hj:i - es.length with
     | zero=>
      rw[hj]at he
      simp at he
      subst he
      exact⟨heap_alloc_new w _,.inr H.size⟩
     | succ n=>rw[hj]at he;simp at he
 · intro i j e f g hi hj hge hgf
   have key:∀ (i:Nat) (e:Ent),(es++[(some w.heap.size,T,cs)])[i]? =some e→e.1=some g→(i < es.length∧es[i]? =some e∧g < w.heap.size)∨(i=es.length∧g=w.heap.size):=by
    intro i e hi hg
    rcases Nat.lt_or_ge i es.length with h | h
    · rw[List.getElem?_append_left h]at hi
      exact .inl ⟨h,hi,H.Ll hi hg⟩
    · rw[List.getElem?_append_right h]at hi
      cases hk:i - es.length with
      | zero=>
       rw[hk]at hi
       simp at hi
       subst hi
       simp only[Option.some.injEq]at hg
       exact .inr ⟨by omega,hg.symm⟩
      | succ n=>rw[hk]at hi;simp at hi
   rcases key i e hi hge with ⟨h1,h2,h3⟩ | ⟨h1,h2⟩ <;>rcases key j f hj hgf with ⟨h4,h5,h6⟩ | ⟨h4,h5⟩
   · exact H.apart i j e f g h2 h5 hge hgf
   · omega
   · omega
   · omega
theorem Hp.nil (H:Hp w0 w S es) (T:TypeId):Hp w0 w S (es++[(none,T,[])]):=by
 have key:∀ (i:Nat) (e:Ent),(es++[((none:Option Nat),T,([]:List Value))])[i]? =some e→es[i]? =some e∨e=(none,T,[]):=by
  intro i e hi
  rcases Nat.lt_or_ge i es.length with h | h
  · rw[List.getElem?_append_left h]at hi;exact .inl hi
  · rw[List.getElem?_append_right h]at hi
    cases hk:i - es.length with
    | zero=>rw[hk]at hi;simp at hi;exact .inr hi.symm
    | succ n=>rw[hk]at hi;simp at hi
 refine⟨H.os,H.tape,H.output,H.size,H.frame,?_,?_⟩
 · intro i e he
   rcases key i e he with h | rfl
   · exact H.ent i e h
   · rfl
 · intro i j e f g hi hj hge hgf
   rcases key i e hi with h | rfl
   · rcases key j f hj with h' | rfl
     · exact H.apart i j e f g h h' hge hgf
     · simp at hgf
   · simp at hge
theorem Hp.pick (H:Hp w0 w S es) (idx:List Nat) (hnd:idx.Nodup):Hp w0 w S (idx.map fun i=>es.getD i (none,0,[])):=by
 have key:∀ (k:Nat) (e:Ent),(idx.map fun i=>es.getD i (none,0,[]))[k]? =some e→∃ i,idx[k]? =some i∧(es[i]? =some e∨e=(none,0,[])):=by
  intro k e hk
  rw[List.getElem?_map]at hk
  cases hi:idx[k]? with
  | none=>rw[hi]at hk;simp at hk
  | some i=>
   rw[hi]at hk
   simp only[Option.map_some,Option.some.injEq]at hk
   refine⟨i,Y,?_⟩
   cases he:es[i]? with
   | none=>rw[List.getD_eq_getElem?_getD,he]at hk;exact .inr hk.symm
   | some x=>rw[List.getD_eq_getElem?_getD,he]at hk;simp only[Option.getD_some]at hk;subst hk;exact .inl rfl
 refine⟨H.os,H.tape,H.output,H.size,H.frame,?_,?_⟩
 · intro k e he
   obtain⟨i,_,h | rfl⟩:=key k e he
   · exact H.ent i e h
   · rfl
 · intro a b e f g ha hb hge hgf
   obtain⟨i,hi,h | rfl⟩:=key a e ha
   · obtain⟨j,hj,h' | rfl⟩:=key b f hb
     · have:=H.apart i j e f g h h' hge hgf
       subst this
       have h1:=List.getElem?_eq_some_iff.1 hi
       have h2:=List.getElem?_eq_some_iff.1 hj
       obtain⟨x1,x2⟩:=h1
       obtain⟨y1,y2⟩:=h2
       have hp:=List.pairwise_iff_getElem.1 hnd
       rcases Nat.lt_trichotomy a b with hab | hab | hab
       · exact absurd (x2.trans y2.symm) (hp a b x1 y1 hab)
       · exact hab
       · exact absurd (y2.trans x2.symm) (hp b a y1 x1 hab)
     · simp at hgf
   · simp at hge
theorem Hp.setRow (H:Hp w0 w S es) (he:es[i]? =some (some g,T,cs)) (cs':List Value):Hp w0 (w.setRow g cs'.toArray) S (es.set i (some g,T,cs')):=by
 have hne:∀ (j:Nat) (e:Ent) (h:Nat),es[j]? =some e→e.1=some h→j≠i→h≠g:=by
  intro j e h hj hh hji heq
  subst heq
  exact hji (H.apart j i _ _ h hj he hh Y)
 refine⟨H.os,H.tape,H.output,by simpa using H.size,?_,?_,?_⟩
 · intro k hk hS
   have hkg:k≠g:=by
    rintro rfl
    rcases H.place he with h | h
    · exact hS h
    · omega
   rw[setRow_other _ _ _ _ hkg]
   exact H.frame k hk hS
 · intro j e hj
   rw[List.getElem?_set]at hj
   split at hj
   · rename_i hij
     split at hj
     · simp only[Option.some.injEq]at hj
       subst hj
       exact⟨setRow_heap _ _ _ _ _ _ (H.at he),H.place he⟩
     · simp at hj
   · rename_i hij
     have h:=H.ent j e hj
     unfold qR at h ⊢
     split
     · rename_i hn;rw[hn]at h;exact h
     · rename_i k hk
       rw[hk]at h
       exact⟨by rw[setRow_other _ _ _ _ (hne j e k hj hk (Ne.symm hij))];exact h.1,h.2⟩
 · have key:∀ (j:Nat) (e:Ent),(es.set i (some g,T,cs'))[j]? =some e→∃ e':Ent,es[j]? =some e'∧e'.1=e.1:=by
    intro j e hj
    rw[List.getElem?_set]at hj
    split at hj
    · rename_i hij
      split at hj
      · simp only[Option.some.injEq]at hj;subst hj;exact⟨(some g,T,cs),by rw[← hij];exact he,rfl⟩
      · simp at hj
    · exact⟨e,hj,Y⟩
   intro a b e f k ha hb hge hgf
   obtain⟨e',he',h1⟩:=key a e ha
   obtain⟨f',hf',h2⟩:=key b f hb
   exact H.apart a b e' f' k he' hf' (h1.trans hge) (h2.trans hgf)
def kill (es:List Ent):List Nat→List Ent
 | []=>es
 | i::is=>(kill es is).set i (none,0,[])
theorem Jj :∀ (is:List Nat) (j:Nat) (e:Ent),(kill es is)[j]? =some e→(es[j]? =some e∧j∉is)∨e=(none,0,[])
 | [],j,e,h=> .inl ⟨h,by simp⟩
 | i::is,j,e,h=>by
  simp only[kill]at h
  rw[List.getElem?_set]at h
  split at h
  · split at h
    · simp only[Option.some.injEq]at h;exact .inr h.symm
    · simp at h
  · rename_i hij
    rcases Jj is j e h with ⟨h1,h2⟩ | h1
    · exact .inl ⟨h1,by simp[h2,Ne.symm hij]⟩
    · exact .inr h1
theorem Hp.call (H:Hp w0 w S es) (H':Hp w w' S' es') (is:List Nat) (hS:∀ b∈S',∃ i∈is,∃ T cs,es[i]? =some (some b,T,cs)):Hp w0 w' S (kill es is++es'):=by
 have hold:∀ b,b∈S'→b∈S∨w0.heap.size≤b:=by
  intro b hb
  obtain⟨i,_,T,cs,he⟩:=hS b hb
  exact H.place he
 have hk:∀ (j:Nat) (e:Ent) (h:Nat),(kill es is)[j]? =some e→e.1=some h→es[j]? =some e∧h∉S'∧h < w.heap.size:=by
  intro j e h hj hh
  rcases Jj is j e hj with ⟨h1,h2⟩ | rfl
  · refine⟨h1,?_,H.Ll h1 hh⟩
    intro hb
    obtain⟨i,hi,T,cs,he⟩:=hS h hb
    have:=H.apart j i e _ h h1 he hh rfl
    subst this
    exact h2 hi
  · simp at hh
 have hlen:(kill es is).length=es.length:=by
  clear hk hS
  induction is with
  | nil=>rfl
  | cons i is ih=>simp[kill,ih]
 refine⟨H'.os.trans H.os,H'.tape.trans H.tape,H'.output.trans H.output,Nat.le_trans H.size H'.size,?_,?_,?_⟩
 · intro k hk0 Je
   rw[H'.frame k (by have:=H.size;omega) (fun hb=>by rcases hold k hb with h | h;exact Je h;omega)]
   exact H.frame k hk0 Je
 · intro j e hj
   rcases Nat.lt_or_ge j (kill es is).length with h | h
   · rw[List.getElem?_append_left h]at hj
     unfold qR
     split
     · rename_i hn
       rcases Jj is j e hj with ⟨h1,_⟩ | rfl
       · have:=H.ent j e h1;unfold qR at this;rw[hn]at this;exact this
       · rfl
     · rename_i k hk'
       obtain⟨h1,h2,h3⟩:=hk j e k hj hk'
       have:=H.ent j e h1
       unfold qR at this
       rw[hk']at this
       exact⟨by rw[H'.frame k h3 h2];exact this.1,this.2⟩
   · rw[List.getElem?_append_right h]at hj
     have:=H'.ent _ e hj
     unfold qR at this ⊢
     split
     · rename_i hn;rw[hn]at this;exact this
     · rename_i k hk'
       rw[hk']at this
       refine⟨this.1,?_⟩
       rcases this.2 with h1 | h1
       · exact hold k h1
       · exact .inr (Nat.le_trans H.size h1)
 · have key:∀ (j:Nat) (e:Ent) (g:Nat),(kill es is++es')[j]? =some e→e.1=some g→(j < es.length∧es[j]? =some e∧g∉S'∧g < w.heap.size)∨(es.length≤j∧es'[j - es.length]? =some e∧(g∈S'∨w.heap.size≤g)):=by
    intro j e g hj hg
    rcases Nat.lt_or_ge j (kill es is).length with h | h
    · rw[List.getElem?_append_left h]at hj
      exact .inl ⟨by omega,hk j e g hj hg⟩
    · rw[List.getElem?_append_right h,hlen]at hj
      have:=H'.ent _ e hj
      unfold qR at this
      rw[hg]at this
      exact .inr ⟨by omega,hj,this.2⟩
   intro a b e f g ha hb hge hgf
   rcases key a e g ha hge with ⟨_,h2,h3,h4⟩ | ⟨h1,h2,h3⟩ <;>rcases key b f g hb hgf with ⟨_,h6,h7,h8⟩ | ⟨h5,h6,h7⟩
   · exact H.apart a b e f g h2 h6 hge hgf
   · rcases h7 with h | h
     · exact absurd h h3
     · omega
   · rcases h3 with h | h
     · exact absurd h h7
     · omega
   · have:=H'.apart _ _ e f g h2 h6 hge hgf
     omega
theorem Hp.call0 (H:Hp w0 w S es) (H':Hp w w' [] es'):Hp w0 w' S (es++es'):=H.call H' [] (by simp)
theorem Hp.call1 (H:Hp w0 w S es) (he:es[i]? =some (some g,T,cs)) (H':Hp w w' [g] es'):Hp w0 w' S (es.set i (none,0,[])++es'):=
 H.call H' [i] (by intro b hb;simp at hb;subst hb;exact⟨i,by simp,T,cs,he⟩)
theorem Hp.old (hg:w.heap[g]? =some (.cells cs.toArray T (0,0))):Hp w w [g] [(some g,T,cs)]:=by
 refine⟨Y,Y,Y,Nat.le_refl _,fun _ _ _=>Y,?_,?_⟩
 · intro i e he
   cases i with
   | zero=>simp at he;subst he;exact⟨hg,.inl (by simp)⟩
   | succ n=>simp at he
 · intro i j e f _ hi hj _ _
   cases i with
   | zero=>cases j with
    | zero=>rfl
    | succ n=>simp at hj
   | succ n=>simp at hi
theorem Hp.below (H:Hp w0 w [] es):Below w0.heap.size w0 w:=⟨H.os,H.tape,H.output,H.size,fun k hk=>H.frame k hk (by simp)⟩
structure Rd (w:World) (A:Option Addr) (n sz:Nat) (xs:List Value):Prop where
 len:xs.length=n*sz
 cells:∀ a,A=some a→∀ j u,xs[j]? =some u→w.cell? (a.add j)=some u
 nil:A=none→n=0
theorem Rd.to {A:Option Addr} {n sz:Nat} {xs:List Value} (h:Rd w0 A n sz xs) (H:Hp w0 w S es) (hS:∀ a,A=some a→a.block∉S):Rd w A n sz xs:=by
 refine⟨h.len,fun a ha j u hu=>?_,h.nil⟩
 have hc:=h.cells a ha j u hu
 have hb:(a.add j).block=a.block:=by unfold Addr.add;split <;>rfl
 have hlt:=World.block_lt_of_cell? w0 _ hc
 rw[World.cell?_of_block (w:=w0)]
 · exact hc
 · exact H.frame _ hlt (by rw[hb];exact hS a ha)
theorem Rd.to0 {A:Option Addr} {n sz:Nat} {xs:List Value} (h:Rd w0 A n sz xs) (H:Hp w0 w [] es):Rd w A n sz xs:=h.to H (by simp)
theorem Hp.rd (H:Hp w0 w S es) {o:Option Nat} {xs sp:List Value} (he:es[i]? =some (o,T,xs++sp)) {n sz:Nat} (hn:xs.length=n*sz) (hz:0 < sz):Rd w (hd o) n sz xs:=by
 cases o with
 | none=>
  have:=H.none_ he
  have hx:xs=[]:=(List.append_eq_nil_iff.1 this).1
  subst hx
  refine⟨hn,by simp[hd],fun _=>?_⟩
  simp only[List.length_nil]at hn
  rcases Nat.mul_eq_zero.1 hn.symm with h | h
  · exact h
  · omega
 | some g=>
  refine⟨hn,fun a ha j u hu=>?_,by simp[hd]⟩
  simp only[hd,Option.map_some,Option.some.injEq]at ha
  subst ha
  rw[Addr.add_lit,Nat.zero_add]
  refine H.cell he ?_
  rw[List.getElem?_append_left (lt_of_get hu)]
  exact hu
theorem tQ (a:Addr) (i j:Nat):(a.add i).add j=a.add (i+j):=by
 unfold Addr.add
 by_cases hi:i=0 <;>by_cases hj:j=0 <;>simp[hi,hj,Nat.add_assoc]
theorem Rd.cut {A:Option Addr} {n sz:Nat} {xs:List Value} (h:Rd w A n sz xs) (lo hi mx:Nat) (h1:lo≤hi) (h2:hi≤n) (h3:hi≤mx):
 Rd w (if mx=lo then A else A.map (·.add (lo*sz))) (hi - lo) sz ((xs.drop (lo*sz)).take ((hi - lo)*sz)):=by
 refine⟨?_,?_,?_⟩
 · rw[List.length_take,List.length_drop,h.len,← Nat.sub_mul]
   exact Nat.min_eq_left (Nat.mul_le_mul_right _ (by omega))
 · intro a ha j u hu
   by_cases hm:mx=lo
   · have:hi - lo=0:=by omega
     rw[this]at hu
     simp at hu
   · rw[if_neg hm]at ha
     cases A with
     | none=>simp at ha
     | some b=>
      simp only[Option.map_some,Option.some.injEq]at ha
      subst ha
      rw[tQ]
      refine h.cells b Y _ u ?_
      rw[List.getElem?_take]at hu
      split at hu
      · rwa [List.getElem?_drop]at hu
      · cases hu
 · intro hA
   by_cases hm:mx=lo
   · omega
   · rw[if_neg hm]at hA
     cases A with
     | none=>have:=h.nil rfl;omega
     | some b=>simp at hA
theorem Rd.none_ (w:World) (sz:Nat):Rd w none 0 sz []:=⟨by simp,by simp,fun _=>rfl⟩
theorem Rd.some_ {A:Option Addr} {n sz:Nat} {xs:List Value} (h:Rd w A n sz xs) (hn:0 < n):∃ a,A=some a:=by
 cases A with
 | none=>have:=h.nil rfl;omega
 | some a=>exact⟨a,rfl⟩
end mem
def Ex (P:Program) (l:List Value) (op:Op) (ty:TypeId) (w:World) (nx:Next) (w':World):Prop:=
 ∀ d pos af g,(execOp (rho l) ⟨d,op,ty,pos,af,g⟩).run P w=.ok nx w'
section steps
variable {P:Program} {ds:List Deferred} {Q:vN} {K:List Value→World→Prop} {all os:List Oper} {l:List Value} {w w':World} {op:Op} {ty:TypeId} {pos:String} {af:Array Edge} {d:Tmp} {v:Value}
theorem tF (l:List Value) (ds:List Deferred) (d:Tmp) (v:Value):(⟨l.toArray,ds⟩:Act).put (some d) v=⟨(l.set d v).toArray,ds⟩:=by
 simp[Act.put]
theorem zD (hx:Ex P l op ty w (.value v) w') (h:Ops P ds all K Q os (l.set d v) w'):Ops P ds all K Q (⟨some d,op,ty,pos,af,none⟩::os) l w:=by
 refine wpList_plain Y fun K' hK=>?_
 unfold Oper.wp
 rw[tU,hx,Oper.upon_value]
 refine hK _ _ ?_
 rw[tF]
 exact h
theorem DF (hx:Ex P l op ty w .skip w') (h:Ops P ds all K Q os l w'):Ops P ds all K Q (⟨none,op,ty,pos,af,none⟩::os) l w:=by
 refine wpList_plain Y fun K' hK=>?_
 unfold Oper.wp
 rw[tU,hx,Oper.upon_skip]
 exact hK _ _ h
theorem tE {f:FuncId} {args:Array Value} {R:Value→World→Prop} (hx:Ex P l op ty w (.enter f args) w) (hc:zP P f args w R)
 (h:∀ v w',R v w'→Ops P ds all K Q os (l.set d v) w'):Ops P ds all K Q (⟨some d,op,ty,pos,af,none⟩::os) l w:=by
 refine wpList_plain Y fun K' hK=>?_
 unfold Oper.wp
 rw[tU,hx,Oper.upon_enter]
 refine Calls.mono hc ?_
 rintro e w2 ⟨v,rfl,hR⟩
 refine hK _ _ ?_
 rw[tF]
 exact h v w2 hR
theorem wP {f:FuncId} {args:Array Value} (hx:Ex P l op ty w (.enter f args) w) (hc:zP P f args w fun r w'=>r=v∧w'=w)
 (h:Ops P ds all K Q os (l.set d v) w):Ops P ds all K Q (⟨some d,op,ty,pos,af,none⟩::os) l w:=
 tE hx hc fun r w' ⟨h1,h2⟩=>by rw[h1,h2];exact h
theorem qV {f:FuncId} {args:Array Value} {R:World→Prop} (hx:Ex P l op ty w (.enter f args) w) (hc:zP P f args w fun r w'=>r=v∧R w')
 (h:∀ w',R w'→Ops P ds all K Q os (l.set d v) w'):Ops P ds all K Q (⟨some d,op,ty,pos,af,none⟩::os) l w:=
 tE hx hc fun r w' ⟨h1,h2⟩=>by rw[h1];exact h w' h2
theorem mZ {p:Prop} {_:Decidable p} (hx:Ex P l op ty w (.value (.bool (decide p))) w) (hp:p) (h:Ops P ds all K Q os (l.set d (.bool true)) w):Ops P ds all K Q (⟨some d,op,ty,pos,af,none⟩::os) l w:=
 zD hx (by rw[decide_eq_true hp];exact h)
theorem kG {p:Prop} {_:Decidable p} (hx:Ex P l op ty w (.value (.bool (decide p))) w) (hp:¬p) (h:Ops P ds all K Q os (l.set d (.bool false)) w):Ops P ds all K Q (⟨some d,op,ty,pos,af,none⟩::os) l w:=
 zD hx (by rw[decide_eq_false hp];exact h)
theorem vL {p:Prop} {_:Decidable p} (hx:Ex P l op ty w (.value (.bool (decide p))) w) (h1:p→Ops P ds all K Q os (l.set d (.bool true)) w) (h2:¬p→Ops P ds all K Q os (l.set d (.bool false)) w):
 Ops P ds all K Q (⟨some d,op,ty,pos,af,none⟩::os) l w:=by
 by_cases hp:p
 · exact mZ hx hp (h1 hp)
 · exact kG hx hp (h2 hp)
def yes (all:List Oper) (l:List Value) (j:Nat):Option Bool:=
 match all[j]? with
 | some o=>match o.dst with
  | some t=>match nth l t with
   | some (.bool b)=>some b
   | _=>none
  | none=>none
 | none=>none
theorem rY (all:List Oper) (l:List Value) (j:Nat):yielded all.toArray l.toArray j=yes all l j:=by
 simp only[yielded,yes,pK,List.getElem?_toArray]
 cases all[j]? with
 | none=>rfl
 | some o=>
  simp only[Option.bind_some]
  cases o.dst with
  | none=>rfl
  | some t=>simp only[Option.bind_some];cases l[t]? <;>rfl
theorem sG {dst:Option Tmp} {j:Nat} {b:Bool} (hg:yes all l j=some b) (h:Ops P ds all K Q (⟨dst,op,ty,pos,af,none⟩::os) l w):Ops P ds all K Q (⟨dst,op,ty,pos,af,some (j,b)⟩::os) l w:=by
 unfold Ops wpList at h ⊢
 have e1:Region.wanted ⟨dst,op,ty,pos,af,some (j,b)⟩ (yielded all.toArray l.toArray)=true:=by simp[Region.wanted,rY,hg]
 have e2:Region.wanted ⟨dst,op,ty,pos,af,none⟩ (yielded all.toArray l.toArray)=true:=rfl
 rw[if_pos e1]
 rw[if_pos e2]at h
 exact h
theorem ops_no {j:Nat} {b:Bool} (hg:(yes all l j==some b)=false) (h:Ops P ds all K Q os (l.set d undef) w):Ops P ds all K Q (⟨some d,op,ty,pos,af,some (j,b)⟩::os) l w:=by
 refine wpList_skip ?_ ?_
 · simpa[Region.wanted,rY]using hg
 · rw[tF];exact h
variable {KS:List Value→Prop}
theorem xU (h:KS l):yT P ds all w KS [] l:=wpStill_nil ⟨rfl,h⟩
theorem L1 (h:Oper.still P ⟨some d,op,ty,pos,af,none⟩ ⟨l.toArray,ds⟩ w (wpStill P all.toArray w (fun a=>a.defers=ds∧KS a.tmps.toList) os)):yT P ds all w KS (⟨some d,op,ty,pos,af,none⟩::os) l:=h
theorem uG (hx:Ex P l op ty w (.value v) w) (h:yT P ds all w KS os (l.set d v)):yT P ds all w KS (⟨some d,op,ty,pos,af,none⟩::os) l:=by
 refine L1 ?_
 unfold Oper.still
 rw[tU,hx,Oper.stillUpon_value,tF]
 exact h
theorem FF {p:Prop} {_:Decidable p} (hx:Ex P l op ty w (.value (.bool (decide p))) w) (hp:p) (h:yT P ds all w KS os (l.set d (.bool true))):yT P ds all w KS (⟨some d,op,ty,pos,af,none⟩::os) l:=
 uG hx (by rw[decide_eq_true hp];exact h)
theorem CT {p:Prop} {_:Decidable p} (hx:Ex P l op ty w (.value (.bool (decide p))) w) (hp:¬p) (h:yT P ds all w KS os (l.set d (.bool false))):yT P ds all w KS (⟨some d,op,ty,pos,af,none⟩::os) l:=
 uG hx (by rw[decide_eq_false hp];exact h)
theorem vQ {p:Prop} {_:Decidable p} (hx:Ex P l op ty w (.value (.bool (decide p))) w) (h1:p→yT P ds all w KS os (l.set d (.bool true))) (h2:¬p→yT P ds all w KS os (l.set d (.bool false))):
 yT P ds all w KS (⟨some d,op,ty,pos,af,none⟩::os) l:=by
 by_cases hp:p
 · exact FF hx hp (h1 hp)
 · exact CT hx hp (h2 hp)
theorem yQ {dst:Option Tmp} {j:Nat} {b:Bool} (hg:yes all l j=some b) (h:yT P ds all w KS (⟨dst,op,ty,pos,af,none⟩::os) l):yT P ds all w KS (⟨dst,op,ty,pos,af,some (j,b)⟩::os) l:=by
 have e1:Region.wanted ⟨dst,op,ty,pos,af,some (j,b)⟩ (yielded all.toArray l.toArray)=true:=by simp[Region.wanted,rY,hg]
 show(if _ then _ else _)
 rw[if_pos e1]
 exact h
theorem yY {j:Nat} {b:Bool} (hg:(yes all l j==some b)=false) (h:yT P ds all w KS os (l.set d undef)):yT P ds all w KS (⟨some d,op,ty,pos,af,some (j,b)⟩::os) l:=by
 have e1:¬Region.wanted ⟨some d,op,ty,pos,af,some (j,b)⟩ (yielded all.toArray l.toArray)=true:=by simpa[Region.wanted,rY]using hg
 show(if _ then _ else _)
 rw[if_neg e1,tF]
 exact h
end steps
section ex
variable {P:Program} {l:List Value} {w:World} {ty t t':TypeId} {x y z:Operand} {k k':IntKind} {m n r:Int} {b:Bool} {u v:Value}
theorem zK (hx:ev l x=some v):Ex P l (.move x) ty w (.value v) w:=fun _ _ _ _=>by simp[execOp,zV hx]
theorem zO (hx:ev l x=some v):Ex P l (.assign x) ty w (.value v) w:=fun _ _ _ _=>by simp[execOp,zV hx]
theorem xS (hc:ev l x=some (.bool true)) (hx:ev l y=some v):Ex P l (.pick x y z) ty w (.value v) w:=fun _ _ _ _=>by simp[execOp,zV hc,zV hx,asBool]
theorem wT (hc:ev l x=some (.bool false)) (hx:ev l z=some v):Ex P l (.pick x y z) ty w (.value v) w:=fun _ _ _ _=>by simp[execOp,zV hc,zV hx,asBool]
theorem iA (hx:ev l x=some (.bool b)):Ex P l (.unOp .not t x) ty w (.value (.bool (!b))) w:=fun _ _ _ _=>by simp[execOp,zV hx,Op.unary]
theorem zL (hx:ev l x=some (.int k m)) (hy:ev l y=some (.int k n)) (hr:k.wrap (m+n)=r):Ex P l (.binOp .add t x y t') ty w (.value (.int k r)) w:=fun _ _ _ _=>by
 simp[execOp,zV hx,zV hy,binOp,Op.intArith,eqGuard,hr]
theorem uW (hx:ev l x=some (.int k m)) (hy:ev l y=some (.int k n)) (hr:k.wrap (m - n)=r):Ex P l (.binOp .sub t x y t') ty w (.value (.int k r)) w:=fun _ _ _ _=>by
 simp[execOp,zV hx,zV hy,binOp,Op.intArith,eqGuard,hr]
theorem bC (hx:ev l x=some (.int k m)) (hy:ev l y=some (.int k n)) (hr:k.wrap (m*n)=r):Ex P l (.binOp .mul t x y t') ty w (.value (.int k r)) w:=fun _ _ _ _=>by
 simp[execOp,zV hx,zV hy,binOp,Op.intArith,eqGuard,hr]
theorem bB (hx:ev l x=some (.int k m)) (hy:ev l y=some (.int k n)) (h0:n≠0) (hr:k.wrap (m.tdiv n)=r):Ex P l (.binOp .quo t x y t') ty w (.value (.int k r)) w:=fun _ _ _ _=>by
 simp[execOp,zV hx,zV hy,binOp,Op.intDiv,eqGuard,h0,hr]
theorem fP (hx:ev l x=some (.int k m)) (hy:ev l y=some (.int k n)) (h0:n≠0) (hr:m.tmod n=r):Ex P l (.binOp .rem t x y t') ty w (.value (.int k r)) w:=fun _ _ _ _=>by
 simp[execOp,zV hx,zV hy,binOp,Op.intDiv,eqGuard,h0,hr]
theorem F7 (hx:ev l x=some (.int k m)) (hy:ev l y=some (.int k n)) (hr:bits .and k m n=r):Ex P l (.binOp .and t x y t') ty w (.value (.int k r)) w:=fun _ _ _ _=>by
 simp[execOp,zV hx,zV hy,binOp,Op.intBits,eqGuard,← hr,bits]
theorem eH (hx:ev l x=some (.int k m)) (hy:ev l y=some (.int k n)) (hr:bits .or k m n=r):Ex P l (.binOp .or t x y t') ty w (.value (.int k r)) w:=fun _ _ _ _=>by
 simp[execOp,zV hx,zV hy,binOp,Op.intBits,eqGuard,← hr,bits]
theorem D8 (hx:ev l x=some (.int k m)) (hr:bits .xor k (if k.signed then -1 else k.max) m=r):Ex P l (.unOp .xor t x) ty w (.value (.int k r)) w:=fun _ _ _ _=>by
 simp[execOp,zV hx,Op.unary,Op.intBits,← hr,bits]
theorem V4 (hx:ev l x=some (.int k m)) (hr:k.wrap (0 - m)=r):Ex P l (.unOp .neg t x) ty w (.value (.int k r)) w:=fun _ _ _ _=>by
 simp[execOp,zV hx,Op.unary,Op.intArith,← hr]
theorem lN (hx:ev l x=some (.int k m)) (hy:ev l y=some (.int k' n)) (h0:0≤n) (hr:k.wrap (m*2^(min n.toNat k.bits))=r):Ex P l (.binOp .shl t x y t') ty w (.value (.int k r)) w:=fun _ _ _ _=>by
 have h0':¬n < 0:=by omega
 simp[execOp,zV hx,zV hy,binOp,Op.shift,eqGuard,h0',← hr]
theorem oQ (hx:ev l x=some (.int k m)) (hy:ev l y=some (.int k' n)) (h0:0≤n) (hr:m.fdiv (2^(min n.toNat k.bits))=r):Ex P l (.binOp .shr t x y t') ty w (.value (.int k r)) w:=fun _ _ _ _=>by
 have h0':¬n < 0:=by omega
 simp[execOp,zV hx,zV hy,binOp,Op.shift,eqGuard,h0',← hr]
theorem zQ (hx:ev l x=some (.int k m)) (hy:ev l y=some (.int k n)):Ex P l (.binOp .lss t x y t') ty w (.value (.bool (decide (m < n)))) w:=fun _ _ _ _=>by
 simp[execOp,zV hx,zV hy,binOp,Op.intCmp,eqGuard]
theorem tB (hx:ev l x=some (.int k m)) (hy:ev l y=some (.int k n)):Ex P l (.binOp .leq t x y t') ty w (.value (.bool (decide (m≤n)))) w:=fun _ _ _ _=>by
 simp[execOp,zV hx,zV hy,binOp,Op.intCmp,eqGuard]
theorem yO (hx:ev l x=some (.int k m)) (hy:ev l y=some (.int k n)):Ex P l (.binOp .gtr t x y t') ty w (.value (.bool (decide (n < m)))) w:=fun _ _ _ _=>by
 simp[execOp,zV hx,zV hy,binOp,Op.intCmp,eqGuard]
theorem wL (hx:ev l x=some (.int k m)) (hy:ev l y=some (.int k n)):Ex P l (.binOp .geq t x y t') ty w (.value (.bool (decide (n≤m)))) w:=fun _ _ _ _=>by
 simp[execOp,zV hx,zV hy,binOp,Op.intCmp,eqGuard]
theorem xP (hx:ev l x=some (.int k m)) (hy:ev l y=some (.int k n)):Ex P l (.binOp .eql t x y t') ty w (.value (.bool (decide (m=n)))) w:=fun _ _ _ _=>by
 simp[execOp,zV hx,zV hy,binOp,Op.intCmp,eqGuard]
 rfl
theorem yS (hx:ev l x=some (.int k m)) (hy:ev l y=some (.int k n)):Ex P l (.binOp .neq t x y t') ty w (.value (.bool (decide (m≠n)))) w:=fun _ _ _ _=>by
 simp[execOp,zV hx,zV hy,binOp,Op.intCmp,eqGuard,bne]
 rfl
theorem xJ (hd:P.underlying t'=some (.int k)) (hs:P.underlying t=some (.int k')) {k2:IntKind} (hx:ev l x=some (.int k2 m)) (hr:k.wrap m=r):Ex P l (.convert t t' x) ty w (.value (.int k r)) w:=fun _ _ _ _=>by
 simp[execOp,zV hx,convert,run_underlying hd,run_underlying hs,Conv.intToInt,hr]
theorem yI {a:Addr} (hx:ev l x=some (.pointer (some a))):Ex P l (.nilCheck x) ty w (.value (.pointer (some a))) w:=fun _ _ _ _=>by
 simp[execOp,zV hx]
theorem xA {vs:List Value} {i:Nat} (hx:ev l x=some (.tuple vs.toArray)) (hi:vs[i]? =some v):Ex P l (.extract x i) ty w (.value v) w:=fun _ _ _ _=>by
 simp[execOp,zV hx,Instr.extract,hi]
theorem wK {fn:Fn} {xs ys:List Operand} {us vs:List Value} (h1:evs l xs=some us) (h2:evs l ys=some vs):Ex P l (.makeFunc fn xs.toArray ys.toArray) ty w (.value (.func fn us.toArray vs.toArray)) w:=fun _ _ _ _=>by
 simp[execOp,Instr.makeFunc,nO h1,nO h2]
theorem tC {e:TypeId} {A:Option Addr} {n c:Nat} {ats:Array TypeId} (ht:(ats[0]?).bind P.underlying=some (.slice e)) (hx:ev l x=some (.slice A n c)):
 Ex P l (.call { callee:=.builtin .len,args:=#[x],argTypes:=ats }) ty w (.value (.int .i64 n)) w:=fun _ _ _ _=>by
 cases ha:ats[0]? with
 | none=>rw[ha]at ht;simp at ht
 | some s=>
  rw[ha]at ht
  simp only[Option.bind_some]at ht
  simp[execOp,resolve,invoke,builtin,zV hx,Builtin.len_,ha,run_underlying ht,goInt]
theorem mH {e:TypeId} {A:Option Addr} {n c:Nat} {ats:Array TypeId} (ht:(ats[0]?).bind P.underlying=some (.slice e)) (hx:ev l x=some (.slice A n c)):
 Ex P l (.call { callee:=.builtin .cap,args:=#[x],argTypes:=ats }) ty w (.value (.int .i64 c)) w:=fun _ _ _ _=>by
 cases ha:ats[0]? with
 | none=>rw[ha]at ht;simp at ht
 | some s=>
  rw[ha]at ht
  simp only[Option.bind_some]at ht
  simp[execOp,resolve,invoke,builtin,zV hx,Builtin.cap_,ha,run_underlying ht,goInt]
theorem oR {s:ByteArray} {ats:Array TypeId} (ht:(ats[0]?).bind P.underlying=some .string) (hx:ev l x=some (.string s)):
 Ex P l (.call { callee:=.builtin .len,args:=#[x],argTypes:=ats }) ty w (.value (.int .i64 s.size)) w:=fun _ _ _ _=>by
 cases ha:ats[0]? with
 | none=>rw[ha]at ht;simp at ht
 | some u=>
  rw[ha]at ht
  simp only[Option.bind_some]at ht
  simp[execOp,resolve,invoke,builtin,zV hx,Builtin.len_,ha,run_underlying ht,goInt]
theorem PE {ats:Array TypeId} (hx:ev l x=some (.int k m)) (hy:ev l y=some (.int k n)):
 Ex P l (.call { callee:=.builtin .max,args:=#[x,y],argTypes:=ats }) ty w (.value (.int k (max m n))) w:=fun _ _ _ _=>by
 simp[execOp,resolve,invoke,builtin,zV hx,zV hy,Builtin.max_,Builtin.max2]
 by_cases h:m < n
 · rw[if_pos h];omega
 · rw[if_neg h];omega
theorem PD {ats:Array TypeId} (hx:ev l x=some (.int k m)) (hy:ev l y=some (.int k n)):
 Ex P l (.call { callee:=.builtin .min,args:=#[x,y],argTypes:=ats }) ty w (.value (.int k (min m n))) w:=fun _ _ _ _=>by
 simp[execOp,resolve,invoke,builtin,zV hx,zV hy,Builtin.min_,Builtin.min2]
 by_cases h:n < m
 · rw[if_pos h];omega
 · rw[if_neg h];omega
theorem A6 {f:FuncId} {fn:Func} {c:Code} (hf:P.funcs[f]? =some fn) (hb:fn.body=some c) (hn:(fn.name== "runtime.NumGoroutine")=false) (args:Array Value):(callFunc f args).run P w=.ok (.enter f args) w:=by
 have hn':¬fn.name= "runtime.NumGoroutine":=by simpa using hn
 simp[callFunc,hf,hb,program,Sem.run,hn']
def yB (P:Program) (f:FuncId):Bool:=match P.funcs[f]? with
 | some fn=>fn.body.isSome && !(fn.name== "runtime.NumGoroutine")
 | none=>false
theorem iG {f:FuncId} (h:yB P f=true) (args:Array Value):(callFunc f args).run P w=.ok (.enter f args) w:=by
 unfold yB at h
 split at h
 · rename_i fn hf
   simp only[Bool.and_eq_true,Bool.not_eq_true',Option.isSome_iff_exists]at h
   obtain⟨⟨c,hc⟩,hn⟩:=h
   exact A6 hf hc hn args
 · cases h
theorem mI {f:FuncId} (hf:yB P f=true) {xs:List Operand} {vs:List Value} {ats:Array TypeId} (hx:evs l xs=some vs):
 Ex P l (.call { callee:=.value (.func f),args:=xs.toArray,argTypes:=ats }) ty w (.enter f vs.toArray) w:=fun _ _ _ _=>by
 have hr:rho l (.func f)=.func (.func f) #[] #[]:=rfl
 simp[execOp,resolve,Deferred.ofValue,invoke,nO hx,iG hf,hr]
theorem xI {f:FuncId} (hf:yB P f=true) {xs:List Operand} {vs cap:List Value} {ats:Array TypeId} (hc:ev l x=some (.func (.func f) #[] cap.toArray)) (hx:evs l xs=some vs):
 Ex P l (.call { callee:=.value x,args:=xs.toArray,argTypes:=ats }) ty w (.enter f (vs++cap).toArray) w:=fun _ _ _ _=>by
 simp[execOp,resolve,Deferred.ofValue,invoke,nO hx,iG hf,zV hc]
def Yc (P:Program) (t:TypeId):Option (List Value×Nat×Nat×Bool):=
 match P.info? t,P.underlying t with
 | some i,some d=>match i.zero with
  | some z=>if z.cells.toList.length=i.size then some (z.cells.toList,i.size,i.bytes,match d with | .struct _ | .array _ _=>true | _=>false) else none
  | none=>none
 | _,_=>none
structure xT (P:Program) (t:TypeId) (zs:List Value) (sz bytes:Nat) (agg:Bool):Prop where
 len:zs.length=sz
 ex:∃ i z d,P.info? t=some i∧i.zero=some z∧z.cells.toList=zs∧i.size=sz∧i.bytes=bytes∧P.underlying t=some d∧agg=(match d with | .struct _ | .array _ _=>true | _=>false)
theorem uA {t:TypeId} {zs:List Value} {sz bytes:Nat} {agg:Bool} (h:Yc P t=some (zs,sz,bytes,agg)):xT P t zs sz bytes agg:=by
 unfold Yc at h
 split at h
 · rename_i i d hi hd
   split at h
   · rename_i z hz
     split at h
     · rename_i hl
       simp only[Option.some.injEq,Prod.mk.injEq]at h
       exact⟨by rw[← h.1,← h.2.1];exact hl,i,z,d,hi,hz,h.1,h.2.1,h.2.2.1,hd,h.2.2.2.symm⟩
     · cases h
   · cases h
 · cases h
def yH (P:Program) (t:TypeId) (f:Nat):Option (Nat×TypeId):=
 match P.underlying t with
 | some (.struct fs)=>match fs[f]? with
  | some fd=>match P.info? fd.type with
   | some i=>if i.size=0 then none else some (fd.offset,fd.type)
   | none=>none
  | none=>none
 | _=>none
variable {zs:List Value} {sz bytes:Nat} {agg:Bool}
theorem gW (h:xT P t zs sz bytes agg):(isAgg t).run P w=.ok agg w:=by
 obtain⟨i,z,d,hi,hz,_,_,_,hd,rfl⟩:=h.ex
 simp only[isAgg,Sem.run_bind,run_underlying hd,Result.andThen_ok]
 cases d <;>rfl
theorem vF (h:xT P t zs sz bytes agg):(sizeOf t).run P w=.ok sz w:=by
 obtain⟨i,z,d,hi,hz,_,rfl,_,hd,rfl⟩:=h.ex
 simp[sizeOf,typeInfo,hi]
theorem qU (h:xT P t zs sz bytes false) {p:Addr} (hc:w.cell? p=some v):(loadVar t p).run P w=.ok v w:=by
 simp only[loadVar,Sem.run_bind,gW h,Result.andThen_ok]
 simp[load,Sem.run,hc]
theorem qT (h:xT P t zs sz bytes true) {p:Addr} {vs:List Value} (hl:vs.length=sz) (hc:∀ j u,vs[j]? =some u→w.cell? (p.add j)=some u):(loadVar t p).run P w=.ok (.agg vs.toArray) w:=by
 have hr:=run_loadCells_list (P:=P) w p vs hc
 simp[loadVar,gW h,vF h,← hl,hr]
theorem iX (h:xT P t zs sz bytes false) {p:Addr} (hx:ev l x=some (.pointer (some p))) (hc:w.cell? p=some v):Ex P l (.load t x) ty w (.value v) w:=fun _ _ _ _=>by
 simp[execOp,zV hx,Instr.loadAt,Instr.sureAddr,qU h hc]
theorem D7 (h:xT P t zs sz bytes true) {p:Addr} (hx:ev l x=some (.pointer (some p))) {vs:List Value} (hl:vs.length=sz) (hc:∀ j u,vs[j]? =some u→w.cell? (p.add j)=some u):Ex P l (.load t x) ty w (.value (.agg vs.toArray)) w:=fun _ _ _ _=>by
 simp[execOp,zV hx,Instr.loadAt,Instr.sureAddr,qT h hl hc]
theorem rR {f off:Nat} {ft:TypeId} (h:yH P t f=some (off,ft)) {b o:Nat} (hx:ev l x=some (.pointer (some ⟨b,o,none⟩))):Ex P l (.fieldAddr t x f) ty w (.value (.pointer (some ⟨b,o+off,none⟩))) w:=fun _ _ _ _=>by
 unfold yH at h
 split at h
 · rename_i fs hu
   split at h
   · rename_i fd hfd
     split at h
     · rename_i i hi
       split at h
       · cases h
       · rename_i hsz
         simp only[Option.some.injEq,Prod.mk.injEq]at h
         obtain⟨rfl,rfl⟩:=h
         simp[execOp,zV hx,Instr.fieldAt,run_underlying hu,hfd,Instr.sureAddr,fieldPlace,sizeOf,typeInfo,hi,hsz,Addr.add_lit]
     · cases h
   · cases h
 · cases h
theorem PF {e:TypeId} (ht:P.underlying t=some (.slice e)) (he:xT P e zs sz bytes agg) {a:Addr} {len c:Nat} (hx:ev l x=some (.slice (some a) len c)) (hy:ev l y=some (.int k n)) (h0:0≤n) (h1:n < len):
 Ex P l (.indexAddr t x y) ty w (.value (.pointer (some (a.add (n.toNat*sz))))) w:=fun _ _ _ _=>by
 have h2:0≤n∧n < len:=⟨h0,h1⟩
 simp[execOp,zV hx,zV hy,Instr.indexAt,asIntOf,run_underlying ht,vF he,h2]
theorem fS {e:TypeId} (ht:P.underlying t=some (.slice e)) (he:xT P e zs sz bytes agg) {a:Addr} {len c i o:Nat} (hx:ev l x=some (.slice (some a) len c)) (hy:ev l y=some (.int k n)) (hn:n=(i:Int)) (hi:i < len) (ho:i*sz=o):
 Ex P l (.indexAddr t x y) ty w (.value (.pointer (some (a.add o)))) w:=by
 subst hn
 have h:=PF (ty:=ty) (w:=w) ht he hx hy (by omega) (by omega)
 rw[Int.toNat_natCast,ho]at h
 exact h
def wG (A:Option Addr) (lo mx sz:Nat):Option Addr:=if mx=lo then A else A.map (·.add (lo*sz))
theorem ST {e:TypeId} (ht:P.underlying t=some (.slice e)) (he:xT P e zs sz bytes agg) {A:Option Addr} {len c:Nat} {lo hi mx:Int} {kl kh km:IntKind} {xl xh xm:Operand}
 (hx:ev l x=some (.slice A len c)) (hl:ev l xl=some (.int kl lo)) (hh:ev l xh=some (.int kh hi)) (hm:ev l xm=some (.int km mx)) (h:0≤lo∧lo≤hi∧hi≤mx∧mx≤c):
 Ex P l (.slice t x (some xl) (some xh) (some xm)) ty w (.value (.slice (wG A lo.toNat mx.toNat sz) (hi.toNat - lo.toNat) (mx.toNat - lo.toNat))) w:=fun _ _ _ _=>by
 obtain⟨a,rfl⟩:=Int.eq_ofNat_of_zero_le (show 0≤lo by omega)
 obtain⟨b,rfl⟩:=Int.eq_ofNat_of_zero_le (show 0≤hi by omega)
 obtain⟨d,rfl⟩:=Int.eq_ofNat_of_zero_le (show 0≤mx by omega)
 have h1:d≤c:=by omega
 have h2:b≤d:=by omega
 have h3:a≤b:=by omega
 simp[execOp,zV hx,zV hl,zV hh,zV hm,Instr.sliceAt,Instr.slice,run_underlying ht,vF he,Instr.sliceBounds,Instr.sliceBound,asIntOf,h1,h2,h3,wG]
theorem iZ {e:TypeId} (ht:P.underlying t=some (.slice e)) (he:xT P e zs sz bytes agg) {A:Option Addr} {len c:Nat} {hi:Int} {kh:IntKind} {xh:Operand}
 (hx:ev l x=some (.slice A len c)) (hh:ev l xh=some (.int kh hi)) (h:0≤hi∧hi≤c):
 Ex P l (.slice t x none (some xh) none) ty w (.value (.slice A hi.toNat c)) w:=fun _ _ _ _=>by
 obtain⟨b,rfl⟩:=Int.eq_ofNat_of_zero_le (show 0≤hi by omega)
 have h2:b≤c:=by omega
 simp[execOp,zV hx,zV hh,Instr.sliceAt,Instr.slice,run_underlying ht,vF he,Instr.sliceBounds,Instr.sliceBound,asIntOf,h2,Addr.add_zero']
theorem vA {e:TypeId} (ht:P.underlying t=some (.slice e)) (he:xT P e zs sz bytes agg) {A:Option Addr} {len c:Nat} {lo:Int} {kl:IntKind} {xl:Operand}
 (hx:ev l x=some (.slice A len c)) (hl:ev l xl=some (.int kl lo)) (h:0≤lo∧lo≤len):
 Ex P l (.slice t x (some xl) none none) ty w (.value (.slice (wG A lo.toNat c sz) (len - lo.toNat) (c - lo.toNat))) w:=fun _ _ _ _=>by
 obtain⟨a,rfl⟩:=Int.eq_ofNat_of_zero_le (show 0≤lo by omega)
 have h3:a≤len:=by omega
 simp[execOp,zV hx,zV hl,Instr.sliceAt,Instr.slice,run_underlying ht,vF he,Instr.sliceBounds,Instr.sliceBound,asIntOf,h3,wG]
theorem kU {u v:Value} {b:Bool} (hx:ev l x=some u) (hy:ev l y=some v) (hg:eqGuard .eql t x y u v=pure ()) (hb:binOp .eql t u v=(do pure (.bool (← Op.equal t u v)))) (h:∀ d,(Op.equalIn (d+1) t u v).run P w=.ok b w):
 Ex P l (.binOp .eql t x y t') ty w (.value (.bool b)) w:=fun _ _ _ _=>by
 have he:(Op.equal t u v).run P w=.ok b w:=h 9999
 simp only[execOp,zV hx,zV hy,hb,hg]
 simp[he]
theorem fQ {u v:Value} {b:Bool} (hx:ev l x=some u) (hy:ev l y=some v) (hg:eqGuard .neq t x y u v=pure ()) (hb:binOp .neq t u v=(do pure (.bool (!(← Op.equal t u v))))) (h:∀ d,(Op.equalIn (d+1) t u v).run P w=.ok b w):
 Ex P l (.binOp .neq t x y t') ty w (.value (.bool (!b))) w:=fun _ _ _ _=>by
 have he:(Op.equal t u v).run P w=.ok b w:=h 9999
 simp only[execOp,zV hx,zV hy,hb,hg]
 simp[he]
theorem bG {e:TypeId} (ht:P.underlying t=some (.slice e)) (A:Option Addr) (n c:Nat) (d:Nat):(Op.equalIn (d+1) t (.slice A n c) (.slice none 0 0)).run P w=.ok (decide (A=none)) w:=by
 cases A <;>simp[Op.equalIn,run_underlying ht]
theorem hZ {e:TypeId} (ht:P.underlying t=some (.pointer e)) (A:Option Addr) (d:Nat):(Op.equalIn (d+1) t (.pointer A) (.pointer none)).run P w=.ok (decide (A=none)) w:=by
 cases A <;>simp[Op.equalIn,run_underlying ht]
theorem wZ {e:TypeId} (ht:P.underlying t=some (.slice e)) {A:Option Addr} {len c:Nat} (hx:ev l x=some (.slice A len c)):
 Ex P l (.binOp .eql t x (.const (.slice none 0 0)) t') ty w (.value (.bool (decide (A=none)))) w:=
 kU hx rfl rfl rfl (bG ht A len c)
theorem yE {e:TypeId} (ht:P.underlying t=some (.pointer e)) {A:Option Addr} (hx:ev l x=some (.pointer A)):
 Ex P l (.binOp .eql t x (.const (.pointer none)) t') ty w (.value (.bool (decide (A=none)))) w:=
 kU hx rfl rfl rfl (hZ ht A)
theorem uX {e:TypeId} (ht:P.underlying t=some (.pointer e)) {A:Option Addr} (hx:ev l x=some (.pointer A)):
 Ex P l (.binOp .neq t x (.const (.pointer none)) t') ty w (.value (.bool (decide (¬A=none)))) w:=by
 rw[decide_not];exact fQ hx rfl rfl rfl (hZ ht A)
end ex
section
variable {P:Program} {ops:Array Oper} {md:Region.Mode} {w:World} {n m:Nat} {listed:Array Bool}
theorem iN {t j:Nat} (hw:Region.waitsFor md ops t j=true) (hj:listed.getD j true=false):t∉Region.ready md ops listed:=by
 intro hr
 obtain⟨_,ot,hot,hall⟩:=mem_ready.1 hr
 obtain⟨o',ho',e,he,hb,hon⟩:=Region.waitsFor_spec hw
 have:o'=ot:=Option.some.inj (ho'.symm.trans hot)
 subst this
 have h2:=hall e he hb
 rw[hon,getD_both hj]at h2
 cases h2
theorem mV (hs:Region.sinkB md ops n=true) (inv:HeadInv md ops n listed) (hn:n < ops.size):∀ (d i:Nat),n - i≤d→i < n→listed.getD i true=false→n∉Region.ready md ops listed
 | 0,i,h,hi,_=>by omega
 | d+1,i,h,hi,hun=>by
  obtain⟨j,hj,hj2⟩:=List.any_eq_true.1 (List.all_eq_true.1 hs i (List.mem_range.2 hi))
  simp only[Bool.and_eq_true,decide_eq_true_eq]at hj2
  have hjle:j < n+1:=List.mem_range.1 hj
  by_cases hjn:j=n
  · subst hjn;exact iN hj2.2 hun
  · refine mV hs inv hn d j (by omega) (by omega) ?_
    cases hl:listed.getD j false with
    | false=>exact getD_in (by rw[inv.size];omega) hl
    | true=>
     obtain⟨oj,hoj,e,he,hb,hon⟩:=Region.waitsFor_spec hj2.2
     have h2:=inv.closed j oj hoj hl e he hb
     rw[hon,getD_both hun]at h2
     cases h2
def gF (md:Region.Mode) (ops:Array Oper) (n:Nat):Bool:=
 (List.range ops.size).all fun t=>decide (t≤n) || (List.range t).any fun j=>decide (n≤j) && Region.waitsFor md ops t j
theorem cP (hs:Region.sinkB md ops n=true) (hc:gF md ops n=true) (hn:n < ops.size) (inv:HeadInv md ops n listed) {i:Nat} (hi:i < n) (hun:listed.getD i true=false):∀ t,n≤t→t∉Region.ready md ops listed:=by
 intro t ht
 by_cases htn:t=n
 · subst htn;exact mV hs inv hn (t - i) i (Nat.le_refl _) hi hun
 · by_cases htl:t < ops.size
   · have h1:=List.all_eq_true.1 hc t (List.mem_range.2 htl)
     simp only[Bool.or_eq_true,decide_eq_true_eq]at h1
     rcases h1 with h1 | h1
     · omega
     · obtain⟨j,hj,hj2⟩:=List.any_eq_true.1 h1
       simp only[Bool.and_eq_true,decide_eq_true_eq]at hj2
       have:=List.mem_range.1 hj
       exact iN hj2.2 (inv.tail j hj2.1 (by omega))
   · intro hr
     obtain⟨_,ot,hot,_⟩:=mem_ready.1 hr
     exact htl (Array.getElem?_eq_some_iff.1 hot).1
theorem AD {i:Nat} {oi:Oper} {v:Value} {L:Array Bool→Act→Prop} (hi:ops[i]? =some oi) (hsel:∀ (j:Nat) (o:Oper) cs b,ops[j]? =some o→o.op≠ .select cs b) (hin:i < n)
 (hw:∀ listed,HeadInv md ops n listed→listed.getD i true=false→∀ t,n≤t→t∉Region.ready md ops listed) (hdone:∀ listed a,L listed a→∀ j∈Region.ready md ops listed,n≤j):
 ∀ (f:Nat) (listed:Array Bool) (a:Act),HeadInv md ops n listed→
  (∀ j oj,ops[j]? =some oj→j≠i→listed.getD j true=false→(∀ e∈oj.after,Region.binds md e=true→e.on≠i)→oi.apart ops oj=true)→
  i∈Region.ready md ops listed→YieldsAt P ops w oi v a→
  wpAnyL P md ops w n L f (listed.setIfInBounds i true) (a.put oi.dst v)→wpAnyL P md ops w n L (f+1) listed a
 | f,listed,a,inv,hfree,hr,hy,H=>by
  have hun:=(mem_ready.1 hr).1
  refine⟨fun h=>(by rw[h]at hr;cases hr),fun j hj=>?_⟩
  have hjn:j < n:=Nat.lt_of_not_le fun h=>hw listed inv hun j h hj
  refine⟨hjn,?_⟩
  by_cases hji:j=i
  · subst hji;exact hy.stOp hi H
  · cases f with
    | zero=>have:=hdone _ _ H j (ready_mono hj hji);omega
    | succ f=>
     obtain⟨hjun,oj,hoj,hall⟩:=mem_ready.1 hj
     have h2:=stOp_put hoj (hfree j oj hoj hji hjun fun e he hb heq=>by
      have h1:=hall e he hb
      rw[heq,getD_both hun]at h1
      cases h1) (fun cs b=>hsel i oi cs b hi) (fun cs b=>hsel j oj cs b hoj) hy (H.2 j (ready_mono hj hji)).2
     refine stOp_mono (fun a' h3=>AD hi hsel hin hw hdone f (listed.setIfInBounds j true) a' (inv.set hj hjn) (fun k ok hk hki hu hno=>?_) (ready_mono hr (Ne.symm hji)) h3.1 ?_) h2
     · refine hfree k ok hk hki ?_ hno
       by_cases hjk:j=k
       · subst hjk;exact hjun
       · rw[getD_set_ne true hjk]at hu;exact hu
     · rw[Array.setIfInBounds_comm _ _ hji]
       exact h3.2
def FU (md:Region.Mode) (ops:Array Oper):Nat→Nat→Array Bool→Bool
 | 0,k,listed=>Region.lexFrom md ops (ops.size - k) k listed
 | g+1,k,listed=>decide (Region.ready md ops listed=[k]) && FU md ops g (k+1) (listed.setIfInBounds k true)
def DV (md:Region.Mode) (ops:Array Oper) (g:Nat):Nat→Nat→Array Bool→Bool
 | 0,k,listed=>FU md ops (g+1) k listed
 | f+1,k,listed=>(Region.ready md ops listed).contains k && Region.free md ops listed k && DV md ops g f (k+1) (listed.setIfInBounds k true)
def BS (md:Region.Mode) (ops:Array Oper) (n g:Nat):Bool:=
 Region.noSelect ops && decide (n+g < ops.size) && Region.sinkB md ops n && gF md ops n && DV md ops g n 0 (Array.replicate ops.size false)
theorem DU {g:Nat} {Lq:Act→Prop} (hsel:Region.noSelect ops=true) (hs:Region.sinkB md ops n=true) (hc:gF md ops n=true) (hn:n < ops.size):
 ∀ (l:List Oper) (k:Nat) (listed:Array Bool) (a:Act),(∀ j,j < l.length→l[j]? =ops[k+j]?)→k+l.length=n→HeadInv md ops n listed→
 DV md ops g l.length k listed=true→wpStill P ops w Lq l a→
 wpAnyL P md ops w n (fun listed' a'=>FU md ops (g+1) n listed'=true∧Lq a') l.length listed a
 | [],k,listed,a,_,hk,_,hB,h=>by
  have:k=n:=by simpa using hk
  subst this
  exact⟨by simpa[DV]using hB,h⟩
 | o::l,k,listed,a,hl,hk,inv,hB,h=>by
  have h0:ops[k]? =some o:=by simpa using(hl 0 (by simp)).symm
  simp only[List.length_cons,DV,Bool.and_eq_true]at hB
  obtain⟨⟨hr,hf⟩,hB'⟩:=hB
  have hkn:k < n:=by simp only[List.length_cons]at hk;omega
  have hr':k∈Region.ready md ops listed:=by simpa using hr
  have hst:stOp P ops w k (wpStill P ops w Lq l) a:=by unfold stOp;simp only[h0];exact h
  obtain⟨v,hy,hK⟩:=yieldsAt_of_stOp h0 hst
  refine AD h0 (Region.noSelect_spec hsel) hkn (fun listed inv hu=>cP hs hc hn inv hkn hu) (fun listed' a' hL j hj=>?_) l.length listed a inv (Region.free_spec h0 hf) hr' hy
   (DU hsel hs hc hn l (k+1) _ _ (fun j hj=>by have:=hl (j+1) (by simp;omega);simpa[Nat.add_assoc,Nat.add_comm 1 j]using this) (by simp only[List.length_cons]at hk;omega) (inv.set hr' hkn) hB' hK)
  have h1:=hL.1
  simp only[FU,Bool.and_eq_true,decide_eq_true_eq]at h1
  rw[h1.1]at hj
  have:j=n:=by simpa using hj
  omega
theorem mP {o:Oper} {a:Act} {K:Act→World→Prop} {Q1 Q2:Exit→Act→World→Prop} (hq:∀ e a w,e≠ .normal→Q1 e a w→Q2 e a w) (hh:o.wp P a w K Q1):o.wp P a w K Q2:=by
 unfold Oper.wp at*
 generalize (execOp a.eval o).run P w=r at*
 cases r with
 | ok n w'=>
  cases n <;>simp only[Oper.upon]at hh ⊢ <;>
   first
    | exact hh
    | exact Calls.mono hh (fun e w'' he=>by
     cases e with
     | returned v=>exact he
     | panicked c=>exact hq _ _ _ (by simp) he
     | outgrown=>exact(let ⟨a,w,h⟩:=he;⟨a,w,hq _ _ _ (by simp) h⟩))
 | halt x w'=>
  cases x <;>simp only[Oper.upon]at hh ⊢ <;>first | exact hq _ _ _ (by simp) hh | exact hh
theorem HU {Q' : Exit → Act → World → Prop} (hsel : Region.noSelect ops = true) : ∀ (l1 l2 : List Oper) (k : Nat) (listed : Array Bool) (a : Act) (w : World), (∀ j, (l1 ++ l2)[j]? = ops[k + j]?) → ops.size - k = (l1 ++ l2).length →
    FU md ops l1.length k listed = true → wpList P ops (Exit.then (fun a' w' => wpStill P ops w' (fun a'' => Q' .normal a'' w') l2 a') Q') l1 a w →
    wpAny P md ops Q' (l1 ++ l2).length listed a w
  | [], l2, k, listed, a, w, hl, hsz, hB, h => by
    simp only [List.nil_append, List.length_nil, FU] at hl hB hsz ⊢
    rw [hsz] at hB
    exact wpAny_of_still (fun _ h => h) _ _ _ (wpAnyS_lex hsel l2 k listed a hl hB h)
  | o :: l1, l2, k, listed, a, w, hl, hsz, hB, h => by
    have h0 : ops[k]? = some o := by simpa using (hl 0).symm
    simp only [List.length_cons, FU, Bool.and_eq_true, decide_eq_true_eq] at hB
    refine ⟨fun h1 => (by rw [hB.1] at h1; cases h1), fun i hi => ?_⟩
    rw [hB.1] at hi
    have hik : i = k := by simpa using hi
    subst hik
    have ih := fun a' w' h' => HU (Q' := Q') hsel l1 l2 (i + 1) (listed.setIfInBounds i true) a' w' (fun j => by have := hl (j + 1); simpa [Nat.add_assoc, Nat.add_comm 1 j] using this)
      (by simp only [List.cons_append, List.length_cons] at hsz; omega) hB.2 h'
    unfold wpOp
    simp only [h0]
    unfold wpList at h
    split
    · rename_i hw
      rw [if_pos hw] at h
      rcases h with h | ⟨h1, a1, w1, h2⟩
      · exact .inl (Oper.wp_mono ih (mP (fun e a w he h => by cases e <;> first | exact absurd Y he | exact h) h))
      · exact .inr ⟨h1, a1, w1, h2⟩
    · rename_i hw
      rw [if_neg hw] at h
      exact ih _ _ h
theorem bM {id:Nat} {Q:Exit→Act→World→Prop} {a:Act} {l l1 l2 l3:List Oper} (hl:l=l1++(l2++l3)) (n g:Nat) (hn:l1.length=n) (hg:l2.length=g+1) (hm:P.follows .mixedOrders=true) (hB:BS .any l.toArray n g=true)
 (h:wpStill P l.toArray { w with drawn:=w.drawn+1 } (fun a'=>wpList P l.toArray (Exit.then (fun a' w'=>wpStill P l.toArray w' (fun a''=>Q .normal a'' w') l3 a') Q) l2 a' { w with drawn:=w.drawn+1 }) l1 a):(Code.region id l.toArray true).wp P Q a w:=by
 simp only[BS,Bool.and_eq_true,decide_eq_true_eq]at hB
 obtain⟨⟨⟨⟨hsel,hlt⟩,hs⟩,hc⟩,hlex⟩:=hB
 subst hn
 have hlen:l.length=l1.length+(l2.length+l3.length):=by rw[hl];simp
 have hn':l1.length < l.toArray.size:=by simp only[List.size_toArray]at hlt ⊢;omega
 have inv0:HeadInv .any l.toArray l1.length (Array.replicate l.toArray.size false):=
  ⟨by simp,fun j oj _ hl=>(by rw[getD_replicate_false]at hl;cases hl),fun t _ ht=>getD_in (by simpa using ht) (getD_replicate_false _ _)⟩
 have H:=DU (md:=.any) (g:=g) hsel hs hc hn' l1 0 _ a (fun j hj=>by subst hl;rw[Nat.zero_add,List.getElem?_toArray,List.getElem?_append_left hj]) (by simp) inv0 hlex h
 refine wp_region_any hm ?_
 have:=wpAny_of_head (Q':=Q) (g:=l.toArray.size - l1.length) (fun listed a' hL=>by
  have hsz:l.toArray.size - l1.length=(l2++l3).length:=by simp only[List.size_toArray,List.length_append];omega
  rw[hsz]
  refine HU hsel l2 l3 l1.length listed a' _ ?_ hsz (by rw[hg];exact hL.1) hL.2
  intro j
  subst hl
  rw[List.getElem?_toArray]
  exact((List.getElem?_append_right (l₁:=l1) (l₂:=l2++l3) (by omega)).trans (by rw[Nat.add_sub_cancel_left])).symm) l1.length (Array.replicate l.toArray.size false) a H
 have he:l1.length+(l.toArray.size - l1.length)=l.toArray.size:=by simp only[List.size_toArray]at hn' ⊢;omega
 rw[he]at this
 exact this
end
theorem Q9 {P:Program} {ds:List Deferred} {Q:vN} {l:List Value} {w:World} {cs:List Code} {n:Nat} {os:List Oper} (k g:Nat) (hm:P.follows .mixedOrders=true) (hB:BS .any os.toArray k g=true) (hk:(os.take k).length=k) (hg:((os.drop k).take (g+1)).length=g+1)
 (h:∀ w',w'={ w with drawn:=w.drawn+1 }→yT P ds os w' (fun l'=>Ops P ds os (fun l2 w2=>yT P ds os w2 (fun l3=>Run P ds cs Q l3 w2) ((os.drop k).drop (g+1)) l2) Q ((os.drop k).take (g+1)) l' w') (os.take k) l):Run P ds (.region n os.toArray true::cs) Q l w:=by
 refine bM (l1:=os.take k) (l2:=(os.drop k).take (g+1)) (l3:=(os.drop k).drop (g+1)) (by rw[List.take_append_drop,List.take_append_drop]) k g hk hg hm hB ?_
 have h':=h _ rfl
 unfold yT at h'
 refine still_mono ?_ _ _ h'
 rintro⟨t,d⟩ ⟨hd,h2⟩
 simp only at hd
 subst hd
 unfold Ops at h2
 have mono:∀ (os':List Oper) (a:Act) (w:World) (K1 K2:Act→World→Prop) (Q1 Q2:Exit→Act→World→Prop),(∀ a w,K1 a w→K2 a w)→(∀ e a w,e≠ .normal→Q1 e a w→Q2 e a w)→wpList P os.toArray (Exit.then K1 Q1) os' a w→wpList P os.toArray (Exit.then K2 Q2) os' a w:=by
  intro os'
  induction os' with
  | nil=>intro a w K1 K2 Q1 Q2 hK hq h;exact hK _ _ h
  | cons o os' ih=>
   intro a w K1 K2 Q1 Q2 hK hq h
   unfold wpList at h ⊢
   split
   · rename_i hw
     rw[if_pos hw]at h
     rcases h with h | ⟨h1,a1,w1,h2⟩
     · exact .inl (Oper.wp_mono (fun a w h=>ih a w K1 K2 Q1 Q2 hK hq h) (mP (fun e a w he h=>by cases e <;>first | exact absurd Y he | exact hq _ _ _ he h) h))
     · exact .inr ⟨h1,a1,w1,hq _ _ _ (by simp) h2⟩
   · rename_i hw
     rw[if_neg hw]at h
     exact ih _ _ _ _ _ _ hK hq h
 refine mono _ _ _ _ _ _ _ ?_ (fun e a w he h=>?_) h2
 · rintro⟨t,d'⟩ w' ⟨hd,h3⟩
   simp only at hd
   subst hd
   exact h3
 · cases e <;>first | exact absurd rfl he | exact h
def QB (P:Program) (ρ:Operand→Value) (o:Oper) (w:World) (v:Value):Prop:=
 (execOp ρ o).run P w=.ok (.value v) w∨∃ f args,(execOp ρ o).run P w=.ok (.enter f args) w∧Calls P f args w fun e w'=>e=.returned v∧w'=w
def tR (P:Program) (ops:Array Oper) (S:World→Prop) (o:Oper) (v:Value) (a:Act):Prop:=
 (Region.wanted o (yielded ops a.tmps)=true∧∀ w,S w→QB P a.eval o w v)∨(Region.wanted o (yielded ops a.tmps)=false∧v=undef)
section gives
variable {P:Program} {ops:Array Oper} {Q:Exit→Act→World→Prop} {md:Region.Mode} {S:World→Prop}
theorem tR.wpOp {i:Nat} {o:Oper} {v:Value} {a:Act} (hi:ops[i]? =some o) (hy:tR P ops S o v a) {K:Act→World→Prop} {w:World} (hS:S w) (h:K (a.put o.dst v) w):wpOp P ops Q i K a w:=by
 unfold Go.wpOp
 simp only[hi]
 rcases hy with ⟨hw,hv⟩ | ⟨hw,rfl⟩
 · simp only[hw,if_true]
   refine .inl ?_
   unfold Oper.wp
   rcases hv w hS with h1 | ⟨f,args,h1,h2⟩
   · rw[h1];exact h
   · rw[h1]
     refine Calls.mono h2 ?_
     rintro e w' ⟨rfl,rfl⟩
     exact h
 · simp only[hw,Bool.false_eq_true,if_false];exact h
theorem tR.of_same {o:Oper} {v:Value} {a a':Act} (hy:tR P ops S o v a) (he:execOp a'.eval o=execOp a.eval o)
 (hw:Region.wanted o (yielded ops a'.tmps)=Region.wanted o (yielded ops a.tmps)):tR P ops S o v a':=by
 unfold tR QB at*
 rw[he,hw]
 exact hy
theorem lV {j:Nat} {oi oj:Oper} {v:Value} (hj:ops[j]? =some oj) (hap:oi.apart ops oj=true)
 (hsi:∀ cs b,oi.op≠ .select cs b) (hsj:∀ cs b,oj.op≠ .select cs b)
 (hQ:∀ c a w,Q (.panic c) (a.put oi.dst v) w→Q (.panic c) a w) {K:Act→World→Prop} {a:Act} {w:World}
 (hy:tR P ops S oi v a) (h:wpOp P ops Q j K (a.put oi.dst v) w):
 wpOp P ops Q j (fun a' w'=>tR P ops S oi v a'∧K (a'.put oi.dst v) w') a w:=by
 obtain⟨h1,h2,h3⟩:=Oper.apart_spec hap
 have keep:∀ (a:Act),tR P ops S oi v a→∀ u,tR P ops S oi v (a.put oj.dst u):=fun a hy u=>
  hy.of_same (execOp_put oi hsi a oj.dst u h3) (wanted_put oi a oj.dst u h3)
 have keepD:∀ d,tR P ops S oi v { a with defers:=d::a.defers }:=fun d=>hy.of_same rfl rfl
 unfold wpOp at*
 simp only[hj]at*
 rw[wanted_put oj a oi.dst v h1]at h
 split
 · rename_i hw
   simp only[hw,if_true]at h
   rcases h with h | ⟨hasks,hlets⟩
   case inr=>exact .inr ⟨by unfold Oper.asks at*;rw[execOp_put oj hsj a oi.dst v h1]at hasks;exact hasks,hlets⟩
   refine .inl ?_
   unfold Oper.wp at*
   rw[execOp_put oj hsj a oi.dst v h1]at h
   generalize (execOp a.eval oj).run P w=r at*
   cases r with
   | ok n w'=>
    cases n <;>simp only[Oper.upon]at h ⊢
    case value u=>exact⟨keep a hy u,by rw[← Act.put_comm a v u h2];exact h⟩
    case skip=>exact⟨keep a hy _,by rw[← Act.put_comm a v undef h2];exact h⟩
    case defer d=>
     refine⟨keep _ (keepD d) _,?_⟩
     rw[← Act.put_comm _ v undef h2,← Act.put_defers]
     exact h
    case enter f args=>
     refine Calls.mono h fun e w'' he=>?_
     cases e with
     | returned u=>exact⟨keep a hy u,by rw[← Act.put_comm a v u h2];exact he⟩
     | panicked c=>exact hQ _ _ _ he
     | outgrown=>exact he
    case row row args=>exact Rows.mono h fun u w'' he=>⟨keep a hy u,by rw[← Act.put_comm a v u h2];exact he⟩
   | halt x w'=>
    cases x <;>simp only[Oper.upon]at h ⊢
    case panic u=>exact hQ _ _ _ h
 · rename_i hw
   simp only[hw]at h
   exact⟨keep a hy _,by rw[← Act.put_comm a v undef h2];exact h⟩
theorem AQ {i:Nat} {oi:Oper} {v:Value} (hi:ops[i]? =some oi) (hsel:∀ (j:Nat) (o:Oper) cs b,ops[j]? =some o→o.op≠ .select cs b)
 (hQ:∀ c a w,Q (.panic c) (a.put oi.dst v) w→Q (.panic c) a w):
 ∀ (fuel:Nat) (listed:Array Bool) (a:Act) (w:World),
  (∀ j oj,ops[j]? =some oj→j≠i→listed.getD j true=false→(∀ e∈oj.after,Region.binds md e=true→e.on≠i)→oi.apart ops oj=true)→
  i∈Region.ready md ops listed→tR P ops S oi v a→S w→
  wpAnyH P md ops Q S fuel (listed.setIfInBounds i true) (a.put oi.dst v) w→wpAnyH P md ops Q S (fuel+1) listed a w:=by
 intro fuel
 induction fuel with
 | zero=>
  intro listed a w _ hr hy hS H
  refine⟨fun h=>(by rw[h]at hr;cases hr),fun j hj=>?_⟩
  by_cases hji:j=i
  · subst hji;exact hy.wpOp hi hS ⟨hS,H⟩
  · have:=ready_mono hj hji
    rw[H.1]at this
    cases this
 | succ fuel ih=>
  intro listed a w hfree hr hy hS H
  refine⟨fun h=>(by rw[h]at hr;cases hr),fun j hj=>?_⟩
  by_cases hji:j=i
  · subst hji;exact hy.wpOp hi hS ⟨hS,H⟩
  · have h1:=H.2 j (ready_mono hj hji)
    obtain⟨hjun,oj,hoj,hall⟩:=mem_ready.1 hj
    have Lh:=(mem_ready.1 hr).1
    have hnot:∀ e∈oj.after,Region.binds md e=true→e.on≠i:=fun e he hb heq=>by
     have h2:=hall e he hb
     rw[heq,getD_both Lh]at h2
     cases h2
    have h2:=lV hoj (hfree j oj hoj hji hjun hnot) (fun cs b=>hsel i oi cs b hi) (fun cs b=>hsel j oj cs b hoj) hQ hy h1
    have hfree':∀ k ok,ops[k]? =some ok→k≠i→(listed.setIfInBounds j true).getD k true=false→
     (∀ e∈ok.after,Region.binds md e=true→e.on≠i)→oi.apart ops ok=true:=fun k ok hk hki hun hno=>by
     refine hfree k ok hk hki ?_ hno
     by_cases hjk:j=k
     · subst hjk;exact hjun
     · rw[getD_set_ne true hjk]at hun;exact hun
    refine wpOp_mono (fun a' w' h3=>⟨h3.2.1,ih (listed.setIfInBounds j true) a' w' hfree' (ready_mono hr (Ne.symm hji)) h3.1 h3.2.1 ?_⟩) h2
    rw[Array.setIfInBounds_comm _ _ hji]
    exact h3.2.2
theorem CG {i:Nat} {oi:Oper} {v:Value} {fuel:Nat} {listed:Array Bool} {a:Act} {w:World} (hi:ops[i]? =some oi)
 (hs:Region.noSelect ops=true) (hf:Region.free md ops listed i=true) (hr:(Region.ready md ops listed).contains i=true)
 (hQ:∀ c a w,Q (.panic c) (a.put oi.dst v) w→Q (.panic c) a w) (hy:tR P ops S oi v a) (hS:S w)
 (h:wpAnyH P md ops Q S fuel (listed.setIfInBounds i true) (a.put oi.dst v) w):wpAnyH P md ops Q S (fuel+1) listed a w:=
 AQ hi (Region.noSelect_spec hs) hQ fuel listed a w (Region.free_spec hi hf) (by simpa using hr) hy hS h
end gives
def mixB (ops:Array Oper):List (Bool×Nat)→Array Bool→Bool
 | [],listed=>(Region.ready .any ops listed).isEmpty
 | (true,i)::s,listed=>(Region.ready .any ops listed).contains i && Region.free .any ops listed i && mixB ops s (listed.setIfInBounds i true)
 | (false,i)::s,listed=>decide (Region.ready .any ops listed=[i]) && mixB ops s (listed.setIfInBounds i true)
def Kw (l:List Value):Option Tmp→Value→List Value
 | some d,v=>l.set d v
 | none,_=>l
section mix
variable {P:Program} {ds:List Deferred} {all:List Oper} {S:World→Prop} {K:List Value→World→Prop} {l:List Value} {w:World} {op:Op} {ty:TypeId} {pos:String} {af:Array Edge} {d:Tmp} {v:Value} {o:Oper} {i:Nat} {s:List (Bool×Nat)}
def mO (P:Program) (all:List Oper) (S:World→Prop) (K:List Value→World→Prop) (o:Oper) (l:List Value) (w:World):Prop:=
 ∃ v,((Region.wanted o (yielded all.toArray l.toArray)=true∧∀ w',S w'→QB P (rho l) o w' v)∨(Region.wanted o (yielded all.toArray l.toArray)=false∧v=undef))∧K (Kw l o.dst v) w
def rT (P:Program) (ds:List Deferred) (all:List Oper) (S:World→Prop) (K:List Value→World→Prop):List (Bool×Nat)→List Value→World→Prop
 | [],l,w=>K l w
 | (true,i)::s,l,w=>∃ o,all[i]? =some o∧mO P all S (rT P ds all S K s) o l w
 | (false,i)::s,l,w=>∃ o,all[i]? =some o∧Ops P ds all (fun l' w'=>S w'∧rT P ds all S K s l' w') (fun _ _ _=>False) [o] l w
theorem tL (h:K l w):rT P ds all S K [] l w:=h
theorem zX (ho:all[i]? =some o) (h:mO P all S (rT P ds all S K s) o l w):rT P ds all S K ((true,i)::s) l w:=⟨o,ho,h⟩
theorem G9 (ho:all[i]? =some o) (h:Ops P ds all (fun l' w'=>S w'∧rT P ds all S K s l' w') (fun _ _ _=>False) [o] l w):rT P ds all S K ((false,i)::s) l w:=⟨o,ho,h⟩
theorem rO (hx:∀ w,S w→Ex P l op ty w (.value v) w) (h:K (l.set d v) w):mO P all S K ⟨some d,op,ty,pos,af,none⟩ l w:=⟨v,.inl ⟨rfl,fun w' hw=> .inl (hx w' hw _ _ _ _)⟩,h⟩
theorem rE {f:FuncId} {args:Array Value} (hx:∀ w,S w→Ex P l op ty w (.enter f args) w) (hc:∀ w,S w→zP P f args w fun r w'=>r=v∧w'=w) (h:K (l.set d v) w):mO P all S K ⟨some d,op,ty,pos,af,none⟩ l w:=
 ⟨v,.inl ⟨rfl,fun w' hw=> .inr ⟨f,args,hx w' hw _ _ _ _,Calls.mono (hc w' hw) fun e w2 ⟨r,h1,h2,h3⟩=>⟨by rw[h1,h2],h3⟩⟩⟩,h⟩
theorem DO {dst:Option Tmp} {j:Nat} {b:Bool} (hg:yes all l j=some b) (h:mO P all S K ⟨dst,op,ty,pos,af,none⟩ l w):mO P all S K ⟨dst,op,ty,pos,af,some (j,b)⟩ l w:=by
 have e1:Region.wanted ⟨dst,op,ty,pos,af,some (j,b)⟩ (yielded all.toArray l.toArray)=true:=by simp[Region.wanted,rY,hg]
 obtain⟨v,⟨_,hv⟩ | ⟨h1,_⟩,h2⟩:=h
 · exact⟨v,.inl ⟨e1,hv⟩,h2⟩
 · cases h1
theorem HT {j:Nat} {b:Bool} (hg:(yes all l j==some b)=false) (h:K (l.set d undef) w):mO P all S K ⟨some d,op,ty,pos,af,some (j,b)⟩ l w:=
 ⟨undef,.inr ⟨by simpa[Region.wanted,rY]using hg,rfl⟩,h⟩
theorem kJ {p:Prop} {_:Decidable p} (hx:∀ w,S w→Ex P l op ty w (.value (.bool (decide p))) w) (hp:p) (h:K (l.set d (.bool true)) w):mO P all S K ⟨some d,op,ty,pos,af,none⟩ l w:=
 rO hx (by rw[decide_eq_true hp];exact h)
theorem tW {p:Prop} {_:Decidable p} (hx:∀ w,S w→Ex P l op ty w (.value (.bool (decide p))) w) (hp:¬p) (h:K (l.set d (.bool false)) w):mO P all S K ⟨some d,op,ty,pos,af,none⟩ l w:=
 rO hx (by rw[decide_eq_false hp];exact h)
theorem vU {p:Prop} {_:Decidable p} (hx:∀ w,S w→Ex P l op ty w (.value (.bool (decide p))) w) (h1:p→K (l.set d (.bool true)) w) (h2:¬p→K (l.set d (.bool false)) w):mO P all S K ⟨some d,op,ty,pos,af,none⟩ l w:=by
 by_cases hp:p
 · exact kJ hx hp (h1 hp)
 · exact tW hx hp (h2 hp)
theorem oZ (l:List Value) (ds:List Deferred) (dst:Option Tmp) (v:Value):(⟨l.toArray,ds⟩:Act).put dst v=⟨(Kw l dst v).toArray,ds⟩:=by
 cases dst with
 | none=>rfl
 | some d=>exact tF l ds d v
theorem HK (hsel:Region.noSelect all.toArray=true):∀ (s:List (Bool×Nat)) (listed:Array Bool) (l:List Value) (w:World),mixB all.toArray s listed=true→S w→rT P ds all S K s l w→
 wpAnyH P .any all.toArray (fun e a w'=>a.defers=ds∧uQ K (fun _ _ _=>False) e a.tmps.toList w') S s.length listed ⟨l.toArray,ds⟩ w:=by
 intro s
 induction s with
 | nil=>intro listed l w hB _ h;exact wpAnyH_done (by simpa[mixB]using hB) ⟨rfl,h⟩ 0
 | cons x s IH=>
  obtain⟨b,i⟩:=x
  cases b
  · rintro listed l w hB hS ⟨o,ho,h⟩
    simp only[mixB,Bool.and_eq_true,decide_eq_true_eq]at hB
    refine wpAnyH_all hB.1 (by simp) fun k hk=>?_
    have hki:k=i:=by simpa using hk
    rw[hki]
    unfold Ops wpList at h
    unfold wpOp
    rw[List.getElem?_toArray,ho]
    simp only
    have ih:∀ (a:Act) w',(a.defers=ds∧S w'∧rT P ds all S K s a.tmps.toList w')→(S w'∧wpAnyH P .any all.toArray (fun e a w'=>a.defers=ds∧uQ K (fun _ _ _=>False) e a.tmps.toList w') S s.length (listed.setIfInBounds i true) a w'):=by
     rintro⟨t,d⟩ w' ⟨hd,hS',h2⟩
     simp only at hd
     subst hd
     exact⟨hS',IH _ _ _ hB.2 hS' h2⟩
    have hq:∀ (e:Exit) (a:Act) w',e≠ .normal→Exit.then (fun(a:Act) w'=>a.defers=ds∧S w'∧rT P ds all S K s a.tmps.toList w') (fun _ a _=>a.defers=ds∧False) e a w'→(a.defers=ds∧uQ K (fun _ _ _=>False) e a.tmps.toList w'):=by
     intro e a w' he h
     cases e <;>first | exact absurd rfl he | exact h.2.elim
    split
    · rename_i hw
      rw[if_pos hw]at h
      rcases h with h | ⟨h1,a1,w1,h2⟩
      · exact .inl (Oper.wp_mono ih (mP hq h))
      · exact .inr ⟨h1,a1,w1,hq _ _ _ (by simp) h2⟩
    · rename_i hw
      rw[if_neg hw]at h
      exact ih _ _ h
  · rintro listed l w hB hS ⟨o,ho,v,hv,hK⟩
    simp only[mixB,Bool.and_eq_true]at hB
    refine CG (oi:=o) (v:=v) (by rw[List.getElem?_toArray];exact ho) hsel hB.1.2 hB.1.1 (fun _ _ _ h=>h.2.elim) ?_ hS ?_
    · rcases hv with ⟨h1,h2⟩ | ⟨h1,h2⟩
      · exact .inl ⟨h1,by rw[tU];exact h2⟩
      · exact .inr ⟨h1,h2⟩
    · rw[oZ]
      exact IH _ _ _ hB.2 hS hK
theorem Q8 {Q:vN} {cs:List Code} {n:Nat} (s:List (Bool×Nat)) (S:World→Prop) (hm:P.follows .mixedOrders=true) (hB:(Region.noSelect all.toArray && decide (s.length=all.length) && mixB all.toArray s (Array.replicate all.length false))=true)
 (h:∀ w',w'={ w with drawn:=w.drawn+1 }→S w'∧rT P ds all S (Run P ds cs Q) s l w'):Run P ds (.region n all.toArray true::cs) Q l w:=by
 simp only[Bool.and_eq_true,decide_eq_true_eq]at hB
 obtain⟨⟨hsel,hlen⟩,hB⟩:=hB
 show Cd P ds _ _ l w
 unfold Cd
 refine Go.wp_mono (Q:=fun e a w'=>a.defers=ds∧uQ (Run P ds cs Q) (fun _ _ _=>False) e a.tmps.toList w') (wp_region_held (S:=S) hm ?_) ?_
 · have:=HK hsel s _ l _ hB (h _ rfl).1 (h _ rfl).2
   rw[hlen]at this
   simpa using this
 · rintro e a w' ⟨hd,h2⟩
   cases e <;>first | exact⟨hd,h2⟩ | exact h2.elim
theorem sW {Q:vN} {cs:List Code} {n:Nat} {w0:World} {SS:List Nat} {es:List Ent} (s:List (Bool×Nat)) (H:Hp w0 w SS es) (idx:List Nat) (hm:P.follows .mixedOrders=true) (hnd:idx.Nodup)
 (hB:(Region.noSelect all.toArray && decide (s.length=all.length) && mixB all.toArray s (Array.replicate all.length false))=true)
 (h:∀ w',w'={ w with drawn:=w.drawn+1 }→rT P ds all (fun wz=>Hp w0 wz SS (idx.map fun i=>es.getD i (none,0,[]))) (Run P ds cs Q) s l w'):Run P ds (.region n all.toArray true::cs) Q l w:=
 Q8 s _ hm hB fun w' hw'=>⟨by rw[hw'];exact H.drew.pick idx hnd,h w' hw'⟩
def oF (P:Program) (ops:Array Oper) (Q:Exit→Act→World→Prop) (S:World→Prop) (z:Nat):Nat→Array Bool→Act→World→Prop
 | 0,listed,a,w=>Region.ready .any ops listed=[]∧Q .normal a w
 | f+1,listed,a,w=>(Region.ready .any ops listed=[]→Q .normal a w)∧
  ∀ i∈Region.ready .any ops listed,wpOp P ops Q i (fun a' w'=>(i≠z→S w')∧oF P ops Q S z f (listed.setIfInBounds i true) a' w') a w
theorem lU {ops:Array Oper} {Q:Exit→Act→World→Prop} {z:Nat}:∀ (f:Nat) (listed:Array Bool) (a:Act) (w:World),oF P ops Q S z f listed a w→wpAny P .any ops Q f listed a w
 | 0,_,_,_,h=>h
 | f+1,_,_,_,h=>⟨h.1,fun i hi=>wpOp_mono (fun a' w' h'=>lU f _ a' w' h'.2) (h.2 i hi)⟩
theorem I6 {ops:Array Oper} {Q:Exit→Act→World→Prop} {z i:Nat} {oi:Oper} {v:Value} (hi:ops[i]? =some oi) (hsel:∀ (j:Nat) (o:Oper) cs b,ops[j]? =some o→o.op≠ .select cs b)
 (hQ:∀ c a w,Q (.panic c) (a.put oi.dst v) w→Q (.panic c) a w) (hs:Region.sinkB .any ops z=true) (hz:z+1=ops.size) (hiz:i < z):
 ∀ (f:Nat) (listed:Array Bool) (a:Act) (w:World),HeadInv .any ops z listed→
  (∀ j oj,ops[j]? =some oj→j≠i→listed.getD j true=false→(∀ e∈oj.after,Region.binds .any e=true→e.on≠i)→oi.apart ops oj=true)→
  i∈Region.ready .any ops listed→tR P ops S oi v a→S w→
  oF P ops Q S z f (listed.setIfInBounds i true) (a.put oi.dst v) w→oF P ops Q S z (f+1) listed a w:=by
 intro f
 induction f with
 | zero=>
  intro listed a w _ _ hr hy hS H
  refine⟨fun h=>(by rw[h]at hr;cases hr),fun j hj=>?_⟩
  by_cases hji:j=i
  · rw[hji];exact hy.wpOp hi hS ⟨fun _=>hS,H⟩
  · have h1:=ready_mono hj hji
    rw[H.1]at h1
    cases h1
 | succ f ih=>
  intro listed a w inv hfree hr hy hS H
  refine⟨fun h=>(by rw[h]at hr;cases hr),fun j hj=>?_⟩
  by_cases hji:j=i
  · rw[hji];exact hy.wpOp hi hS ⟨fun _=>hS,H⟩
  · have h1:=H.2 j (ready_mono hj hji)
    obtain⟨hjun,oj,hoj,hall⟩:=mem_ready.1 hj
    have Lh:=(mem_ready.1 hr).1
    have hjz:j≠z:=by
     intro e
     rw[e]at hj
     exact mV hs inv (by omega) (z - i) i (Nat.le_refl _) hiz Lh hj
    have hjs:=(Array.getElem?_eq_some_iff.1 hoj).1
    have hnot:∀ e∈oj.after,Region.binds .any e=true→e.on≠i:=fun e he hb heq=>by
     have h2:=hall e he hb
     rw[heq,getD_both Lh]at h2
     cases h2
    have h2:=lV hoj (hfree j oj hoj hji hjun hnot) (fun cs b=>hsel i oi cs b hi) (fun cs b=>hsel j oj cs b hoj) hQ hy h1
    refine wpOp_mono (fun a' w' h3=>⟨h3.2.1,ih (listed.setIfInBounds j true) a' w' (inv.set hj (by omega)) (fun k ok hk hki hun hno=>?_) (ready_mono hr (Ne.symm hji)) h3.1 (h3.2.1 hjz) ?_⟩) h2
    · refine hfree k ok hk hki ?_ hno
      by_cases hjk:j=k
      · rw[← hjk];exact hjun
      · rw[getD_set_ne true hjk]at hun;exact hun
    · rw[Array.setIfInBounds_comm _ _ hji]
      exact h3.2.2
def oS (P:Program) (ds:List Deferred) (all:List Oper) (S:World→Prop) (K:List Value→World→Prop):List (Bool×Nat)→List Value→World→Prop
 | [],l,w=>K l w
 | (true,i)::s,l,w=>∃ o,all[i]? =some o∧mO P all S (oS P ds all S K s) o l w
 | (false,i)::s,l,w=>∃ o,all[i]? =some o∧Ops P ds all (fun l' w'=>(s≠[]→S w')∧oS P ds all S K s l' w') (fun _ _ _=>False) [o] l w
theorem DM (h:K l w):oS P ds all S K [] l w:=h
theorem cE (ho:all[i]? =some o) (h:mO P all S (oS P ds all S K s) o l w):oS P ds all S K ((true,i)::s) l w:=⟨o,ho,h⟩
theorem NN (ho:all[i]? =some o) (h:Ops P ds all (fun l' w'=>(s≠[]→S w')∧oS P ds all S K s l' w') (fun _ _ _=>False) [o] l w):oS P ds all S K ((false,i)::s) l w:=⟨o,ho,h⟩
def Ia (ops:Array Oper) (z:Nat):List (Bool×Nat)→Array Bool→Bool
 | [],listed=>(Region.ready .any ops listed).isEmpty
 | (true,i)::s,listed=>decide (i < z) && (Region.ready .any ops listed).contains i && Region.free .any ops listed i && Ia ops z s (listed.setIfInBounds i true)
 | (false,i)::s,listed=>((decide (i < z) && !s.isEmpty) || (decide (i=z) && s.isEmpty)) && decide (Region.ready .any ops listed=[i]) && Ia ops z s (listed.setIfInBounds i true)
theorem cF {z:Nat} (hsel:Region.noSelect all.toArray=true) (hs:Region.sinkB .any all.toArray z=true) (hz:z+1=all.toArray.size):∀ (s:List (Bool×Nat)) (listed:Array Bool) (l:List Value) (w:World),(s≠[]→HeadInv .any all.toArray z listed)→Ia all.toArray z s listed=true→(s≠[]→S w)→oS P ds all S K s l w→
 oF P all.toArray (fun e a w'=>a.defers=ds∧uQ K (fun _ _ _=>False) e a.tmps.toList w') S z s.length listed ⟨l.toArray,ds⟩ w:=by
 intro s
 induction s with
 | nil=>intro listed l w _ hB _ h;exact⟨by simpa[Ia]using hB,rfl,h⟩
 | cons x s IH=>
  obtain⟨b,i⟩:=x
  cases b
  · rintro listed l w inv hB hS ⟨o,ho,h⟩
    simp only[Ia,Bool.and_eq_true,Bool.or_eq_true,decide_eq_true_eq]at hB
    obtain⟨⟨hiz,hr⟩,hB'⟩:=hB
    have Cj:i∈Region.ready .any all.toArray listed:=by rw[hr];simp
    have hlast:s≠[]→i < z:=fun h=>by
     rcases hiz with h1 | h1
     · exact h1.1
     · exact absurd (by simpa using h1.2) h
    refine⟨fun h0=>(by rw[hr]at h0;cases h0),fun k hk=>?_⟩
    have hki:k=i:=by rw[hr]at hk;simpa using hk
    rw[hki]
    unfold Ops wpList at h
    unfold wpOp
    rw[List.getElem?_toArray,ho]
    simp only
    have hne:i≠z→s≠[]:=fun h1=>by
     rcases hiz with h2 | h2
     · intro h3;rw[h3]at h2;simp at h2
     · exact absurd h2.1 h1
    have ih:∀ (a:Act) w',(a.defers=ds∧(s≠[]→S w')∧oS P ds all S K s a.tmps.toList w')→((i≠z→S w')∧oF P all.toArray (fun e a w'=>a.defers=ds∧uQ K (fun _ _ _=>False) e a.tmps.toList w') S z s.length (listed.setIfInBounds i true) a w'):=by
     rintro⟨t,d⟩ w' ⟨hd,hS',h2⟩
     simp only at hd
     subst hd
     exact⟨fun h1=>hS' (hne h1),IH _ _ _ (fun h1=>(inv (by simp)).set Cj (hlast h1)) hB' hS' h2⟩
    have hq:∀ (e:Exit) (a:Act) w',e≠ .normal→Exit.then (fun(a:Act) w'=>a.defers=ds∧(s≠[]→S w')∧oS P ds all S K s a.tmps.toList w') (fun _ a _=>a.defers=ds∧False) e a w'→(a.defers=ds∧uQ K (fun _ _ _=>False) e a.tmps.toList w'):=by
     intro e a w' he h
     cases e <;>first | exact absurd rfl he | exact h.2.elim
    split
    · rename_i hw
      rw[if_pos hw]at h
      rcases h with h | ⟨h1,a1,w1,h2⟩
      · exact .inl (Oper.wp_mono ih (mP hq h))
      · exact .inr ⟨h1,a1,w1,hq _ _ _ (by simp) h2⟩
    · rename_i hw
      rw[if_neg hw]at h
      exact ih _ _ h
  · rintro listed l w inv hB hS ⟨o,ho,v,hv,hK⟩
    simp only[Ia,Bool.and_eq_true,decide_eq_true_eq]at hB
    obtain⟨⟨⟨hiz,hr⟩,hf⟩,hB'⟩:=hB
    have hi:all.toArray[i]? =some o:=by rw[List.getElem?_toArray];exact ho
    have Cj:i∈Region.ready .any all.toArray listed:=by simpa using hr
    refine I6 (oi:=o) (v:=v) hi (Region.noSelect_spec hsel) (fun _ _ _ h=>h.2.elim) hs hz hiz s.length listed _ w (inv (by simp)) (Region.free_spec hi hf) Cj ?_ (hS (by simp)) ?_
    · rcases hv with ⟨h1,h2⟩ | ⟨h1,h2⟩
      · exact .inl ⟨h1,by rw[tU];exact h2⟩
      · exact .inr ⟨h1,h2⟩
    · rw[oZ]
      exact IH _ _ _ (fun _=>(inv (by simp)).set Cj hiz) hB' (fun _=>hS (by simp)) hK
theorem MA {Q:vN} {cs:List Code} {n:Nat} (z:Nat) (s:List (Bool×Nat)) (S:World→Prop) (hm:P.follows .mixedOrders=true)
 (hB:(Region.noSelect all.toArray && decide (s.length=all.length) && decide (z+1=all.length) && Region.sinkB .any all.toArray z && Ia all.toArray z s (Array.replicate all.length false))=true)
 (h:∀ w',w'={ w with drawn:=w.drawn+1 }→S w'∧oS P ds all S (Run P ds cs Q) s l w'):Run P ds (.region n all.toArray true::cs) Q l w:=by
 simp only[Bool.and_eq_true,decide_eq_true_eq]at hB
 obtain⟨⟨⟨⟨hsel,hlen⟩,hz⟩,hs⟩,hB⟩:=hB
 show Cd P ds _ _ l w
 unfold Cd
 have inv0:HeadInv .any all.toArray z (Array.replicate all.toArray.size false):=
  ⟨by simp,fun j oj _ hl=>(by rw[getD_replicate_false]at hl;cases hl),fun t _ ht=>getD_in (by simpa using ht) (getD_replicate_false _ _)⟩
 refine Go.wp_mono (Q:=fun e a w'=>a.defers=ds∧uQ (Run P ds cs Q) (fun _ _ _=>False) e a.tmps.toList w') (wp_region_any hm ?_) ?_
 · have:=cF (S:=S) (K:=Run P ds cs Q) (P:=P) (ds:=ds) hsel hs (by simpa using hz) s _ l { w with drawn:=w.drawn+1 } (fun _=>by simpa using inv0) hB (fun _=>(h _ rfl).1) (h _ rfl).2
   rw[hlen]at this
   have h2:=lU _ _ _ _ this
   simpa using h2
 · rintro e a w' ⟨hd,h2⟩
   cases e <;>first | exact⟨hd,h2⟩ | exact h2.elim
theorem zR {Q:vN} {cs:List Code} {n:Nat} {w0:World} {SS:List Nat} {es:List Ent} (z:Nat) (s:List (Bool×Nat)) (H:Hp w0 w SS es) (idx:List Nat) (hm:P.follows .mixedOrders=true) (hnd:idx.Nodup)
 (hB:(Region.noSelect all.toArray && decide (s.length=all.length) && decide (z+1=all.length) && Region.sinkB .any all.toArray z && Ia all.toArray z s (Array.replicate all.length false))=true)
 (h:∀ w',w'={ w with drawn:=w.drawn+1 }→oS P ds all (fun wz=>Hp w0 wz SS (idx.map fun i=>es.getD i (none,0,[]))) (Run P ds cs Q) s l w'):Run P ds (.region n all.toArray true::cs) Q l w:=by
 simp only[Bool.and_eq_true,decide_eq_true_eq]at hB
 obtain⟨⟨⟨⟨hsel,hlen⟩,hz⟩,hs⟩,hB⟩:=hB
 show Cd P ds _ _ l w
 unfold Cd
 have inv0:HeadInv .any all.toArray z (Array.replicate all.toArray.size false):=
  ⟨by simp,fun j oj _ hl=>(by rw[getD_replicate_false]at hl;cases hl),fun t _ ht=>getD_in (by simpa using ht) (getD_replicate_false _ _)⟩
 refine Go.wp_mono (Q:=fun e a w'=>a.defers=ds∧uQ (Run P ds cs Q) (fun _ _ _=>False) e a.tmps.toList w') (wp_region_any hm ?_) ?_
 · have:=cF (S:=fun wz=>Hp w0 wz SS (idx.map fun i=>es.getD i (none,0,[]))) (K:=Run P ds cs Q) (P:=P) (ds:=ds) hsel hs (by simpa using hz) s _ l { w with drawn:=w.drawn+1 } (fun _=>by simpa using inv0) hB (fun _=>H.drew.pick idx hnd) (h _ rfl)
   rw[hlen]at this
   have h2:=lU _ _ _ _ this
   simpa using h2
 · rintro e a w' ⟨hd,h2⟩
   cases e <;>first | exact⟨hd,h2⟩ | exact h2.elim
end mix
def zH (cs:List Value) (o:Nat) (vs:List Value):List Value:=cs.take o++vs++cs.drop (o+vs.length)
theorem fA {cs:List Value} {o:Nat} {v:Value} (h:o < cs.length):zH cs o [v]=cs.set o v:=by
 rw[zH,List.set_eq_take_append_cons_drop,if_pos h]
 simp
theorem DY (off:Nat):∀ (vs:List Value) (k:Nat) (cs:List Value),off+k+vs.length≤cs.length→
 (vs.zipIdx k).foldl (fun(cs:Array Value) (x:Value×Nat)=>cs.setIfInBounds (off+x.2) x.1) cs.toArray=(zH cs (off+k) vs).toArray
 | [],k,cs,_=>by simp[zH]
 | v::vs,k,cs,h=>by
  simp only[List.length_cons]at h
  simp only[List.zipIdx_cons,List.foldl_cons,List.setIfInBounds_toArray]
  rw[DY off vs (k+1) (cs.set (off+k) v) (by simp;omega)]
  congr 1
  unfold zH
  rw[List.set_eq_take_append_cons_drop,if_pos (by omega)]
  have e1:(List.take (off+k) cs++v::List.drop (off+k+1) cs).take (off+(k+1))=cs.take (off+k)++[v]:=by
   rw[List.take_append,List.length_take,Nat.min_eq_left (by omega),List.take_of_length_le (by simp;omega),show off+(k+1) - (off+k)=1 by omega]
   simp
  have e2:(List.take (off+k) cs++v::List.drop (off+k+1) cs).drop (off+(k+1)+vs.length)=cs.drop (off+k+(vs.length+1)):=by
   rw[List.drop_append,List.length_take,Nat.min_eq_left (by omega),List.drop_of_length_le (by simp;omega),show off+(k+1)+vs.length - (off+k)=vs.length+1 by omega]
   simp only[List.drop_succ_cons,List.nil_append,List.drop_drop]
   congr 1
   omega
  rw[e1,e2]
  simp[Nat.add_assoc]
def lM (place:Nat→Option (Nat×Nat)):List Value→List (Nat×Value)→Option (List Value)
 | cells,[]=>some cells
 | cells,(i,v)::rest=>match place i with
  | none=>none
  | some (off,size)=>match decide (v.cells.toList.length=size),decide (off+v.cells.toList.length≤cells.length)with
   | true,true=>lM place (zH cells off v.cells.toList) rest
   | _,_=>none
theorem eZ (place:Nat→Option (Nat×Nat)):∀ (vs:List (Nat×Value)) (cells cs:List Value),lM place cells vs=some cs→Instr.fill place cells.toArray vs=some cs.toArray
 | [],cells,cs,h=>by simp[lM]at h;simp[Instr.fill,h]
 | (i,v)::rest,cells,cs,h=>by
  unfold lM at h
  unfold Instr.fill
  cases hp:place i with
  | none=>rw[hp]at h;simp at h
  | some x=>
   obtain⟨off,size⟩:=x
   rw[hp]at h
   simp only at h ⊢
   split at h
   · rename_i h1 h2
     simp only[decide_eq_true_eq,Array.length_toList]at h1 h2
     rw[if_neg (by simp;omega)]
     have hz:v.cells.zipIdx.foldl (fun(cs:Array Value) (x:Value×Nat)=>cs.setIfInBounds (off+x.2) x.1) cells.toArray=(zH cells off v.cells.toList).toArray:=by
      have:=DY off v.cells.toList 0 cells (by simpa using h2)
      rw[Nat.add_zero]at this
      rw[← this,← Array.foldl_toList]
      congr 1
      simp
     have ih:=eZ place rest _ _ h
     rw[← hz]at ih
     exact ih
   · cases h
def initL (zs:List Value) (n:Nat):List Value:=(List.replicate n zs).flatten
theorem wQ (zs:List Value) (n:Nat):(initL zs n).length=n*zs.length:=by simp[initL]
theorem AC (zs:List Value):∀ (n i:Nat),i < n*zs.length→(initL zs n)[i]? =zs[i % zs.length]?
 | 0,i,h=>by simp at h
 | n+1,i,h=>by
  have e:initL zs (n+1)=zs++initL zs n:=by simp[initL,List.replicate_succ]
  rw[e]
  by_cases hi:i < zs.length
  · rw[List.getElem?_append_left hi,Nat.mod_eq_of_lt hi]
  · have h2:i - zs.length < n*zs.length:=by rw[Nat.succ_mul]at h;omega
    rw[List.getElem?_append_right (by omega),AC zs n _ h2]
    congr 1
    rw[Nat.mod_eq_sub_mod (a:=i) (by omega)]
theorem eU (zs:List Value) (n:Nat):(Array.range (n*zs.length)).map (zs.toArray[· % zs.toArray.size]!)=(initL zs n).toArray:=by
 apply Array.ext
 · simp[wQ]
 · intro i h1 h2
   simp only[Array.size_map,Array.size_range]at h1
   have hg:=AC zs n i h1
   have hpos:0 < zs.length:=by
    rcases Nat.eq_zero_or_pos zs.length with h0 | h0
    · rw[h0]at h1;omega
    · exact h0
   have hlt:=Nat.mod_lt i hpos
   have h3:i < (initL zs n).length:=by simpa using h2
   rw[List.getElem?_eq_getElem h3,List.getElem?_eq_getElem hlt]at hg
   simp only[Option.some.injEq]at hg
   simp only[Array.getElem_map,Array.getElem_range,List.getElem_toArray,hg,List.size_toArray]
   rw[getElem!_pos zs.toArray _ (by simpa using hlt)]
   simp
section mk
variable {P:Program} {ds:List Deferred} {Q:vN} {K:List Value→World→Prop} {all os:List Oper} {l:List Value} {w0 w:World} {S:List Nat} {es:List Ent} {ty t:TypeId} {pos:String} {af:Array Edge} {d:Tmp} {v:Value}
 {x y z:Operand} {zs:List Value} {sz bytes:Nat} {agg:Bool}
theorem oH (h:xT P t zs sz bytes agg):∃ z,z.cells.toList=zs∧∀ w,(zeroValue t).run P w=.ok z w:=by
 obtain⟨i,z,d,hi,hz,hzs,_,_,hd,_⟩:=h.ex
 exact⟨z,hzs,fun w=>by simp[zeroValue,typeInfo,hi,hz]⟩
theorem aW (h:xT P t zs sz bytes agg) (H:Hp w0 w S es)
 (k:∀ w' g,Hp w0 w' S (es++[(some g,t,zs)])→g=w.heap.size→Ops P ds all K Q os (l.set d (.pointer (some ⟨g,0,none⟩))) w'):Ops P ds all K Q (⟨some d,.alloc t,ty,pos,af,none⟩::os) l w:=by
 obtain⟨z,hz,hr⟩:=oH h
 have H':=H.alloc t zs
 refine zD (w':=w.alloc (.cells zs.toArray t)) ?_ (k _ _ H' Y)
 intro _ _ _ _
 simp[execOp,Instr.alloc,hr,newVar,newRow,newObj,Sem.run]
 rw[← hz]
theorem yA (hx:ev l x=some v) {vs:List Value} (hv:v.cells=vs.toArray) (H:Hp w0 w S es)
 (k:∀ w' g,Hp w0 w' S (es++[(some g,t,vs)])→g=w.heap.size→Ops P ds all K Q os (l.set d (.pointer (some ⟨g,0,none⟩))) w'):Ops P ds all K Q (⟨some d,.box t x,ty,pos,af,none⟩::os) l w:=by
 have H':=H.alloc t vs
 refine zD (w':=w.alloc (.cells vs.toArray t)) ?_ (k _ _ H' Y)
 intro _ _ _ _
 simp[execOp,Instr.box,zV hx,newVar,newRow,newObj,Sem.run,hv]
theorem CV (ht:xT P t zs sz bytes agg) (H:Hp w0 w S es) {i g o:Nat} {T:TypeId} {cs vs:List Value} (hi:es[i]? =some (some g,T,cs)) (hv:v.cells=vs.toArray) (hl:vs.length=sz) (hfit:o+vs.length≤cs.length) (h1:vs.all (·.oneCell')=true):
 (Instr.storeAt t (.pointer (some ⟨g,o,none⟩)) v).run P w=.ok () (w.setRow g (zH cs o vs).toArray):=by
 have hs:=run_storeCells_at (P:=P) g o T vs 0 cs.toArray w (H.at hi) (by simpa using hfit) (by simpa using h1)
 simp only[Nat.add_zero]at hs
 simp[Instr.storeAt,Instr.sureAddr,storeVar,vF ht,hv,hl,hs,zH]
theorem fE (ht:xT P t zs sz bytes agg) (H:Hp w0 w S es) (i:Nat) {g o:Nat} {T:TypeId} {cs vs:List Value} (hx:ev l x=some (.pointer (some ⟨g,o,none⟩))) (hy:ev l y=some v) (hi:es[i]? =some (some g,T,cs))
 (hv:v.cells=vs.toArray) (hl:vs.length=sz) (hfit:o+vs.length≤cs.length) (h1:vs.all (·.oneCell')=true)
 (k:∀ w',Hp w0 w' S (es.set i (some g,T,zH cs o vs))→Ops P ds all K Q os l w'):Ops P ds all K Q (⟨none,.store t x y,ty,pos,af,none⟩::os) l w:=by
 refine DF (w':=w.setRow g (zH cs o vs).toArray) ?_ (k _ (H.setRow hi _))
 intro _ _ _ _
 simp[execOp,zV hx,zV hy,CV ht H hi hv hl hfit h1]
theorem cB (ht:xT P t zs 1 bytes agg) (H:Hp w0 w S es) (i:Nat) {g o:Nat} {T:TypeId} {cs:List Value} (hx:ev l x=some (.pointer (some ⟨g,o,none⟩))) (hy:ev l y=some v) (hi:es[i]? =some (some g,T,cs))
 (hv:v.cells=[v].toArray) (hfit:o < cs.length) (h1:v.oneCell'=true)
 (k:∀ w',Hp w0 w' S (es.set i (some g,T,cs.set o v))→Ops P ds all K Q os l w'):Ops P ds all K Q (⟨none,.store t x y,ty,pos,af,none⟩::os) l w:=by
 refine fE ht H i hx hy hi hv Y (by simpa using Nat.succ_le_of_lt hfit) (by simp[h1]) ?_
 rw[fA hfit]
 exact k
def pH (l:List Value):List (Nat×Operand)→Option (List (Nat×Value))
 | []=>some []
 | (i,x)::r=>match ev l x,pH l r with
  | some v,some vs=>some ((i,v)::vs)
  | _,_=>none
theorem pW :∀ {ps:List (Nat×Operand)} {vs:List (Nat×Value)},pH l ps=some vs→ps.map (fun(i,x)=>(i,rho l x))=vs
 | [],vs,h=>by simp[pH]at h;simp[h]
 | (i,x)::r,vs,h=>by
  simp only[pH]at h
  split at h
  · rename_i v us hv hus
    simp only[Option.some.injEq]at h
    subst h
    simp[zV hv,pW hus]
  · cases h
theorem zG {e:TypeId} (ht:P.underlying t=some (.slice e)) (he:xT P e zs sz bytes agg) (H:Hp w0 w S es) {n:Nat} {ps:List (Nat×Operand)} {vs:List (Nat×Value)} {cs:List Value} (hp:pH l ps=some vs)
 (hn:n*sz≤16777216) (hf':lM (fun i=>some (i*sz,sz)) (initL zs n) vs=some cs)
 (k:∀ w' g,Hp w0 w' S (es++[(some g,e,cs)])→g=w.heap.size→Ops P ds all K Q os (l.set d (.slice (hd (some g)) n n)) w'):Ops P ds all K Q (⟨some d,.buildSlice t n ps.toArray,ty,pos,af,none⟩::os) l w:=by
 obtain⟨z,hz,hr⟩:=oH he
 have H':=H.alloc e cs
 refine zD (w':=w.alloc (.cells cs.toArray e)) ?_ (k _ _ H' Y)
 intro _ _ _ _
 have hps:=pW hp
 have hnn:¬(n*sz > 2^24):=by omega
 have hzz:z.cells=zs.toArray:=by rw[← hz]
 have hf:=eZ _ _ _ _ hf'
 rw[← eU,he.len]at hf
 have h00:∀ f:Nat→Value,(Array.range 0).map f=#[]:=fun f=>by rw[Array.range_zero'];simp
 by_cases h0:n*sz=0
 · rw[h0,h00]at hf
   simp only[execOp,Instr.buildSlice,Sem.run_bind,run_underlying ht,vF he,Result.andThen_ok,List.map_toArray,hps,h0,if_true]
   simp[hf,h00,newRow,newObj,Sem.run]
 · have hcell:z.cells.size=zs.length:=by rw[hzz];simp
   simp only[List.size_toArray]at hf
   simp only[execOp,Instr.buildSlice,Sem.run_bind,run_underlying ht,vF he,Result.andThen_ok,List.map_toArray,hps,hnn,h0,if_false,hr,hzz,List.size_toArray,Sem.run_pure,hf]
   simp[newRow,newObj,Sem.run]
theorem M6 {e:TypeId} {z:Value} (ht:P.underlying t=some (.slice e)) (he:xT P e [z] 1 bytes agg) (H:Hp w0 w S es) {k1 k2:IntKind} {n c:Nat} (hx:ev l x=some (.int k1 n)) (hy:ev l y=some (.int k2 c))
 (hnc:n≤c) (hb:bytes*c≤281474976710656) (h63:c≤9223372036854775807)
 (k:∀ w' g,Hp w0 w' S (es++[(some g,e,List.replicate c z)])→g=w.heap.size→Ops P ds all K Q os (l.set d (.slice (hd (some g)) n c)) w'):Ops P ds all K Q (⟨some d,.makeSlice t x y,ty,pos,af,none⟩::os) l w:=by
 obtain⟨i,z',d',hi,hz,hzs,hsz,hby,hd',_⟩:=he.ex
 have H':=H.alloc e (List.replicate c z)
 refine zD (w':=w.alloc (.cells (List.replicate c z).toArray e)) ?_ (k _ _ H' Y)
 intro _ _ _ _
 have hr:=run_make (P:=P) w t e i z' ht hi hz k1 k2 n c (by omega) (by omega) (by rw[hby];omega) (by omega)
 have hc:madeCells z'.cells (c*i.size)=(List.replicate c z).toArray:=by
  have hcl:z'.cells=#[z]:=by
   apply Array.ext'
   simpa using hzs
  rw[hsz,hcl,Nat.mul_one]
  apply Array.ext
  · simp[madeCells]
  · intro j h1 h2
    simp[madeCells,Nat.mod_one]
 simp only[Int.toNat_natCast]at hr
 simp[execOp,zV hx,zV hy,hr,hc]
theorem V3 {need old bytes:Nat} (h:old < need) (hb:need*bytes≤211106232532992) (h2:bytes≤1048576):Builtin.nextslicecap need old*bytes≤281474976710656:=by
 have key:Builtin.nextslicecap need old≤need+(need+768) / 4+512:=by
  unfold Builtin.nextslicecap
  split
  · omega
  · split
    · omega
    · rw[growBy_four]
      repeat' split
      all_goals omega
 have h3:Builtin.nextslicecap need old*bytes≤(need+(need+768) / 4+512)*bytes:=Nat.mul_le_mul_right _ key
 have h4:(4*(need+(need+768) / 4+512))*bytes≤(5*need+2816)*bytes:=Nat.mul_le_mul_right _ (by omega)
 rw[Nat.mul_assoc,Nat.add_mul (5*need),Nat.mul_assoc 5]at h4
 omega
theorem FI (H:Hp w0 w S es) {e:TypeId} (ht:P.underlying t=some (.slice e)) (he:xT P e zs sz bytes agg) (hsz:0 < sz)
 {g:Option Nat} {n cap i:Nat} {xs sp:List Value} (hi:es[i]? =some (g,e,xs++sp)) (hn:xs.length=n*sz) (hc:cap*sz≤(xs++sp).length) (hnc:n≤cap) (hcap:g=none→cap=0)
 {A:Option Addr} {m c:Nat} {ys:List Value} (hr:Rd w A m sz ys) (h1:ys.all (·.oneCell')=true) (h63:n+m≤9223372036854775807) (hb:(n+m)*bytes≤211106232532992) (hb2:bytes≤1048576):
 ∃ w' g' cap' sp',(Builtin.append_ #[t,t] ty #[.slice (hd g) n cap,.slice A m c]).run P w=.ok (.slice (hd g') (n+m) cap') w'∧
  Hp w0 w' S (es.set i (g',e,(xs++ys)++sp'))∧cap'*sz≤((xs++ys)++sp').length∧n+m≤cap'∧(g'=none→cap'=0):=by
 obtain⟨inf,z,dd,hinf,hz,hzs,rfl,rfl,_,_⟩:=he.ex
 have hzsz:z.cells.size=zs.length:=by rw[← hzs];simp
 by_cases hroom:n+m≤cap
 ·
  cases g with
  | none=>
   have h0:=hcap rfl
   obtain⟨rfl,rfl⟩:n=0∧m=0:=by omega
   subst h0
   have hys:ys=[]:=List.eq_nil_of_length_eq_zero (by simpa using hr.len)
   have hxs:=H.none_ hi
   subst hys
   refine⟨w,none,0,sp,?_,?_,by simp,by omega,fun _=>Y⟩
   · cases A with
     | none=>simp[hd,Builtin.append_,run_underlying ht,sizeOf,typeInfo,hinf,Builtin.lenOf,Builtin.firstCells]
     | some a=>
      simp[hd,Builtin.append_,run_underlying ht,sizeOf,typeInfo,hinf,Builtin.lenOf,Builtin.firstCells,loadCells,loadCellsFrom]
   · rw[List.append_nil]
     have:es.set i (none,e,xs++sp)=es:=by
      apply List.ext_getElem?
      intro j
      rw[List.getElem?_set]
      split
      · rename_i hij;subst hij;rw[if_pos (lt_of_get hi)];exact hi.symm
      · rfl
     rw[this]
     exact H
  | some g=>
   have hrun:(Builtin.append_ #[t,t] ty #[.slice (hd (some g)) n cap,.slice A m c]).run P w=
    .ok (.slice (hd (some g)) (n+m) cap) (w.setRow g (zH (xs++sp) (n*inf.size) ys).toArray):=by
    have hst:=run_storeCells_at (P:=P) g (n*inf.size) e ys 0 (xs++sp).toArray w (H.at hi) (by
     simp only[Nat.add_zero,List.size_toArray]
     rw[hr.len,← Nat.add_mul]
     exact Nat.le_trans (Nat.mul_le_mul_right _ hroom) hc) (by simpa using h1)
    simp only[Nat.add_zero]at hst
    have hfc:(Builtin.firstCells inf.size m (.slice A m c)).run P w=.ok ys.toArray w:=by
     cases A with
     | none=>
      have:=hr.nil rfl
      subst this
      have hys:ys=[]:=List.eq_nil_of_length_eq_zero (by simpa using hr.len)
      subst hys
      exact run_firstCells_none w _ _ _ _
     | some a=>exact run_firstCells_some w inf.size m a m c ys hr.len (hr.cells a rfl)
    simp[hd,Builtin.append_,run_underlying ht,sizeOf,typeInfo,hinf,Builtin.lenOf,hroom,hfc,Addr.add_lit,hst,zH]
   have hp:zH (xs++sp) (n*inf.size) ys=(xs++ys)++sp.drop ys.length:=by
    rw[zH,← hn]
    have e1:(xs++sp).take xs.length=xs:=List.take_left
    have e2:(xs++sp).drop (xs.length+ys.length)=sp.drop ys.length:=by
     rw[List.drop_append]
     simp
    rw[e1,e2]
   refine⟨_,some g,cap,sp.drop ys.length,hrun,?_,?_,hroom,by simp⟩
   · rw[← hp];exact H.setRow hi _
   · rw[← hp,zH]
     have hle:n*inf.size+ys.length≤(xs++sp).length:=by
      rw[hr.len,← Nat.add_mul];exact Nat.le_trans (Nat.mul_le_mul_right _ hroom) hc
     simp only[List.length_append,List.length_take,List.length_drop]at hc hle ⊢
     omega
 ·
  have hold:cap < n+m:=by omega
  have hfit:=V3 hold hb hb2
  have hfo:(Builtin.firstCells inf.size n (.slice (hd g) n cap)).run P w.drew=.ok xs.toArray w.drew:=by
   cases g with
   | none=>
    have h0:=hcap rfl
    have hn0:n=0:=by omega
    subst hn0
    have hxs:xs=[]:=List.eq_nil_of_length_eq_zero (by simpa using hn)
    subst hxs
    exact run_firstCells_none _ _ _ _ _
   | some g=>
    refine run_firstCells_some _ inf.size n ⟨g,0,none⟩ n cap xs hn ?_
    intro j u hu
    rw[Addr.add_lit,Nat.zero_add]
    exact H.cell hi (by rw[List.getElem?_append_left (lt_of_get hu)];exact hu)
  have hfc:(Builtin.firstCells inf.size m (.slice A m c)).run P w.drew=.ok ys.toArray w.drew:=by
   cases A with
   | none=>
    have:=hr.nil rfl
    subst this
    have hys:ys=[]:=List.eq_nil_of_length_eq_zero (by simpa using hr.len)
    subst hys
    exact run_firstCells_none _ _ _ _ _
   | some a=>exact run_firstCells_some _ inf.size m a m c ys hr.len (fun j u hu=>hr.cells a rfl j u hu)
  have hn':¬(n+m≤cap):=hroom
  have h63':¬(9223372036854775807 < ((n:Int)+(m:Int))):=by omega
  have h48':¬(281474976710656 < Builtin.nextslicecap (n+m) cap*inf.bytes):=by omega
  have hge:=grownCap_ge w (n+m) cap e
  have hrun:(Builtin.append_ #[t,t] ty #[.slice (hd g) n cap,.slice A m c]).run P w=
   .ok (.slice (some ⟨w.heap.size,0,none⟩) (n+m) (grownCap w (n+m) cap e))
    (w.drew.alloc (.cells ((xs++ys)++(Builtin.zeroCells z.cells (grownCap w (n+m) cap e - (n+m))).toList).toArray e)):=by
   simp[Builtin.append_,run_underlying ht,sizeOf,typeInfo,zeroValue,hinf,hz,Builtin.lenOf,hn',h63',h48',Question.forced,hfc,hfo,newRow,grownCap]
   congr 2
   apply Array.ext'
   simp
  have H1:Hp w0 w.drew S es:=H.drew
  have H2:=(H1.alloc e ((xs++ys)++(Builtin.zeroCells z.cells (grownCap w (n+m) cap e - (n+m))).toList)).pick
   ((List.range es.length).set i es.length) (by
    rw[List.nodup_iff_pairwise_ne,List.pairwise_iff_getElem]
    intro a b ha hb hab
    simp only[List.length_set,List.length_range]at ha hb
    rw[List.getElem_set,List.getElem_set]
    split <;>split <;>simp <;>omega)
  have hpick:(((List.range es.length).set i es.length).map fun j=>(es++[(some w.drew.heap.size,e,(xs++ys)++(Builtin.zeroCells z.cells (grownCap w (n+m) cap e - (n+m))).toList)]).getD j (none,0,[]))=
   es.set i (some w.heap.size,e,(xs++ys)++(Builtin.zeroCells z.cells (grownCap w (n+m) cap e - (n+m))).toList):=by
   apply List.ext_getElem?
   intro j
   rw[List.getElem?_map,List.getElem?_set,List.getElem?_set]
   by_cases hij:i=j
   · subst hij
     have hlt:=lt_of_get hi
     simp[hlt]
   · simp only[hij,if_false]
     rcases Nat.lt_or_ge j es.length with hj | hj
     · rw[List.getElem?_range hj,Option.map_some,List.getD_eq_getElem?_getD,List.getElem?_append_left hj,List.getElem?_eq_getElem hj]
       rfl
     · rw[List.getElem?_eq_none (by simpa using hj),List.getElem?_eq_none hj]
       rfl
  rw[hpick]at H2
  refine⟨_,some w.heap.size,_,_,hrun,H2,?_,hge,by simp⟩
  simp only[List.length_append,hn,hr.len,Array.length_toList,Builtin.zeroCells,Array.size_map,Array.size_range]
  rw[hzsz,he.len,← Nat.add_mul,← Nat.add_mul]
  exact Nat.mul_le_mul_right _ (by omega)
theorem yX {e:TypeId} (ht:P.underlying t=some (.slice e)) (he:xT P e zs sz bytes agg) (hsz:0 < sz) (H:Hp w0 w S es) (i:Nat)
 {g:Option Nat} {n cap:Nat} {xs sp:List Value} (hx:ev l x=some (.slice (hd g) n cap)) (hi:es[i]? =some (g,e,xs++sp)) (hn:xs.length=n*sz) (hc:cap*sz≤(xs++sp).length) (hnc:n≤cap) (hcap:g=none→cap=0)
 {A:Option Addr} {m c:Nat} {ys:List Value} (hy:ev l y=some (.slice A m c)) (hr:Rd w A m sz ys) (h1:ys.all (·.oneCell')=true) (h63:n+m≤9223372036854775807) (hb:(n+m)*bytes≤211106232532992) (hb2:bytes≤1048576)
 (k:∀ w' g' cap' sp',Hp w0 w' S (es.set i (g',e,(xs++ys)++sp'))→cap'*sz≤((xs++ys)++sp').length→n+m≤cap'→(g'=none→cap'=0)→Ops P ds all K Q os (l.set d (.slice (hd g') (n+m) cap')) w'):
 Ops P ds all K Q (⟨some d,.call { callee:=.builtin .append,args:=#[x,y],argTypes:=#[t,t] },ty,pos,af,none⟩::os) l w:=by
 obtain⟨w',g',cap',sp',hrun,H',h2,h3,h4⟩:=FI (ty:=ty) (c:=c) H ht he hsz hi hn hc hnc hcap hr h1 h63 hb hb2
 refine zD (w':=w') ?_ (k w' g' cap' sp' H' h2 h3 h4)
 intro _ _ _ _
 simp[execOp,resolve,invoke,builtin,zV hx,zV hy,hrun]
def fin (P:Program) (fn:Func) (R:Value→World→Prop):vN
 | .normal,l,w=>∃ v,(results fn l.toArray).run P w=.ok v w∧R v w
 | .ret,l,w=>∃ v,(results fn l.toArray).run P w=.ok v w∧R v w
 | _,_,_=>False
theorem zE {f:FuncId} {fn:Func} {c:Code} {args:List Value} {R:Value→World→Prop} {n:Nat} (hf:P.funcs[f]? =some fn) (hn:fn.ntmps=n) (hb:fn.body=some c)
 (h:Run P [] [c] (fin P fn R) (args++List.replicate (n - args.length) undef) w):zP P f args.toArray w R:=by
 refine calls_of_wp hf hb ?_
 rw[hn]
 have hl:args.toArray++Array.replicate (n - args.toArray.size) undef=(args++List.replicate (n - args.length) undef).toArray:=by simp
 rw[hl]
 refine Go.wp_mono h ?_
 rintro e ⟨t,d⟩ w' ⟨hd,h2⟩
 cases e with
 | normal=>exact(let ⟨v,h3,h4⟩:=h2;⟨hd,v,h3,v,rfl,h4⟩)
 | ret=>exact(let ⟨v,h3,h4⟩:=h2;⟨hd,v,h3,v,rfl,h4⟩)
 | _=>exact h2.elim
variable {fn:Func} {R:Value→World→Prop} {u v1 v2 v3:Value} {r1 r2 r3:Tmp}
theorem rQ (hr:fn.results=#[]) (h:R (.tuple #[]) w):fin P fn R .ret l w:=⟨_,results_none hr _ _ _,h⟩
theorem yN (hr:fn.results=#[]) (h:R (.tuple #[]) w):fin P fn R .normal l w:=⟨_,results_none hr _ _ _,h⟩
theorem iS {l:List Value} {t:Nat} {v:Value} (h:nth l t=some v):l.toArray.getD t undef=v:=by
 rw[pK]at h
 simp[h]
theorem tG (hr:fn.results=#[.tmp r1]) (h1:nth l r1=some v1) (h:R v1 w):fin P fn R .ret l w:=
 ⟨_,results_tmp hr _ _ _,by rw[iS h1];exact h⟩
theorem D5 (hr:fn.results=#[.tmp r1,.tmp r2]) (h1:nth l r1=some v1) (h2:nth l r2=some v2) (h:R (.tuple #[v1,v2]) w):fin P fn R .ret l w:=
 ⟨_,results_tmp2 hr _ _ _,by rw[iS h1,iS h2];exact h⟩
theorem sA (hr:fn.results=#[.tmp r1,.tmp r2,.tmp r3]) (h1:nth l r1=some v1) (h2:nth l r2=some v2) (h3:nth l r3=some v3) (h:R (.tuple #[v1,v2,v3]) w):fin P fn R .ret l w:=
 ⟨.tuple #[v1,v2,v3],by rw[pK]at h1 h2 h3;simp[results,hr,h1,h2,h3],h⟩
end mk
end Go.Proofs.YtjoeklkmnfaabaaGreat
namespace Go.Proofs.YtjoeklkmnfaabaaGreat
open Go
theorem nO15 {P:Program} {ds:List Deferred} {o:List Oper} {K:List Value→World→Prop} {Q:vN} {p:List Oper} {w:World} {a0 a1 a2 a3 a4 a5 a6 a7 a8 a9 a10 a11 a12 Az Ba:Value} (h:Ops P ds o K Q p [a0,a1,a2,a3,a4,a5,a6,a7,a8,a9,a10,a11,a12,Az,Ba] w):Ops P ds o K Q p [a0,a1,a2,a3,a4,a5,a6,a7,a8,a9,a10,a11,a12,Az,Ba] w:=h
theorem nO19 {P:Program} {ds:List Deferred} {o:List Oper} {K:List Value→World→Prop} {Q:vN} {p:List Oper} {w:World} {a0 a1 a2 a3 a4 a5 a6 a7 a8 a9 a10 a11 a12 Az Ba Bf a16 a17 Bl:Value} (h:Ops P ds o K Q p [a0,a1,a2,a3,a4,a5,a6,a7,a8,a9,a10,a11,a12,Az,Ba,Bf,a16,a17,Bl] w):Ops P ds o K Q p [a0,a1,a2,a3,a4,a5,a6,a7,a8,a9,a10,a11,a12,Az,Ba,Bf,a16,a17,Bl] w:=h
theorem nO26 {P:Program} {ds:List Deferred} {o:List Oper} {K:List Value→World→Prop} {Q:vN} {p:List Oper} {w:World} {a0 a1 a2 a3 a4 a5 a6 a7 a8 a9 a10 a11 a12 Az Ba Bf a16 a17 Bl Bq a20 a21 a22 a23 a24 a25:Value} (h:Ops P ds o K Q p [a0,a1,a2,a3,a4,a5,a6,a7,a8,a9,a10,a11,a12,Az,Ba,Bf,a16,a17,Bl,Bq,a20,a21,a22,a23,a24,a25] w):Ops P ds o K Q p [a0,a1,a2,a3,a4,a5,a6,a7,a8,a9,a10,a11,a12,Az,Ba,Bf,a16,a17,Bl,Bq,a20,a21,a22,a23,a24,a25] w:=h
theorem BN {P:Program} {ds:List Deferred} {o:List Oper} {K:List Value→World→Prop} {Q:vN} {p:List Oper} {w:World} {a0 a1 a2 a3 a4 a5 a6 a7 a8 a9 a10 a11 a12 Az Ba Bf a16 a17 Bl Bq a20 a21 a22 a23 a24 a25 a26 a27 a28 a29 a30:Value} (h:Ops P ds o K Q p [a0,a1,a2,a3,a4,a5,a6,a7,a8,a9,a10,a11,a12,Az,Ba,Bf,a16,a17,Bl,Bq,a20,a21,a22,a23,a24,a25,a26,a27,a28,a29,a30] w):Ops P ds o K Q p [a0,a1,a2,a3,a4,a5,a6,a7,a8,a9,a10,a11,a12,Az,Ba,Bf,a16,a17,Bl,Bq,a20,a21,a22,a23,a24,a25,a26,a27,a28,a29,a30] w:=h
theorem jR {P:Program} {ds:List Deferred} {o:List Oper} {K:List Value→World→Prop} {Q:vN} {p:List Oper} {w:World} {a0 a1 a2 a3 a4 a5 a6 a7 a8 a9 a10 a11 a12 Az Ba Bf a16 a17 Bl Bq a20 a21 a22 a23 a24 a25 a26 a27 a28 a29 a30 a31 a32 a33 a34 a35 a36 a37 a38 a39 a40:Value} (h:Ops P ds o K Q p [a0,a1,a2,a3,a4,a5,a6,a7,a8,a9,a10,a11,a12,Az,Ba,Bf,a16,a17,Bl,Bq,a20,a21,a22,a23,a24,a25,a26,a27,a28,a29,a30,a31,a32,a33,a34,a35,a36,a37,a38,a39,a40] w):Ops P ds o K Q p [a0,a1,a2,a3,a4,a5,a6,a7,a8,a9,a10,a11,a12,Az,Ba,Bf,a16,a17,Bl,Bq,a20,a21,a22,a23,a24,a25,a26,a27,a28,a29,a30,a31,a32,a33,a34,a35,a36,a37,a38,a39,a40] w:=h
theorem KL {P:Program} {ds:List Deferred} {c:List Code} {Q:vN} {w:World} {a0 a1 a2 a3 a4 a5 a6 a7 a8 a9 a10 a11 a12 Az Ba:Value} (h:Run P ds c Q [a0,a1,a2,a3,a4,a5,a6,a7,a8,a9,a10,a11,a12,Az,Ba] w):Run P ds c Q [a0,a1,a2,a3,a4,a5,a6,a7,a8,a9,a10,a11,a12,Az,Ba] w:=h
theorem BM {P:Program} {ds:List Deferred} {c:List Code} {Q:vN} {w:World} {a0 a1 a2 a3 a4 a5 a6 a7 a8 a9 a10 a11 a12 Az Ba Bf a16 a17 Bl:Value} (h:Run P ds c Q [a0,a1,a2,a3,a4,a5,a6,a7,a8,a9,a10,a11,a12,Az,Ba,Bf,a16,a17,Bl] w):Run P ds c Q [a0,a1,a2,a3,a4,a5,a6,a7,a8,a9,a10,a11,a12,Az,Ba,Bf,a16,a17,Bl] w:=h
theorem iP {P:Program} {ds:List Deferred} {c:List Code} {Q:vN} {w:World} {a0 a1 a2 a3 a4 a5 a6 a7 a8 a9 a10 a11 a12 Az Ba Bf a16 a17 Bl Bq a20 a21 a22 a23 a24 a25:Value} (h:Run P ds c Q [a0,a1,a2,a3,a4,a5,a6,a7,a8,a9,a10,a11,a12,Az,Ba,Bf,a16,a17,Bl,Bq,a20,a21,a22,a23,a24,a25] w):Run P ds c Q [a0,a1,a2,a3,a4,a5,a6,a7,a8,a9,a10,a11,a12,Az,Ba,Bf,a16,a17,Bl,Bq,a20,a21,a22,a23,a24,a25] w:=h
theorem fJ {P:Program} {ds:List Deferred} {c:List Code} {Q:vN} {w:World} {a0 a1 a2 a3 a4 a5 a6 a7 a8 a9 a10 a11 a12 Az Ba Bf a16 a17 Bl Bq a20 a21 a22 a23 a24 a25 a26 a27 a28 a29 a30:Value} (h:Run P ds c Q [a0,a1,a2,a3,a4,a5,a6,a7,a8,a9,a10,a11,a12,Az,Ba,Bf,a16,a17,Bl,Bq,a20,a21,a22,a23,a24,a25,a26,a27,a28,a29,a30] w):Run P ds c Q [a0,a1,a2,a3,a4,a5,a6,a7,a8,a9,a10,a11,a12,Az,Ba,Bf,a16,a17,Bl,Bq,a20,a21,a22,a23,a24,a25,a26,a27,a28,a29,a30] w:=h
theorem sP {P:Program} {ds:List Deferred} {c:List Code} {Q:vN} {w:World} {a0 a1 a2 a3 a4 a5 a6 a7 a8 a9 a10 a11 a12 Az Ba Bf a16 a17 Bl Bq a20 a21 a22 a23 a24 a25 a26 a27 a28 a29 a30 a31 a32 a33 a34 a35 a36 a37 a38 a39 a40:Value} (h:Run P ds c Q [a0,a1,a2,a3,a4,a5,a6,a7,a8,a9,a10,a11,a12,Az,Ba,Bf,a16,a17,Bl,Bq,a20,a21,a22,a23,a24,a25,a26,a27,a28,a29,a30,a31,a32,a33,a34,a35,a36,a37,a38,a39,a40] w):Run P ds c Q [a0,a1,a2,a3,a4,a5,a6,a7,a8,a9,a10,a11,a12,Az,Ba,Bf,a16,a17,Bl,Bq,a20,a21,a22,a23,a24,a25,a26,a27,a28,a29,a30,a31,a32,a33,a34,a35,a36,a37,a38,a39,a40] w:=h
theorem nS26 {P:Program} {ds:List Deferred} {o:List Oper} {w:World} {K:List Value→Prop} {p:List Oper} {a0 a1 a2 a3 a4 a5 a6 a7 a8 a9 a10 a11 a12 Az Ba Bf a16 a17 Bl Bq a20 a21 a22 a23 a24 a25:Value} (h:yT P ds o w K p [a0,a1,a2,a3,a4,a5,a6,a7,a8,a9,a10,a11,a12,Az,Ba,Bf,a16,a17,Bl,Bq,a20,a21,a22,a23,a24,a25]):yT P ds o w K p [a0,a1,a2,a3,a4,a5,a6,a7,a8,a9,a10,a11,a12,Az,Ba,Bf,a16,a17,Bl,Bq,a20,a21,a22,a23,a24,a25]:=h
end Go.Proofs.YtjoeklkmnfaabaaGreat
namespace Go.Proofs.YtjoeklkmnfaabaaGreat
open Go
theorem ty3 :xT Tryz.prog 3 [.int .i64 0] 1 8 false:=uA (by kernel_rfl)
theorem ty4 :xT Tryz.prog 4 [.bool false] 1 1 false:=uA (by kernel_rfl)
theorem ty5 :xT Tryz.prog 5 [.int .u8 0] 1 1 false:=uA (by kernel_rfl)
theorem ty9 :xT Tryz.prog 9 [.string .empty] 1 16 false:=uA (by kernel_rfl)
theorem FA :xT Tryz.prog 23 [.pointer none] 1 8 false:=uA (by kernel_rfl)
theorem pR :xT Tryz.prog 24 [.int .i64 0] 1 8 false:=uA (by kernel_rfl)
theorem AZ :xT Tryz.prog 27 [.pointer none] 1 8 false:=uA (by kernel_rfl)
theorem xR :xT Tryz.prog 35 [.int .i64 0,.string .empty,.int .i64 0,.int .i64 0] 4 40 true:=uA (by kernel_rfl)
theorem qE :yH Tryz.prog 35 0=some (0,3):=by kernel_rfl
theorem oP :yH Tryz.prog 35 1=some (1,9):=by kernel_rfl
theorem cX :yH Tryz.prog 35 2=some (2,3):=by kernel_rfl
theorem F3 :yH Tryz.prog 35 3=some (3,3):=by kernel_rfl
theorem qH :xT Tryz.prog 37 [.slice none 0 0] 1 24 false:=uA (by kernel_rfl)
theorem kX :xT Tryz.prog 38 [.slice none 0 0] 1 24 false:=uA (by kernel_rfl)
theorem mM :xT Tryz.prog 39 [.slice none 0 0] 1 24 false:=uA (by kernel_rfl)
theorem xQ :xT Tryz.prog 41 [.slice none 0 0,.slice none 0 0,.slice none 0 0] 3 72 true:=uA (by kernel_rfl)
theorem vO :yH Tryz.prog 41 0=some (0,37):=by kernel_rfl
theorem sU :yH Tryz.prog 41 1=some (1,38):=by kernel_rfl
theorem tJ :yH Tryz.prog 41 2=some (2,39):=by kernel_rfl
theorem JN :xT Tryz.prog 50 [.slice none 0 0] 1 24 false:=uA (by kernel_rfl)
theorem uC :xT Tryz.prog 65 [.pointer none] 1 8 false:=uA (by kernel_rfl)
theorem ty69 :xT Tryz.prog 69 [.pointer none,.slice none 0 0,.slice none 0 0,.slice none 0 0] 4 80 true:=uA (by kernel_rfl)
theorem jZ :yH Tryz.prog 69 0=some (0,65):=by kernel_rfl
theorem jY :yH Tryz.prog 69 1=some (1,41):=by kernel_rfl
theorem xK :xT Tryz.prog 73 [.slice none 0 0] 1 24 false:=uA (by kernel_rfl)
theorem wX :xT Tryz.prog 75 [.int .i64 0,.int .i64 0] 2 16 true:=uA (by kernel_rfl)
theorem sT :yH Tryz.prog 75 0=some (0,3):=by kernel_rfl
theorem qD :yH Tryz.prog 75 1=some (1,3):=by kernel_rfl
theorem yZ :xT Tryz.prog 77 [.int .i64 0,.int .i64 0,.int .i64 0,.slice none 0 0] 4 48 true:=uA (by kernel_rfl)
theorem vB :yH Tryz.prog 77 0=some (0,3):=by kernel_rfl
theorem tZ :yH Tryz.prog 77 1=some (1,75):=by kernel_rfl
theorem sS :yH Tryz.prog 77 2=some (3,73):=by kernel_rfl
theorem wD :xT Tryz.prog 79 [.int .i64 0,.slice none 0 0] 2 32 true:=uA (by kernel_rfl)
theorem wE :yH Tryz.prog 79 0=some (0,3):=by kernel_rfl
theorem uV :yH Tryz.prog 79 1=some (1,73):=by kernel_rfl
theorem xE :xT Tryz.prog 81 [.int .i64 0,.int .i64 0,.int .i64 0,.int .i64 0,.int .i64 0,.int .i64 0,.int .i64 0,.slice none 0 0,.int .i64 0,.slice none 0 0,.int .i64 0,.string .empty,.int .i64 0,.int .i64 0,.int .i64 0,.int .i64 0] 16 168 true:=uA (by kernel_rfl)
theorem oO :yH Tryz.prog 81 0=some (0,3):=by kernel_rfl
theorem fl81_1 :yH Tryz.prog 81 1=some (1,3):=by kernel_rfl
theorem jX :yH Tryz.prog 81 2=some (2,75):=by kernel_rfl
theorem oN :yH Tryz.prog 81 3=some (4,77):=by kernel_rfl
theorem uE :yH Tryz.prog 81 4=some (8,79):=by kernel_rfl
theorem fO :yH Tryz.prog 81 5=some (10,35):=by kernel_rfl
theorem tA :yH Tryz.prog 81 6=some (14,3):=by kernel_rfl
theorem sQ :yH Tryz.prog 81 7=some (15,3):=by kernel_rfl
theorem E9 :xT Tryz.prog 86 [.slice none 0 0] 1 24 false:=uA (by kernel_rfl)
theorem bP :xT Tryz.prog 87 [.slice none 0 0] 1 24 false:=uA (by kernel_rfl)
theorem ty89 :xT Tryz.prog 89 [.slice none 0 0,.slice none 0 0,.bool false,.int .i64 0] 4 64 true:=uA (by kernel_rfl)
theorem jW :yH Tryz.prog 89 0=some (0,86):=by kernel_rfl
theorem oM :yH Tryz.prog 89 1=some (1,87):=by kernel_rfl
theorem jV :yH Tryz.prog 89 2=some (2,4):=by kernel_rfl
theorem cW :yH Tryz.prog 89 3=some (3,3):=by kernel_rfl
theorem gT :xT Tryz.prog 91 [.int .u8 0,.int .u8 0,.int .u8 0,.int .u8 0,.int .u8 0,.int .u8 0,.int .u8 0,.int .u8 0,.int .u8 0,.int .u8 0,.int .u8 0,.int .u8 0,.int .u8 0,.int .u8 0,.int .u8 0,.int .u8 0,.int .u8 0,.int .u8 0,.int .u8 0,.int .u8 0,.int .u8 0,.int .u8 0,.int .u8 0,.int .u8 0,.int .u8 0,.int .u8 0,.int .u8 0,.int .u8 0,.int .u8 0,.int .u8 0,.int .u8 0,.int .u8 0,.int .u8 0,.int .u8 0,.int .u8 0,.int .u8 0,.int .u8 0,.int .u8 0,.int .u8 0,.int .u8 0,.int .u8 0,.int .u8 0,.int .u8 0,.int .u8 0,.int .u8 0,.int .u8 0,.int .u8 0,.int .u8 0,.int .u8 0,.int .u8 0,.int .u8 0,.int .u8 0,.int .u8 0,.int .u8 0,.int .u8 0,.int .u8 0,.int .u8 0,.int .u8 0,.int .u8 0,.int .u8 0,.int .u8 0,.int .u8 0,.int .u8 0,.int .u8 0] 64 64 true:=uA (by kernel_rfl)
theorem gS :xT Tryz.prog 93 [.int .i64 0,.int .u8 0,.int .u8 0,.int .u8 0,.int .u8 0,.int .u8 0,.int .u8 0,.int .u8 0,.int .u8 0,.int .u8 0,.int .u8 0,.int .u8 0,.int .u8 0,.int .u8 0,.int .u8 0,.int .u8 0,.int .u8 0,.int .u8 0,.int .u8 0,.int .u8 0,.int .u8 0,.int .u8 0,.int .u8 0,.int .u8 0,.int .u8 0,.int .u8 0,.int .u8 0,.int .u8 0,.int .u8 0,.int .u8 0,.int .u8 0,.int .u8 0,.int .u8 0,.int .u8 0,.int .u8 0,.int .u8 0,.int .u8 0,.int .u8 0,.int .u8 0,.int .u8 0,.int .u8 0,.int .u8 0,.int .u8 0,.int .u8 0,.int .u8 0,.int .u8 0,.int .u8 0,.int .u8 0,.int .u8 0,.int .u8 0,.int .u8 0,.int .u8 0,.int .u8 0,.int .u8 0,.int .u8 0,.int .u8 0,.int .u8 0,.int .u8 0,.int .u8 0,.int .u8 0,.int .u8 0,.int .u8 0,.int .u8 0,.int .u8 0,.int .u8 0] 65 72 true:=uA (by kernel_rfl)
theorem BW :yH Tryz.prog 93 0=some (0,3):=by kernel_rfl
theorem BV :yH Tryz.prog 93 1=some (1,91):=by kernel_rfl
theorem uP :xT Tryz.prog 94 [.slice none 0 0] 1 24 false:=uA (by kernel_rfl)
theorem uZ :xT Tryz.prog 95 [.slice none 0 0] 1 24 false:=uA (by kernel_rfl)
theorem xW :xT Tryz.prog 97 [.int .i64 0,.int .i64 0,.slice none 0 0,.int .i64 0,.slice none 0 0,.slice none 0 0] 6 96 true:=uA (by kernel_rfl)
theorem vW :yH Tryz.prog 97 0=some (0,75):=by kernel_rfl
theorem xV :yH Tryz.prog 97 1=some (2,94):=by kernel_rfl
theorem wR :yH Tryz.prog 97 2=some (3,3):=by kernel_rfl
theorem uU :yH Tryz.prog 97 3=some (4,73):=by kernel_rfl
theorem xZ :yH Tryz.prog 97 4=some (5,95):=by kernel_rfl
theorem gQ :xT Tryz.prog 98 [.slice none 0 0] 1 24 false:=uA (by kernel_rfl)
theorem yP :xT Tryz.prog 110 [.int .i64 0,.int .i64 0,.bool false,.int .i64 0,.int .i64 0,.int .i64 0,.int .i64 0] 7 56 true:=uA (by kernel_rfl)
theorem tN :yH Tryz.prog 110 0=some (0,3):=by kernel_rfl
theorem kS :yH Tryz.prog 110 1=some (1,3):=by kernel_rfl
theorem IR :yH Tryz.prog 110 2=some (2,4):=by kernel_rfl
theorem ty116 :xT Tryz.prog 116 [] 0 0 true:=uA (by kernel_rfl)
theorem oV :xT Tryz.prog 118 [.int .u64 0] 1 8 false:=uA (by kernel_rfl)
theorem ty120 :xT Tryz.prog 120 [.pointer none,.bool false,.int .u64 0,.int .i64 0,.slice none 0 0,.slice none 0 0,.int .i64 0,.int .i64 0,.int .i64 0] 9 104 true:=uA (by kernel_rfl)
theorem qY :yH Tryz.prog 120 0=some (0,27):=by kernel_rfl
theorem mE :yH Tryz.prog 120 1=some (1,4):=by kernel_rfl
theorem B0 :yH Tryz.prog 120 2=some (2,118):=by kernel_rfl
theorem qF :yH Tryz.prog 120 3=some (3,3):=by kernel_rfl
theorem sI :yH Tryz.prog 120 4=some (4,98):=by kernel_rfl
theorem kQ :yH Tryz.prog 120 5=some (5,50):=by kernel_rfl
theorem oA :yH Tryz.prog 120 6=some (6,3):=by kernel_rfl
theorem iV :yH Tryz.prog 120 7=some (7,3):=by kernel_rfl
theorem eY :yH Tryz.prog 120 8=some (8,3):=by kernel_rfl
theorem pF :xT Tryz.prog 122 [.int .u64 0,.int .i64 0,.int .i64 0,.int .i64 0] 4 32 true:=uA (by kernel_rfl)
theorem eX :yH Tryz.prog 122 0=some (0,118):=by kernel_rfl
theorem BZ :yH Tryz.prog 122 1=some (1,3):=by kernel_rfl
theorem IQ :yH Tryz.prog 122 2=some (2,3):=by kernel_rfl
theorem BY :yH Tryz.prog 122 3=some (3,3):=by kernel_rfl
theorem CN :xT Tryz.prog 136 [.nilFunc] 1 8 false:=uA (by kernel_rfl)
theorem LX :xT Tryz.prog 165 [.pointer none] 1 8 false:=uA (by kernel_rfl)
theorem ty167 :xT Tryz.prog 167 [.slice none 0 0,.pointer none,.bool false] 3 40 true:=uA (by kernel_rfl)
theorem kP :yH Tryz.prog 167 0=some (0,73):=by kernel_rfl
theorem BX :yH Tryz.prog 167 1=some (1,165):=by kernel_rfl
theorem vZ :yH Tryz.prog 167 2=some (2,4):=by kernel_rfl
theorem pV :xT Tryz.prog 175 [.pointer none] 1 8 false:=uA (by kernel_rfl)
theorem TK :xT Tryz.prog 178 [.pointer none,.slice none 0 0,.bool false,.int .i64 0] 4 48 true:=uA (by kernel_rfl)
theorem tM :yH Tryz.prog 178 0=some (0,175):=by kernel_rfl
theorem eW :yH Tryz.prog 178 1=some (1,73):=by kernel_rfl
theorem pZ :yH Tryz.prog 178 2=some (2,4):=by kernel_rfl
theorem IP :yH Tryz.prog 178 3=some (3,24):=by kernel_rfl
theorem tK :xT Tryz.prog 180 [.pointer none] 1 8 false:=uA (by kernel_rfl)
theorem ty192 :xT Tryz.prog 192 [.nilFunc,.nilFunc,.nilFunc,.nilFunc,.nilFunc] 5 40 true:=uA (by kernel_rfl)
theorem ty219 :xT Tryz.prog 219 [.slice none 0 0,.int .i64 0,.int .i64 0] 3 40 true:=uA (by kernel_rfl)
theorem eV :yH Tryz.prog 219 0=some (0,73):=by kernel_rfl
theorem iU :yH Tryz.prog 219 1=some (1,3):=by kernel_rfl
theorem mD :yH Tryz.prog 219 2=some (2,24):=by kernel_rfl
theorem aB :xT Tryz.prog 224 [.pointer none] 1 8 false:=uA (by kernel_rfl)
theorem TJ :xT Tryz.prog 245 [.int .i64 0,.int .i64 0,.int .i64 0,.slice none 0 0] 4 48 true:=uA (by kernel_rfl)
theorem TI :xT Tryz.prog 261 [.map none] 1 8 false:=uA (by kernel_rfl)
theorem TH :xT Tryz.prog 263 [.int .i64 0,.int .i64 0,.int .i64 0,.map none] 4 32 true:=uA (by kernel_rfl)
theorem IOa :yH Tryz.prog 263 2=some (3,261):=by kernel_rfl
theorem gf7 :yB Tryz.prog 7=true:=by kernel_rfl
theorem gf8 :yB Tryz.prog 8=true:=by kernel_rfl
theorem gf9 :yB Tryz.prog 9=true:=by kernel_rfl
theorem gf10 :yB Tryz.prog 10=true:=by kernel_rfl
theorem gf11 :yB Tryz.prog 11=true:=by kernel_rfl
theorem gf12 :yB Tryz.prog 12=true:=by kernel_rfl
theorem gf13 :yB Tryz.prog 13=true:=by kernel_rfl
theorem VZ :yB Tryz.prog 14=true:=by kernel_rfl
theorem gf15 :yB Tryz.prog 15=true:=by kernel_rfl
theorem gf16 :yB Tryz.prog 16=true:=by kernel_rfl
theorem gf17 :yB Tryz.prog 17=true:=by kernel_rfl
theorem gf18 :yB Tryz.prog 18=true:=by kernel_rfl
theorem gf19 :yB Tryz.prog 19=true:=by kernel_rfl
theorem gf20 :yB Tryz.prog 20=true:=by kernel_rfl
theorem gf21 :yB Tryz.prog 21=true:=by kernel_rfl
theorem gf28 :yB Tryz.prog 28=true:=by kernel_rfl
theorem gf29 :yB Tryz.prog 29=true:=by kernel_rfl
theorem gf30 :yB Tryz.prog 30=true:=by kernel_rfl
theorem gf31 :yB Tryz.prog 31=true:=by kernel_rfl
theorem SO :yB Tryz.prog 32=true:=by kernel_rfl
theorem gf33 :yB Tryz.prog 33=true:=by kernel_rfl
theorem gf34 :yB Tryz.prog 34=true:=by kernel_rfl
theorem gf35 :yB Tryz.prog 35=true:=by kernel_rfl
theorem gf36 :yB Tryz.prog 36=true:=by kernel_rfl
theorem gf37 :yB Tryz.prog 37=true:=by kernel_rfl
theorem VY :yB Tryz.prog 38=true:=by kernel_rfl
theorem N8 :yB Tryz.prog 39=true:=by kernel_rfl
theorem gf40 :yB Tryz.prog 40=true:=by kernel_rfl
theorem gf41 :yB Tryz.prog 41=true:=by kernel_rfl
theorem gf42 :yB Tryz.prog 42=true:=by kernel_rfl
theorem gf43 :yB Tryz.prog 43=true:=by kernel_rfl
theorem gf44 :yB Tryz.prog 44=true:=by kernel_rfl
theorem gf45 :yB Tryz.prog 45=true:=by kernel_rfl
theorem gf46 :yB Tryz.prog 46=true:=by kernel_rfl
theorem gf47 :yB Tryz.prog 47=true:=by kernel_rfl
theorem gf48 :yB Tryz.prog 48=true:=by kernel_rfl
theorem gf49 :yB Tryz.prog 49=true:=by kernel_rfl
theorem gf50 :yB Tryz.prog 50=true:=by kernel_rfl
theorem VX :yB Tryz.prog 51=true:=by kernel_rfl
theorem gf52 :yB Tryz.prog 52=true:=by kernel_rfl
theorem gf54 :yB Tryz.prog 54=true:=by kernel_rfl
theorem VW :yB Tryz.prog 55=true:=by kernel_rfl
theorem gf56 :yB Tryz.prog 56=true:=by kernel_rfl
theorem F0 :yB Tryz.prog 57=true:=by kernel_rfl
theorem gf58 :yB Tryz.prog 58=true:=by kernel_rfl
theorem gf59 :yB Tryz.prog 59=true:=by kernel_rfl
theorem gf60 :yB Tryz.prog 60=true:=by kernel_rfl
theorem gf61 :yB Tryz.prog 61=true:=by kernel_rfl
theorem kZ :yB Tryz.prog 62=true:=by kernel_rfl
theorem gf63 :yB Tryz.prog 63=true:=by kernel_rfl
theorem gf64 :yB Tryz.prog 64=true:=by kernel_rfl
theorem gf65 :yB Tryz.prog 65=true:=by kernel_rfl
theorem gf66 :yB Tryz.prog 66=true:=by kernel_rfl
theorem gf67 :yB Tryz.prog 67=true:=by kernel_rfl
theorem gf68 :yB Tryz.prog 68=true:=by kernel_rfl
theorem gf69 :yB Tryz.prog 69=true:=by kernel_rfl
theorem gf70 :yB Tryz.prog 70=true:=by kernel_rfl
theorem gf71 :yB Tryz.prog 71=true:=by kernel_rfl
theorem gf72 :yB Tryz.prog 72=true:=by kernel_rfl
theorem VV :yB Tryz.prog 73=true:=by kernel_rfl
theorem VU :yB Tryz.prog 74=true:=by kernel_rfl
theorem gf75 :yB Tryz.prog 75=true:=by kernel_rfl
theorem gf76 :yB Tryz.prog 76=true:=by kernel_rfl
theorem gf77 :yB Tryz.prog 77=true:=by kernel_rfl
theorem VT :yB Tryz.prog 78=true:=by kernel_rfl
theorem gf79 :yB Tryz.prog 79=true:=by kernel_rfl
theorem gf80 :yB Tryz.prog 80=true:=by kernel_rfl
theorem VS :yB Tryz.prog 81=true:=by kernel_rfl
theorem gf82 :yB Tryz.prog 82=true:=by kernel_rfl
theorem gf83 :yB Tryz.prog 83=true:=by kernel_rfl
theorem gf84 :yB Tryz.prog 84=true:=by kernel_rfl
theorem VR :yB Tryz.prog 85=true:=by kernel_rfl
theorem gf86 :yB Tryz.prog 86=true:=by kernel_rfl
theorem VQ :yB Tryz.prog 87=true:=by kernel_rfl
theorem SN :yB Tryz.prog 88=true:=by kernel_rfl
theorem VP :yB Tryz.prog 89=true:=by kernel_rfl
theorem gf90 :yB Tryz.prog 90=true:=by kernel_rfl
theorem gf91 :yB Tryz.prog 91=true:=by kernel_rfl
theorem gf92 :yB Tryz.prog 92=true:=by kernel_rfl
theorem gf93 :yB Tryz.prog 93=true:=by kernel_rfl
theorem gf94 :yB Tryz.prog 94=true:=by kernel_rfl
theorem gf95 :yB Tryz.prog 95=true:=by kernel_rfl
theorem gf96 :yB Tryz.prog 96=true:=by kernel_rfl
theorem gf97 :yB Tryz.prog 97=true:=by kernel_rfl
theorem gf98 :yB Tryz.prog 98=true:=by kernel_rfl
theorem DX :yB Tryz.prog 102=true:=by kernel_rfl
theorem UH :yB Tryz.prog 103=true:=by kernel_rfl
theorem gf104 :yB Tryz.prog 104=true:=by kernel_rfl
theorem gf105 :yB Tryz.prog 105=true:=by kernel_rfl
theorem pX :yB Tryz.prog 106=true:=by kernel_rfl
theorem IN :yB Tryz.prog 107=true:=by kernel_rfl
theorem UG :yB Tryz.prog 108=true:=by kernel_rfl
theorem UF :yB Tryz.prog 109=true:=by kernel_rfl
theorem UE :yB Tryz.prog 110=true:=by kernel_rfl
theorem gf111 :yB Tryz.prog 111=true:=by kernel_rfl
theorem UD :yB Tryz.prog 112=true:=by kernel_rfl
theorem UC :yB Tryz.prog 113=true:=by kernel_rfl
theorem gf114 :yB Tryz.prog 114=true:=by kernel_rfl
theorem IM :yB Tryz.prog 115=true:=by kernel_rfl
theorem OJ :yB Tryz.prog 116=true:=by kernel_rfl
theorem gf117 :yB Tryz.prog 117=true:=by kernel_rfl
theorem gf118 :yB Tryz.prog 118=true:=by kernel_rfl
theorem gf119 :yB Tryz.prog 119=true:=by kernel_rfl
theorem gf120 :yB Tryz.prog 120=true:=by kernel_rfl
theorem UB :yB Tryz.prog 121=true:=by kernel_rfl
theorem gf122 :yB Tryz.prog 122=true:=by kernel_rfl
theorem UA :yB Tryz.prog 123=true:=by kernel_rfl
theorem iR :yB Tryz.prog 124=true:=by kernel_rfl
theorem gf125 :yB Tryz.prog 125=true:=by kernel_rfl
theorem gf126 :yB Tryz.prog 126=true:=by kernel_rfl
theorem gf127 :yB Tryz.prog 127=true:=by kernel_rfl
theorem gf128 :yB Tryz.prog 128=true:=by kernel_rfl
theorem gf129 :yB Tryz.prog 129=true:=by kernel_rfl
theorem gf130 :yB Tryz.prog 130=true:=by kernel_rfl
theorem gf131 :yB Tryz.prog 131=true:=by kernel_rfl
theorem T9 :yB Tryz.prog 132=true:=by kernel_rfl
theorem IL :yB Tryz.prog 133=true:=by kernel_rfl
theorem gf134 :yB Tryz.prog 134=true:=by kernel_rfl
theorem T8 :yB Tryz.prog 135=true:=by kernel_rfl
theorem T7 :yB Tryz.prog 136=true:=by kernel_rfl
theorem gf137 :yB Tryz.prog 137=true:=by kernel_rfl
theorem DW :yB Tryz.prog 138=true:=by kernel_rfl
theorem gf139 :yB Tryz.prog 139=true:=by kernel_rfl
theorem T6 :yB Tryz.prog 140=true:=by kernel_rfl
theorem IK :yB Tryz.prog 141=true:=by kernel_rfl
theorem T5 :yB Tryz.prog 142=true:=by kernel_rfl
theorem gf143 :yB Tryz.prog 143=true:=by kernel_rfl
theorem gf144 :yB Tryz.prog 144=true:=by kernel_rfl
theorem gf145 :yB Tryz.prog 145=true:=by kernel_rfl
theorem IJ :yB Tryz.prog 146=true:=by kernel_rfl
theorem T4 :yB Tryz.prog 147=true:=by kernel_rfl
theorem gf148 :yB Tryz.prog 148=true:=by kernel_rfl
theorem gf149 :yB Tryz.prog 149=true:=by kernel_rfl
theorem AG :yB Tryz.prog 150=true:=by kernel_rfl
theorem T3 :yB Tryz.prog 151=true:=by kernel_rfl
theorem gf152 :yB Tryz.prog 152=true:=by kernel_rfl
theorem T0 :yB Tryz.prog 153=true:=by kernel_rfl
theorem gf154 :yB Tryz.prog 154=true:=by kernel_rfl
theorem TZ :yB Tryz.prog 155=true:=by kernel_rfl
theorem gf156 :yB Tryz.prog 156=true:=by kernel_rfl
theorem gf157 :yB Tryz.prog 157=true:=by kernel_rfl
theorem gf158 :yB Tryz.prog 158=true:=by kernel_rfl
theorem gf159 :yB Tryz.prog 159=true:=by kernel_rfl
theorem OI :yB Tryz.prog 162=true:=by kernel_rfl
theorem TY :yB Tryz.prog 163=true:=by kernel_rfl
theorem gf164 :yB Tryz.prog 164=true:=by kernel_rfl
theorem gf165 :yB Tryz.prog 165=true:=by kernel_rfl
theorem gf166 :yB Tryz.prog 166=true:=by kernel_rfl
theorem II :yB Tryz.prog 167=true:=by kernel_rfl
theorem gf168 :yB Tryz.prog 168=true:=by kernel_rfl
theorem gf169 :yB Tryz.prog 169=true:=by kernel_rfl
theorem gf170 :yB Tryz.prog 170=true:=by kernel_rfl
theorem TX :yB Tryz.prog 171=true:=by kernel_rfl
theorem gf172 :yB Tryz.prog 172=true:=by kernel_rfl
theorem gf173 :yB Tryz.prog 173=true:=by kernel_rfl
theorem OH :yB Tryz.prog 174=true:=by kernel_rfl
theorem gf175 :yB Tryz.prog 175=true:=by kernel_rfl
theorem OG :yB Tryz.prog 176=true:=by kernel_rfl
theorem IG :yB Tryz.prog 177=true:=by kernel_rfl
theorem OF :yB Tryz.prog 178=true:=by kernel_rfl
theorem gf179 :yB Tryz.prog 179=true:=by kernel_rfl
theorem gf180 :yB Tryz.prog 180=true:=by kernel_rfl
theorem OD :yB Tryz.prog 181=true:=by kernel_rfl
theorem gf182 :yB Tryz.prog 182=true:=by kernel_rfl
theorem gf183 :yB Tryz.prog 183=true:=by kernel_rfl
theorem gf184 :yB Tryz.prog 184=true:=by kernel_rfl
theorem gf185 :yB Tryz.prog 185=true:=by kernel_rfl
theorem gf186 :yB Tryz.prog 186=true:=by kernel_rfl
theorem gf189 :yB Tryz.prog 189=true:=by kernel_rfl
theorem gf190 :yB Tryz.prog 190=true:=by kernel_rfl
theorem gf194 :yB Tryz.prog 194=true:=by kernel_rfl
theorem gf195 :yB Tryz.prog 195=true:=by kernel_rfl
theorem gf196 :yB Tryz.prog 196=true:=by kernel_rfl
theorem gf197 :yB Tryz.prog 197=true:=by kernel_rfl
theorem OB :yB Tryz.prog 198=true:=by kernel_rfl
theorem TW :yB Tryz.prog 199=true:=by kernel_rfl
theorem gf200 :yB Tryz.prog 200=true:=by kernel_rfl
theorem gf203 :yB Tryz.prog 203=true:=by kernel_rfl
theorem IF :yB Tryz.prog 204=true:=by kernel_rfl
theorem gf205 :yB Tryz.prog 205=true:=by kernel_rfl
theorem TV :yB Tryz.prog 206=true:=by kernel_rfl
theorem gf207 :yB Tryz.prog 207=true:=by kernel_rfl
theorem gf208 :yB Tryz.prog 208=true:=by kernel_rfl
theorem gf209 :yB Tryz.prog 209=true:=by kernel_rfl
theorem gf213 :yB Tryz.prog 213=true:=by kernel_rfl
theorem N9 :yB Tryz.prog 214=true:=by kernel_rfl
theorem yG :Tryz.prog.follows .mixedOrders=true:=by kernel_rfl
end Go.Proofs.YtjoeklkmnfaabaaGreat
namespace Go.Proofs.YtjoeklkmnfaabaaGreat
open Go Go.RowKit
set_option linter.unusedVariables false
set_option linter.unusedSimpArgs false
def u8s (l:List UInt8):List Value:=l.map fun c=> .int .u8 (c.toNat:Int)
theorem zY (l:List UInt8):(u8s l).length=l.length:=by simp[u8s]
theorem yV (l:List UInt8):(u8s l).length=l.length*1:=by simp[u8s]
theorem vD (a b:List UInt8):u8s (a++b)=u8s a++u8s b:=by simp[u8s]
theorem eP (c:UInt8):u8s [c]=[.int .u8 (c.toNat:Int)]:=rfl
theorem uK (l:List UInt8):(u8s l).all (·.oneCell')=true:=by simp[u8s,Value.oneCell']
theorem lX {l:List UInt8} {i:Nat} (h:i < l.length):(u8s l)[i]? =some (.int .u8 (l[i].toNat:Int)):=by simp[u8s,h]
def enc (v:Nat):List UInt8:=if v < 128 then[UInt8.ofNat v] else UInt8.ofNat (v % 128+128)::enc (v / 128)
termination_by v
decreasing_by omega
theorem enc_lt {v:Nat} (h:v < 128):enc v=[UInt8.ofNat v]:=by rw[enc,if_pos h]
theorem bH {v:Nat} (h:128≤v):enc v=UInt8.ofNat (v % 128+128)::enc (v / 128):=by rw[enc,if_neg (by omega)]
theorem SX (k:Nat):∀ v,v < 128^(k+1)→(enc v).length≤k+1:=by
 induction k with
 | zero=>intro v h;rw[enc_lt (by simpa using h)];simp
 | succ k ih=>
  intro v h
  by_cases hv:v < 128
  · rw[enc_lt hv];simp
  · rw[bH (by omega),List.length_cons]
    have:=ih (v / 128) (by rw[Nat.div_lt_iff_lt_mul (by omega)];rw[Nat.pow_succ]at h;exact h)
    omega
theorem uY {v:Nat} (h:v < 2^64):(enc v).length≤10:=SX 9 v (Nat.lt_of_lt_of_le h (by decide))
theorem IW (v:Nat):0 < (enc v).length:=by
 by_cases h:v < 128
 · rw[enc_lt h];simp
 · rw[bH (by omega)];simp
theorem u8n {n:Nat} (h:n < 256):(UInt8.ofNat n).toNat=n:=UInt8.toNat_ofNat_of_lt' h
theorem u8w (v:Nat):IntKind.u8.wrap (v:Int)=((v % 256:Nat):Int):=by rw[IntKind.wrap_u8];omega
theorem u64w (v:Nat):IntKind.u64.wrap (v:Int)=((v % 2^64:Nat):Int):=by rw[IntKind.wrap_u64];omega
theorem qS (v k b:Nat):((v:Int)).fdiv (2^(min ((k:Int)).toNat b))=((v / 2^(min k b):Nat):Int):=by
 rw[Int.toNat_natCast]
 have h:(2:Int)^(min k b)=((2^(min k b):Nat):Int):=by simp
 rw[h]
 exact(Int.ofNat_fdiv v _).symm
theorem shr7 (v:Nat):((v:Int)).fdiv (2^(min (7:Int).toNat IntKind.u64.bits))=((v / 128:Nat):Int):=qS v 7 64
theorem rD (k:IntKind) (a:Nat) (ha:a < 2^k.bits):(BitVec.ofInt k.bits (a:Int)).toNat=a:=by
 rw[BitVec.ofInt_natCast,BitVec.toNat_ofNat];exact Nat.mod_eq_of_lt ha
theorem LJ {k:IntKind} (hk:k.signed=false) (n:Nat) (h:n < 2^k.bits):k.wrap (n:Int)=n:=by
 simp only[IntKind.wrap,hk]
 have:((2:Int)^k.bits)=((2^k.bits:Nat):Int):=by simp
 simp only[Bool.false_and,Bool.false_eq_true,if_false,this]
 rw[← Int.natCast_emod,Nat.mod_eq_of_lt h]
theorem dC {k:IntKind} (hk:k.signed=false) (a b:Nat) (ha:a < 2^k.bits) (hb:b < 2^k.bits):bits .or k (a:Int) (b:Int)=((a ||| b:Nat):Int):=by
 simp only[bits,BitVec.toNat_or,rD k a ha,rD k b hb]
 exact LJ hk _ (Nat.or_lt_two_pow ha hb)
theorem ET {k:IntKind} (hk:k.signed=false) (a b:Nat) (ha:a < 2^k.bits) (hb:b < 2^k.bits):bits .and k (a:Int) (b:Int)=((a &&& b:Nat):Int):=by
 simp only[bits,BitVec.toNat_and,rD k a ha,rD k b hb]
 exact LJ hk _ (Nat.and_lt_two_pow _ hb)
theorem or128 (v:Nat):bits .or .u8 ((v % 256:Nat):Int) 128=((v % 128+128:Nat):Int):=by
 have h:=dC (k:=.u8) rfl (v % 256) 128 (by show _ < 256;omega) (by decide)
 rw[show(128:Int)=((128:Nat):Int) from rfl,h]
 congr 1
 have e:v % 256 ||| 128=(v % 128) ||| 128:=by
  apply Nat.eq_of_testBit_eq
  intro i
  rw[Nat.testBit_or,Nat.testBit_or,show(256:Nat)=2^8 from rfl,show(128:Nat)=2^7 from rfl,Nat.testBit_mod_two_pow,Nat.testBit_mod_two_pow,Nat.testBit_two_pow]
  by_cases h7:i=7
  · subst h7;simp
  · by_cases h:i < 7
    · simp[h,show i < 8 by omega]
    · simp[h,show ¬i < 8 by omega]
 rw[e,show(128:Nat)=2^7 from rfl,Nat.or_comm]
 have:=Nat.two_pow_add_eq_or_of_lt (i:=7) (b:=v % 2^7) (Nat.mod_lt _ (by decide)) 1
 simp only[Nat.mul_one]at this
 rw[← this,Nat.add_comm]
theorem P5 (c:Nat) (h:c < 256):bits .and .u8 (c:Int) 127=((c % 128:Nat):Int):=by
 have h1:=ET (k:=.u8) rfl c 127 h (by decide)
 rw[show(127:Int)=((127:Nat):Int) from rfl,h1]
 congr 1
 rw[show(127:Nat)=2^7 - 1 from rfl,Nat.and_two_pow_sub_one_eq_mod]
theorem and1 (v:Nat) (h:v < 2^64):bits .and .u64 (v:Int) 1=((v % 2:Nat):Int):=by
 have h1:=ET (k:=.u64) rfl v 1 h (by decide)
 rw[show(1:Int)=((1:Nat):Int) from rfl,h1]
 congr 1
 rw[show(1:Nat)=2^1 - 1 from rfl,Nat.and_two_pow_sub_one_eq_mod]
theorem aR {a b:Nat} (h:a≤b):2^a≤2^b:=Nat.pow_le_pow_right (by omega) h
theorem cA {c i:Nat} (hi:i≤9) (hc:c < 128) (h9:i=9→c≤1):c*2^(7*i)+2^(7*i)≤2^64:=by
 rcases Nat.lt_or_ge i 9 with h | h
 · have h1:(c+1)*2^(7*i)≤128*2^(7*i):=Nat.mul_le_mul_right _ (by omega)
   have h2:128*2^(7*i)=2^(7*i+7):=by rw[Nat.pow_add];omega
   have h3:2^(7*i+7)≤2^64:=aR (by omega)
   rw[Nat.add_mul]at h1
   omega
 · have h9':i=9:=by omega
   subst h9'
   have:=h9 rfl
   have h1:(c+1)*2^63≤2*2^63:=Nat.mul_le_mul_right _ (by omega)
   omega
theorem shl7 {c i:Nat} (hi:i≤9) (hc:c < 128) (h9:i=9→c≤1):IntKind.u64.wrap ((c:Int)*2^(min (7*(i:Int)).toNat IntKind.u64.bits))=((c*2^(7*i):Nat):Int):=by
 have e:min (7*(i:Int)).toNat IntKind.u64.bits=7*i:=by
  show min (7*(i:Int)).toNat 64=7*i
  omega
 rw[e]
 have e2:(c:Int)*2^(7*i)=((c*2^(7*i):Nat):Int):=by simp
 rw[e2,u64w,Nat.mod_eq_of_lt]
 have:=cA hi hc h9
 have:=Nat.two_pow_pos (7*i)
 omega
theorem DE {v c i:Nat} (hi:i≤9) (hc:c < 128) (h9:i=9→c≤1) (hv:v < 2^(7*i)):bits .or .u64 (v:Int) ((c*2^(7*i):Nat):Int)=((v+c*2^(7*i):Nat):Int):=by
 have hp:=cA hi hc h9
 have h0:=Nat.two_pow_pos (7*i)
 have h64:2^(7*i)≤2^64:=aR (by omega)
 rw[dC (k:=.u64) rfl _ _ (by show _ < 2^64;omega) (by show _ < 2^64;omega)]
 congr 1
 rw[Nat.mul_comm c,Nat.or_comm,← Nat.two_pow_add_eq_or_of_lt hv,Nat.add_comm]
theorem dZ {v c i:Nat} (hc:c < 128) (hv:v < 2^(7*i)):v+c*2^(7*i) < 2^(7*(i+1)):=by
 have e:2^(7*(i+1))=128*2^(7*i):=by rw[Nat.mul_add,Nat.pow_add];omega
 have h3:(c+1)*2^(7*i)≤128*2^(7*i):=Nat.mul_le_mul_right _ (by omega)
 rw[Nat.add_mul]at h3
 omega
def sL :List UInt8→Nat→Nat→Nat×Nat×Nat
 | [],_,_=>(0,0,20)
 | c::l,i,v=>
  if i=9∧1 < c.toNat then(0,0,21)
  else if 128≤c.toNat then sL l (i+1) (v+c.toNat % 128*2^(7*i))
  else if c.toNat=0∧0 < i then(0,0,21)
  else(v+c.toNat % 128*2^(7*i),i+1,0)
def xM (b:List UInt8):Nat×Nat×Nat:=sL b 0 0
theorem DI (b:List UInt8):xM b=sL b 0 0:=rfl
theorem DJ :∀ (l:List UInt8) (i v:Nat),i≤9→v < 2^(7*i)→(sL l i v).1 < 2^64∧(sL l i v).2.1≤i+l.length∧(sL l i v).2.1≤10∧((sL l i v).2.2=0∨(sL l i v).2.2=20∨(sL l i v).2.2=21)∧((sL l i v).2.2≠0→(sL l i v).1=0∧(sL l i v).2.1=0)∧((sL l i v).2.2=0→i < (sL l i v).2.1)
 | [],i,v,_,_=>by simp[sL]
 | c::l,i,v,hi,hv=>by
  unfold sL
  split
  · simp
  · rename_i h1
    have hp:=cA (c:=c.toNat % 128) hi (by omega) (by intro h9;omega)
    split
    · rename_i h2
      have h9:i≠9:=by rintro rfl;exact h1 ⟨rfl,by omega⟩
      have hv':v+c.toNat % 128*2^(7*i) < 2^(7*(i+1)):=by
       have e:2^(7*(i+1))=128*2^(7*i):=by rw[Nat.mul_add,Nat.pow_add];omega
       have h3:(c.toNat % 128+1)*2^(7*i)≤128*2^(7*i):=Nat.mul_le_mul_right _ (by omega)
       rw[Nat.add_mul]at h3
       omega
      have ih:=DJ l (i+1) _ (by omega) hv'
      simp only[List.length_cons]
      refine⟨ih.1,by omega,ih.2.2.1,ih.2.2.2.1,ih.2.2.2.2.1,fun h=>by have:=ih.2.2.2.2.2 h;omega⟩
    · split
      · simp
      · simp only[List.length_cons]
        refine⟨by omega,by omega,by omega,by simp,by simp,by omega⟩
theorem pJ (b:List UInt8):(xM b).1 < 2^64∧(xM b).2.1≤b.length∧(xM b).2.1≤10∧((xM b).2.2=0∨(xM b).2.2=20∨(xM b).2.2=21)∧((xM b).2.2≠0→(xM b).1=0∧(xM b).2.1=0)∧((xM b).2.2=0→0 < (xM b).2.1):=by
 have:=DJ b 0 0 (by omega) (by decide)
 simpa[xM]using this
def zig (n:Int):Nat:=if n < 0 then(-2*n - 1).toNat else(2*n).toNat
def vX (n:Int):List UInt8:=enc (zig n)
def xY (b:List UInt8):List UInt8:=enc b.length++b
def Own (w0 w':World) (r:Value) (l:List UInt8):Prop:=
 ∃ g cap sp,r=.slice (hd g) l.length cap∧l.length≤cap∧cap*1≤(u8s l++sp).length∧(g=none→cap=0)∧Hp w0 w' [] [(g,5,u8s l++sp)]
def zZ (b:List UInt8) (most:Int):Nat×Nat×Nat:=
 if(xM b).2.2≠0 then(0,0,(xM b).2.2) else if max most 0 < (xM b).1 then(0,0,22) else((xM b).1,(xM b).2.1,0)
theorem K5 (n:Int) (h0:-9223372036854775808≤n) (h:n < 0):bits .xor .i64 (-1) n=-n - 1:=by
 have e:n=-((((-n - 1).toNat:Nat):Int)+1):=by omega
 generalize hm:(-n - 1).toNat=m at e
 have hm2:m < 2^63:=by omega
 subst e
 simp only[bits]
 have e1:BitVec.ofInt 64 (-((m:Int)+1))= ~~~ (BitVec.ofNat 64 m):=by
  apply BitVec.eq_of_toNat_eq
  rw[BitVec.toNat_ofInt,BitVec.toNat_not,BitVec.toNat_ofNat,Nat.mod_eq_of_lt (by omega)]
  omega
 have e2:BitVec.ofInt 64 (-1)=BitVec.allOnes 64:=by decide
 show IntKind.i64.wrap ((BitVec.ofInt 64 (-1)^^^BitVec.ofInt 64 (-((m:Int)+1))).toNat:Int)=_
 rw[e1,e2,BitVec.allOnes_xor,BitVec.not_not,BitVec.toNat_ofNat,Nat.mod_eq_of_lt (by omega),IntKind.wrap_i64]
 omega
theorem shl1 (n:Nat) (h:n < 2^63):IntKind.u64.wrap ((n:Int)*2^(min (1:Int).toNat IntKind.u64.bits))=((2*n:Nat):Int):=by
 have e:min (1:Int).toNat IntKind.u64.bits=1:=rfl
 rw[e,show((n:Int)*2^1)=((2*n:Nat):Int) by omega,u64w,Nat.mod_eq_of_lt (by omega)]
theorem or1 (n:Nat) (h:n < 2^63):bits .or .u64 ((2*n:Nat):Int) 1=((2*n+1:Nat):Int):=by
 rw[show(1:Int)=((1:Nat):Int) from rfl,dC (k:=.u64) rfl _ _ (by show _ < 2^64;omega) (by decide)]
 congr 1
 have:=Nat.two_pow_add_eq_or_of_lt (i:=1) (b:=1) (by decide) n
 rw[this]
theorem lR {b:List UInt8} {most:Int} (h:(xM b).2.2≠0):zZ b most=(0,0,(xM b).2.2):=by unfold zZ;rw[if_pos h]
theorem lP {b:List UInt8} {most:Int} (h:(xM b).2.2=0) (h2:max most 0 < (xM b).1):zZ b most=(0,0,22):=by unfold zZ;rw[if_neg (by omega),if_pos h2]
theorem oD {b:List UInt8} {most:Int} (h:(xM b).2.2=0) (h2:¬max most 0 < (xM b).1):zZ b most=((xM b).1,(xM b).2.1,0):=by unfold zZ;rw[if_neg (by omega),if_neg h2]
theorem rG (n:Int):vX n=enc (zig n):=rfl
theorem rA (b:List UInt8):xY b=enc b.length++b:=rfl
theorem yW {P:Program} {ds:List Deferred} {Q:vN} {K:List Value→World→Prop} {all os:List Oper} {l:List Value} {w:World} {op:Op} {ty:TypeId} {pos:String} {af:Array Edge} {d:Tmp}
 {f:FuncId} {args:Array Value} {bs:List UInt8} (hx:Ex P l op ty w (.enter f args) w) (hc:zP P f args w fun r w'=>Own w w' r bs)
 (h:∀ w' g cap sp,bs.length≤cap→cap*1≤(u8s bs++sp).length→(g=none→cap=0)→Hp w w' [] [(g,5,u8s bs++sp)]→Ops P ds all K Q os (l.set d (.slice (hd g) bs.length cap)) w'):
 Ops P ds all K Q (⟨some d,op,ty,pos,af,none⟩::os) l w:=
 tE hx hc fun r w' ⟨g,cap,sp,h1,h2,h3,h4,h5⟩=>by rw[h1];exact h w' g cap sp h2 h3 h4 h5
attribute [irreducible] xM zZ vX xY zig
end Go.Proofs.YtjoeklkmnfaabaaGreat
namespace Go.Proofs.YtjoeklkmnfaabaaGreat
open Go Go.RowKit
set_option linter.unusedVariables false
attribute [local irreducible] yT Ops zP Cd
set_option maxRecDepth 100000 in
set_option maxHeartbeats 4000000 in
theorem BK (v:Nat) (w0:World) (hv:v < 2^64):
 zP Tryz.prog 181 #[.int .u64 v] w0 (fun r w'=>Own w0 w' r (enc v)):=by
 refine zE Tryz.func181 Tryz.ntmps181 Y ?_
 refine BM ?_
 have H:=Hp.refl w0
 refine zN ?_
 refine zJ ?_
 refine zD (zO Y) ?_
 refine yD ?_
 refine BM ?_
 refine zN ?_
 refine zJ ?_
 refine zD (zO Y) ?_
 refine yD ?_
 refine BM ?_
 refine zN ?_
 refine wH ?_
 refine zU (fun nQ lQ w=>∃ (v1:Nat) (pre:List UInt8) (x:Int) (g:Option Nat) (m cap:Nat) (xs sp:List Value),v1=nQ∧xN [some (.int .u64 x),none,some (.slice none 0 0),some (.slice (hd g) m cap),none,none,none,none,none,none,none,none,none,none,none,none,none,none,none] lQ∧x=v1∧v1≤v∧m=pre.length∧xs=u8s pre∧enc v=pre++enc v1∧m≤cap∧cap*1≤(xs++sp).length∧(g=none→cap=0)∧Hp w0 w [] [(g,5,xs++sp)]) (v) ?_ ?_
 · exact⟨v,[],_,none,0,0,[],[],Y,(fs (fn (fs (fs (fn (fn (fn (fn (fn (fn (fn (fn (fn (fn (fn (fn (fn (fn (fn f0))))))))))))))))))),Y,Nat.le_refl _,Y,Y,Y,Nat.le_refl _,by simp,fun _=>Y,H.nil 5⟩
 · rintro nQ lQ w1 ⟨v1,pre,x,g,m,cap,xs,sp,rfl,hfit,rfl,hle,rfl,rfl,henc,hmc,hcap,hg0,H1⟩
   obtain⟨j,rfl⟩:=hfit.open
   refine BM ?_
   clear hfit
   have hl10:=uY hv
   have hlp:pre.length+(enc v1).length=(enc v).length:=by rw[henc];simp
   have hpos:=IW v1
   refine zN ?_
   refine zN ?_
   refine zJ ?_
   refine zD (zK Y) ?_
   refine vL (wL Y Y) (fun hp5=>?_) (fun hp5=>?_)
   · skip
     refine yD ?_
     refine BM ?_
     refine yL Y ?_
     refine xH ?_
     refine wH ?_
     refine zN ?_
     refine zJ ?_
     refine zD (zK Y) ?_
     refine zD (zK Y) ?_
     refine zD (xJ Tryz.underlying5 Tryz.underlying118 Y (u8w v1)) ?_
     refine zD (eH Y Y (or128 v1)) ?_
     refine nO19 ?_
     refine zG Tryz.underlying73 ty5 H1 Y (by decide) Y ?_
     intro w2 g2 H2 hg2
     refine yX Tryz.underlying73 ty5 (by decide) H2 0 Y Y (yV pre) hcap hmc hg0 Y (H2.rd (i:=1) (o:=some g2) (xs:=[Value.int .u8 ((v1 % 128+128:Nat):Int)]) (sp:=[]) Y Y (by decide)) Y (by omega) (by omega) (by decide) ?_
     intro w3 g3 cap3 sp3 H3 hcap3 hmc3 hg3
     refine zD (zO Y) ?_
     refine yD ?_
     refine BM ?_
     refine zJ ?_
     refine zD (zK Y) ?_
     refine zD (oQ Y Y (by omega) (shr7 v1)) ?_
     refine zD (zO Y) ?_
     refine yD ?_
     refine BM ?_
     refine zA (zB ?_)
     refine zA (zI ?_)
     exact⟨v1 / 128,by omega,v1 / 128,pre++[UInt8.ofNat (v1 % 128+128)],_,g3,_,cap3,u8s pre++[Value.int .u8 ((v1 % 128+128:Nat):Int)],sp3,Y,(fs (fn (fs (fs (fn (fn (fn (fn (fn (fn (fn (fn (fn (fn (fn (fn (fn (fn (fn f0))))))))))))))))))),Y,by omega,by simp,by rw[vD,eP,u8n (by omega)],by rw[henc,bH (by omega)];simp,hmc3,hcap3,hg3,H3.pick [0] (by decide)⟩
   · skip
     refine yD ?_
     refine BM ?_
     refine zW Y ?_
     refine tD ?_
     refine zT ?_
     refine zS ?_
     refine zN ?_
     refine zJ ?_
     refine zD (zK Y) ?_
     refine zD (zK Y) ?_
     refine zD (xJ Tryz.underlying5 Tryz.underlying118 Y (u8w v1)) ?_
     refine zG Tryz.underlying73 ty5 H1 Y (by decide) Y ?_
     intro w2 g2 H2 hg2
     refine nO19 ?_
     refine yX Tryz.underlying73 ty5 (by decide) H2 0 Y Y (yV pre) hcap hmc hg0 Y (H2.rd (i:=1) (o:=some g2) (xs:=[Value.int .u8 ((v1 % 256:Nat):Int)]) (sp:=[]) Y Y (by decide)) Y (by omega) (by omega) (by decide) ?_
     intro w3 g3 cap3 sp3 H3 hcap3 hmc3 hg3
     refine zD (zO Y) ?_
     refine yD ?_
     refine BM ?_
     refine wF ?_
     refine tG Y Y ?_
     have e1:enc v=pre++[UInt8.ofNat v1]:=by rw[henc,enc_lt (by omega)]
     have e2:u8s (enc v)=u8s pre++[.int .u8 ((v1 % 256:Nat):Int)]:=by rw[e1,vD,eP,u8n (by omega),Nat.mod_eq_of_lt (by omega)]
     have e3:(enc v).length=pre.length+1:=by rw[e1];simp
     unfold Own
     rw[e2,e3]
     exact⟨g3,cap3,sp3,Y,hmc3,hcap3,hg3,H3.pick [0] (by decide)⟩
set_option maxRecDepth 100000 in
set_option maxHeartbeats 4000000 in
theorem SH (n:Int) (w0:World) (hlo:-9223372036854775808≤n) (hhi:n≤9223372036854775807):
 zP Tryz.prog 148 #[.int .i64 n] w0 (fun r w'=>Own w0 w' r (vX n)):=by
 refine zE Tryz.func148 Tryz.ntmps148 Y ?_
 refine KL ?_
 have H:=Hp.refl w0
 refine zN ?_
 refine zJ ?_
 refine zD (zO Y) ?_
 refine yD ?_
 refine KL ?_
 refine zN ?_
 refine zN ?_
 refine zJ ?_
 refine zD (zK Y) ?_
 refine vL (zQ Y Y) (fun hp4=>?_) (fun hp4=>?_)
 · skip
   refine yD ?_
   refine KL ?_
   refine yL Y ?_
   refine zN ?_
   refine zJ ?_
   refine zD (zK Y) ?_
   refine zD (D8 Y ((K5 n hlo hp4).trans (show -n - 1=(((-n - 1).toNat:Nat):Int) by omega))) ?_
   refine zD (xJ Tryz.underlying118 Tryz.underlying3 Y (IntWalk.u64_in _ (by omega))) ?_
   refine zD (lN Y Y (by omega) (shl1 _ (by omega))) ?_
   refine nO15 ?_
   refine zD (eH Y Y (or1 _ (by omega))) ?_
   refine yW (mI OD Y) (BK (2*(-n - 1).toNat+1) _ (by omega)) ?_
   intro w1 g1 c1 sp1 hm1 hc1 hg1 H1
   refine zD (zO Y) ?_
   refine yD ?_
   refine KL ?_
   refine wF ?_
   refine tG Y Y ?_
   have e:vX n=enc (2*(-n - 1).toNat+1):=by rw[rG];unfold zig;rw[if_pos hp4];congr 1;omega
   rw[e]
   exact⟨g1,c1,sp1,Y,hm1,hc1,hg1,H1⟩
 · obtain⟨m,rfl⟩:=Int.eq_ofNat_of_zero_le (show 0≤n by omega)
   refine yD ?_
   refine KL ?_
   refine zW Y ?_
   refine xH ?_
   refine zN ?_
   refine zJ ?_
   refine zD (zK Y) ?_
   refine zD (xJ Tryz.underlying118 Tryz.underlying3 Y (IntWalk.u64_in _ (by omega))) ?_
   refine zD (lN Y Y (by omega) (shl1 _ (by omega))) ?_
   refine yW (mI OD Y) (BK (2*m) _ (by omega)) ?_
   intro w1 g1 c1 sp1 hm1 hc1 hg1 H1
   refine nO15 ?_
   refine zD (zO Y) ?_
   refine yD ?_
   refine KL ?_
   refine wF ?_
   refine tG Y Y ?_
   have e:vX (m:Int)=enc (2*m):=by rw[rG];unfold zig;rw[if_neg (by omega)];congr 1
   rw[e]
   exact⟨g1,c1,sp1,Y,hm1,hc1,hg1,H1⟩
set_option maxRecDepth 100000 in
set_option maxHeartbeats 4000000 in
theorem vI (A:Option Addr) (b:List UInt8) (c:Nat) (w0:World) (hr:Rd w0 A b.length 1 (u8s b)) (hb:b.length≤211106232532992):
 zP Tryz.prog 62 #[.slice A b.length c] w0 (fun r w'=>Own w0 w' r (b)):=by
 refine zE Tryz.func62 Tryz.ntmps62 Y ?_
 change Run _ _ _ _ [.slice A b.length c,undef,undef,undef,undef,undef,undef,undef] _
 have H:=Hp.refl w0
 refine zN ?_
 refine zJ ?_
 refine zD (zO Y) ?_
 refine yD ?_
 change Run _ _ _ _ [_,_,_,_,_,_,_,_] _
 refine zN ?_
 refine zN ?_
 refine zJ ?_
 refine zD (zK Y) ?_
 refine vL (wZ Tryz.underlying73 Y) (fun hp4=>?_) (fun hp4=>?_)
 · skip
   refine yD ?_
   change Run _ _ _ _ [_,_,_,_,_,_,_,_] _
   refine yL Y ?_
   refine zN ?_
   refine zJ ?_
   refine zD (zO Y) ?_
   refine yD ?_
   change Run _ _ _ _ [_,_,_,_,_,_,_,_] _
   refine wF ?_
   refine tG Y Y ?_
   have hb:b=[]:=List.eq_nil_of_length_eq_zero (hr.nil hp4)
   subst hb
   exact⟨none,0,[],Y,Nat.le_refl _,by simp,fun _=>Y,by have:=H.nil 5;exact this⟩
 · skip
   refine yD ?_
   change Run _ _ _ _ [_,_,_,_,_,_,_,_] _
   refine zW Y ?_
   refine xH ?_
   refine zN ?_
   refine zJ ?_
   refine zG Tryz.underlying73 ty5 H Y (by decide) Y ?_
   intro w1 g1 H1 hg1
   refine zD (zK Y) ?_
   refine yX Tryz.underlying73 ty5 (by decide) H1 0 (g:=some g1) (xs:=[]) (sp:=[]) Y Y Y (by decide) (by decide) (by simp) Y (hr.to0 H1) (uK b) (by omega) (by omega) (by decide) ?_
   intro w2 g3 cap3 sp3 H2 hcap3 hmc3 hg3
   refine zD (zO Y) ?_
   refine yD ?_
   change Run _ _ _ _ [_,_,_,_,_,_,_,_] _
   refine wF ?_
   refine tG Y Y ?_
   rw[Nat.zero_add]at hmc3
   refine⟨g3,cap3,sp3,?_,hmc3,hcap3,hg3,H2.pick [0] (by decide)⟩
   rw[Nat.zero_add]
set_option maxRecDepth 100000 in
set_option maxHeartbeats 4000000 in
theorem LZ (A:Option Addr) (b:List UInt8) (c:Nat) (w0:World) (hr:Rd w0 A b.length 1 (u8s b)) (hb:b.length≤211106232532900):
 zP Tryz.prog 184 #[.slice A b.length c] w0 (fun r w'=>Own w0 w' r (xY b)):=by
 have hl10:=uY (v:=b.length) (by omega)
 refine zE Tryz.func184 Tryz.ntmps184 Y ?_
 change Run _ _ _ _ [.slice A b.length c,undef,undef,undef,undef,undef,undef,undef,undef] _
 have H:=Hp.refl w0
 refine zN ?_
 refine zJ ?_
 refine zD (zO Y) ?_
 refine yD ?_
 change Run _ _ _ _ [_,_,_,_,_,_,_,_,_] _
 refine zN ?_
 refine zJ ?_
 refine zD (zK Y) ?_
 refine zD (tC Tryz.underlying73 Y) ?_
 refine zD (xJ Tryz.underlying118 Tryz.underlying3 Y ((IntWalk.u64_in _ (by omega)))) ?_
 refine yW (mI OD Y) (BK b.length _ (by omega)) ?_
 intro w1 g1 c1 sp1 hm1 hc1 hg1 H1
 change Ops _ _ _ _ _ _ [_,_,_,_,_,_,_,_,_] _
 refine zD (zK Y) ?_
 refine yX Tryz.underlying73 ty5 (by decide) H1 0 Y Y (yV _) hc1 hm1 hg1 Y (hr.to0 H1) (uK b) (by omega) (by omega) (by decide) ?_
 intro w2 g3 cap3 sp3 H2 hcap3 hmc3 hg3
 refine zD (zO Y) ?_
 refine yD ?_
 change Run _ _ _ _ [_,_,_,_,_,_,_,_,_] _
 refine wF ?_
 refine tG Y Y ?_
 unfold Own
 rw[rA,vD,List.length_append]
 exact⟨g3,cap3,sp3,Y,hmc3,hcap3,hg3,H2⟩
set_option maxRecDepth 100000 in
set_option maxHeartbeats 4000000 in
theorem KB (A B:Option Addr) (a b:List UInt8) (c d:Nat) (w0:World) (hra:Rd w0 A a.length 1 (u8s a)) (hrb:Rd w0 B b.length 1 (u8s b)) (ha:a.length≤211106232532992) (hb:b.length≤211106232532992):
 zP Tryz.prog 128 #[.slice A a.length c,.slice B b.length d] w0 (fun r w'=>r=.bool (decide (a=b))∧Hp w0 w' [] []):=by
 refine zE Tryz.func128 Tryz.ntmps128 Y ?_
 refine iP ?_
 have H:=Hp.refl w0
 refine zN ?_
 refine zJ ?_
 refine zD (zO Y) ?_
 refine yD ?_
 refine iP ?_
 refine zN ?_
 refine zN ?_
 refine zJ ?_
 refine zD (zK Y) ?_
 refine zD (tC Tryz.underlying73 Y) ?_
 refine zD (zK Y) ?_
 refine zD (tC Tryz.underlying73 Y) ?_
 refine nO26 ?_
 refine vL (yS Y Y) (fun hp10=>?_) (fun hp10=>?_)
 · skip
   refine yD ?_
   refine iP ?_
   refine yL Y ?_
   refine zN ?_
   refine zJ ?_
   refine zD (zO Y) ?_
   refine yD ?_
   refine iP ?_
   refine wF ?_
   refine tG Y Y ?_
   exact⟨by rw[decide_eq_false (by rintro rfl;omega)],H⟩
 · have hlen:a.length=b.length:=by omega
   refine yD ?_
   refine iP ?_
   refine zW Y ?_
   refine xH ?_
   refine zN ?_
   refine zN ?_
   refine zJ ?_
   refine zD (zO Y) ?_
   refine yD ?_
   refine iP ?_
   refine wH ?_
   refine zU (fun nQ lQ w=>∃ (i:Nat) (y:Int),a.length - i=nQ∧xN [some (.slice A a.length c),some (.slice B b.length d),none,none,none,some (.int .i64 y),some (.slice A a.length c),some (.int .i64 a.length),some (.slice B b.length d),some (.int .i64 b.length),some (.bool false),none,none,none,none,none,none,none,none,none,none,none,none,none,none,none] lQ∧y=i∧i≤a.length∧a.take i=b.take i∧Hp w0 w [] []) (a.length) ?_ ?_
   · exact⟨0,_,Y,(fs (fs (fn (fn (fn (fs (fs (fs (fs (fs (fs (fn (fn (fn (fn (fn (fn (fn (fn (fn (fn (fn (fn (fn (fn (fn f0)))))))))))))))))))))))))),Y,Nat.zero_le _,Y,H⟩
   · rintro nQ lQ w1 ⟨i,y,rfl,hfit,rfl,hi,hpre,H1⟩
     obtain⟨j,rfl⟩:=hfit.open
     refine iP ?_
     clear hfit
     refine zN ?_
     refine zN ?_
     refine zJ ?_
     refine zD (zK Y) ?_
     refine zD (zK Y) ?_
     refine zD (tC Tryz.underlying73 Y) ?_
     refine vL (zQ Y Y) (fun hp14=>?_) (fun hp14=>?_)
     · obtain⟨x,rfl⟩:=hra.some_ (by omega)
       obtain⟨z,rfl⟩:=hrb.some_ (by omega)
       have hia:i < a.length:=by omega
       have hib:i < b.length:=by omega
       refine yD ?_
       refine iP ?_
       refine yL Y ?_
       refine xH ?_
       refine zN ?_
       refine wH ?_
       refine zN ?_
       refine uT yG (by kernel_rfl) ?_
       rintro w2 hw2
       have H2:=Hp.drew H1;rw[← hw2]at H2
       refine uG (zK Y) ?_
       refine uG (zK Y) ?_
       refine uG (fS Tryz.underlying73 ty5 Y Y Y hia (Nat.mul_one _)) ?_
       refine uG (iX ty5 Y ((hra.to0 H2).cells x Y i _ (lX hia))) ?_
       refine nS26 ?_
       refine uG (zK Y) ?_
       refine uG (zK Y) ?_
       refine uG (fS Tryz.underlying73 ty5 Y Y Y hib (Nat.mul_one _)) ?_
       refine uG (iX ty5 Y ((hrb.to0 H2).cells z Y i _ (lX hib))) ?_
       refine nS26 ?_
       refine vQ (yS Y Y) (fun hp25=>?_) (fun hp25=>?_)
       · skip
         refine xU ?_
         refine iP ?_
         refine yL Y ?_
         refine zN ?_
         refine zJ ?_
         refine zD (zO Y) ?_
         refine yD ?_
         refine iP ?_
         refine wF ?_
         refine vG ?_
         refine yR ?_
         refine vG ?_
         refine tG Y Y ?_
         exact⟨by rw[decide_eq_false (by rintro rfl;omega)],H2⟩
       · skip
         refine xU ?_
         refine iP ?_
         refine zW Y ?_
         refine xH ?_
         refine zA (zB ?_)
         refine zJ ?_
         refine zD (zK Y) ?_
         refine zD (zL Y Y (IntWalk.i64_in _ (by omega))) ?_
         refine zD (zO Y) ?_
         refine yD ?_
         refine iP ?_
         refine zA (zI ?_)
         exact⟨a.length - (i+1),by omega,i+1,_,Y,(fs (fs (fn (fn (fn (fs (fs (fs (fs (fs (fs (fn (fn (fn (fn (fn (fn (fn (fn (fn (fn (fn (fn (fn (fn (fn f0)))))))))))))))))))))))))),by omega,by omega,by rw[← List.take_append_getElem hia,← List.take_append_getElem hib,hpre,UInt8.toNat_inj.1 (show a[i].toNat=b[i].toNat by omega)],H2⟩
     · skip
       refine yD ?_
       refine iP ?_
       refine zW Y ?_
       refine tD ?_
       refine zT ?_
       refine zS ?_
       refine zN ?_
       refine zJ ?_
       refine zD (zO Y) ?_
       refine yD ?_
       refine iP ?_
       refine wF ?_
       refine tG Y Y ?_
       exact⟨by rw[decide_eq_true (by rw[← List.take_of_length_le (l:=a) (i:=i) (by omega),hpre,List.take_of_length_le (by omega)])],H1⟩
set_option maxRecDepth 100000 in
set_option maxHeartbeats 4000000 in
theorem fU (A B:Option Addr) (a b:List UInt8) (c d:Nat) (w0:World) (hra:Rd w0 A a.length 1 (u8s a)) (hrb:Rd w0 B b.length 1 (u8s b)) (ha:a.length≤211106232532992) (hb:b.length≤211106232532992):
 zP Tryz.prog 85 #[.slice A a.length c,.slice B b.length d] w0 (fun r w'=>r=.bool (decide (a=b))∧Hp w0 w' [] []):=by
 refine zE Tryz.func85 Tryz.ntmps85 Y ?_
 change Run _ _ _ _ [.slice A a.length c,.slice B b.length d,undef,undef,undef,undef,undef,undef] _
 have H:=Hp.refl w0
 refine zN ?_
 refine zJ ?_
 refine zD (zO Y) ?_
 refine yD ?_
 change Run _ _ _ _ [_,_,_,_,_,_,_,_] _
 refine zN ?_
 refine zJ ?_
 refine zD (zK Y) ?_
 refine zD (zK Y) ?_
 refine qV (mI gf128 Y) (KB A B a b c d _ (hra.to0 H) (hrb.to0 H) ha hb) ?_
 intro w1 Hc
 have H1:=H.call0 Hc
 refine zD (zO Y) ?_
 refine yD ?_
 change Run _ _ _ _ [_,_,_,_,_,_,_,_] _
 refine wF ?_
 refine tG Y Y ?_
 exact⟨Y,H1⟩
set_option maxRecDepth 100000 in
set_option maxHeartbeats 4000000 in
theorem cD (A:Option Addr) (b:List UInt8) (c:Nat) (w0:World) (hr:Rd w0 A b.length 1 (u8s b)) (hb:b.length≤211106232532992):
 zP Tryz.prog 206 #[.slice A b.length c] w0 (fun r w'=>r=.tuple #[.int .u64 (xM b).1,.int .i64 (xM b).2.1,.int .i64 (xM b).2.2]∧w'=w0):=by
 refine zE Tryz.func206 Tryz.ntmps206 Y ?_
 refine sP ?_
 have H:=Hp.refl w0
 refine zN ?_
 refine zJ ?_
 refine zD (zO Y) ?_
 refine zD (zO Y) ?_
 refine zD (zO Y) ?_
 refine yD ?_
 refine sP ?_
 refine zN ?_
 refine zJ ?_
 refine zD (zO Y) ?_
 refine yD ?_
 refine sP ?_
 refine zN ?_
 refine zN ?_
 refine zJ ?_
 refine zD (zK Y) ?_
 refine zD (tC Tryz.underlying73 Y) ?_
 refine zD (zK Y) ?_
 refine yD ?_
 refine sP ?_
 refine wH ?_
 refine zU (fun nQ lQ w=>∃ (i v:Nat) (x y:Int),b.length - i=nQ∧xN [some (.slice A b.length c),none,none,none,none,some (.int .u64 x),none,none,some (.slice A b.length c),some (.int .i64 b.length),some (.int .i64 y),none,none,none,none,none,none,none,none,none,none,none,none,none,none,none,none,none,none,none,none,none,none,none,none,none,none,none,none,none,none] lQ∧x=v∧y=i∧i≤b.length∧i≤9∧v < 2^(7*i)∧xM b=sL (b.drop i) i v∧w=w0) (b.length) ?_ ?_
 · exact⟨0,0,_,_,Y,(fs (fn (fn (fn (fn (fs (fn (fn (fs (fs (fs (fn (fn (fn (fn (fn (fn (fn (fn (fn (fn (fn (fn (fn (fn (fn (fn (fn (fn (fn (fn (fn (fn (fn (fn (fn (fn (fn (fn (fn (fn f0))))))))))))))))))))))))))))))))))))))))),Y,Y,Nat.zero_le _,by omega,by decide,DI b,Y⟩
 · rintro nQ lQ w1 ⟨i,v,x,y,rfl,hfit,rfl,rfl,hi,hi9,hv,hnum,rfl⟩
   obtain⟨j,rfl⟩:=hfit.open
   refine sP ?_
   clear hfit
   refine zN ?_
   refine zJ ?_
   refine vL (zQ Y Y) (fun hp11=>?_) (fun hp11=>?_)
   · obtain⟨a,rfl⟩:=hr.some_ (by omega)
     have hib:i < b.length:=by omega
     rw[List.drop_eq_getElem_cons hib,sL]at hnum
     have hc:=b[i].toNat_lt
     generalize hcb:b[i].toNat=cc at hc hnum
     refine yD ?_
     refine sP ?_
     refine zN ?_
     refine yL Y ?_
     refine xH ?_
     refine zN ?_
     refine wH ?_
     refine zN ?_
     refine zJ ?_
     refine zD (zK Y) ?_
     refine zD (fS Tryz.underlying73 ty5 Y Y Y hib (Nat.mul_one _)) ?_
     refine zD (iX ty5 Y (hr.cells a Y i (.int .u8 (cc:Int)) (by rw[← hcb];exact lX hib))) ?_
     refine zD (zO Y) ?_
     refine jR ?_
     refine zD (zO Y) ?_
     refine yD ?_
     refine sP ?_
     refine zN ?_
     refine zN ?_
     refine zJ ?_
     refine zD (zK Y) ?_
     refine vL (xP Y Y) (fun hp16=>?_) (fun hp16=>?_)
     · have h9:i=9:=by omega
       refine zD (zK Y) ?_
       refine jR ?_
       refine sG Y ?_
       refine zD (zK Y) ?_
       refine sG Y ?_
       refine vL (yO Y Y) (fun hp19=>?_) (fun hp19=>?_)
       · rw[if_pos ⟨h9,by omega⟩]at hnum
         refine zD (xS Y Y) ?_
         refine yD ?_
         refine sP ?_
         refine yL Y ?_
         refine zN ?_
         refine zJ ?_
         refine zD (zO Y) ?_
         refine zD (zO Y) ?_
         refine zD (zO Y) ?_
         refine yD ?_
         refine sP ?_
         refine wF ?_
         refine vG ?_
         refine yR ?_
         refine vG ?_
         refine sA Y Y Y Y ?_
         rw[hnum]
         exact⟨Y,Y⟩
       · rw[if_neg (by omega)]at hnum
         refine zD (xS Y Y) ?_
         refine yD ?_
         refine sP ?_
         refine zW Y ?_
         refine xH ?_
         refine zN ?_
         refine zJ ?_
         refine zD (zK Y) ?_
         refine zD (zK Y) ?_
         refine zD (F7 Y Y (P5 cc hc)) ?_
         refine zD (xJ Tryz.underlying118 Tryz.underlying5 Y (IntWalk.u64_in _ (by omega))) ?_
         refine jR ?_
         refine zD (zK Y) ?_
         refine zD (bC Y Y (IntWalk.i64_in _ (by omega))) ?_
         refine zD (lN Y Y (by omega) (shl7 (by omega) (by omega) (by omega))) ?_
         refine zD (eH Y Y (DE (by omega) (by omega) (by omega) hv)) ?_
         refine jR ?_
         refine zD (zO Y) ?_
         refine yD ?_
         refine sP ?_
         refine zN ?_
         refine zN ?_
         refine zJ ?_
         refine zD (zK Y) ?_
         refine vL (wL Y Y) (fun hp30=>?_) (fun hp30=>?_)
         · rw[if_pos (by omega)]at hnum
           refine yD ?_
           refine sP ?_
           refine yL Y ?_
           refine tD ?_
           refine zS ?_
           refine zJ ?_
           refine zD (zL Y Y (IntWalk.i64_in _ (by omega))) ?_
           refine zD (zK Y) ?_
           refine yD ?_
           refine sP ?_
           refine zA (zI ?_)
           exact⟨b.length - (i+1),by omega,i+1,v+cc % 128*2^(7*i),_,_,Y,(fs (fn (fn (fn (fn (fs (fn (fn (fs (fs (fs (fn (fn (fn (fn (fn (fn (fn (fn (fn (fn (fn (fn (fn (fn (fn (fn (fn (fn (fn (fn (fn (fn (fn (fn (fn (fn (fn (fn (fn (fn f0))))))))))))))))))))))))))))))))))))))))),Y,by omega,by omega,by omega,dZ (by omega) hv,hnum,Y⟩
         · rw[if_neg (by omega)]at hnum
           refine yD ?_
           refine sP ?_
           refine zW Y ?_
           refine xH ?_
           refine zN ?_
           refine zN ?_
           refine zJ ?_
           refine zD (zK Y) ?_
           refine vL (xP Y Y) (fun hp32=>?_) (fun hp32=>?_)
           · skip
             refine zD (zK Y) ?_
             refine jR ?_
             refine sG Y ?_
             refine zD (zK Y) ?_
             refine sG Y ?_
             refine vL (yO Y Y) (fun hp35=>?_) (fun hp35=>?_)
             · rw[if_pos ⟨by omega,by omega⟩]at hnum
               refine zD (xS Y Y) ?_
               refine yD ?_
               refine sP ?_
               refine yL Y ?_
               refine zN ?_
               refine zJ ?_
               refine zD (zO Y) ?_
               refine zD (zO Y) ?_
               refine zD (zO Y) ?_
               refine yD ?_
               refine sP ?_
               refine wF ?_
               refine vG ?_
               refine yR ?_
               refine vG ?_
               refine sA Y Y Y Y ?_
               rw[hnum]
               exact⟨Y,Y⟩
             · rw[if_neg (by omega)]at hnum
               refine zD (xS Y Y) ?_
               refine yD ?_
               refine sP ?_
               refine zW Y ?_
               refine xH ?_
               refine zN ?_
               refine zJ ?_
               refine zD (zK Y) ?_
               refine zD (zK Y) ?_
               refine zD (zL Y Y (IntWalk.i64_in _ (by omega))) ?_
               refine zD (zO Y) ?_
               refine jR ?_
               refine zD (zO Y) ?_
               refine zD (zO Y) ?_
               refine yD ?_
               refine sP ?_
               refine wF ?_
               refine vG ?_
               refine yR ?_
               refine vG ?_
               refine sA Y Y Y Y ?_
               rw[hnum]
               exact⟨Y,Y⟩
           · rw[if_neg (by omega)]at hnum
             refine zD (zK Y) ?_
             refine jR ?_
             refine ops_no Y ?_
             refine ops_no Y ?_
             refine zD (wT Y Y) ?_
             refine yD ?_
             refine sP ?_
             refine zW Y ?_
             refine xH ?_
             refine zN ?_
             refine zJ ?_
             refine zD (zK Y) ?_
             refine zD (zK Y) ?_
             refine zD (zL Y Y (IntWalk.i64_in _ (by omega))) ?_
             refine zD (zO Y) ?_
             refine jR ?_
             refine zD (zO Y) ?_
             refine zD (zO Y) ?_
             refine yD ?_
             refine sP ?_
             refine wF ?_
             refine vG ?_
             refine yR ?_
             refine vG ?_
             refine sA Y Y Y Y ?_
             rw[hnum]
             exact⟨Y,Y⟩
     · have h9:i≠9:=by omega
       rw[if_neg (by omega)]at hnum
       refine zD (zK Y) ?_
       refine jR ?_
       refine ops_no Y ?_
       refine ops_no Y ?_
       refine zD (wT Y Y) ?_
       refine yD ?_
       refine sP ?_
       refine zW Y ?_
       refine xH ?_
       refine zN ?_
       refine zJ ?_
       refine zD (zK Y) ?_
       refine zD (zK Y) ?_
       refine zD (F7 Y Y (P5 cc hc)) ?_
       refine zD (xJ Tryz.underlying118 Tryz.underlying5 Y (IntWalk.u64_in _ (by omega))) ?_
       refine jR ?_
       refine zD (zK Y) ?_
       refine zD (bC Y Y (IntWalk.i64_in _ (by omega))) ?_
       refine zD (lN Y Y (by omega) (shl7 (by omega) (by omega) (by omega))) ?_
       refine zD (eH Y Y (DE (by omega) (by omega) (by omega) hv)) ?_
       refine jR ?_
       refine zD (zO Y) ?_
       refine yD ?_
       refine sP ?_
       refine zN ?_
       refine zN ?_
       refine zJ ?_
       refine zD (zK Y) ?_
       refine vL (wL Y Y) (fun hp30=>?_) (fun hp30=>?_)
       · rw[if_pos (by omega)]at hnum
         refine yD ?_
         refine sP ?_
         refine yL Y ?_
         refine tD ?_
         refine zS ?_
         refine zJ ?_
         refine zD (zL Y Y (IntWalk.i64_in _ (by omega))) ?_
         refine zD (zK Y) ?_
         refine yD ?_
         refine sP ?_
         refine zA (zI ?_)
         exact⟨b.length - (i+1),by omega,i+1,v+cc % 128*2^(7*i),_,_,Y,(fs (fn (fn (fn (fn (fs (fn (fn (fs (fs (fs (fn (fn (fn (fn (fn (fn (fn (fn (fn (fn (fn (fn (fn (fn (fn (fn (fn (fn (fn (fn (fn (fn (fn (fn (fn (fn (fn (fn (fn (fn f0))))))))))))))))))))))))))))))))))))))))),Y,by omega,by omega,by omega,dZ (by omega) hv,hnum,Y⟩
       · rw[if_neg (by omega)]at hnum
         refine yD ?_
         refine sP ?_
         refine zW Y ?_
         refine xH ?_
         refine zN ?_
         refine zN ?_
         refine zJ ?_
         refine zD (zK Y) ?_
         refine vL (xP Y Y) (fun hp32=>?_) (fun hp32=>?_)
         · skip
           refine zD (zK Y) ?_
           refine jR ?_
           refine sG Y ?_
           refine zD (zK Y) ?_
           refine sG Y ?_
           refine vL (yO Y Y) (fun hp35=>?_) (fun hp35=>?_)
           · rw[if_pos ⟨by omega,by omega⟩]at hnum
             refine zD (xS Y Y) ?_
             refine yD ?_
             refine sP ?_
             refine yL Y ?_
             refine zN ?_
             refine zJ ?_
             refine zD (zO Y) ?_
             refine zD (zO Y) ?_
             refine zD (zO Y) ?_
             refine yD ?_
             refine sP ?_
             refine wF ?_
             refine vG ?_
             refine yR ?_
             refine vG ?_
             refine sA Y Y Y Y ?_
             rw[hnum]
             exact⟨Y,Y⟩
           · rw[if_neg (by omega)]at hnum
             refine zD (xS Y Y) ?_
             refine yD ?_
             refine sP ?_
             refine zW Y ?_
             refine xH ?_
             refine zN ?_
             refine zJ ?_
             refine zD (zK Y) ?_
             refine zD (zK Y) ?_
             refine zD (zL Y Y (IntWalk.i64_in _ (by omega))) ?_
             refine zD (zO Y) ?_
             refine jR ?_
             refine zD (zO Y) ?_
             refine zD (zO Y) ?_
             refine yD ?_
             refine sP ?_
             refine wF ?_
             refine vG ?_
             refine yR ?_
             refine vG ?_
             refine sA Y Y Y Y ?_
             rw[hnum]
             exact⟨Y,Y⟩
         · rw[if_neg (by omega)]at hnum
           refine zD (zK Y) ?_
           refine jR ?_
           refine ops_no Y ?_
           refine ops_no Y ?_
           refine zD (wT Y Y) ?_
           refine yD ?_
           refine sP ?_
           refine zW Y ?_
           refine xH ?_
           refine zN ?_
           refine zJ ?_
           refine zD (zK Y) ?_
           refine zD (zK Y) ?_
           refine zD (zL Y Y (IntWalk.i64_in _ (by omega))) ?_
           refine zD (zO Y) ?_
           refine jR ?_
           refine zD (zO Y) ?_
           refine zD (zO Y) ?_
           refine yD ?_
           refine sP ?_
           refine wF ?_
           refine vG ?_
           refine yR ?_
           refine vG ?_
           refine sA Y Y Y Y ?_
           rw[hnum]
           exact⟨Y,Y⟩
   · rw[List.drop_of_length_le (by omega),sL]at hnum
     refine yD ?_
     refine sP ?_
     refine zN ?_
     refine zW Y ?_
     refine tD ?_
     refine zT ?_
     refine zS ?_
     refine zN ?_
     refine zJ ?_
     refine zD (zO Y) ?_
     refine zD (zO Y) ?_
     refine zD (zO Y) ?_
     refine yD ?_
     refine sP ?_
     refine wF ?_
     refine sA Y Y Y Y ?_
     rw[hnum]
     exact⟨Y,Y⟩
set_option maxRecDepth 100000 in
set_option maxHeartbeats 4000000 in
theorem ED (A:Option Addr) (b:List UInt8) (c:Nat) (most:Int) (w0:World) (hr:Rd w0 A b.length 1 (u8s b)) (hb:b.length≤211106232532992) (hlo:-9223372036854775808≤most) (hhi:most≤9223372036854775807):
 zP Tryz.prog 208 #[.slice A b.length c,.int .i64 most] w0 (fun r w'=>r=.tuple #[.int .i64 (zZ b most).1,.int .i64 (zZ b most).2.1,.int .i64 (zZ b most).2.2]∧w'=w0):=by
 have hbd:=pJ b
 refine zE Tryz.func208 Tryz.ntmps208 Y ?_
 refine fJ ?_
 have H:=Hp.refl w0
 refine zN ?_
 refine zJ ?_
 refine zD (zO Y) ?_
 refine zD (zO Y) ?_
 refine zD (zO Y) ?_
 refine yD ?_
 refine fJ ?_
 refine zN ?_
 refine zJ ?_
 refine zD (zK Y) ?_
 refine wP (mI TV Y) (cD A b c _ hr hb) ?_
 refine zD (zK Y) ?_
 refine zD (xA Y Y) ?_
 refine BN ?_
 refine zD (xA Y Y) ?_
 refine zD (xA Y Y) ?_
 refine zD (zO Y) ?_
 refine zD (zO Y) ?_
 refine BN ?_
 refine zD (zO Y) ?_
 refine yD ?_
 refine fJ ?_
 refine zN ?_
 refine zN ?_
 refine zJ ?_
 refine zD (zK Y) ?_
 refine vL (xP Y Y) (fun hp17=>?_) (fun hp17=>?_)
 · have h0:(xM b).2.2=0:=by omega
   refine zD (zK Y) ?_
   refine BN ?_
   refine sG Y ?_
   refine zD (zK Y) ?_
   refine sG Y ?_
   refine zD (zK Y) ?_
   refine BN ?_
   refine sG Y ?_
   refine zD (PE Y Y) ?_
   refine sG Y ?_
   refine zD (xJ Tryz.underlying118 Tryz.underlying3 Y (IntWalk.u64_in _ (by omega))) ?_
   refine BN ?_
   refine sG Y ?_
   refine vL (yO Y Y) (fun hp23=>?_) (fun hp23=>?_)
   · skip
     refine zD (xS Y Y) ?_
     refine yD ?_
     refine fJ ?_
     refine yL Y ?_
     refine zJ ?_
     refine zD (zO Y) ?_
     refine yD ?_
     refine fJ ?_
     refine zN ?_
     refine zN ?_
     refine zJ ?_
     refine zD (zK Y) ?_
     refine mZ (yS Y Y) (by omega) ?_
     refine yD ?_
     refine fJ ?_
     refine yL Y ?_
     refine zN ?_
     refine zJ ?_
     refine zD (zK Y) ?_
     refine zD (zO Y) ?_
     refine zD (zO Y) ?_
     refine zD (zO Y) ?_
     refine yD ?_
     refine fJ ?_
     refine wF ?_
     refine sA Y Y Y Y ?_
     refine⟨?_,Y⟩
     rw[lP h0 hp23]
     rfl
   · skip
     refine zD (xS Y Y) ?_
     refine yD ?_
     refine fJ ?_
     refine zW Y ?_
     refine xH ?_
     refine zN ?_
     refine zN ?_
     refine zJ ?_
     refine zD (zK Y) ?_
     refine kG (yS Y Y) (by omega) ?_
     refine yD ?_
     refine fJ ?_
     refine zW Y ?_
     refine xH ?_
     refine zN ?_
     refine zJ ?_
     refine zD (zK Y) ?_
     refine zD (xJ Tryz.underlying3 Tryz.underlying118 Y (IntWalk.i64_in _ (by omega))) ?_
     refine zD (zK Y) ?_
     refine zD (zO Y) ?_
     refine BN ?_
     refine zD (zO Y) ?_
     refine zD (zO Y) ?_
     refine yD ?_
     refine fJ ?_
     refine wF ?_
     refine sA Y Y Y Y ?_
     refine⟨?_,Y⟩
     rw[oD h0 hp23]
     rfl
 · have h0:(xM b).2.2≠0:=by omega
   refine zD (zK Y) ?_
   refine BN ?_
   refine ops_no Y ?_
   refine ops_no Y ?_
   refine BN ?_
   refine ops_no Y ?_
   refine ops_no Y ?_
   refine BN ?_
   refine ops_no Y ?_
   refine zD (wT Y Y) ?_
   refine yD ?_
   refine fJ ?_
   refine zW Y ?_
   refine xH ?_
   refine zN ?_
   refine zN ?_
   refine zJ ?_
   refine zD (zK Y) ?_
   refine mZ (yS Y Y) (by omega) ?_
   refine yD ?_
   refine fJ ?_
   refine yL Y ?_
   refine zN ?_
   refine zJ ?_
   refine zD (zK Y) ?_
   refine zD (zO Y) ?_
   refine zD (zO Y) ?_
   refine zD (zO Y) ?_
   refine yD ?_
   refine fJ ?_
   refine wF ?_
   refine sA Y Y Y Y ?_
   refine⟨?_,Y⟩
   rw[lR h0]
   rfl
end Go.Proofs.YtjoeklkmnfaabaaGreat
namespace Go.Proofs.YtjoeklkmnfaabaaGreat
open Go Go.RowKit
set_option linter.unusedVariables false
set_option linter.unusedSimpArgs false
section more
variable {P:Program} {ds:List Deferred} {Q:vN} {K:List Value→World→Prop} {all os:List Oper} {l:List Value} {w0 w w':World} {S S':List Nat} {es es':List Ent} {ty t:TypeId} {pos:String} {af:Array Edge} {d:Tmp} {v:Value} {op:Op}
 {zs cs:List Value} {sz bytes:Nat} {agg:Bool}
def wY (P:Program) (t:TypeId):Option (List (Nat×Nat)):=
 match P.underlying t with
 | some (.struct fields)=>fields.toList.mapM (fun f=>(P.info? f.type).map fun i=>(f.offset,i.size))
 | _=>none
theorem D9 (h:xT P t zs sz bytes agg) {ps:List (Nat×Nat)} (hp:wY P t=some ps) {xs:List (Nat×Operand)} {vs:List (Nat×Value)} (hv:pH l xs=some vs) (hf:lM (fun i=>ps[i]?) zs vs=some cs):
 Ex P l (.build t xs.toArray) ty w (.value (.agg cs.toArray)) w:=fun _ _ _ _=>by
 obtain⟨i,z,d,hi,hz,hzs,_,_,hd,_⟩:=h.ex
 have hb:P.built t (xs.toArray.map fun(i,x)=>(i,rho l x)).toList=some cs.toArray:=by
  have hvs:(xs.toArray.map fun(i,x)=>(i,rho l x)).toList=vs:=by simpa using pW hv
  rw[hvs]
  unfold wY at hp
  rw[hd]at hp
  cases d with
  | struct fields=>
   simp only at hp
   have hf':=eZ (fun i=>ps[i]?) vs zs cs hf
   have e:z.cells=zs.toArray:=by rw[← hzs]
   unfold Program.built
   rw[hi,hd]
   simp only[hz,hp,e]
   simpa using hf'
  | _=>cases hp
 have hr:=run_build (P:=P) w t _ _ hb
 simp only[execOp,Sem.run_bind]
 rw[hr]
 rfl
theorem Hp.then (H:Hp w0 w S es) (H':Hp w w' S' es'):Hp w0 w' (S++S') es':=by
 refine⟨H'.os.trans H.os,H'.tape.trans H.tape,H'.output.trans H.output,Nat.le_trans H.size H'.size,?_,?_,H'.apart⟩
 · intro k hk hS
   simp only[List.mem_append,not_or]at hS
   rw[H'.frame k (Nat.lt_of_lt_of_le hk H.size) hS.2]
   exact H.frame k hk hS.1
 · intro i e he
   have:=H'.ent i e he
   unfold qR at this ⊢
   split
   · rename_i hn;rw[hn]at this;exact this
   · rename_i g hg
     rw[hg]at this
     refine⟨this.1,?_⟩
     rcases this.2 with h | h
     · exact .inl (List.mem_append_right _ h)
     · exact .inr (Nat.le_trans H.size h)
theorem Hp.keep (H:Hp w0 w S es) {g:Nat} {o:Obj} (hg:w0.heap[g]? =some o) (hS:g∉S):w.heap[g]? =some o:=by
 rw[H.frame g (Array.getElem?_eq_some_iff.1 hg).1 hS];exact hg
theorem bQ {f:FuncId} {args:Array Value} {R:Nat→Nat→World→Prop} (hx:Ex P l op ty w (.enter f args) w) (hc:zP P f args w fun r w'=>∃ k e:Nat,r=.tuple #[.int .i64 k,.int .i64 e]∧R k e w')
 (h:∀ (k e:Nat) w',R k e w'→Ops P ds all K Q os (l.set d (.tuple #[.int .i64 k,.int .i64 e])) w'):Ops P ds all K Q (⟨some d,op,ty,pos,af,none⟩::os) l w:=
 tE hx hc fun r w' ⟨k,e,h1,h2⟩=>by rw[h1];exact h k e w' h2
theorem aV {f:FuncId} {args:Array Value} {R:Nat→Nat→World→Prop} {M:Nat→Nat→World→World→Prop} (hx:Ex P l op ty w (.enter f args) w) (hc:zP P f args w fun r w'=>∃ k e w2,R k e w2∧r=.bool (decide (e=0))∧M k e w2 w')
 (h:∀ (k e:Nat) w2 w',R k e w2→M k e w2 w'→Ops P ds all K Q os (l.set d (.bool (decide (e=0)))) w'):Ops P ds all K Q (⟨some d,op,ty,pos,af,none⟩::os) l w:=
 tE hx hc fun r w' ⟨k,e,w2,h1,h2,h3⟩=>by rw[h2];exact h k e w2 w' h1 h3
theorem bE {e:TypeId} {x:Operand} (ht:P.underlying t=some (.slice e)) (he:xT P e zs sz bytes agg) {A:Option Addr} {len c lo hi mx n m:Nat} {kl kh km:IntKind} {xl xh xm:Operand}
 (hx:ev l x=some (.slice A len c)) (hl:ev l xl=some (.int kl lo)) (hh:ev l xh=some (.int kh hi)) (hm:ev l xm=some (.int km mx)) (h:lo≤hi∧hi≤mx∧mx≤c) (hn:n=hi - lo) (hm':m=mx - lo):
 Ex P l (.slice t x (some xl) (some xh) (some xm)) ty w (.value (.slice (wG A lo mx sz) n m)) w:=by
 subst hn hm'
 have:=ST (ty:=ty) (w:=w) ht he hx hl hh hm (by omega)
 simpa only[Int.toNat_natCast]using this
end more
section rdr
variable {w w':World} {gr:Nat} {A:Option Addr} {c:Nat} {b:List UInt8} {i e:Nat}
theorem dL (b:List UInt8) (i:Nat):u8s (b.drop i)=(u8s b).drop i:=by simp[u8s,List.map_drop]
theorem dK (b:List UInt8) (i:Nat):u8s (b.take i)=(u8s b).take i:=by simp[u8s,List.map_take]
theorem Rd.tail (h:Rd w A b.length 1 (u8s b)) (hi:i≤b.length):Rd w (wG A i b.length 1) (b.drop i).length 1 (u8s (b.drop i)):=by
 have:=h.cut i b.length b.length hi (Nat.le_refl _) (Nat.le_refl _)
 rw[dL,List.length_drop]
 simp only[Nat.mul_one]at this
 rw[List.take_of_length_le (by rw[List.length_drop,zY];exact Nat.le_refl _)]at this
 unfold wG
 simp only[Nat.mul_one]
 exact this
theorem Rd.mid {n v:Nat} (h:Rd w A b.length 1 (u8s b)) (hi:n+v≤b.length):Rd w (wG A n (n+v) 1) ((b.drop n).take v).length 1 (u8s ((b.drop n).take v)):=by
 have:=h.cut n (n+v) (n+v) (by omega) hi (Nat.le_refl _)
 rw[dK,dL,List.length_take,List.length_drop,Nat.min_eq_left (by omega)]
 simp only[Nat.mul_one,Nat.add_sub_cancel_left]at this
 unfold wG
 simp only[Nat.mul_one]
 exact this
end rdr
section app
variable {P:Program} {ds:List Deferred} {Q:vN} {K:List Value→World→Prop} {all os:List Oper} {l:List Value} {w0 w w':World} {S S':List Nat} {es es':List Ent} {ty t:TypeId} {pos:String} {af:Array Edge} {d:Tmp} {v:Value} {op:Op}
 {zs cs:List Value} {agg:Bool} {x y:Operand}
theorem lC {e:TypeId} (ht:P.underlying t=some (.slice e)) (he:xT P e zs 1 1 agg) (H:Hp w0 w S es) (i:Nat)
 {g:Option Nat} {cap:Nat} {L M:List UInt8} {sp:List Value} (hx:ev l x=some (.slice (hd g) L.length cap)) (hi:es[i]? =some (g,e,u8s L++sp)) (hc:cap*1≤(u8s L++sp).length) (hnc:L.length≤cap) (hcap:g=none→cap=0)
 {A:Option Addr} {c:Nat} (hy:ev l y=some (.slice A M.length c)) (hr:Rd w A M.length 1 (u8s M)) (hb:L.length+M.length≤211106232532992)
 (k:∀ w' g' cap' sp',Hp w0 w' S (es.set i (g',e,u8s (L++M)++sp'))→(L++M).length≤cap'→cap'*1≤(u8s (L++M)++sp').length→(g'=none→cap'=0)→Ops P ds all K Q os (l.set d (.slice (hd g') (L++M).length cap')) w'):
 Ops P ds all K Q (⟨some d,.call { callee:=.builtin .append,args:=#[x,y],argTypes:=#[t,t] },ty,pos,af,none⟩::os) l w:=by
 refine yX ht he (by decide) H i hx hi (yV L) hc hnc hcap hy hr (uK M) (by omega) (by omega) (by decide) ?_
 intro w' g' cap' sp' H' h1 h2 h3
 rw[← List.length_append]
 rw[← List.length_append]at h2
 rw[← vD]at H' h1
 exact k w' g' cap' sp' H' h2 h1 h3
end app
theorem Hp.ne {w0 w:World} {S:List Nat} {es:List Ent} (H:Hp w0 w S es) {i j g g':Nat} {T T':TypeId} {cs cs':List Value} (h1:es[i]? =some (some g,T,cs)) (h2:es[j]? =some (some g',T',cs')) (hij:i≠j):g≠g':=by
 rintro rfl
 exact hij (H.apart i j _ _ g h1 h2 Y Y)
theorem Rd.mid2 {w:World} {A:Option Addr} {b:List UInt8} {n v c:Nat} (h:Rd w A b.length 1 (u8s b)) (hi:n+v≤b.length) (hc:b.length≤c):Rd w (wG A n c 1) ((n+v) - n) 1 (u8s ((b.drop n).take v)):=by
 have:=h.cut n (n+v) c (by omega) hi (by omega)
 rw[dK,dL]
 simp only[Nat.mul_one,Nat.add_sub_cancel_left]at this ⊢
 unfold wG
 simp only[Nat.mul_one]
 exact this
theorem Rd.Qa {w:World} {A:Option Addr} {b:List UInt8} {i c:Nat} (h:Rd w A b.length 1 (u8s b)) (hi:i≤b.length) (hc:b.length≤c):Rd w (wG A i c 1) (b.length - i) 1 (u8s (b.drop i)):=by
 have:=h.mid2 (n:=i) (v:=b.length - i) (c:=c) (by omega) hc
 rw[Nat.add_sub_cancel_left,List.take_of_length_le (by rw[List.length_drop];exact Nat.le_refl _)]at this
 exact this
theorem fW (g o:Nat):(⟨g,0,none⟩:Addr).add o=⟨g,o,none⟩:=by
 unfold Addr.add
 split
 · rename_i h;rw[h]
 · simp
abbrev Blk :=List UInt8
def bl (es:List Ent):List Nat:=es.filterMap (·.1)
theorem Hp.here {w0 w:World} {S:List Nat} {es:List Ent} (H:Hp w0 w S es):Hp w w (bl es) es:=by
 refine⟨Y,Y,Y,Nat.le_refl _,fun _ _ _=>Y,?_,H.apart⟩
 intro i e he
 have h:=H.ent i e he
 unfold qR at h ⊢
 split
 · rename_i hn;rw[hn]at h;exact h
 · rename_i g hg
   rw[hg]at h
   exact⟨h.1,.inl (List.mem_filterMap.2 ⟨e,List.mem_of_getElem? he,hg⟩)⟩
theorem I1 {es es':List Ent} {is:List Nat} (h:es'=is.map fun i=>es.getD i (none,0,[])):∀ b∈bl es',∃ i∈is,∃ T cs,es[i]? =some (some b,T,cs):=by
 intro b hb
 subst h
 obtain⟨e,he,hg⟩:=List.mem_filterMap.1 hb
 obtain⟨i,hi,rfl⟩:=List.mem_map.1 he
 refine⟨i,hi,?_⟩
 cases h:es[i]? with
 | none=>rw[List.getD_eq_getElem?_getD,h]at hg;simp at hg
 | some x=>
  rw[List.getD_eq_getElem?_getD,h]at hg
  obtain⟨a,T,cs⟩:=x
  simp at hg
  exact⟨T,cs,by rw[hg]⟩
theorem lK {w0 w:World} {S:List Nat} {es:List Ent} (H:Hp w0 w S es) (i:Nat) {g:Option Nat} {T:TypeId} {cs:List Value} (he:es[i]? =some (g,T,cs)) (ha:∀ p,hd g=some p→p.block∉S):∀ p,hd g=some p→w0.heap.size≤p.block:=by
 intro p hp
 cases g with
 | none=>simp[hd]at hp
 | some x=>
  have h2:=ha p hp
  simp only[hd,Option.map_some,Option.some.injEq]at hp
  subst hp
  rcases H.place he with h | h
  · exact absurd h h2
  · exact h
theorem Dn (b o n:Nat):(⟨b,o,none⟩:Addr).add n=⟨b,o+n,none⟩:=by
 unfold Addr.add
 split
 · rename_i h;rw[h];rfl
 · rfl
theorem eG :∀ (is:List Nat) (es:List Ent),(kill es is).length=es.length
 | [],_=>rfl
 | i::is,es=>by simp[kill,eG is es]
theorem DP :∀ (is:List Nat) (es:List Ent) (j:Nat),j∉is→(kill es is)[j]? =es[j]?
 | [],_,_,_=>rfl
 | i::is,es,j,h=>by
  simp only[kill]
  rw[List.getElem?_set_ne (fun e=>h (by simp[e])),DP is es j (fun hh=>h (List.mem_cons_of_mem _ hh))]
theorem uI (a b:List Ent):bl (a++b)=bl a++bl b:=by simp[bl]
theorem Hp.Am {w0 w w':World} {S:List Nat} {es es1 es2:List Ent} (H:Hp w0 w S es) (is:List Nat) (h1:es1=is.map fun i=>es.getD i (none,0,[])) (H':Hp w w' (bl es1) es2):Hp w0 w' S (kill es is++es2):=H.call H' is (I1 h1)
section
variable {w0 w w':World} {S S':List Nat} {es es' es1 es2 R:List Ent}
theorem Hp.sub (H:Hp w0 w S es) (φ:Nat→Nat) (h:∀ i e,es'[i]? =some e→es[φ i]? =some e∨(e.1=none∧e.2.2=[])) (hinj:∀ i j,i < es'.length→j < es'.length→φ i=φ j→i=j):Hp w0 w S es':=by
 refine⟨H.os,H.tape,H.output,H.size,H.frame,?_,?_⟩
 · intro i e he
   rcases h i e he with h1 | ⟨h1,h2⟩
   · exact H.ent _ e h1
   · unfold qR;rw[h1];exact h2
 · intro i j e f g hi hj he hf
   rcases h i e hi with h1 | ⟨h1,_⟩
   · rcases h j f hj with h2 | ⟨h2,_⟩
     · exact hinj i j (lt_of_get hi) (lt_of_get hj) (H.apart _ _ e f g h1 h2 he hf)
     · rw[h2]at hf;cases hf
   · rw[h1]at he;cases he
theorem Hp.less (H:Hp w0 w S (es++R)):Hp w0 w S es:=
 H.sub id (fun i e he=> .inl (by rw[id,List.getElem?_append_left (lt_of_get he)];exact he)) (fun _ _ _ _ h=>h)
theorem Hp.front (H:Hp w0 w S (es1++R)) (H':Hp w w' (bl es1) es2):Hp w0 w' S (es2++R):=by
 have hS:∀ b∈bl es1,∃ i∈List.range es1.length,∃ T cs,(es1++R)[i]? =some (some b,T,cs):=by
  intro b hb
  obtain⟨⟨g,T,cs⟩,he,hg⟩:=List.mem_filterMap.1 hb
  obtain⟨i,hi⟩:=List.getElem?_of_mem he
  have hlt:=lt_of_get hi
  simp only at hg
  subst hg
  exact⟨i,List.mem_range.2 hlt,T,cs,by rw[List.getElem?_append_left hlt];exact hi⟩
 have hC:=H.call H' (List.range es1.length) hS
 have hlen:(kill (es1++R) (List.range es1.length)).length=es1.length+R.length:=by rw[eG];simp
 refine hC.sub (fun i=>if i < es2.length then es1.length+R.length+i else es1.length+(i - es2.length)) ?_ ?_
 · intro i e he
   split
   · rename_i h
     left
     rw[List.getElem?_append_right (by omega),hlen,Nat.add_sub_cancel_left]
     rwa [List.getElem?_append_left h]at he
   · rename_i h
     left
     rw[List.getElem?_append_right (by omega)]at he
     have:=lt_of_get he
     rw[List.getElem?_append_left (by omega),DP _ _ _ (by simp),List.getElem?_append_right (by omega),Nat.add_sub_cancel_left]
     exact he
 · intro i j hi hj h
   simp only[List.length_append]at hi hj
   split at h <;>split at h <;>omega
theorem Hp.all (HB:Hp w0 w S es) (H:Hp w w' (bl es) es'):Hp w0 w' S es':=by
 have:=Hp.front (R:=[]) (by simpa using HB) H
 simpa using this
theorem Dt {b:Nat} (hb:b∈bl es1):b∈bl (es1++R):=by rw[uI];exact List.mem_append_left _ hb
theorem Hp.Nv (H:Hp w0 w S es) (o:Obj):Hp w0 (w.alloc o) S es:=by
 refine⟨H.os,H.tape,H.output,?_,?_,?_,H.apart⟩
 · have:=H.size;simp;omega
 · intro k hk hS
   rw[heap_alloc_old w _ (by have:=H.size;omega)]
   exact H.frame k hk hS
 · intro i e he
   have h:=H.ent i e he
   unfold qR at h ⊢
   split
   · rename_i hn;rw[hn]at h;exact h
   · rename_i g hg
     rw[hg]at h
     exact⟨by rw[heap_alloc_old w _ (H.Ll he hg)];exact h.1,h.2⟩
theorem qA (H:Hp w0 w S (es1++R)) {i:Nat} {g:Option Nat} {T:TypeId} {cs:List Value} (he:R[i]? =some (g,T,cs)):∀ p,hd g=some p→p.block∉bl es1:=by
 intro p hp hb
 obtain⟨⟨g2,T2,cs2⟩,hm,hg⟩:=List.mem_filterMap.1 hb
 obtain⟨j,hj⟩:=List.getElem?_of_mem hm
 simp only at hg
 subst hg
 cases g with
 | none=>simp[hd]at hp
 | some x=>
  simp only[hd,Option.map_some,Option.some.injEq]at hp
  subst hp
  have hjl:=lt_of_get hj
  have:=H.apart j (es1.length+i) _ _ x (by rw[List.getElem?_append_left hjl];exact hj) (by rw[List.getElem?_append_right (by omega),Nat.add_sub_cancel_left];exact he) rfl rfl
  omega
theorem Hp.Af (H:Hp w0 w S es) (H':Hp w w' [] es2):Hp w0 w' S es:=(H.call0 H').less
end
theorem oE {w0 w:World} {S:List Nat} {es:List Ent} (H:Hp w0 w S es) {b:Nat} (hb:b∈bl es):b < w.heap.size:=by
 obtain⟨⟨g,T,cs⟩,he,hg⟩:=List.mem_filterMap.1 hb
 obtain⟨i,hi⟩:=List.getElem?_of_mem he
 simp only at hg
 subst hg
 exact H.lt hi
theorem vK {w0 w:World} {S:List Nat} {es:List Ent} {i:Nat} {g:Option Nat} {T:TypeId} {cs:List Value} (H:Hp w0 w S es) (he:es[i]? =some (g,T,cs)) (h:0 < cs.length):∃ k,g=some k:=by
 cases g with
 | some k=>exact⟨k,rfl⟩
 | none=>
  have h1:=H.ent i _ he
  change cs=[]at h1
  subst h1
  cases h
theorem bl_place {w0 w:World} {S:List Nat} {es:List Ent} (H:Hp w0 w S es):∀ b∈bl es,b∈S∨w0.heap.size≤b:=by
 intro b hb
 obtain⟨e,he,hg2⟩:=List.mem_filterMap.1 hb
 obtain⟨i,hi⟩:=List.getElem?_of_mem he
 obtain⟨g',T,cs⟩:=e
 simp only at hg2
 subst hg2
 exact H.place hi
theorem sE {w0 w:World} {S:List Nat} {es:List Ent} (H:Hp w0 w S es):∀ b∈bl es,∃ arr T z,w.heap[b]? =some (.cells arr T z):=by
 intro b hb
 obtain⟨e,he,hg2⟩:=List.mem_filterMap.1 hb
 obtain⟨i,hi⟩:=List.getElem?_of_mem he
 obtain⟨g',T,cs⟩:=e
 simp only at hg2
 subst hg2
 exact⟨_,_,_,H.at hi⟩
theorem Bh {w0 w:World} {S:List Nat} {es:List Ent} (H:Hp w0 w S es) {i:Nat} {g:Nat} {T:TypeId} {cs:List Value} (hi:es[i]? =some (some g,T,cs)) {is:List Nat} (hn:i∉is):g∉bl (is.map fun j=>es.getD j (none,0,[])):=by
 intro hb
 obtain⟨j,hj,T',cs',hj2⟩:=I1 rfl _ hb
 have:=H.apart i j _ _ g hi hj2 rfl rfl
 subst this
 exact hn hj
theorem Df {w0 w:World} {S:List Nat} {es:List Ent} {is:List Nat} (_:Hp w0 w S es):∀ p∈bl (is.map fun i=>es.getD i (none,0,[])),p∈bl es:=by
 intro p hp
 obtain⟨i,_,T,cs,h⟩:=I1 rfl p hp
 exact List.mem_filterMap.2 ⟨_,List.mem_of_getElem? h,Y⟩
theorem Hp.Zq (w:World):Hp w { w with drawn:=w.drawn+1 } [] []:=(Hp.refl w).drew
theorem Hp.Ac {w0 w:World} {S:List Nat} {es:List Ent} (H:Hp w0 w S es):Hp w0 w S []:=H.pick [] (by simp)
theorem Hp.right {w0 w:World} {S:List Nat} {a b:List Ent} (H:Hp w0 w S (a++b)):Hp w0 w S b:=by
 have key:∀ (i:Nat) (e:Ent),b[i]? =some e→(a++b)[a.length+i]? =some e:=fun i e h=>by rw[List.getElem?_append_right (by omega),Nat.add_sub_cancel_left];exact h
 refine⟨H.os,H.tape,H.output,H.size,H.frame,fun i e he=>H.ent _ e (key i e he),fun i j e f g hi hj h1 h2=>?_⟩
 have:=H.apart _ _ e f g (key i e hi) (key j f hj) h1 h2
 omega
section laws
variable {P:Program} {ds:List Deferred} {Q:vN} {K:List Value→World→Prop} {all os:List Oper} {l:List Value} {w0 w w':World} {S S':List Nat} {es es':List Ent} {ty t:TypeId} {pos:String} {af:Array Edge} {d:Tmp} {v:Value} {op:Op}
 {x y:Operand} {zs cs:List Value} {sz bytes:Nat} {agg:Bool}
theorem uR {e:TypeId} {k:IntKind} {n:Int} (ht:P.underlying t=some (.slice e)) (he:xT P e zs sz bytes agg) {b o len c i:Nat} (hx:ev l x=some (.slice (some ⟨b,o,none⟩) len c)) (hy:ev l y=some (.int k n)) (hn:n=(i:Int)) (hi:i < len):
 Ex P l (.indexAddr t x y) ty w (.value (.pointer (some ⟨b,o+i*sz,none⟩))) w:=by
 have h:=fS (ty:=ty) (w:=w) ht he hx hy hn hi rfl
 rwa [Dn]at h
theorem fF {e:TypeId} (ht:P.underlying t=some (.slice e)) (he:xT P e zs sz bytes agg) (H:Hp w0 w S es) {k1 k2:IntKind} {n c:Nat} (hx:ev l x=some (.int k1 n)) (hy:ev l y=some (.int k2 c))
 (hnc:n≤c) (hb:bytes*c≤281474976710656) (h63:c≤9223372036854775807)
 (k:∀ w' g,Hp w0 w' S (es++[(some g,e,initL zs c)])→g=w.heap.size→Ops P ds all K Q os (l.set d (.slice (hd (some g)) n c)) w'):Ops P ds all K Q (⟨some d,.makeSlice t x y,ty,pos,af,none⟩::os) l w:=by
 obtain⟨i,z',d',hi,hz,hzs,hsz,hby,hd',_⟩:=he.ex
 have H':=H.alloc e (initL zs c)
 refine zD (w':=w.alloc (.cells (initL zs c).toArray e)) ?_ (k _ _ H' Y)
 intro _ _ _ _
 have hr:=run_make (P:=P) w t e i z' ht hi hz k1 k2 n c (by omega) (by omega) (by rw[hby];omega) (by omega)
 have hc:madeCells z'.cells (c*i.size)=(initL zs c).toArray:=by
  have hcl:z'.cells=zs.toArray:=by rw[← hzs]
  rw[hsz,← he.len,hcl,← eU]
  rfl
 simp only[Int.toNat_natCast]at hr
 simp[execOp,zV hx,zV hy,hr,hc]
theorem O9 {v:Value} (hl:v.cells.toList.length=sz) (hz:zs.length=sz):lM (fun i=>some (i*sz,sz)) (initL zs 1) [(0,v)]=some v.cells.toList:=by
 have h1:(initL zs 1).length=sz:=by rw[wQ,Nat.one_mul,hz]
 simp only[lM,Nat.zero_mul]
 rw[decide_eq_true hl,decide_eq_true (by omega)]
 simp only[zH,Nat.zero_add]
 congr 1
 rw[List.take_zero,List.nil_append,List.drop_of_length_le (by omega),List.append_nil]
theorem cC {e:TypeId} (ht:P.underlying t=some (.slice e)) (he:xT P e zs sz bytes agg) (H:Hp w0 w S es) {A0:Option Addr} {n cap:Nat} {xs:List Value} (hx:ev l x=some (.slice A0 n cap)) (hrx:Rd w A0 n sz xs)
 {A:Option Addr} {m c:Nat} {ys:List Value} (hy:ev l y=some (.slice A m c)) (hr:Rd w A m sz ys) (hg:cap < n+m) (h63:n+m≤9223372036854775807) (hb:(n+m)*bytes≤211106232532992) (hb2:bytes≤1048576)
 (k:∀ w' g cap' sp',Hp w0 w' S (es++[(some g,e,(xs++ys)++sp')])→cap'*sz≤((xs++ys)++sp').length→n+m≤cap'→Ops P ds all K Q os (l.set d (.slice (hd (some g)) (n+m) cap')) w'):
 Ops P ds all K Q (⟨some d,.call { callee:=.builtin .append,args:=#[x,y],argTypes:=#[t,t] },ty,pos,af,none⟩::os) l w:=by
 obtain⟨inf,z,dd,hinf,hz,hzs,rfl,rfl,_,_⟩:=he.ex
 have hzsz:z.cells.size=zs.length:=by rw[← hzs];simp
 have hfit:=V3 hg hb hb2
 have first:∀ {A:Option Addr} {n c:Nat} {xs:List Value},Rd w A n inf.size xs→(Builtin.firstCells inf.size n (.slice A n c)).run P w.drew=.ok xs.toArray w.drew:=by
  intro A n c xs hr
  cases A with
  | none=>
   have:=hr.nil rfl
   subst this
   have hys:xs=[]:=List.eq_nil_of_length_eq_zero (by simpa using hr.len)
   subst hys
   exact run_firstCells_none _ _ _ _ _
  | some a=>exact run_firstCells_some _ inf.size n a n c xs hr.len (fun j u hu=>hr.cells a rfl j u hu)
 have hfo:=first (c:=cap) hrx
 have hfc:=first (c:=c) hr
 have hn':¬(n+m≤cap):=by omega
 have h63':¬(9223372036854775807 < ((n:Int)+(m:Int))):=by omega
 have h48':¬(281474976710656 < Builtin.nextslicecap (n+m) cap*inf.bytes):=by omega
 have hge:=grownCap_ge w (n+m) cap e
 have hrun:(Builtin.append_ #[t,t] ty #[.slice A0 n cap,.slice A m c]).run P w=
  .ok (.slice (some ⟨w.heap.size,0,none⟩) (n+m) (grownCap w (n+m) cap e))
   (w.drew.alloc (.cells ((xs++ys)++(Builtin.zeroCells z.cells (grownCap w (n+m) cap e - (n+m))).toList).toArray e)):=by
  simp[Builtin.append_,run_underlying ht,sizeOf,typeInfo,zeroValue,hinf,hz,Builtin.lenOf,hn',h63',h48',Question.forced,hfc,hfo,newRow,grownCap]
  congr 2
  apply Array.ext'
  simp
 have H2:=(H.drew).alloc e ((xs++ys)++(Builtin.zeroCells z.cells (grownCap w (n+m) cap e - (n+m))).toList)
 refine zD (w':=w.drew.alloc (.cells ((xs++ys)++(Builtin.zeroCells z.cells (grownCap w (n+m) cap e - (n+m))).toList).toArray e)) ?_ (k _ _ _ _ H2 ?_ hge)
 · intro _ _ _ _
   simp[execOp,resolve,invoke,builtin,zV hx,zV hy,hrun]
 · simp only[List.length_append,hrx.len,hr.len,Array.length_toList,Builtin.zeroCells,Array.size_map,Array.size_range]
   rw[hzsz,he.len,← Nat.add_mul,← Nat.add_mul]
   exact Nat.mul_le_mul_right _ (by omega)
theorem qC {cs vs:List Value} (h:cs.length=vs.length):zH cs 0 vs=vs:=by
 simp[zH,h]
theorem sD {w0 w:World} {S:List Nat} {es:List Ent} {i g o:Nat} {T:TypeId} {cs vs:List Value} (H:Hp w0 w S es) (he:es[i]? =some (some g,T,cs)) (h:∀ j u,vs[j]? =some u→cs[o+j]? =some u):∀ j u,vs[j]? =some u→w.cell? ((⟨g,o,none⟩:Addr).add j)=some u:=by
 intro j u hu
 have e:(⟨g,o,none⟩:Addr).add j=⟨g,o+j,none⟩:=by
  unfold Addr.add
  split
  · rename_i h0;rw[h0];rfl
  · rfl
 rw[e]
 exact H.cell he (h j u hu)
theorem aC (a b:Nat):((a:Int)).tmod (b:Int)=((a % b:Nat):Int):=rfl
end laws
section
variable {P:Program} {fn:Func} {l:List Value} {w w0:World} {R:Value→World→Prop} {zs:List Value} {sz bytes:Nat}
theorem uM {r1:Tmp} {ty:TypeId} (hr:fn.results=#[.cell r1 ty]) (ht:xT P ty zs sz bytes true) {g:Nat} {cs:List Value} (h1:nth l r1=some (.pointer (some ⟨g,0,none⟩))) (hl:cs.length=sz) (hc:∀ j u,cs[j]? =some u→w.cell? ((⟨g,0,none⟩:Addr).add j)=some u) (h:R (.agg cs.toArray) w):fin P fn R .ret l w:=by
 refine⟨.agg cs.toArray,?_,h⟩
 have hl2:=qT (P:=P) (w:=w) ht hl hc
 have hp:l[r1]? =some (.pointer (some ⟨g,0,none⟩)):=by rw[← pK];exact h1
 simp[results,hr,hp,asAddr,hl2]
theorem xO {r1 r2:Tmp} {ty:TypeId} (hr:fn.results=#[.cell r1 ty,.tmp r2]) (ht:xT P ty zs sz bytes true) {g:Nat} {cs:List Value} {v2:Value} (h1:nth l r1=some (.pointer (some ⟨g,0,none⟩))) (h2:nth l r2=some v2) (hl:cs.length=sz) (hc:∀ j u,cs[j]? =some u→w.cell? ((⟨g,0,none⟩:Addr).add j)=some u)
 (h:R (.tuple #[.agg cs.toArray,v2]) w):fin P fn R .ret l w:=by
 refine⟨.tuple #[.agg cs.toArray,v2],?_,h⟩
 have hl2:=qT (P:=P) (w:=w) ht hl hc
 have hp:l[r1]? =some (.pointer (some ⟨g,0,none⟩)):=by rw[← pK];exact h1
 rw[results_cell_tmp hr]
 rw[iS h1,iS h2]
 simp[asAddr,hl2]
end
theorem Hp.Ad {w0 w:World} {S:List Nat} {es:List Ent} {i g o:Nat} {T:TypeId} {cs us:List Value} (H:Hp w0 w S es) (he:es[i]? =some (some g,T,cs)) (hs:(cs.drop o).take us.length=us):∀ j u,us[j]? =some u→w.cell? ((⟨g,o,none⟩:Addr).add j)=some u:=
 sD H he fun j u hu=>by
  rw[← hs,List.getElem?_take]at hu
  split at hu
  · rwa [List.getElem?_drop]at hu
  · cases hu
def Pl (sz:Nat) (ps:List (List Value)):Prop:=∀ p∈ps,p.length=sz
section
variable {sz i:Nat} {ps qs:List (List Value)} {p q:List Value}
theorem Pl.nil (sz:Nat):Pl sz []:=fun _ h=>by cases h
theorem Pl.at (h:Pl sz ps) (hi:ps[i]? =some p):p.length=sz:=h p (List.mem_of_getElem? hi)
theorem Pl.tail (h:Pl sz (p::ps)):Pl sz ps:=fun x hx=>h x (List.mem_cons_of_mem _ hx)
theorem Pl.sub (h:Pl sz ps) (hs:∀ x∈qs,x∈ps):Pl sz qs:=fun x hx=>h x (hs x hx)
theorem Pl.app (h:Pl sz ps) (h2:Pl sz qs):Pl sz (ps++qs):=fun x hx=>(List.mem_append.1 hx).elim (h x) (h2 x)
theorem Pl.one (h:p.length=sz):Pl sz [p]:=fun x hx=>by rw[List.mem_singleton.1 hx];exact h
theorem Pl.len :∀ {ps:List (List Value)},Pl sz ps→ps.flatten.length=ps.length*sz
 | [],_=>by simp
 | p::ps,h=>by
  rw[List.flatten_cons,List.length_append,h p (by simp),Pl.len h.tail,List.length_cons,Nat.add_mul];omega
theorem Pl.Ns :∀ {ps:List (List Value)} (i:Nat),Pl sz ps→ps.flatten.drop (i*sz)=(ps.drop i).flatten
 | ps,0,_=>by simp
 | [],i+1,_=>by simp
 | p::ps,i+1,h=>by
  rw[List.flatten_cons,List.drop_succ_cons,← Pl.Ns i h.tail,show(i+1)*sz=p.length+i*sz by rw[h p (by simp),Nat.add_mul];omega,← List.drop_drop,List.drop_left]
theorem Pl.Nb :∀ {ps:List (List Value)} (i:Nat),Pl sz ps→ps.flatten.take (i*sz)=(ps.take i).flatten
 | ps,0,_=>by simp
 | [],i+1,_=>by simp
 | p::ps,i+1,h=>by
  rw[List.flatten_cons,List.take_succ_cons,List.flatten_cons,← Pl.Nb i h.tail,show(i+1)*sz=p.length+i*sz by rw[h p (by simp),Nat.add_mul];omega,List.take_append,Nat.add_sub_cancel_left,List.take_of_length_le (by omega)]
theorem Pl.part (h:Pl sz ps) (hi:ps[i]? =some p):(ps.flatten.drop (i*sz)).take sz=p:=by
 obtain⟨hl,rfl⟩:=List.getElem?_eq_some_iff.1 hi
 rw[Pl.Ns i h,List.drop_eq_getElem_cons hl,List.flatten_cons,← h.at hi,List.take_left]
theorem Pl.get (h:Pl sz ps) (hi:ps[i]? =some p) {j:Nat} {u:Value} (hu:p[j]? =some u):ps.flatten[i*sz+j]? =some u:=by
 rw[← List.getElem?_drop]
 rw[← h.part hi,List.getElem?_take]at hu
 split at hu
 · exact hu
 · cases hu
theorem Pl.Vb (h:Pl sz ps) (hi:i < ps.length) (hq:q.length=sz):zH ps.flatten (i*sz) q=(ps.set i q).flatten:=by
 rw[zH,h.Nb,hq,show i*sz+sz=(i+1)*sz by rw[Nat.add_mul];omega,h.Ns,List.set_eq_take_append_cons_drop,if_pos hi,List.flatten_append,List.flatten_cons,List.append_assoc]
theorem Pl.Hy (h:Pl sz ps) (hq:q.length=sz):Pl sz (ps.set i q):=fun x hx=>by
 rcases List.mem_or_eq_of_mem_set hx with hx | rfl
 · exact h x hx
 · exact hq
theorem nR {cs sp vs:List Value} {o:Nat} (h:o+vs.length≤cs.length):zH (cs++sp) o vs=zH cs o vs++sp:=by
 unfold zH
 rw[List.take_append,List.drop_append,show o - cs.length=0 by omega,show o+vs.length - cs.length=0 by omega]
 simp
theorem xF (h:∀ p∈ps,p.all (·.oneCell')=true):ps.flatten.all (·.oneCell')=true:=by
 rw[List.all_eq_true]
 intro x hx
 obtain⟨p,hp,hxp⟩:=List.mem_flatten.1 hx
 exact List.all_eq_true.1 (h p hp) x hxp
theorem Rd.elem {w:World} {a:Addr} {n:Nat} (h:Rd w (some a) n sz ps.flatten) (hp:Pl sz ps) (hi:ps[i]? =some p):∀ j u,p[j]? =some u→w.cell? ((a.add (i*sz)).add j)=some u:=fun j u hu=>by
 rw[tQ]
 exact h.cells a Y _ u (hp.get hi hu)
theorem Hp.elem {w0 w:World} {S:List Nat} {es:List Ent} {k g:Nat} {T:TypeId} {sp:List Value} (H:Hp w0 w S es) (he:es[k]? =some (some g,T,ps.flatten++sp)) (hp:Pl sz ps) (hi:ps[i]? =some p):∀ j u,p[j]? =some u→w.cell? (((⟨g,0,none⟩:Addr).add (i*sz)).add j)=some u:=fun j u hu=>by
 rw[tQ,Dn,Nat.zero_add]
 exact H.cell he (by
  have h1:=hp.get hi hu
  rw[List.getElem?_append_left (lt_of_get h1)];exact h1)
end
def wC {α β:Type} (R:α→β→Prop):List α→List β→Prop
 | [],[]=>True
 | a::xs,b::ys=>R a b∧wC R xs ys
 | _,_=>False
section
variable {α β:Type} {R R':α→β→Prop}
theorem wC.len :∀ {xs:List α} {ys:List β},wC R xs ys→xs.length=ys.length
 | [],[],_=>rfl
 | _::_,_::_,h=>by rw[List.length_cons,List.length_cons,wC.len h.2]
theorem wC.imp (hh:∀ a b,R a b→R' a b):∀ {xs:List α} {ys:List β},wC R xs ys→wC R' xs ys
 | [],[],_=>trivial
 | _::_,_::_,h=>⟨hh _ _ h.1,wC.imp hh h.2⟩
theorem wC.app :∀ {xs xs':List α} {ys ys':List β},wC R xs ys→wC R xs' ys'→wC R (xs++xs') (ys++ys')
 | [],_,[],_,_,h2=>h2
 | _::_,_,_::_,_,h,h2=>⟨h.1,wC.app h.2 h2⟩
theorem wC.get :∀ {xs:List α} {ys:List β} {i:Nat} {b:β},wC R xs ys→ys[i]? =some b→∃ a,xs[i]? =some a∧R a b
 | [],[],_,_,_,hi=>by simp at hi
 | a::_,b::_,0,_,h,hi=>by simp only[List.getElem?_cons_zero,Option.some.injEq]at hi;subst hi;exact⟨a,rfl,h.1⟩
 | _::_,_::_,i+1,_,h,hi=>wC.get (i:=i) h.2 (by simpa using hi)
theorem wC.getL :∀ {xs:List α} {ys:List β} {i:Nat} {a:α},wC R xs ys→xs[i]? =some a→∃ b,ys[i]? =some b∧R a b
 | [],[],_,_,_,hi=>by simp at hi
 | _::_,b::_,0,_,h,hi=>by simp only[List.getElem?_cons_zero,Option.some.injEq]at hi;subst hi;exact⟨b,rfl,h.1⟩
 | _::_,_::_,i+1,_,h,hi=>wC.getL (i:=i) h.2 (by simpa using hi)
theorem wC.take :∀ {xs:List α} {ys:List β} (i:Nat),wC R xs ys→wC R (xs.take i) (ys.take i)
 | _,_,0,_=>by simp[wC]
 | [],[],_+1,_=>trivial
 | _::_,_::_,i+1,h=>⟨h.1,wC.take i h.2⟩
theorem wC.drop :∀ {xs:List α} {ys:List β} (i:Nat),wC R xs ys→wC R (xs.drop i) (ys.drop i)
 | _,_,0,h=>h
 | [],[],_+1,_=>trivial
 | _::_,_::_,i+1,h=>wC.drop i h.2
theorem wC.set :∀ {xs:List α} {ys:List β} (i:Nat) {a:α} {b:β},wC R xs ys→R a b→wC R (xs.set i a) (ys.set i b)
 | [],[],_,_,_,_,_=>trivial
 | _::_,_::_,0,_,_,h,h2=>⟨h2,h.2⟩
 | _::_,_::_,i+1,_,_,h,h2=>⟨h.1,wC.set i h.2 h2⟩
theorem wC.filter {f:α→Bool} {g:β→Bool} (hfg:∀ a b,R a b→f a=g b):∀ {xs:List α} {ys:List β},wC R xs ys→wC R (xs.filter f) (ys.filter g)
 | [],[],_=>trivial
 | a::xs,b::ys,h=>by
  rw[List.filter_cons,List.filter_cons,hfg a b h.1]
  split
  · exact⟨h.1,wC.filter hfg h.2⟩
  · exact wC.filter hfg h.2
theorem wC.one {a:α} {b:β} (h:R a b):wC R [a] [b]:=⟨h,trivial⟩
end
section laws
variable {P:Program} {ds:List Deferred} {Q:vN} {K:List Value→World→Prop} {all os:List Oper} {l:List Value} {w0 w w':World} {S S':List Nat} {es es':List Ent} {ty t:TypeId} {pos:String} {af:Array Edge} {d:Tmp} {v:Value} {op:Op}
 {x y:Operand} {zs cs:List Value} {sz bytes:Nat} {agg:Bool}
theorem uH {e:TypeId} (ht:P.underlying t=some (.slice e)) (he:xT P e zs sz bytes agg) (H:Hp w0 w S es) (i:Nat) {g o n m dc sc:Nat} {a:Addr} {T:TypeId} {cs vs:List Value} (hx:ev l x=some (.slice (some ⟨g,o,none⟩) n dc)) (hy:ev l y=some (.slice (some a) m sc))
 (hi:es[i]? =some (some g,T,cs)) (hn:vs.length=Nat.min m n*sz) (hsrc:∀ j u,vs[j]? =some u→w.cell? (a.add j)=some u) (hfit:o+vs.length≤cs.length) (h1:vs.all (·.oneCell')=true)
 (k:∀ w',Hp w0 w' S (es.set i (some g,T,zH cs o vs))→Ops P ds all K Q os (l.set d (.int .i64 ((Nat.min m n:Nat):Int))) w'):
 Ops P ds all K Q (⟨some d,.call { callee:=.builtin .copy,args:=#[x,y],argTypes:=#[t,t] },ty,pos,af,none⟩::os) l w:=by
 obtain⟨inf,z,dd,hinf,hz,hzs,rfl,hby,_,_⟩:=he.ex
 have hl:=run_loadCells_list (P:=P) w a vs hsrc
 rw[hn]at hl
 have hst:=run_storeCells_at P g o T vs 0 cs.toArray w (H.at hi) (by simpa using hfit) (fun v hv=>List.all_eq_true.1 h1 v hv)
 have e1:(cs.toArray.toList.take (o+0)++vs++cs.toArray.toList.drop (o+0+vs.length)).toArray=(zH cs o vs).toArray:=by simp[zH]
 rw[e1]at hst
 refine zD (w':=w.setRow g (zH cs o vs).toArray) ?_ (k _ (H.setRow hi _))
 intro _ _ _ _
 simp[execOp,resolve,invoke,builtin,Builtin.copy_,run_underlying ht,Builtin.lenOf,Builtin.firstCells,sizeOf,typeInfo,hinf,hl,hst,zV hx,zV hy,goInt]
theorem fG {e:TypeId} (ht:P.underlying t=some (.slice e)) (he:xT P e zs sz bytes agg) (H:Hp w0 w S es) (i:Nat) {g o n c:Nat} {T:TypeId} {cs:List Value} (hx:ev l x=some (.slice (some ⟨g,o,none⟩) n c))
 (hi:es[i]? =some (some g,T,cs)) (hfit:o+n*sz≤cs.length) (h1:zs.all (·.oneCell')=true)
 (k:∀ w',Hp w0 w' S (es.set i (some g,T,zH cs o (initL zs n)))→Ops P ds all K Q os l w'):
 Ops P ds all K Q (⟨none,.call { callee:=.builtin .clear,args:=#[x],argTypes:=#[t] },ty,pos,af,none⟩::os) l w:=by
 obtain⟨z,hz,hr⟩:=oH he
 have hlen:zs.length=sz:=he.len
 have hzc:z.cells=zs.toArray:=by rw[← hz]
 have hil:(initL zs n).length=n*sz:=by rw[wQ,hlen]
 have h1':∀ v∈initL zs n,v.oneCell'=true:=by
  intro v hv
  obtain⟨q,hq,hvq⟩:=List.mem_flatten.1 hv
  rw[(List.mem_replicate.1 hq).2]at hvq
  exact List.all_eq_true.1 h1 v hvq
 have hst:=run_storeCells_at P g o T (initL zs n) 0 cs.toArray w (H.at hi) (by simpa[hil]using hfit) h1'
 have e1:(cs.toArray.toList.take (o+0)++initL zs n++cs.toArray.toList.drop (o+0+(initL zs n).length)).toArray=(zH cs o (initL zs n)).toArray:=by simp[zH]
 rw[e1]at hst
 have hzz:(Builtin.zeroCells z.cells n).toList=initL zs n:=by
  rw[hzc]
  have h2:=eU zs n
  rw[List.size_toArray]at h2
  unfold Builtin.zeroCells
  rw[List.size_toArray,h2]
 refine wpList_plain Y fun K' hK=>?_
 unfold Oper.wp
 rw[tU]
 have hx2:(execOp (rho l) ⟨none,.call { callee:=.builtin .clear,args:=#[x],argTypes:=#[t] },ty,pos,af,none⟩).run P w=.ok (.value (.tuple #[])) (w.setRow g (zH cs o (initL zs n)).toArray):=by
  cases n with
  | zero=>
   have h0:initL zs 0=[]:=by simp[initL]
   have h3:zH cs o []=cs:=by simp[zH]
   have hs:=setRow_self w g cs.toArray T (0,0) (H.at hi)
   rw[h0,h3,hs]
   simp[execOp,resolve,invoke,builtin,Builtin.clear_,run_underlying ht,zV hx]
  | succ n=>
   simp[execOp,resolve,invoke,builtin,Builtin.clear_,run_underlying ht,zV hx,hr,hzz,hst]
 rw[hx2,Oper.upon_value]
 exact hK _ _ (k _ (H.setRow hi _))
theorem lB {e tn:TypeId} {kn kq:IntKind} (ht:P.underlying t=some (.slice e)) (htn:P.underlying tn=some (.int kn)) (he:xT P e zs sz bytes agg) (hsz:0 < sz) (H:Hp w0 w S es) {A0:Option Addr} {n cap m:Nat} {xs:List Value} (hx:ev l x=some (.slice A0 n cap)) (hrx:Rd w A0 n sz xs)
 (hy:ev l y=some (.int kq (m:Int))) (h0:0 < m) (hg:cap < n+m) (h63:n+m≤9223372036854775807) (hb:(n+m)*bytes≤211106232532992) (hb2:bytes≤1048576)
 (k:∀ w' g cap' sp',Hp w0 w' S (es++[(some g,e,(xs++initL zs m)++sp')])→cap'*sz≤((xs++initL zs m)++sp').length→n+m≤cap'→Ops P ds all K Q os (l.set d (.slice (hd (some g)) (n+m) cap')) w'):
 Ops P ds all K Q (⟨some d,.call { callee:=.builtin .append,args:=#[x,y],argTypes:=#[t,tn] },ty,pos,af,none⟩::os) l w:=by
 obtain⟨inf,z,dd,hinf,hz,hzs,rfl,rfl,_,_⟩:=he.ex
 have hzsz:z.cells.size=zs.length:=by rw[← hzs];simp
 have hlen:zs.length=inf.size:=he.len
 have hzc:z.cells=zs.toArray:=by rw[← hzs]
 have hfit:=V3 hg hb hb2
 have hold:(Builtin.firstCells inf.size n (.slice A0 n cap)).run P w.drew=.ok xs.toArray w.drew:=by
  cases A0 with
  | none=>
   have hn0:=hrx.nil rfl
   subst hn0
   have hxs:xs=[]:=List.eq_nil_of_length_eq_zero (by simpa using hrx.len)
   subst hxs
   exact run_firstCells_none _ _ _ _ _
  | some a=>exact run_firstCells_some _ inf.size n a n cap xs hrx.len (fun j u hu=>hrx.cells a rfl j u hu)
 have hrun:=Lib.run_append_grow_zeros (P:=P) w t tn ty e inf z kq kn ht htn hinf hz A0 n cap xs hold m h0 hsz hg (by omega) (Nat.le_trans (Nat.le_trans (Nat.mul_le_mul_right _ (Nat.le_add_left m n)) hb) (by omega)) hfit
 have hge:=grownCap_ge w (n+m) cap e
 have hzm:∀ q,Builtin.zeroCells z.cells q=(initL zs q).toArray:=by
  intro q
  rw[hzc]
  have h2:=eU zs q
  rw[List.size_toArray]at h2
  unfold Builtin.zeroCells
  rw[List.size_toArray,h2]
 rw[hzm,hzm]at hrun
 have H2:=(Hp.drew H).alloc e ((xs++initL zs m)++initL zs (grownCap w (n+m) cap e - (n+m)))
 refine zD (w':=w.drew.alloc (.cells ((xs++initL zs m)++initL zs (grownCap w (n+m) cap e - (n+m))).toArray e)) ?_ (k _ w.heap.size (grownCap w (n+m) cap e) (initL zs (grownCap w (n+m) cap e - (n+m))) H2 ?_ hge)
 · intro _ _ _ _
   have e2:(xs.toArray++(initL zs m).toArray++(initL zs (grownCap w (n+m) cap e - (n+m))).toArray)=((xs++initL zs m)++initL zs (grownCap w (n+m) cap e - (n+m))).toArray:=by simp
   rw[e2]at hrun
   simp[execOp,resolve,invoke,builtin,zV hx,zV hy,hrun]
 · simp only[List.length_append,wQ,hrx.len,hlen,← Nat.add_mul]
   exact Nat.mul_le_mul_right _ (by omega)
theorem oK {f:FuncId} {args:Array Value} {p:Prop} {_:Decidable p} {R:World→Prop} (hx:Ex P l op ty w (.enter f args) w) (hc:zP P f args w fun r w'=>r=.bool (decide p)∧R w')
 (h1:p→∀ w',R w'→Ops P ds all K Q os (l.set d (.bool true)) w') (h2:¬p→∀ w',R w'→Ops P ds all K Q os (l.set d (.bool false)) w'):Ops P ds all K Q (⟨some d,op,ty,pos,af,none⟩::os) l w:=
 qV hx hc fun w' hr=>by
  by_cases hp:p
  · rw[decide_eq_true hp];exact h1 hp w' hr
  · rw[decide_eq_false hp];exact h2 hp w' hr
theorem oJ {f:FuncId} {args:Array Value} {p:Prop} {_:Decidable p} {R:World→Prop} (hx:Ex P l op ty w (.enter f args) w) (hc:zP P f args w fun r w'=>r=.bool (decide p)∧R w')
 (hp:p) (h1:∀ w',R w'→Ops P ds all K Q os (l.set d (.bool true)) w'):Ops P ds all K Q (⟨some d,op,ty,pos,af,none⟩::os) l w:=
 oK hx hc (fun _=>h1) fun h=>absurd hp h
theorem bt {p:Prop} {_:Decidable p} (h:p):Value.bool true=.bool (decide p):=by rw[decide_eq_true h]
theorem bf {p:Prop} {_:Decidable p} (h:¬p):Value.bool false=.bool (decide p):=by rw[decide_eq_false h]
theorem nT {f:FuncId} {fn:Func} {e:Array Value→Sem Value} {xs:List Operand} {vs:List Value} {ats:Array TypeId} (hf:P.funcs[f]? =some fn) (hname:(fn.name== "runtime.NumGoroutine")=false) (hb:fn.body.isNone=true) (hn:Extern.findNext fn=none) (he:Extern.find fn=some e)
 (hx:evs l xs=some vs) (hr:(e vs.toArray).run P w=.ok v w) (h:Ops P ds all K Q os (l.set d v) w):
 Ops P ds all K Q (⟨some d,.call { callee:=.value (.func f),args:=xs.toArray,argTypes:=ats },ty,pos,af,none⟩::os) l w:=by
 refine zD ?_ h
 intro _ _ _ _
 have hq:=run_callFunc_extern hf hname hb hn he vs.toArray w
 have hr2:rho l (.func f)=.func (.func f) #[] #[]:=rfl
 simp only[hr,Result.andThen_ok]at hq
 simp[execOp,resolve,Deferred.ofValue,invoke,nO hx,hq,hr2]
theorem eF (H:Hp w0 w S es) (k:∀ w' g,Hp w0 w' S es→w'.heap[g]? =some (.map #[] 0)→g=w.heap.size→Ops P ds all K Q os (l.set d (.map (some g))) w'):Ops P ds all K Q (⟨some d,.makeMap t none,ty,pos,af,none⟩::os) l w:=by
 refine zD (w':=w.alloc (.map #[] 0)) ?_ (k _ w.heap.size (H.Nv _) (heap_alloc_new w _) Y)
 intro _ _ _ _
 simp[execOp,Instr.makeMap,newObj,Sem.run]
def mK (w:World) (r:Nat):Prop:=∃ es clock,w.heap[r]? =some (.map es clock)∧∀ x∈es.toList,MapKept.IsKey (.int .i64) x.key
theorem mK.not {w:World} {r:Nat} (h:mK w r):∀ arr T z,w.heap[r]?≠some (.cells arr T z):=by
 obtain⟨es,c,h,_⟩:=h
 intro arr T z h2
 rw[h]at h2
 cases h2
theorem mK.new {w:World} {r:Nat} (h:w.heap[r]? =some (.map #[] 0)):mK w r:=⟨_,_,h,fun x hx=>by cases hx⟩
theorem mK.to {w w':World} {S:List Nat} {es:List Ent} {r:Nat} (h:mK w r) (H:Hp w w' S es) (hr:r∉S):mK w' r:=by
 obtain⟨a,c,h1,h2⟩:=h
 exact⟨a,c,(H.frame r (Array.getElem?_eq_some_iff.1 h1).1 hr).trans h1,h2⟩
theorem Hp.putM (H:Hp w0 w S es) {r:Nat} {o:Obj} (hn:∀ arr T z,w.heap[r]?≠some (.cells arr T z)) (hr:w0.heap.size≤r):Hp w0 { w with heap:=w.heap.setIfInBounds r o } S es:=by
 refine⟨H.os,H.tape,H.output,by simpa using H.size,?_,?_,H.apart⟩
 · intro k hk hS
   have h1:¬r=k:=by omega
   rw[← H.frame k hk hS]
   simp[h1]
 · intro i e he
   have h:=H.ent i e he
   unfold qR at h ⊢
   split
   · rename_i hg;rw[hg]at h;exact h
   · rename_i g hg
     rw[hg]at h
     have h1:¬r=g:=fun hh=>hn _ _ _ (by rw[hh];exact h.1)
     exact⟨by rw[← h.1];simp[h1],h.2⟩
theorem jC {kt et:TypeId} {z:Operand} (hm:P.underlying t=some (.map kt et)) (hd:P.underlying kt=some (.int .i64)) (H:Hp w0 w S es) {r:Nat} {n:Int} (hx:ev l x=some (.map (some r))) (hy:ev l y=some (.int .i64 n)) (hz:ev l z=some v) (hI:mK w r) (hr:w0.heap.size≤r)
 (k:∀ w',Hp w0 w' S es→mK w' r→w'.heap.size=w.heap.size→Ops P ds all K Q os l w'):Ops P ds all K Q (⟨none,.mapUpdate t x y z,ty,pos,af,none⟩::os) l w:=by
 obtain⟨Yt,clock,hb,hks⟩:=hI
 have hk:MapKept.IsKey (.int .i64) (.int .i64 n):=rfl
 have key:∃ o,(Instr.mapUpdate t (.map (some r)) (.int .i64 n) v).run P w=.ok () { w with heap:=w.heap.setIfInBounds r o }∧mK { w with heap:=w.heap.setIfInBounds r o } r:=by
  rcases MapKept.findNow_spec hk Yt.toList 0 hks with ⟨h1,_⟩ | ⟨j,e,h1,h2,h3⟩
  · refine⟨.map (Yt.push { key:=.int .i64 n,val:=v,born:=clock }) (clock+1),?_,_,_,(MapKept.heap_set hb).1,?_⟩
    · simp[Instr.mapUpdate,run_underlying hm,MapKept.run_getObj_map hb,MapKept.run_checkKey hd hk,MapKept.run_findKey hd h1,MapKept.run_setObj_map _ hb,Result.andThen]
    · intro x hx
      simp only[Array.toList_push,List.mem_append,List.mem_singleton]at hx
      rcases hx with hx | rfl
      · exact hks x hx
      · exact hk
  · have hj:Yt[j]? =some e:=by simpa using h2
    refine⟨.map (Yt.modify j fun e=>{ e with key:=.int .i64 n,val:=v }) clock,?_,_,_,(MapKept.heap_set hb).1,?_⟩
    · simp[Instr.mapUpdate,run_underlying hm,MapKept.run_getObj_map hb,MapKept.run_checkKey hd hk,MapKept.run_findKey hd h1,hj,h3,MapKept.run_keyThatStays hk,MapKept.run_setObj_map _ hb,Result.andThen]
    · intro x hx
      obtain⟨i,hi⟩:=List.getElem?_of_mem hx
      rw[Array.getElem?_toList,Array.getElem?_modify]at hi
      split at hi
      · cases h5:Yt[i]? with
        | none=>rw[h5]at hi;cases hi
        | some y=>rw[h5]at hi;simp only[Option.map_some,Option.some.injEq]at hi;subst hi;exact hk
      · exact hks x (by rw[Array.mem_toList_iff];exact Array.mem_of_getElem? hi)
 obtain⟨o,hrun,hI2⟩:=key
 refine DF ?_ (k _ (H.putM (fun arr T z h=>by rw[hb]at h;cases h) hr) hI2 (by simp))
 intro _ _ _ _
 simp[execOp,zV hx,zV hy,zV hz,hrun]
end laws
inductive Jt 
 | nil
 | p (i:Nat) (s:Jt)
 | o (i:Nat) (s:Jt)
 | two (i:Nat) (s:Jt) (j:Nat) (t:Jt)
def Jt.size :Jt→Nat
 | .nil=>0
 | .p _ s=>s.size+1
 | .o _ s=>s.size+1
 | .two _ s _ _=>s.size+1
def Jt.isNil :Jt→Bool
 | .nil=>true
 | _=>false
theorem Jt.Wi {s:Jt} (h:s.isNil=true):s=.nil:=by cases s <;>first | rfl | cases h
section mix
variable {P:Program} {ds:List Deferred} {all:List Oper} {S:World→Prop} {K:List Value→World→Prop} {l:List Value} {w:World} {o:Oper} {i:Nat}
def qZ (P:Program) (ds:List Deferred) (all:List Oper) (S:World→Prop) (K:List Value→World→Prop):Jt→List Value→World→Prop
 | .nil,l,w=>K l w
 | .p i s,l,w=>∃ o,all[i]? =some o∧mO P all S (qZ P ds all S K s) o l w
 | .o i s,l,w=>∃ o,all[i]? =some o∧Ops P ds all (fun l' w'=>(s≠ .nil→S w')∧qZ P ds all S K s l' w') (fun _ _ _=>False) [o] l w
 | .two i s j t,l,w=>(∃ o,all[i]? =some o∧Ops P ds all (fun l' w'=>(s≠ .nil→S w')∧qZ P ds all S K s l' w') (fun _ _ _=>False) [o] l w)∧
  (∃ o,all[j]? =some o∧Ops P ds all (fun l' w'=>(t≠ .nil→S w')∧qZ P ds all S K t l' w') (fun _ _ _=>False) [o] l w)
theorem sZ (h:K l w):qZ P ds all S K .nil l w:=h
theorem BP {s:Jt} (ho:all[i]? =some o) (h:mO P all S (qZ P ds all S K s) o l w):qZ P ds all S K (.p i s) l w:=⟨o,ho,h⟩
theorem NO {s:Jt} (ho:all[i]? =some o) (h:Ops P ds all (fun l' w'=>(s≠ .nil→S w')∧qZ P ds all S K s l' w') (fun _ _ _=>False) [o] l w):qZ P ds all S K (.o i s) l w:=⟨o,ho,h⟩
theorem pO {s t:Jt} {j:Nat} (h1:qZ P ds all S K (.o i s) l w) (h2:qZ P ds all S K (.o j t) l w):qZ P ds all S K (.two i s j t) l w:=⟨h1,h2⟩
def Ho (ops:Array Oper) (z:Nat):Jt→Array Bool→Bool
 | .nil,listed=>(Region.ready .any ops listed).isEmpty
 | .p i s,listed=>decide (i < z) && (Region.ready .any ops listed).contains i && Region.free .any ops listed i && Ho ops z s (listed.setIfInBounds i true)
 | .o i s,listed=>((decide (i < z) && !s.isNil) || (decide (i=z) && s.isNil)) && decide (Region.ready .any ops listed=[i]) && Ho ops z s (listed.setIfInBounds i true)
 | .two i s j t,listed=>decide (i < z) && decide (j < z) && !s.isNil && !t.isNil && decide (s.size=t.size) && decide (Region.ready .any ops listed=[i,j]) && Ho ops z s (listed.setIfInBounds i true) && Ho ops z t (listed.setIfInBounds j true)
theorem fK {z:Nat} {s:Jt} {listed:Array Bool} (hd:s.isNil=false∨i=z) (h:∃ o,all[i]? =some o∧Ops P ds all (fun l' w'=>(s≠ .nil→S w')∧qZ P ds all S K s l' w') (fun _ _ _=>False) [o] l w)
 (IH:∀ (l:List Value) (w:World),(s≠ .nil→S w)→qZ P ds all S K s l w→oF P all.toArray (fun e a w'=>a.defers=ds∧uQ K (fun _ _ _=>False) e a.tmps.toList w') S z s.size (listed.setIfInBounds i true) ⟨l.toArray,ds⟩ w):
 wpOp P all.toArray (fun e a w'=>a.defers=ds∧uQ K (fun _ _ _=>False) e a.tmps.toList w') i (fun a' w'=>(i≠z→S w')∧oF P all.toArray (fun e a w'=>a.defers=ds∧uQ K (fun _ _ _=>False) e a.tmps.toList w') S z s.size (listed.setIfInBounds i true) a' w') ⟨l.toArray,ds⟩ w:=by
 obtain⟨o,ho,h⟩:=h
 unfold Ops wpList at h
 unfold wpOp
 rw[List.getElem?_toArray,ho]
 simp only
 have hne:i≠z→s≠ .nil:=fun h1 h3=>by
  subst h3
  rcases hd with h2 | h2
  · cases h2
  · exact h1 h2
 have ih:∀ (a:Act) w',(a.defers=ds∧(s≠ .nil→S w')∧qZ P ds all S K s a.tmps.toList w')→((i≠z→S w')∧oF P all.toArray (fun e a w'=>a.defers=ds∧uQ K (fun _ _ _=>False) e a.tmps.toList w') S z s.size (listed.setIfInBounds i true) a w'):=by
  rintro⟨t,d⟩ w' ⟨hd,hS',h2⟩
  simp only at hd
  subst hd
  exact⟨fun h1=>hS' (hne h1),IH _ _ hS' h2⟩
 have hq:∀ (e:Exit) (a:Act) w',e≠ .normal→Exit.then (fun(a:Act) w'=>a.defers=ds∧(s≠ .nil→S w')∧qZ P ds all S K s a.tmps.toList w') (fun _ a _=>a.defers=ds∧False) e a w'→(a.defers=ds∧uQ K (fun _ _ _=>False) e a.tmps.toList w'):=by
  intro e a w' he h
  cases e <;>first | exact absurd rfl he | exact h.2.elim
 split
 · rename_i hw
   rw[if_pos hw]at h
   rcases h with h | ⟨h1,a1,w1,h2⟩
   · exact .inl (Oper.wp_mono ih (mP hq h))
   · exact .inr ⟨h1,a1,w1,hq _ _ _ (by simp) h2⟩
 · rename_i hw
   rw[if_neg hw]at h
   exact ih _ _ h
theorem NP {z:Nat} (hsel:Region.noSelect all.toArray=true) (hs:Region.sinkB .any all.toArray z=true) (hz:z+1=all.toArray.size):∀ (s:Jt) (listed:Array Bool) (l:List Value) (w:World),(s≠ .nil→HeadInv .any all.toArray z listed)→Ho all.toArray z s listed=true→(s≠ .nil→S w)→qZ P ds all S K s l w→
 oF P all.toArray (fun e a w'=>a.defers=ds∧uQ K (fun _ _ _=>False) e a.tmps.toList w') S z s.size listed ⟨l.toArray,ds⟩ w:=by
 intro s
 induction s with
 | nil=>intro listed l w _ hB _ h;exact⟨by simpa[Ho]using hB,rfl,h⟩
 | o i s IH=>
  intro listed l w inv hB hS h
  simp only[Ho,Bool.and_eq_true,Bool.or_eq_true,decide_eq_true_eq,Bool.not_eq_true']at hB
  obtain⟨⟨hiz,hr⟩,hB'⟩:=hB
  have Cj:i∈Region.ready .any all.toArray listed:=by rw[hr];simp
  have hlast:s≠ .nil→i < z:=fun h=>by
   rcases hiz with h1 | h1
   · exact h1.1
   · exact absurd (Jt.Wi h1.2) h
  refine⟨fun h0=>(by rw[hr]at h0;cases h0),fun k hk=>?_⟩
  have hki:k=i:=by rw[hr]at hk;simpa using hk
  rw[hki]
  exact fK (by rcases hiz with h1 | h1;exact .inl h1.2;exact .inr h1.1) h fun l w hS' h2=>IH _ _ _ (fun h1=>(inv (by simp)).set Cj (hlast h1)) hB' hS' h2
 | two i s j t IH1 IH2=>
  intro listed l w inv hB hS h
  simp only[Ho,Bool.and_eq_true,decide_eq_true_eq,Bool.not_eq_true']at hB
  obtain⟨⟨⟨⟨⟨⟨⟨hiz,hjz⟩,hsn⟩,htn⟩,hsz⟩,hr⟩,hB1⟩,hB2⟩:=hB
  have hri:i∈Region.ready .any all.toArray listed:=by rw[hr];simp
  have hrj:j∈Region.ready .any all.toArray listed:=by rw[hr];simp
  refine⟨fun h0=>(by rw[hr]at h0;cases h0),fun k hk=>?_⟩
  have hk2:k=i∨k=j:=by rw[hr]at hk;simpa using hk
  rcases hk2 with rfl | rfl
  · exact fK (.inl hsn) h.1 fun l w hS' h2=>IH1 _ _ _ (fun _=>(inv (by simp)).set hri hiz) hB1 hS' h2
  · rw[hsz]
    exact fK (.inl htn) h.2 fun l w hS' h2=>IH2 _ _ _ (fun _=>(inv (by simp)).set hrj hjz) hB2 hS' h2
 | p i s IH=>
  rintro listed l w inv hB hS ⟨o,ho,v,hv,hK⟩
  simp only[Ho,Bool.and_eq_true,decide_eq_true_eq]at hB
  obtain⟨⟨⟨hiz,hr⟩,hf⟩,hB'⟩:=hB
  have hi:all.toArray[i]? =some o:=by rw[List.getElem?_toArray];exact ho
  have Cj:i∈Region.ready .any all.toArray listed:=by simpa using hr
  refine I6 (oi:=o) (v:=v) hi (Region.noSelect_spec hsel) (fun _ _ _ h=>h.2.elim) hs hz hiz s.size listed _ w (inv (by simp)) (Region.free_spec hi hf) Cj ?_ (hS (by simp)) ?_
  · rcases hv with ⟨h1,h2⟩ | ⟨h1,h2⟩
    · exact .inl ⟨h1,by rw[tU];exact h2⟩
    · exact .inr ⟨h1,h2⟩
  · rw[oZ]
    exact IH _ _ _ (fun _=>(inv (by simp)).set Cj hiz) hB' (fun _=>hS (by simp)) hK
theorem qI {Q:vN} {cs:List Code} {n:Nat} {w0:World} {SS:List Nat} {es:List Ent} (z:Nat) (s:Jt) (H:Hp w0 w SS es) (idx:List Nat) (hm:P.follows .mixedOrders=true) (hnd:idx.Nodup)
 (hB:(Region.noSelect all.toArray && decide (s.size=all.length) && decide (z+1=all.length) && Region.sinkB .any all.toArray z && Ho all.toArray z s (Array.replicate all.length false))=true)
 (h:∀ w',w'={ w with drawn:=w.drawn+1 }→qZ P ds all (fun wz=>Hp w0 wz SS (idx.map fun i=>es.getD i (none,0,[]))) (Run P ds cs Q) s l w'):Run P ds (.region n all.toArray true::cs) Q l w:=by
 simp only[Bool.and_eq_true,decide_eq_true_eq]at hB
 obtain⟨⟨⟨⟨hsel,hlen⟩,hz⟩,hs⟩,hB⟩:=hB
 show Cd P ds _ _ l w
 unfold Cd
 have inv0:HeadInv .any all.toArray z (Array.replicate all.toArray.size false):=
  ⟨by simp,fun j oj _ hl=>(by rw[getD_replicate_false]at hl;cases hl),fun t _ ht=>getD_in (by simpa using ht) (getD_replicate_false _ _)⟩
 refine Go.wp_mono (Q:=fun e a w'=>a.defers=ds∧uQ (Run P ds cs Q) (fun _ _ _=>False) e a.tmps.toList w') (wp_region_any hm ?_) ?_
 · have:=NP (S:=fun wz=>Hp w0 wz SS (idx.map fun i=>es.getD i (none,0,[]))) (K:=Run P ds cs Q) (P:=P) (ds:=ds) hsel hs (by simpa using hz) s _ l { w with drawn:=w.drawn+1 } (fun _=>by simpa using inv0) hB (fun _=>H.drew.pick idx hnd) (h _ rfl)
   rw[hlen]at this
   have h2:=lU _ _ _ _ this
   simpa using h2
 · rintro e a w' ⟨hd,h2⟩
   cases e <;>first | exact⟨hd,h2⟩ | exact h2.elim
end mix
inductive Scl 
 | nil
 | a (i:Nat) (s:Scl)
 | b (i:Nat) (s:Scl)
 | o (i:Nat) (s:Scl)
 | z (i:Nat) (s:Scl)
def Scl.size :Scl→Nat
 | .nil=>0
 | .a _ s=>s.size+1
 | .b _ s=>s.size+1
 | .o _ s=>s.size+1
 | .z _ s=>s.size+1
def Qw (Z:List Nat) (listed:Array Bool):Prop:=∀ z∈Z,listed.getD z false=false
structure WZ (ops:Array Oper) (listed:Array Bool):Prop where
 size:listed.size=ops.size
 closed:∀ j oj,ops[j]? =some oj→listed.getD j false=true→∀ e∈oj.after,Region.binds .any e=true→listed.getD e.on false=true
def TL (ops:Array Oper) (a b:Nat):Bool:=match ops[b]? with
 | some o=>o.after.any fun e=>Region.binds .any e && e.on==a
 | none=>false
def DB (ops:Array Oper):Nat→List Nat→Nat→Bool
 | a,[],z=>a==z
 | a,b::p,z=>TL ops a b && DB ops b p z
section mix
variable {P:Program} {ds:List Deferred} {ops:Array Oper} {all:List Oper} {S S':World→Prop} {K:List Value→World→Prop} {l:List Value} {w:World} {o:Oper} {i:Nat} {Z:List Nat} {listed:Array Bool}
theorem WZ.set (inv:WZ ops listed) (hi:i∈Region.ready .any ops listed):WZ ops (listed.setIfInBounds i true):=by
 obtain⟨_,oi,hoi,hall⟩:=mem_ready.1 hi
 refine⟨by simp[inv.size],fun j oj hj hl e he hb=>?_⟩
 by_cases hij:i=j
 · subst hij
   have:oj=oi:=Option.some.inj (hj.symm.trans hoi)
   subst this
   exact getD_set_true (hall e he hb)
 · rw[getD_set_ne false hij]at hl
   exact getD_set_true (inv.closed j oj hj hl e he hb)
theorem G2 (inv:WZ ops listed):∀ (p:List Nat) (a z:Nat),DB ops a p z=true→listed.getD a false=false→listed.getD z false=false
 | [],a,z,h,h0=>by
  have:a=z:=by simpa[DB]using h
  rw[← this];exact h0
 | b::p,a,z,h,h0=>by
  simp only[DB,Bool.and_eq_true]at h
  refine G2 inv p b z h.2 ?_
  cases hb:listed.getD b false with
  | false=>rfl
  | true=>
   have h1:=h.1
   unfold TL at h1
   split at h1
   · rename_i o ho
     obtain⟨e,he,h2⟩:=Array.any_eq_true'.1 h1
     simp only[Bool.and_eq_true,beq_iff_eq]at h2
     have h3:=inv.closed b o ho hb e he h2.1
     rw[h2.2,h0]at h3
     cases h3
   · cases h1
theorem Qw.less (h:Qw Z (listed.setIfInBounds i true)):Qw Z listed:=fun z hz=>by
 cases hb:listed.getD z false with
 | false=>rfl
 | true=>have h1:=h z hz;rw[getD_set_true hb]at h1;cases h1
def wpAnyL (P:Program) (ops:Array Oper) (Q:Exit→Act→World→Prop) (S:World→Prop) (Z:List Nat):Nat→Array Bool→Act→World→Prop
 | 0,listed,a,w=>Region.ready .any ops listed=[]∧Q .normal a w
 | f+1,listed,a,w=>(Region.ready .any ops listed=[]→Q .normal a w)∧
  ∀ i∈Region.ready .any ops listed,wpOp P ops Q i (fun a' w'=>(Qw Z (listed.setIfInBounds i true)→S w')∧wpAnyL P ops Q S Z f (listed.setIfInBounds i true) a' w') a w
theorem EU {Q:Exit→Act→World→Prop}:∀ (f:Nat) (listed:Array Bool) (a:Act) (w:World),wpAnyL P ops Q S Z f listed a w→wpAny P .any ops Q f listed a w
 | 0,_,_,_,h=>h
 | f+1,_,_,_,h=>⟨h.1,fun i hi=>wpOp_mono (fun a' w' h'=>EU f _ a' w' h'.2) (h.2 i hi)⟩
theorem JB {Q:Exit→Act→World→Prop} {oi:Oper} {v:Value} (hi:ops[i]? =some oi) (hsel:∀ (j:Nat) (o:Oper) cs b,ops[j]? =some o→o.op≠ .select cs b)
 (hQ:∀ c a w,Q (.panic c) (a.put oi.dst v) w→Q (.panic c) a w) (hiZ:i∉Z) (hS':∀ listed w,WZ ops listed→listed.getD i true=false→(Qw Z listed→S w)→S' w):
 ∀ (f:Nat) (listed:Array Bool) (a:Act) (w:World),WZ ops listed→
  (∀ j oj,ops[j]? =some oj→j≠i→listed.getD j true=false→(∀ e∈oj.after,Region.binds .any e=true→e.on≠i)→oi.apart ops oj=true)→
  i∈Region.ready .any ops listed→tR P ops S' oi v a→(Qw Z listed→S w)→
  wpAnyL P ops Q S Z f (listed.setIfInBounds i true) (a.put oi.dst v) w→wpAnyL P ops Q S Z (f+1) listed a w:=by
 intro f
 induction f with
 | zero=>
  intro listed a w inv _ hr hy hS H
  refine⟨fun h=>(by rw[h]at hr;cases hr),fun j hj=>?_⟩
  by_cases hji:j=i
  · rw[hji];exact hy.wpOp hi (hS' _ _ inv (mem_ready.1 hr).1 hS) ⟨fun hz=>hS hz.less,H⟩
  · have h1:=ready_mono hj hji
    rw[H.1]at h1
    cases h1
 | succ f ih=>
  intro listed a w inv hfree hr hy hS H
  refine⟨fun h=>(by rw[h]at hr;cases hr),fun j hj=>?_⟩
  by_cases hji:j=i
  · rw[hji];exact hy.wpOp hi (hS' _ _ inv (mem_ready.1 hr).1 hS) ⟨fun hz=>hS hz.less,H⟩
  · have h1:=H.2 j (ready_mono hj hji)
    obtain⟨hjun,oj,hoj,hall⟩:=mem_ready.1 hj
    have Lh:=(mem_ready.1 hr).1
    have hnot:∀ e∈oj.after,Region.binds .any e=true→e.on≠i:=fun e he hb heq=>by
     have h2:=hall e he hb
     rw[heq,getD_both Lh]at h2
     cases h2
    have h2:=lV hoj (hfree j oj hoj hji hjun hnot) (fun cs b=>hsel i oi cs b hi) (fun cs b=>hsel j oj cs b hoj) hQ hy h1
    refine wpOp_mono (fun a' w' h3=>?_) h2
    have hz:Qw Z (listed.setIfInBounds j true)→S w':=fun hn=>h3.2.1 fun z hz=>by
     rw[Array.setIfInBounds_comm _ _ (Ne.symm hji),getD_set_ne false (fun e=>hiZ (by rw[e];exact hz))]
     exact hn z hz
    refine⟨hz,ih (listed.setIfInBounds j true) a' w' (inv.set hj) (fun k ok hk hki hun hno=>?_) (ready_mono hr (Ne.symm hji)) h3.1 hz ?_⟩
    · refine hfree k ok hk hki ?_ hno
      by_cases hjk:j=k
      · rw[← hjk];exact hjun
      · rw[getD_set_ne true hjk]at hun;exact hun
    · rw[Array.setIfInBounds_comm _ _ hji]
      exact h3.2.2
def oT (P:Program) (ds:List Deferred) (all:List Oper) (S:World→Prop) (K:List Value→World→Prop):Scl→List Value→World→Prop
 | .nil,l,w=>K l w
 | .a i s,l,w=>∃ o,all[i]? =some o∧mO P all S (oT P ds all S K s) o l w
 | .b i s,l,w=>∃ o,all[i]? =some o∧mO P all (fun _=>True) (oT P ds all S K s) o l w
 | .o i s,l,w=>∃ o,all[i]? =some o∧Ops P ds all (fun l' w'=>S w'∧oT P ds all S K s l' w') (fun _ _ _=>False) [o] l w
 | .z i s,l,w=>∃ o,all[i]? =some o∧Ops P ds all (fun l' w'=>oT P ds all S K s l' w') (fun _ _ _=>False) [o] l w
theorem DN (h:K l w):oT P ds all S K .nil l w:=h
theorem cI {s:Scl} (ho:all[i]? =some o) (h:mO P all S (oT P ds all S K s) o l w):oT P ds all S K (.a i s) l w:=⟨o,ho,h⟩
theorem uD {s:Scl} (ho:all[i]? =some o) (h:mO P all (fun _=>True) (oT P ds all S K s) o l w):oT P ds all S K (.b i s) l w:=⟨o,ho,h⟩
theorem cH {s:Scl} (ho:all[i]? =some o) (h:Ops P ds all (fun l' w'=>S w'∧oT P ds all S K s l' w') (fun _ _ _=>False) [o] l w):oT P ds all S K (.o i s) l w:=⟨o,ho,h⟩
theorem cG {s:Scl} (ho:all[i]? =some o) (h:Ops P ds all (fun l' w'=>oT P ds all S K s l' w') (fun _ _ _=>False) [o] l w):oT P ds all S K (.z i s) l w:=⟨o,ho,h⟩
def lF (ops:Array Oper) (Z:List Nat) (ps:List (Nat×List Nat)):Scl→Array Bool→Bool
 | .nil,listed=>(Region.ready .any ops listed).isEmpty
 | .a i s,listed=>!Z.contains i && Z.all (fun z=>ps.any fun p=>p.1==i && DB ops i p.2 z) && (Region.ready .any ops listed).contains i && Region.free .any ops listed i && lF ops Z ps s (listed.setIfInBounds i true)
 | .b i s,listed=>!Z.contains i && (Region.ready .any ops listed).contains i && Region.free .any ops listed i && lF ops Z ps s (listed.setIfInBounds i true)
 | .o i s,listed=>decide (Region.ready .any ops listed=[i]) && lF ops Z ps s (listed.setIfInBounds i true)
 | .z i s,listed=>(Z.contains i || Z.any fun z=>listed.getD z false) && decide (Region.ready .any ops listed=[i]) && lF ops Z ps s (listed.setIfInBounds i true)
theorem aY {s:Scl} {T:World→Prop} (ho:all[i]? =some o) (h:Ops P ds all (fun l' w'=>T w'∧oT P ds all S K s l' w') (fun _ _ _=>False) [o] l w)
 (IH:∀ (l:List Value) (w:World),T w→oT P ds all S K s l w→(Qw Z (listed.setIfInBounds i true)→S w)∧wpAnyL P all.toArray (fun e a w'=>a.defers=ds∧uQ K (fun _ _ _=>False) e a.tmps.toList w') S Z s.size (listed.setIfInBounds i true) ⟨l.toArray,ds⟩ w):
 wpOp P all.toArray (fun e a w'=>a.defers=ds∧uQ K (fun _ _ _=>False) e a.tmps.toList w') i (fun a' w'=>(Qw Z (listed.setIfInBounds i true)→S w')∧wpAnyL P all.toArray (fun e a w'=>a.defers=ds∧uQ K (fun _ _ _=>False) e a.tmps.toList w') S Z s.size (listed.setIfInBounds i true) a' w') ⟨l.toArray,ds⟩ w:=by
 unfold Ops wpList at h
 unfold wpOp
 rw[List.getElem?_toArray,ho]
 simp only
 have ih:∀ (a:Act) w',(a.defers=ds∧T w'∧oT P ds all S K s a.tmps.toList w')→((Qw Z (listed.setIfInBounds i true)→S w')∧wpAnyL P all.toArray (fun e a w'=>a.defers=ds∧uQ K (fun _ _ _=>False) e a.tmps.toList w') S Z s.size (listed.setIfInBounds i true) a w'):=by
  rintro⟨t,d⟩ w' ⟨hd,hT,h2⟩
  simp only at hd
  subst hd
  exact IH _ _ hT h2
 have hq:∀ (e:Exit) (a:Act) w',e≠ .normal→Exit.then (fun(a:Act) w'=>a.defers=ds∧T w'∧oT P ds all S K s a.tmps.toList w') (fun _ a _=>a.defers=ds∧False) e a w'→(a.defers=ds∧uQ K (fun _ _ _=>False) e a.tmps.toList w'):=by
  intro e a w' he h
  cases e <;>first | exact absurd rfl he | exact h.2.elim
 split
 · rename_i hw
   rw[if_pos hw]at h
   rcases h with h | ⟨h1,a1,w1,h2⟩
   · exact .inl (Oper.wp_mono ih (mP hq h))
   · exact .inr ⟨h1,a1,w1,hq _ _ _ (by simp) h2⟩
 · rename_i hw
   rw[if_neg hw]at h
   exact ih _ _ h
theorem lE {ps:List (Nat×List Nat)} (hsel:Region.noSelect all.toArray=true):∀ (s:Scl) (listed:Array Bool) (l:List Value) (w:World),WZ all.toArray listed→lF all.toArray Z ps s listed=true→(Qw Z listed→S w)→oT P ds all S K s l w→
 wpAnyL P all.toArray (fun e a w'=>a.defers=ds∧uQ K (fun _ _ _=>False) e a.tmps.toList w') S Z s.size listed ⟨l.toArray,ds⟩ w
 | .nil,listed,l,w,_,hB,_,h=>⟨by simpa[lF]using hB,rfl,h⟩
 | .a i s,listed,l,w,inv,hB,hS,⟨o,ho,v,hv,hK⟩=>by
  simp only[lF,Bool.and_eq_true,Bool.not_eq_true']at hB
  obtain⟨⟨⟨⟨h1,h2⟩,hr⟩,hf⟩,hB'⟩:=hB
  have hi:all.toArray[i]? =some o:=by rw[List.getElem?_toArray];exact ho
  have Cj:i∈Region.ready .any all.toArray listed:=by simpa using hr
  refine JB (S':=S) (oi:=o) (v:=v) hi (Region.noSelect_spec hsel) (fun _ _ _ h=>h.2.elim) (by simpa using h1) (fun listed w inv hun hS=>hS fun z hz=>?_) s.size listed _ w inv (Region.free_spec hi hf) Cj ?_ hS ?_
  · obtain⟨p,_,hp⟩:=List.any_eq_true.1 (List.all_eq_true.1 h2 z hz)
    simp only[Bool.and_eq_true,beq_iff_eq]at hp
    exact G2 inv _ _ _ hp.2 (getD_both hun)
  · rcases hv with ⟨h1,h2⟩ | ⟨h1,h2⟩
    · exact .inl ⟨h1,by rw[tU];exact h2⟩
    · exact .inr ⟨h1,h2⟩
  · rw[oZ]
    exact lE hsel s _ _ _ (inv.set Cj) hB' (fun hz=>hS hz.less) hK
 | .b i s,listed,l,w,inv,hB,hS,⟨o,ho,v,hv,hK⟩=>by
  simp only[lF,Bool.and_eq_true,Bool.not_eq_true']at hB
  obtain⟨⟨⟨h1,hr⟩,hf⟩,hB'⟩:=hB
  have hi:all.toArray[i]? =some o:=by rw[List.getElem?_toArray];exact ho
  have Cj:i∈Region.ready .any all.toArray listed:=by simpa using hr
  refine JB (S':=fun _=>True) (oi:=o) (v:=v) hi (Region.noSelect_spec hsel) (fun _ _ _ h=>h.2.elim) (by simpa using h1) (fun _ _ _ _ _=>trivial) s.size listed _ w inv (Region.free_spec hi hf) Cj ?_ hS ?_
  · rcases hv with ⟨h1,h2⟩ | ⟨h1,h2⟩
    · exact .inl ⟨h1,by rw[tU];exact h2⟩
    · exact .inr ⟨h1,h2⟩
  · rw[oZ]
    exact lE hsel s _ _ _ (inv.set Cj) hB' (fun hz=>hS hz.less) hK
 | .o i s,listed,l,w,inv,hB,hS,⟨o,ho,h⟩=>by
  simp only[lF,Bool.and_eq_true,decide_eq_true_eq]at hB
  have Cj:i∈Region.ready .any all.toArray listed:=by rw[hB.1];simp
  refine⟨fun h0=>(by rw[hB.1]at h0;cases h0),fun k hk=>?_⟩
  have hki:k=i:=by rw[hB.1]at hk;simpa using hk
  rw[hki]
  exact aY (T:=S) ho h fun l w hT h2=>⟨fun _=>hT,lE hsel s _ _ _ (inv.set Cj) hB.2 (fun _=>hT) h2⟩
 | .z i s,listed,l,w,inv,hB,hS,⟨o,ho,h⟩=>by
  simp only[lF,Bool.and_eq_true,Bool.or_eq_true,decide_eq_true_eq]at hB
  obtain⟨⟨hz,hr⟩,hB'⟩:=hB
  have Cj:i∈Region.ready .any all.toArray listed:=by rw[hr];simp
  refine⟨fun h0=>(by rw[hr]at h0;cases h0),fun k hk=>?_⟩
  have hki:k=i:=by rw[hr]at hk;simpa using hk
  rw[hki]
  have hno:¬Qw Z (listed.setIfInBounds i true):=fun hn=>by
   rcases hz with h1 | h1
   · have h2:=hn i (by simpa using h1)
     have h3:i < listed.size:=by
      rw[inv.size]
      obtain⟨_,o',ho',_⟩:=mem_ready.1 Cj
      exact(Array.getElem?_eq_some_iff.1 ho').1
     simp[h3]at h2
   · obtain⟨z,hz,h2⟩:=List.any_eq_true.1 h1
     have h3:=hn z hz
     rw[getD_set_true h2]at h3
     cases h3
  refine aY (T:=fun _=>True) ho ?_ fun l w _ h2=>⟨fun hn=>absurd hn hno,lE hsel s _ _ _ (inv.set Cj) hB' (fun hn=>absurd hn hno) h2⟩
  simpa using h
theorem CW {Q:vN} {cs:List Code} {n:Nat} {w0:World} {SS:List Nat} {es:List Ent} (Z:List Nat) (ps:List (Nat×List Nat)) (s:Scl) (H:Hp w0 w SS es) (idx:List Nat) (hm:P.follows .mixedOrders=true) (hnd:idx.Nodup)
 (hB:(Region.noSelect all.toArray && decide (s.size=all.length) && lF all.toArray Z ps s (Array.replicate all.length false))=true)
 (h:∀ w',w'={ w with drawn:=w.drawn+1 }→oT P ds all (fun wz=>Hp w0 wz SS (idx.map fun i=>es.getD i (none,0,[]))) (Run P ds cs Q) s l w'):Run P ds (.region n all.toArray true::cs) Q l w:=by
 simp only[Bool.and_eq_true,decide_eq_true_eq]at hB
 obtain⟨⟨hsel,hlen⟩,hB⟩:=hB
 show Cd P ds _ _ l w
 unfold Cd
 have inv0:WZ all.toArray (Array.replicate all.length false):=
  ⟨by simp,fun j oj _ hl=>(by rw[getD_replicate_false]at hl;cases hl)⟩
 refine Go.wp_mono (Q:=fun e a w'=>a.defers=ds∧uQ (Run P ds cs Q) (fun _ _ _=>False) e a.tmps.toList w') (wp_region_any hm ?_) ?_
 · have:=lE (S:=fun wz=>Hp w0 wz SS (idx.map fun i=>es.getD i (none,0,[]))) (K:=Run P ds cs Q) (P:=P) (ds:=ds) hsel s _ l { w with drawn:=w.drawn+1 } inv0 hB (fun _=>H.drew.pick idx hnd) (h _ rfl)
   rw[hlen]at this
   have h2:=EU _ _ _ _ this
   simpa using h2
 · rintro e a w' ⟨hd,h2⟩
   cases e <;>first | exact⟨hd,h2⟩ | exact h2.elim
end mix
section
variable {P:Program} {ds:List Deferred} {Q:vN} {K:List Value→World→Prop} {KS:List Value→Prop} {all os:List Oper} {l l':List Value} {w w0:World} {ty t:TypeId} {pos:String} {af:Array Edge} {d:Tmp} {v:Value} {S:World→Prop} {x y z:Operand} {i n:Nat} {s:List (Bool×Nat)} {cs:List Code} {c1 c2:Code} {a:Addr} {f off:Nat} {ft:TypeId} {bk o:Nat}
abbrev Dz (l:List Value):Prop:=l=l
def Uy :List (Nat×Value)→Nat→Option Value
 | [],_=>none
 | (i,v)::r,k=>match Nat.beq i k with
  | true=>some v
  | false=>Uy r k
def Dj (kv:List (Nat×Value)):Nat→Nat→List (Option Value)
 | _,0=>[]
 | k,n+1=>Uy kv k::Dj kv (k+1) n
theorem cR (e:l=l') (h:Run P ds cs Q l' w):Run P ds cs Q l w:=by rw[e];exact h
theorem Aa (e:l=l') (h:Ops P ds all K Q os l' w):Ops P ds all K Q os l w:=by rw[e];exact h
theorem vJ (e:l=l') (h:yT P ds all w KS os l'):yT P ds all w KS os l:=by rw[e];exact h
theorem cZ (e:l=l') (h:oS P ds all S K s l' w):oS P ds all S K s l w:=by rw[e];exact h
theorem cM (e:l=l') (h:rT P ds all S K s l' w):rT P ds all S K s l w:=by rw[e];exact h
theorem Xr (e:l=l') (h:K l' w):Ops P ds all K Q [] l w:=yD (by rw[e];exact h)
theorem Rq {os:List Oper} (h:Ops P ds os (Run P ds (c2::cs) Q) Q os l w):Run P ds (.seq (.region n os.toArray false) c2::cs) Q l w:=zN (zJ h)
theorem Xm (h:ev l x=some v) (k:Ops P ds all K Q os (l.set d v) w):Ops P ds all K Q (⟨some d,.move x,ty,pos,af,none⟩::os) l w:=zD (zK h) k
theorem Xa (h:ev l x=some v) (k:Ops P ds all K Q os (l.set d v) w):Ops P ds all K Q (⟨some d,.assign x,ty,pos,af,none⟩::os) l w:=zD (zO h) k
theorem Xt (hc:ev l x=some (.bool true)) (h:ev l y=some v) (k:Ops P ds all K Q os (l.set d v) w):Ops P ds all K Q (⟨some d,.pick x y z,ty,pos,af,none⟩::os) l w:=zD (xS hc h) k
theorem Xu (hc:ev l x=some (.bool false)) (h:ev l z=some v) (k:Ops P ds all K Q os (l.set d v) w):Ops P ds all K Q (⟨some d,.pick x y z,ty,pos,af,none⟩::os) l w:=zD (wT hc h) k
theorem Xe {vs:List Value} {i:Nat} (hx:ev l x=some (.tuple vs.toArray)) (hi:vs[i]? =some v) (k:Ops P ds all K Q os (l.set d v) w):Ops P ds all K Q (⟨some d,.extract x i,ty,pos,af,none⟩::os) l w:=zD (xA hx hi) k
theorem Xn {b:Bool} (h:ev l x=some (.bool b)) (k:Ops P ds all K Q os (l.set d (.bool (!b))) w):Ops P ds all K Q (⟨some d,.unOp .not t x,ty,pos,af,none⟩::os) l w:=zD (iA h) k
theorem Xc (h:ev l x=some (.pointer (some a))) (k:Ops P ds all K Q os (l.set d (.pointer (some a))) w):Ops P ds all K Q (⟨some d,.nilCheck x,ty,pos,af,none⟩::os) l w:=zD (yI h) k
theorem Xf (hf:yH P t f=some (off,ft)) (hx:ev l x=some (.pointer (some ⟨bk,o,none⟩))) (k:Ops P ds all K Q os (l.set d (.pointer (some ⟨bk,o+off,none⟩))) w):Ops P ds all K Q (⟨some d,.fieldAddr t x f,ty,pos,af,none⟩::os) l w:=zD (rR hf hx) k
theorem Zm (ho:all[i]? =some ⟨some d,.move x,ty,pos,af,none⟩) (h:ev l x=some v) (k:oS P ds all S K s (l.set d v) w):oS P ds all S K ((true,i)::s) l w:=cE ho (rO (fun _ _=>zK h) k)
theorem Zc (ho:all[i]? =some ⟨some d,.nilCheck x,ty,pos,af,none⟩) (h:ev l x=some (.pointer (some a))) (k:oS P ds all S K s (l.set d (.pointer (some a))) w):oS P ds all S K ((true,i)::s) l w:=cE ho (rO (fun _ _=>yI h) k)
theorem Zf (ho:all[i]? =some ⟨some d,.fieldAddr t x f,ty,pos,af,none⟩) (hf:yH P t f=some (off,ft)) (hx:ev l x=some (.pointer (some ⟨bk,o,none⟩))) (k:oS P ds all S K s (l.set d (.pointer (some ⟨bk,o+off,none⟩))) w):oS P ds all S K ((true,i)::s) l w:=cE ho (rO (fun _ _=>rR hf hx) k)
theorem OU :∀ (kv:List (Nat×Value)) (n k:Nat) (l pre:List Value),pre.length=k→l.length=n→(∀ i v,Uy kv i=some v→nth (pre++l) i=some v)→xN (Dj kv k n) l
 | kv,0,k,l,pre,hk,hl,h=>List.eq_nil_of_length_eq_zero hl
 | kv,n+1,k,[],pre,hk,hl,h=>by cases hl
 | kv,n+1,k,x::l,pre,hk,hl,h=>by
  have ih:=OU kv n (k+1) l (pre++[x]) (by simp[hk]) (by simpa using hl) (fun i v hv=>by rw[List.append_assoc];exact h i v hv)
  show xN (Uy kv k::Dj kv (k+1) n) (x::l)
  have hx:=h k
  rw[pK,List.getElem?_append_right (by omega),hk,Nat.sub_self]at hx
  cases hc:Uy kv k with
  | none=>exact fn ih
  | some v=>have:=hx v hc;cases this;exact fs ih
theorem D0 {kv:List (Nat×Value)} {n:Nat} {l:List Value} (hl:l.length=n) (h:∀ i v,Uy kv i=some v→nth l i=some v):xN (Dj kv 0 n) l:=OU kv n 0 l [] rfl hl h
theorem xB {a:Nat} {b:Value} {r:List (Nat×Value)} {l:List Value} (h1:nth l a=some b) (h:∀ i v,Uy r i=some v→nth l i=some v):∀ i v,Uy ((a,b)::r) i=some v→nth l i=some v:=fun i v hv=>by
 unfold Uy at hv
 cases hb:Nat.beq a i with
 | true=>rw[hb]at hv;cases hv;rw[← Nat.eq_of_beq_eq_true hb];exact h1
 | false=>rw[hb]at hv;exact h i v hv
theorem lG {l:List Value}:∀ i v,Uy [] i=some v→nth l i=some v:=fun i v h=>by cases h
theorem ft2 {n:Nat} {l:List Value} {i0:Nat} {v0:Value} {i1:Nat} {v1:Value} (hl:l.length=n) (h0:nth l i0=some v0) (h1:nth l i1=some v1):xN (Dj [(i0,v0),(i1,v1)] 0 n) l:=D0 hl (xB h0 (xB h1 lG))
theorem Jc {n:Nat} {l:List Value} {i0:Nat} {v0:Value} {i1:Nat} {v1:Value} {i2:Nat} {v2:Value} (hl:l.length=n) (h0:nth l i0=some v0) (h1:nth l i1=some v1) (h2:nth l i2=some v2):xN (Dj [(i0,v0),(i1,v1),(i2,v2)] 0 n) l:=D0 hl (xB h0 (xB h1 (xB h2 lG)))
theorem Dv {n:Nat} {l:List Value} {i0:Nat} {v0:Value} {i1:Nat} {v1:Value} {i2:Nat} {v2:Value} {i3:Nat} {v3:Value} (hl:l.length=n) (h0:nth l i0=some v0) (h1:nth l i1=some v1) (h2:nth l i2=some v2) (h3:nth l i3=some v3):xN (Dj [(i0,v0),(i1,v1),(i2,v2),(i3,v3)] 0 n) l:=D0 hl (xB h0 (xB h1 (xB h2 (xB h3 lG))))
theorem Ez {n:Nat} {l:List Value} {i0:Nat} {v0:Value} {i1:Nat} {v1:Value} {i2:Nat} {v2:Value} {i3:Nat} {v3:Value} {i4:Nat} {v4:Value} (hl:l.length=n) (h0:nth l i0=some v0) (h1:nth l i1=some v1) (h2:nth l i2=some v2) (h3:nth l i3=some v3) (h4:nth l i4=some v4):xN (Dj [(i0,v0),(i1,v1),(i2,v2),(i3,v3),(i4,v4)] 0 n) l:=D0 hl (xB h0 (xB h1 (xB h2 (xB h3 (xB h4 lG)))))
theorem Pg {n:Nat} {l:List Value} {i0:Nat} {v0:Value} {i1:Nat} {v1:Value} {i2:Nat} {v2:Value} {i3:Nat} {v3:Value} {i4:Nat} {v4:Value} {i5:Nat} {v5:Value} (hl:l.length=n) (h0:nth l i0=some v0) (h1:nth l i1=some v1) (h2:nth l i2=some v2) (h3:nth l i3=some v3) (h4:nth l i4=some v4) (h5:nth l i5=some v5):xN (Dj [(i0,v0),(i1,v1),(i2,v2),(i3,v3),(i4,v4),(i5,v5)] 0 n) l:=D0 hl (xB h0 (xB h1 (xB h2 (xB h3 (xB h4 (xB h5 lG))))))
theorem WW {n:Nat} {l:List Value} {i0:Nat} {v0:Value} {i1:Nat} {v1:Value} {i2:Nat} {v2:Value} {i3:Nat} {v3:Value} {i4:Nat} {v4:Value} {i5:Nat} {v5:Value} {i6:Nat} {v6:Value} (hl:l.length=n) (h0:nth l i0=some v0) (h1:nth l i1=some v1) (h2:nth l i2=some v2) (h3:nth l i3=some v3) (h4:nth l i4=some v4) (h5:nth l i5=some v5) (h6:nth l i6=some v6):xN (Dj [(i0,v0),(i1,v1),(i2,v2),(i3,v3),(i4,v4),(i5,v5),(i6,v6)] 0 n) l:=D0 hl (xB h0 (xB h1 (xB h2 (xB h3 (xB h4 (xB h5 (xB h6 lG)))))))
theorem ft8 {n:Nat} {l:List Value} {i0:Nat} {v0:Value} {i1:Nat} {v1:Value} {i2:Nat} {v2:Value} {i3:Nat} {v3:Value} {i4:Nat} {v4:Value} {i5:Nat} {v5:Value} {i6:Nat} {v6:Value} {i7:Nat} {v7:Value} (hl:l.length=n) (h0:nth l i0=some v0) (h1:nth l i1=some v1) (h2:nth l i2=some v2) (h3:nth l i3=some v3) (h4:nth l i4=some v4) (h5:nth l i5=some v5) (h6:nth l i6=some v6) (h7:nth l i7=some v7):xN (Dj [(i0,v0),(i1,v1),(i2,v2),(i3,v3),(i4,v4),(i5,v5),(i6,v6),(i7,v7)] 0 n) l:=D0 hl (xB h0 (xB h1 (xB h2 (xB h3 (xB h4 (xB h5 (xB h6 (xB h7 lG))))))))
theorem bS {n:Nat} {l:List Value} {i0:Nat} {v0:Value} {i1:Nat} {v1:Value} {i2:Nat} {v2:Value} {i3:Nat} {v3:Value} {i4:Nat} {v4:Value} {i5:Nat} {v5:Value} {i6:Nat} {v6:Value} {i7:Nat} {v7:Value} {i8:Nat} {v8:Value} {i9:Nat} {v9:Value} (hl:l.length=n) (h0:nth l i0=some v0) (h1:nth l i1=some v1) (h2:nth l i2=some v2) (h3:nth l i3=some v3) (h4:nth l i4=some v4) (h5:nth l i5=some v5) (h6:nth l i6=some v6) (h7:nth l i7=some v7) (h8:nth l i8=some v8) (h9:nth l i9=some v9):xN (Dj [(i0,v0),(i1,v1),(i2,v2),(i3,v3),(i4,v4),(i5,v5),(i6,v6),(i7,v7),(i8,v8),(i9,v9)] 0 n) l:=D0 hl (xB h0 (xB h1 (xB h2 (xB h3 (xB h4 (xB h5 (xB h6 (xB h7 (xB h8 (xB h9 lG))))))))))
theorem NL {a b:Nat} (h:Nat.ble a b=true):a≤b:=Nat.le_of_ble_eq_true h
def dO (all:List Oper):Nat→List Oper→List Value→Option (List Oper×List Value)
 | 0,os,l=>some (os,l)
 | k+1,⟨some d,_,_,_,_,some (j,b)⟩::os,l=>match yes all l j==some b with
  | false=>dO all k os (l.set d undef)
  | true=>none
 | _,_,_=>none
theorem Oz :∀ (k:Nat) {os os':List Oper} {l l':List Value},dO all k os l=some (os',l')→Ops P ds all K Q os' l' w→Ops P ds all K Q os l w
 | 0,_,_,_,_,h,k=>by simp only[dO,Option.some.injEq,Prod.mk.injEq]at h;obtain⟨rfl,rfl⟩:=h;exact k
 | n+1,[],_,_,_,h,k=>by simp[dO]at h
 | n+1,⟨some d,op,ty,pos,af,some (j,b)⟩::os,os',l,l',h,k=>by
  unfold dO at h
  split at h
  · rename_i hb;exact ops_no hb (Oz n h k)
  · cases h
 | n+1,⟨none,op,ty,pos,af,g⟩::os,_,_,_,h,k=>by simp[dO]at h
 | n+1,⟨some d,op,ty,pos,af,none⟩::os,_,_,_,h,k=>by simp[dO]at h
theorem cT {s:Jt} (e:l=l') (h:qZ P ds all S K s l' w):qZ P ds all S K s l w:=by rw[e];exact h
theorem Tm {s:Jt} (ho:all[i]? =some ⟨some d,.move x,ty,pos,af,none⟩) (h:ev l x=some v) (k:qZ P ds all S K s (l.set d v) w):qZ P ds all S K (.p i s) l w:=BP ho (rO (fun _ _=>zK h) k)
theorem Tf {s:Jt} (ho:all[i]? =some ⟨some d,.fieldAddr t x f,ty,pos,af,none⟩) (hf:yH P t f=some (off,ft)) (hx:ev l x=some (.pointer (some ⟨bk,o,none⟩))) (k:qZ P ds all S K s (l.set d (.pointer (some ⟨bk,o+off,none⟩))) w):qZ P ds all S K (.p i s) l w:=BP ho (rO (fun _ _=>rR hf hx) k)
theorem cL {s:Scl} (e:l=l') (h:oT P ds all S K s l' w):oT P ds all S K s l w:=by rw[e];exact h
end
theorem J1 :type_of% @zN:=@zN
theorem J2 :type_of% @zJ:=@zJ
theorem J3 :type_of% @yL:=@yL
theorem J4 :type_of% @zW:=@zW
theorem J5 :type_of% @wF:=@wF
theorem J6 :type_of% @xH:=@xH
theorem J7 :type_of% @wH:=@wH
theorem J8 :type_of% @tD:=@tD
theorem OV :type_of% @zD:=@zD
theorem OY :type_of% @sG:=@sG
theorem OZ :type_of% @ops_no:=@ops_no
theorem OE :type_of% @yD:=@yD
theorem OT :type_of% @vL:=@vL
theorem OC :type_of% @qV:=@qV
theorem OX :type_of% @oK:=@oK
theorem OQ :type_of% @tE:=@tE
theorem Ij :type_of% @mZ:=@mZ
theorem Dy :type_of% @kG:=@kG
theorem MV :type_of% @rO:=@rO
theorem MP :type_of% @cE:=@cE
theorem MO :type_of% @NN:=@NN
theorem ME :type_of% @DM:=@DM
theorem MY :type_of% @DO:=@DO
theorem MZ :type_of% @HT:=@HT
theorem BR :type_of% @vG:=@vG
theorem SV :type_of% @uG:=@uG
theorem Ak :type_of% @tG:=@tG
theorem Ea :type_of% @D5:=@D5
theorem EL :type_of% @iX:=@iX
theorem EN :type_of% @D7:=@D7
theorem EI :type_of% @fS:=@fS
theorem EF :type_of% @rR:=@rR
theorem ES :type_of% @tC:=@tC
theorem EC :type_of% @mI:=@mI
theorem OS :type_of% @fE:=@fE
theorem OW :type_of% @cB:=@cB
theorem OA :type_of% @aW:=@aW
theorem EB :type_of% @D9:=@D9
theorem TP :type_of% @BP:=@BP
theorem TQ :type_of% @NO:=@NO
end Go.Proofs.YtjoeklkmnfaabaaGreat
namespace Go.Proofs.YtjoeklkmnfaabaaGreat
open Go
theorem e3 {a0 a1 a2:Value}:Dz [a0,a1,a2]:=rfl
theorem e4 {a0 a1 a2 a3:Value}:Dz [a0,a1,a2,a3]:=rfl
theorem e5 {a0 a1 a2 a3 a4:Value}:Dz [a0,a1,a2,a3,a4]:=rfl
theorem e6 {a0 a1 a2 a3 a4 a5:Value}:Dz [a0,a1,a2,a3,a4,a5]:=rfl
theorem e7 {a0 a1 a2 a3 a4 a5 a6:Value}:Dz [a0,a1,a2,a3,a4,a5,a6]:=rfl
theorem e8 {a0 a1 a2 a3 a4 a5 a6 a7:Value}:Dz [a0,a1,a2,a3,a4,a5,a6,a7]:=rfl
theorem e9 {a0 a1 a2 a3 a4 a5 a6 a7 a8:Value}:Dz [a0,a1,a2,a3,a4,a5,a6,a7,a8]:=rfl
theorem e10 {a0 a1 a2 a3 a4 a5 a6 a7 a8 a9:Value}:Dz [a0,a1,a2,a3,a4,a5,a6,a7,a8,a9]:=rfl
theorem e11 {a0 a1 a2 a3 a4 a5 a6 a7 a8 a9 a10:Value}:Dz [a0,a1,a2,a3,a4,a5,a6,a7,a8,a9,a10]:=rfl
theorem e12 {a0 a1 a2 a3 a4 a5 a6 a7 a8 a9 a10 a11:Value}:Dz [a0,a1,a2,a3,a4,a5,a6,a7,a8,a9,a10,a11]:=rfl
theorem e13 {a0 a1 a2 a3 a4 a5 a6 a7 a8 a9 a10 a11 a12:Value}:Dz [a0,a1,a2,a3,a4,a5,a6,a7,a8,a9,a10,a11,a12]:=rfl
theorem e14 {a0 a1 a2 a3 a4 a5 a6 a7 a8 a9 a10 a11 a12 Az:Value}:Dz [a0,a1,a2,a3,a4,a5,a6,a7,a8,a9,a10,a11,a12,Az]:=rfl
theorem e15 {a0 a1 a2 a3 a4 a5 a6 a7 a8 a9 a10 a11 a12 Az Ba:Value}:Dz [a0,a1,a2,a3,a4,a5,a6,a7,a8,a9,a10,a11,a12,Az,Ba]:=rfl
theorem e16 {a0 a1 a2 a3 a4 a5 a6 a7 a8 a9 a10 a11 a12 Az Ba Bf:Value}:Dz [a0,a1,a2,a3,a4,a5,a6,a7,a8,a9,a10,a11,a12,Az,Ba,Bf]:=rfl
theorem e17 {a0 a1 a2 a3 a4 a5 a6 a7 a8 a9 a10 a11 a12 Az Ba Bf a16:Value}:Dz [a0,a1,a2,a3,a4,a5,a6,a7,a8,a9,a10,a11,a12,Az,Ba,Bf,a16]:=rfl
theorem e18 {a0 a1 a2 a3 a4 a5 a6 a7 a8 a9 a10 a11 a12 Az Ba Bf a16 a17:Value}:Dz [a0,a1,a2,a3,a4,a5,a6,a7,a8,a9,a10,a11,a12,Az,Ba,Bf,a16,a17]:=rfl
theorem e19 {a0 a1 a2 a3 a4 a5 a6 a7 a8 a9 a10 a11 a12 Az Ba Bf a16 a17 Bl:Value}:Dz [a0,a1,a2,a3,a4,a5,a6,a7,a8,a9,a10,a11,a12,Az,Ba,Bf,a16,a17,Bl]:=rfl
theorem e20 {a0 a1 a2 a3 a4 a5 a6 a7 a8 a9 a10 a11 a12 Az Ba Bf a16 a17 Bl Bq:Value}:Dz [a0,a1,a2,a3,a4,a5,a6,a7,a8,a9,a10,a11,a12,Az,Ba,Bf,a16,a17,Bl,Bq]:=rfl
theorem e21 {a0 a1 a2 a3 a4 a5 a6 a7 a8 a9 a10 a11 a12 Az Ba Bf a16 a17 Bl Bq a20:Value}:Dz [a0,a1,a2,a3,a4,a5,a6,a7,a8,a9,a10,a11,a12,Az,Ba,Bf,a16,a17,Bl,Bq,a20]:=rfl
theorem e23 {a0 a1 a2 a3 a4 a5 a6 a7 a8 a9 a10 a11 a12 Az Ba Bf a16 a17 Bl Bq a20 a21 a22:Value}:Dz [a0,a1,a2,a3,a4,a5,a6,a7,a8,a9,a10,a11,a12,Az,Ba,Bf,a16,a17,Bl,Bq,a20,a21,a22]:=rfl
theorem e24 {a0 a1 a2 a3 a4 a5 a6 a7 a8 a9 a10 a11 a12 Az Ba Bf a16 a17 Bl Bq a20 a21 a22 a23:Value}:Dz [a0,a1,a2,a3,a4,a5,a6,a7,a8,a9,a10,a11,a12,Az,Ba,Bf,a16,a17,Bl,Bq,a20,a21,a22,a23]:=rfl
theorem e25 {a0 a1 a2 a3 a4 a5 a6 a7 a8 a9 a10 a11 a12 Az Ba Bf a16 a17 Bl Bq a20 a21 a22 a23 a24:Value}:Dz [a0,a1,a2,a3,a4,a5,a6,a7,a8,a9,a10,a11,a12,Az,Ba,Bf,a16,a17,Bl,Bq,a20,a21,a22,a23,a24]:=rfl
theorem e26 {a0 a1 a2 a3 a4 a5 a6 a7 a8 a9 a10 a11 a12 Az Ba Bf a16 a17 Bl Bq a20 a21 a22 a23 a24 a25:Value}:Dz [a0,a1,a2,a3,a4,a5,a6,a7,a8,a9,a10,a11,a12,Az,Ba,Bf,a16,a17,Bl,Bq,a20,a21,a22,a23,a24,a25]:=rfl
theorem e27 {a0 a1 a2 a3 a4 a5 a6 a7 a8 a9 a10 a11 a12 Az Ba Bf a16 a17 Bl Bq a20 a21 a22 a23 a24 a25 a26:Value}:Dz [a0,a1,a2,a3,a4,a5,a6,a7,a8,a9,a10,a11,a12,Az,Ba,Bf,a16,a17,Bl,Bq,a20,a21,a22,a23,a24,a25,a26]:=rfl
theorem e28 {a0 a1 a2 a3 a4 a5 a6 a7 a8 a9 a10 a11 a12 Az Ba Bf a16 a17 Bl Bq a20 a21 a22 a23 a24 a25 a26 a27:Value}:Dz [a0,a1,a2,a3,a4,a5,a6,a7,a8,a9,a10,a11,a12,Az,Ba,Bf,a16,a17,Bl,Bq,a20,a21,a22,a23,a24,a25,a26,a27]:=rfl
theorem e29 {a0 a1 a2 a3 a4 a5 a6 a7 a8 a9 a10 a11 a12 Az Ba Bf a16 a17 Bl Bq a20 a21 a22 a23 a24 a25 a26 a27 a28:Value}:Dz [a0,a1,a2,a3,a4,a5,a6,a7,a8,a9,a10,a11,a12,Az,Ba,Bf,a16,a17,Bl,Bq,a20,a21,a22,a23,a24,a25,a26,a27,a28]:=rfl
theorem e30 {a0 a1 a2 a3 a4 a5 a6 a7 a8 a9 a10 a11 a12 Az Ba Bf a16 a17 Bl Bq a20 a21 a22 a23 a24 a25 a26 a27 a28 a29:Value}:Dz [a0,a1,a2,a3,a4,a5,a6,a7,a8,a9,a10,a11,a12,Az,Ba,Bf,a16,a17,Bl,Bq,a20,a21,a22,a23,a24,a25,a26,a27,a28,a29]:=rfl
theorem e31 {a0 a1 a2 a3 a4 a5 a6 a7 a8 a9 a10 a11 a12 Az Ba Bf a16 a17 Bl Bq a20 a21 a22 a23 a24 a25 a26 a27 a28 a29 a30:Value}:Dz [a0,a1,a2,a3,a4,a5,a6,a7,a8,a9,a10,a11,a12,Az,Ba,Bf,a16,a17,Bl,Bq,a20,a21,a22,a23,a24,a25,a26,a27,a28,a29,a30]:=rfl
theorem e32 {a0 a1 a2 a3 a4 a5 a6 a7 a8 a9 a10 a11 a12 Az Ba Bf a16 a17 Bl Bq a20 a21 a22 a23 a24 a25 a26 a27 a28 a29 a30 a31:Value}:Dz [a0,a1,a2,a3,a4,a5,a6,a7,a8,a9,a10,a11,a12,Az,Ba,Bf,a16,a17,Bl,Bq,a20,a21,a22,a23,a24,a25,a26,a27,a28,a29,a30,a31]:=rfl
theorem e33 {a0 a1 a2 a3 a4 a5 a6 a7 a8 a9 a10 a11 a12 Az Ba Bf a16 a17 Bl Bq a20 a21 a22 a23 a24 a25 a26 a27 a28 a29 a30 a31 a32:Value}:Dz [a0,a1,a2,a3,a4,a5,a6,a7,a8,a9,a10,a11,a12,Az,Ba,Bf,a16,a17,Bl,Bq,a20,a21,a22,a23,a24,a25,a26,a27,a28,a29,a30,a31,a32]:=rfl
theorem e34 {a0 a1 a2 a3 a4 a5 a6 a7 a8 a9 a10 a11 a12 Az Ba Bf a16 a17 Bl Bq a20 a21 a22 a23 a24 a25 a26 a27 a28 a29 a30 a31 a32 a33:Value}:Dz [a0,a1,a2,a3,a4,a5,a6,a7,a8,a9,a10,a11,a12,Az,Ba,Bf,a16,a17,Bl,Bq,a20,a21,a22,a23,a24,a25,a26,a27,a28,a29,a30,a31,a32,a33]:=rfl
theorem e35 {a0 a1 a2 a3 a4 a5 a6 a7 a8 a9 a10 a11 a12 Az Ba Bf a16 a17 Bl Bq a20 a21 a22 a23 a24 a25 a26 a27 a28 a29 a30 a31 a32 a33 a34:Value}:Dz [a0,a1,a2,a3,a4,a5,a6,a7,a8,a9,a10,a11,a12,Az,Ba,Bf,a16,a17,Bl,Bq,a20,a21,a22,a23,a24,a25,a26,a27,a28,a29,a30,a31,a32,a33,a34]:=rfl
theorem e37 {a0 a1 a2 a3 a4 a5 a6 a7 a8 a9 a10 a11 a12 Az Ba Bf a16 a17 Bl Bq a20 a21 a22 a23 a24 a25 a26 a27 a28 a29 a30 a31 a32 a33 a34 a35 a36:Value}:Dz [a0,a1,a2,a3,a4,a5,a6,a7,a8,a9,a10,a11,a12,Az,Ba,Bf,a16,a17,Bl,Bq,a20,a21,a22,a23,a24,a25,a26,a27,a28,a29,a30,a31,a32,a33,a34,a35,a36]:=rfl
theorem e38 {a0 a1 a2 a3 a4 a5 a6 a7 a8 a9 a10 a11 a12 Az Ba Bf a16 a17 Bl Bq a20 a21 a22 a23 a24 a25 a26 a27 a28 a29 a30 a31 a32 a33 a34 a35 a36 a37:Value}:Dz [a0,a1,a2,a3,a4,a5,a6,a7,a8,a9,a10,a11,a12,Az,Ba,Bf,a16,a17,Bl,Bq,a20,a21,a22,a23,a24,a25,a26,a27,a28,a29,a30,a31,a32,a33,a34,a35,a36,a37]:=rfl
theorem e40 {a0 a1 a2 a3 a4 a5 a6 a7 a8 a9 a10 a11 a12 Az Ba Bf a16 a17 Bl Bq a20 a21 a22 a23 a24 a25 a26 a27 a28 a29 a30 a31 a32 a33 a34 a35 a36 a37 a38 a39:Value}:Dz [a0,a1,a2,a3,a4,a5,a6,a7,a8,a9,a10,a11,a12,Az,Ba,Bf,a16,a17,Bl,Bq,a20,a21,a22,a23,a24,a25,a26,a27,a28,a29,a30,a31,a32,a33,a34,a35,a36,a37,a38,a39]:=rfl
theorem e42 {a0 a1 a2 a3 a4 a5 a6 a7 a8 a9 a10 a11 a12 Az Ba Bf a16 a17 Bl Bq a20 a21 a22 a23 a24 a25 a26 a27 a28 a29 a30 a31 a32 a33 a34 a35 a36 a37 a38 a39 a40 a41:Value}:Dz [a0,a1,a2,a3,a4,a5,a6,a7,a8,a9,a10,a11,a12,Az,Ba,Bf,a16,a17,Bl,Bq,a20,a21,a22,a23,a24,a25,a26,a27,a28,a29,a30,a31,a32,a33,a34,a35,a36,a37,a38,a39,a40,a41]:=rfl
theorem e43 {a0 a1 a2 a3 a4 a5 a6 a7 a8 a9 a10 a11 a12 Az Ba Bf a16 a17 Bl Bq a20 a21 a22 a23 a24 a25 a26 a27 a28 a29 a30 a31 a32 a33 a34 a35 a36 a37 a38 a39 a40 a41 a42:Value}:Dz [a0,a1,a2,a3,a4,a5,a6,a7,a8,a9,a10,a11,a12,Az,Ba,Bf,a16,a17,Bl,Bq,a20,a21,a22,a23,a24,a25,a26,a27,a28,a29,a30,a31,a32,a33,a34,a35,a36,a37,a38,a39,a40,a41,a42]:=rfl
theorem e44 {a0 a1 a2 a3 a4 a5 a6 a7 a8 a9 a10 a11 a12 Az Ba Bf a16 a17 Bl Bq a20 a21 a22 a23 a24 a25 a26 a27 a28 a29 a30 a31 a32 a33 a34 a35 a36 a37 a38 a39 a40 a41 a42 a43:Value}:Dz [a0,a1,a2,a3,a4,a5,a6,a7,a8,a9,a10,a11,a12,Az,Ba,Bf,a16,a17,Bl,Bq,a20,a21,a22,a23,a24,a25,a26,a27,a28,a29,a30,a31,a32,a33,a34,a35,a36,a37,a38,a39,a40,a41,a42,a43]:=rfl
theorem e45 {a0 a1 a2 a3 a4 a5 a6 a7 a8 a9 a10 a11 a12 Az Ba Bf a16 a17 Bl Bq a20 a21 a22 a23 a24 a25 a26 a27 a28 a29 a30 a31 a32 a33 a34 a35 a36 a37 a38 a39 a40 a41 a42 a43 a44:Value}:Dz [a0,a1,a2,a3,a4,a5,a6,a7,a8,a9,a10,a11,a12,Az,Ba,Bf,a16,a17,Bl,Bq,a20,a21,a22,a23,a24,a25,a26,a27,a28,a29,a30,a31,a32,a33,a34,a35,a36,a37,a38,a39,a40,a41,a42,a43,a44]:=rfl
theorem e46 {a0 a1 a2 a3 a4 a5 a6 a7 a8 a9 a10 a11 a12 Az Ba Bf a16 a17 Bl Bq a20 a21 a22 a23 a24 a25 a26 a27 a28 a29 a30 a31 a32 a33 a34 a35 a36 a37 a38 a39 a40 a41 a42 a43 a44 a45:Value}:Dz [a0,a1,a2,a3,a4,a5,a6,a7,a8,a9,a10,a11,a12,Az,Ba,Bf,a16,a17,Bl,Bq,a20,a21,a22,a23,a24,a25,a26,a27,a28,a29,a30,a31,a32,a33,a34,a35,a36,a37,a38,a39,a40,a41,a42,a43,a44,a45]:=rfl
theorem e47 {a0 a1 a2 a3 a4 a5 a6 a7 a8 a9 a10 a11 a12 Az Ba Bf a16 a17 Bl Bq a20 a21 a22 a23 a24 a25 a26 a27 a28 a29 a30 a31 a32 a33 a34 a35 a36 a37 a38 a39 a40 a41 a42 a43 a44 a45 a46:Value}:Dz [a0,a1,a2,a3,a4,a5,a6,a7,a8,a9,a10,a11,a12,Az,Ba,Bf,a16,a17,Bl,Bq,a20,a21,a22,a23,a24,a25,a26,a27,a28,a29,a30,a31,a32,a33,a34,a35,a36,a37,a38,a39,a40,a41,a42,a43,a44,a45,a46]:=rfl
theorem e49 {a0 a1 a2 a3 a4 a5 a6 a7 a8 a9 a10 a11 a12 Az Ba Bf a16 a17 Bl Bq a20 a21 a22 a23 a24 a25 a26 a27 a28 a29 a30 a31 a32 a33 a34 a35 a36 a37 a38 a39 a40 a41 a42 a43 a44 a45 a46 a47 a48:Value}:Dz [a0,a1,a2,a3,a4,a5,a6,a7,a8,a9,a10,a11,a12,Az,Ba,Bf,a16,a17,Bl,Bq,a20,a21,a22,a23,a24,a25,a26,a27,a28,a29,a30,a31,a32,a33,a34,a35,a36,a37,a38,a39,a40,a41,a42,a43,a44,a45,a46,a47,a48]:=rfl
theorem e50 {a0 a1 a2 a3 a4 a5 a6 a7 a8 a9 a10 a11 a12 Az Ba Bf a16 a17 Bl Bq a20 a21 a22 a23 a24 a25 a26 a27 a28 a29 a30 a31 a32 a33 a34 a35 a36 a37 a38 a39 a40 a41 a42 a43 a44 a45 a46 a47 a48 a49:Value}:Dz [a0,a1,a2,a3,a4,a5,a6,a7,a8,a9,a10,a11,a12,Az,Ba,Bf,a16,a17,Bl,Bq,a20,a21,a22,a23,a24,a25,a26,a27,a28,a29,a30,a31,a32,a33,a34,a35,a36,a37,a38,a39,a40,a41,a42,a43,a44,a45,a46,a47,a48,a49]:=rfl
theorem e52 {a0 a1 a2 a3 a4 a5 a6 a7 a8 a9 a10 a11 a12 Az Ba Bf a16 a17 Bl Bq a20 a21 a22 a23 a24 a25 a26 a27 a28 a29 a30 a31 a32 a33 a34 a35 a36 a37 a38 a39 a40 a41 a42 a43 a44 a45 a46 a47 a48 a49 a50 a51:Value}:Dz [a0,a1,a2,a3,a4,a5,a6,a7,a8,a9,a10,a11,a12,Az,Ba,Bf,a16,a17,Bl,Bq,a20,a21,a22,a23,a24,a25,a26,a27,a28,a29,a30,a31,a32,a33,a34,a35,a36,a37,a38,a39,a40,a41,a42,a43,a44,a45,a46,a47,a48,a49,a50,a51]:=rfl
theorem e53 {a0 a1 a2 a3 a4 a5 a6 a7 a8 a9 a10 a11 a12 Az Ba Bf a16 a17 Bl Bq a20 a21 a22 a23 a24 a25 a26 a27 a28 a29 a30 a31 a32 a33 a34 a35 a36 a37 a38 a39 a40 a41 a42 a43 a44 a45 a46 a47 a48 a49 a50 a51 a52:Value}:Dz [a0,a1,a2,a3,a4,a5,a6,a7,a8,a9,a10,a11,a12,Az,Ba,Bf,a16,a17,Bl,Bq,a20,a21,a22,a23,a24,a25,a26,a27,a28,a29,a30,a31,a32,a33,a34,a35,a36,a37,a38,a39,a40,a41,a42,a43,a44,a45,a46,a47,a48,a49,a50,a51,a52]:=rfl
theorem e54 {a0 a1 a2 a3 a4 a5 a6 a7 a8 a9 a10 a11 a12 Az Ba Bf a16 a17 Bl Bq a20 a21 a22 a23 a24 a25 a26 a27 a28 a29 a30 a31 a32 a33 a34 a35 a36 a37 a38 a39 a40 a41 a42 a43 a44 a45 a46 a47 a48 a49 a50 a51 a52 a53:Value}:Dz [a0,a1,a2,a3,a4,a5,a6,a7,a8,a9,a10,a11,a12,Az,Ba,Bf,a16,a17,Bl,Bq,a20,a21,a22,a23,a24,a25,a26,a27,a28,a29,a30,a31,a32,a33,a34,a35,a36,a37,a38,a39,a40,a41,a42,a43,a44,a45,a46,a47,a48,a49,a50,a51,a52,a53]:=rfl
theorem e56 {a0 a1 a2 a3 a4 a5 a6 a7 a8 a9 a10 a11 a12 Az Ba Bf a16 a17 Bl Bq a20 a21 a22 a23 a24 a25 a26 a27 a28 a29 a30 a31 a32 a33 a34 a35 a36 a37 a38 a39 a40 a41 a42 a43 a44 a45 a46 a47 a48 a49 a50 a51 a52 a53 a54 a55:Value}:Dz [a0,a1,a2,a3,a4,a5,a6,a7,a8,a9,a10,a11,a12,Az,Ba,Bf,a16,a17,Bl,Bq,a20,a21,a22,a23,a24,a25,a26,a27,a28,a29,a30,a31,a32,a33,a34,a35,a36,a37,a38,a39,a40,a41,a42,a43,a44,a45,a46,a47,a48,a49,a50,a51,a52,a53,a54,a55]:=rfl
theorem e58 {a0 a1 a2 a3 a4 a5 a6 a7 a8 a9 a10 a11 a12 Az Ba Bf a16 a17 Bl Bq a20 a21 a22 a23 a24 a25 a26 a27 a28 a29 a30 a31 a32 a33 a34 a35 a36 a37 a38 a39 a40 a41 a42 a43 a44 a45 a46 a47 a48 a49 a50 a51 a52 a53 a54 a55 a56 a57:Value}:Dz [a0,a1,a2,a3,a4,a5,a6,a7,a8,a9,a10,a11,a12,Az,Ba,Bf,a16,a17,Bl,Bq,a20,a21,a22,a23,a24,a25,a26,a27,a28,a29,a30,a31,a32,a33,a34,a35,a36,a37,a38,a39,a40,a41,a42,a43,a44,a45,a46,a47,a48,a49,a50,a51,a52,a53,a54,a55,a56,a57]:=rfl
theorem e62 {a0 a1 a2 a3 a4 a5 a6 a7 a8 a9 a10 a11 a12 Az Ba Bf a16 a17 Bl Bq a20 a21 a22 a23 a24 a25 a26 a27 a28 a29 a30 a31 a32 a33 a34 a35 a36 a37 a38 a39 a40 a41 a42 a43 a44 a45 a46 a47 a48 a49 a50 a51 a52 a53 a54 a55 a56 a57 a58 a59 a60 a61:Value}:Dz [a0,a1,a2,a3,a4,a5,a6,a7,a8,a9,a10,a11,a12,Az,Ba,Bf,a16,a17,Bl,Bq,a20,a21,a22,a23,a24,a25,a26,a27,a28,a29,a30,a31,a32,a33,a34,a35,a36,a37,a38,a39,a40,a41,a42,a43,a44,a45,a46,a47,a48,a49,a50,a51,a52,a53,a54,a55,a56,a57,a58,a59,a60,a61]:=rfl
theorem Em {a0 a1 a2 a3 a4 a5 a6 a7 a8 a9 a10 a11 a12 Az Ba Bf a16 a17 Bl Bq a20 a21 a22 a23 a24 a25 a26 a27 a28 a29 a30 a31 a32 a33 a34 a35 a36 a37 a38 a39 a40 a41 a42 a43 a44 a45 a46 a47 a48 a49 a50 a51 a52 a53 a54 a55 a56 a57 a58 a59 a60 a61 a62 a63 a64 a65 a66:Value}:Dz [a0,a1,a2,a3,a4,a5,a6,a7,a8,a9,a10,a11,a12,Az,Ba,Bf,a16,a17,Bl,Bq,a20,a21,a22,a23,a24,a25,a26,a27,a28,a29,a30,a31,a32,a33,a34,a35,a36,a37,a38,a39,a40,a41,a42,a43,a44,a45,a46,a47,a48,a49,a50,a51,a52,a53,a54,a55,a56,a57,a58,a59,a60,a61,a62,a63,a64,a65,a66]:=rfl
theorem Nz {a0 a1 a2 a3 a4 a5 a6 a7 a8 a9 a10 a11 a12 Az Ba Bf a16 a17 Bl Bq a20 a21 a22 a23 a24 a25 a26 a27 a28 a29 a30 a31 a32 a33 a34 a35 a36 a37 a38 a39 a40 a41 a42 a43 a44 a45 a46 a47 a48 a49 a50 a51 a52 a53 a54 a55 a56 a57 a58 a59 a60 a61 a62 a63 a64 a65 a66 a67 a68:Value}:Dz [a0,a1,a2,a3,a4,a5,a6,a7,a8,a9,a10,a11,a12,Az,Ba,Bf,a16,a17,Bl,Bq,a20,a21,a22,a23,a24,a25,a26,a27,a28,a29,a30,a31,a32,a33,a34,a35,a36,a37,a38,a39,a40,a41,a42,a43,a44,a45,a46,a47,a48,a49,a50,a51,a52,a53,a54,a55,a56,a57,a58,a59,a60,a61,a62,a63,a64,a65,a66,a67,a68]:=rfl
theorem Gl {a0 a1 a2 a3 a4 a5 a6 a7 a8 a9 a10 a11 a12 Az Ba Bf a16 a17 Bl Bq a20 a21 a22 a23 a24 a25 a26 a27 a28 a29 a30 a31 a32 a33 a34 a35 a36 a37 a38 a39 a40 a41 a42 a43 a44 a45 a46 a47 a48 a49 a50 a51 a52 a53 a54 a55 a56 a57 a58 a59 a60 a61 a62 a63 a64 a65 a66 a67 a68 a69 a70 a71 a72 a73:Value}:Dz [a0,a1,a2,a3,a4,a5,a6,a7,a8,a9,a10,a11,a12,Az,Ba,Bf,a16,a17,Bl,Bq,a20,a21,a22,a23,a24,a25,a26,a27,a28,a29,a30,a31,a32,a33,a34,a35,a36,a37,a38,a39,a40,a41,a42,a43,a44,a45,a46,a47,a48,a49,a50,a51,a52,a53,a54,a55,a56,a57,a58,a59,a60,a61,a62,a63,a64,a65,a66,a67,a68,a69,a70,a71,a72,a73]:=rfl
theorem Cc {a0 a1 a2 a3 a4 a5 a6 a7 a8 a9 a10 a11 a12 Az Ba Bf a16 a17 Bl Bq a20 a21 a22 a23 a24 a25 a26 a27 a28 a29 a30 a31 a32 a33 a34 a35 a36 a37 a38 a39 a40 a41 a42 a43 a44 a45 a46 a47 a48 a49 a50 a51 a52 a53 a54 a55 a56 a57 a58 a59 a60 a61 a62 a63 a64 a65 a66 a67 a68 a69 a70 a71 a72 a73 a74:Value}:Dz [a0,a1,a2,a3,a4,a5,a6,a7,a8,a9,a10,a11,a12,Az,Ba,Bf,a16,a17,Bl,Bq,a20,a21,a22,a23,a24,a25,a26,a27,a28,a29,a30,a31,a32,a33,a34,a35,a36,a37,a38,a39,a40,a41,a42,a43,a44,a45,a46,a47,a48,a49,a50,a51,a52,a53,a54,a55,a56,a57,a58,a59,a60,a61,a62,a63,a64,a65,a66,a67,a68,a69,a70,a71,a72,a73,a74]:=rfl
theorem Bz {a0 a1 a2 a3 a4 a5 a6 a7 a8 a9 a10 a11 a12 Az Ba Bf a16 a17 Bl Bq a20 a21 a22 a23 a24 a25 a26 a27 a28 a29 a30 a31 a32 a33 a34 a35 a36 a37 a38 a39 a40 a41 a42 a43 a44 a45 a46 a47 a48 a49 a50 a51 a52 a53 a54 a55 a56 a57 a58 a59 a60 a61 a62 a63 a64 a65 a66 a67 a68 a69 a70 a71 a72 a73 a74 a75 a76 a77 a78 a79 a80 Jd:Value}:Dz [a0,a1,a2,a3,a4,a5,a6,a7,a8,a9,a10,a11,a12,Az,Ba,Bf,a16,a17,Bl,Bq,a20,a21,a22,a23,a24,a25,a26,a27,a28,a29,a30,a31,a32,a33,a34,a35,a36,a37,a38,a39,a40,a41,a42,a43,a44,a45,a46,a47,a48,a49,a50,a51,a52,a53,a54,a55,a56,a57,a58,a59,a60,a61,a62,a63,a64,a65,a66,a67,a68,a69,a70,a71,a72,a73,a74,a75,a76,a77,a78,a79,a80,Jd]:=rfl
theorem Ef {a0 a1 a2 a3 a4 a5 a6 a7 a8 a9 a10 a11 a12 Az Ba Bf a16 a17 Bl Bq a20 a21 a22 a23 a24 a25 a26 a27 a28 a29 a30 a31 a32 a33 a34 a35 a36 a37 a38 a39 a40 a41 a42 a43 a44 a45 a46 a47 a48 a49 a50 a51 a52 a53 a54 a55 a56 a57 a58 a59 a60 a61 a62 a63 a64 a65 a66 a67 a68 a69 a70 a71 a72 a73 a74 a75 a76 a77 a78 a79 a80 Jd a82 a83 a84:Value}:Dz [a0,a1,a2,a3,a4,a5,a6,a7,a8,a9,a10,a11,a12,Az,Ba,Bf,a16,a17,Bl,Bq,a20,a21,a22,a23,a24,a25,a26,a27,a28,a29,a30,a31,a32,a33,a34,a35,a36,a37,a38,a39,a40,a41,a42,a43,a44,a45,a46,a47,a48,a49,a50,a51,a52,a53,a54,a55,a56,a57,a58,a59,a60,a61,a62,a63,a64,a65,a66,a67,a68,a69,a70,a71,a72,a73,a74,a75,a76,a77,a78,a79,a80,Jd,a82,a83,a84]:=rfl
theorem Du {a0 a1 a2 a3 a4 a5 a6 a7 a8 a9 a10 a11 a12 Az Ba Bf a16 a17 Bl Bq a20 a21 a22 a23 a24 a25 a26 a27 a28 a29 a30 a31 a32 a33 a34 a35 a36 a37 a38 a39 a40 a41 a42 a43 a44 a45 a46 a47 a48 a49 a50 a51 a52 a53 a54 a55 a56 a57 a58 a59 a60 a61 a62 a63 a64 a65 a66 a67 a68 a69 a70 a71 a72 a73 a74 a75 a76 a77 a78 a79 a80 Jd a82 a83 a84 a85 a86 a87 Jw:Value}:Dz [a0,a1,a2,a3,a4,a5,a6,a7,a8,a9,a10,a11,a12,Az,Ba,Bf,a16,a17,Bl,Bq,a20,a21,a22,a23,a24,a25,a26,a27,a28,a29,a30,a31,a32,a33,a34,a35,a36,a37,a38,a39,a40,a41,a42,a43,a44,a45,a46,a47,a48,a49,a50,a51,a52,a53,a54,a55,a56,a57,a58,a59,a60,a61,a62,a63,a64,a65,a66,a67,a68,a69,a70,a71,a72,a73,a74,a75,a76,a77,a78,a79,a80,Jd,a82,a83,a84,a85,a86,a87,Jw]:=rfl
theorem Dc {a0 a1 a2 a3 a4 a5 a6 a7 a8 a9 a10 a11 a12 Az Ba Bf a16 a17 Bl Bq a20 a21 a22 a23 a24 a25 a26 a27 a28 a29 a30 a31 a32 a33 a34 a35 a36 a37 a38 a39 a40 a41 a42 a43 a44 a45 a46 a47 a48 a49 a50 a51 a52 a53 a54 a55 a56 a57 a58 a59 a60 a61 a62 a63 a64 a65 a66 a67 a68 a69 a70 a71 a72 a73 a74 a75 a76 a77 a78 a79 a80 Jd a82 a83 a84 a85 a86 a87 Jw a89 Lr a91 a92 a93 Lp:Value}:Dz [a0,a1,a2,a3,a4,a5,a6,a7,a8,a9,a10,a11,a12,Az,Ba,Bf,a16,a17,Bl,Bq,a20,a21,a22,a23,a24,a25,a26,a27,a28,a29,a30,a31,a32,a33,a34,a35,a36,a37,a38,a39,a40,a41,a42,a43,a44,a45,a46,a47,a48,a49,a50,a51,a52,a53,a54,a55,a56,a57,a58,a59,a60,a61,a62,a63,a64,a65,a66,a67,a68,a69,a70,a71,a72,a73,a74,a75,a76,a77,a78,a79,a80,Jd,a82,a83,a84,a85,a86,a87,Jw,a89,Lr,a91,a92,a93,Lp]:=rfl
theorem Dp {a0 a1 a2 a3 a4 a5 a6 a7 a8 a9 a10 a11 a12 Az Ba Bf a16 a17 Bl Bq a20 a21 a22 a23 a24 a25 a26 a27 a28 a29 a30 a31 a32 a33 a34 a35 a36 a37 a38 a39 a40 a41 a42 a43 a44 a45 a46 a47 a48 a49 a50 a51 a52 a53 a54 a55 a56 a57 a58 a59 a60 a61 a62 a63 a64 a65 a66 a67 a68 a69 a70 a71 a72 a73 a74 a75 a76 a77 a78 a79 a80 Jd a82 a83 a84 a85 a86 a87 Jw a89 Lr a91 a92 a93 Lp Nw:Value}:Dz [a0,a1,a2,a3,a4,a5,a6,a7,a8,a9,a10,a11,a12,Az,Ba,Bf,a16,a17,Bl,Bq,a20,a21,a22,a23,a24,a25,a26,a27,a28,a29,a30,a31,a32,a33,a34,a35,a36,a37,a38,a39,a40,a41,a42,a43,a44,a45,a46,a47,a48,a49,a50,a51,a52,a53,a54,a55,a56,a57,a58,a59,a60,a61,a62,a63,a64,a65,a66,a67,a68,a69,a70,a71,a72,a73,a74,a75,a76,a77,a78,a79,a80,Jd,a82,a83,a84,a85,a86,a87,Jw,a89,Lr,a91,a92,a93,Lp,Nw]:=rfl
theorem Ci {a0 a1 a2 a3 a4 a5 a6 a7 a8 a9 a10 a11 a12 Az Ba Bf a16 a17 Bl Bq a20 a21 a22 a23 a24 a25 a26 a27 a28 a29 a30 a31 a32 a33 a34 a35 a36 a37 a38 a39 a40 a41 a42 a43 a44 a45 a46 a47 a48 a49 a50 a51 a52 a53 a54 a55 a56 a57 a58 a59 a60 a61 a62 a63 a64 a65 a66 a67 a68 a69 a70 a71 a72 a73 a74 a75 a76 a77 a78 a79 a80 Jd a82 a83 a84 a85 a86 a87 Jw a89 Lr a91 a92 a93 Lp Nw Pj Ph:Value}:Dz [a0,a1,a2,a3,a4,a5,a6,a7,a8,a9,a10,a11,a12,Az,Ba,Bf,a16,a17,Bl,Bq,a20,a21,a22,a23,a24,a25,a26,a27,a28,a29,a30,a31,a32,a33,a34,a35,a36,a37,a38,a39,a40,a41,a42,a43,a44,a45,a46,a47,a48,a49,a50,a51,a52,a53,a54,a55,a56,a57,a58,a59,a60,a61,a62,a63,a64,a65,a66,a67,a68,a69,a70,a71,a72,a73,a74,a75,a76,a77,a78,a79,a80,Jd,a82,a83,a84,a85,a86,a87,Jw,a89,Lr,a91,a92,a93,Lp,Nw,Pj,Ph]:=rfl
theorem Bv {a0 a1 a2 a3 a4 a5 a6 a7 a8 a9 a10 a11 a12 Az Ba Bf a16 a17 Bl Bq a20 a21 a22 a23 a24 a25 a26 a27 a28 a29 a30 a31 a32 a33 a34 a35 a36 a37 a38 a39 a40 a41 a42 a43 a44 a45 a46 a47 a48 a49 a50 a51 a52 a53 a54 a55 a56 a57 a58 a59 a60 a61 a62 a63 a64 a65 a66 a67 a68 a69 a70 a71 a72 a73 a74 a75 a76 a77 a78 a79 a80 Jd a82 a83 a84 a85 a86 a87 Jw a89 Lr a91 a92 a93 Lp Nw Pj Ph Qs Qr Iz Iy Iw Iu Ir:Value}:Dz [a0,a1,a2,a3,a4,a5,a6,a7,a8,a9,a10,a11,a12,Az,Ba,Bf,a16,a17,Bl,Bq,a20,a21,a22,a23,a24,a25,a26,a27,a28,a29,a30,a31,a32,a33,a34,a35,a36,a37,a38,a39,a40,a41,a42,a43,a44,a45,a46,a47,a48,a49,a50,a51,a52,a53,a54,a55,a56,a57,a58,a59,a60,a61,a62,a63,a64,a65,a66,a67,a68,a69,a70,a71,a72,a73,a74,a75,a76,a77,a78,a79,a80,Jd,a82,a83,a84,a85,a86,a87,Jw,a89,Lr,a91,a92,a93,Lp,Nw,Pj,Ph,Qs,Qr,Iz,Iy,Iw,Iu,Ir]:=rfl
theorem Au {a0 a1 a2 a3 a4 a5 a6 a7 a8 a9 a10 a11 a12 Az Ba Bf a16 a17 Bl Bq a20 a21 a22 a23 a24 a25 a26 a27 a28 a29 a30 a31 a32 a33 a34 a35 a36 a37 a38 a39 a40 a41 a42 a43 a44 a45 a46 a47 a48 a49 a50 a51 a52 a53 a54 a55 a56 a57 a58 a59 a60 a61 a62 a63 a64 a65 a66 a67 a68 a69 a70 a71 a72 a73 a74 a75 a76 a77 a78 a79 a80 Jd a82 a83 a84 a85 a86 a87 Jw a89 Lr a91 a92 a93 Lp Nw Pj Ph Qs Qr Iz Iy Iw Iu Ir a105 Js:Value}:Dz [a0,a1,a2,a3,a4,a5,a6,a7,a8,a9,a10,a11,a12,Az,Ba,Bf,a16,a17,Bl,Bq,a20,a21,a22,a23,a24,a25,a26,a27,a28,a29,a30,a31,a32,a33,a34,a35,a36,a37,a38,a39,a40,a41,a42,a43,a44,a45,a46,a47,a48,a49,a50,a51,a52,a53,a54,a55,a56,a57,a58,a59,a60,a61,a62,a63,a64,a65,a66,a67,a68,a69,a70,a71,a72,a73,a74,a75,a76,a77,a78,a79,a80,Jd,a82,a83,a84,a85,a86,a87,Jw,a89,Lr,a91,a92,a93,Lp,Nw,Pj,Ph,Qs,Qr,Iz,Iy,Iw,Iu,Ir,a105,Js]:=rfl
theorem e109 {a0 a1 a2 a3 a4 a5 a6 a7 a8 a9 a10 a11 a12 Az Ba Bf a16 a17 Bl Bq a20 a21 a22 a23 a24 a25 a26 a27 a28 a29 a30 a31 a32 a33 a34 a35 a36 a37 a38 a39 a40 a41 a42 a43 a44 a45 a46 a47 a48 a49 a50 a51 a52 a53 a54 a55 a56 a57 a58 a59 a60 a61 a62 a63 a64 a65 a66 a67 a68 a69 a70 a71 a72 a73 a74 a75 a76 a77 a78 a79 a80 Jd a82 a83 a84 a85 a86 a87 Jw a89 Lr a91 a92 a93 Lp Nw Pj Ph Qs Qr Iz Iy Iw Iu Ir a105 Js a107 Ls:Value}:Dz [a0,a1,a2,a3,a4,a5,a6,a7,a8,a9,a10,a11,a12,Az,Ba,Bf,a16,a17,Bl,Bq,a20,a21,a22,a23,a24,a25,a26,a27,a28,a29,a30,a31,a32,a33,a34,a35,a36,a37,a38,a39,a40,a41,a42,a43,a44,a45,a46,a47,a48,a49,a50,a51,a52,a53,a54,a55,a56,a57,a58,a59,a60,a61,a62,a63,a64,a65,a66,a67,a68,a69,a70,a71,a72,a73,a74,a75,a76,a77,a78,a79,a80,Jd,a82,a83,a84,a85,a86,a87,Jw,a89,Lr,a91,a92,a93,Lp,Nw,Pj,Ph,Qs,Qr,Iz,Iy,Iw,Iu,Ir,a105,Js,a107,Ls]:=rfl
theorem e115 {a0 a1 a2 a3 a4 a5 a6 a7 a8 a9 a10 a11 a12 Az Ba Bf a16 a17 Bl Bq a20 a21 a22 a23 a24 a25 a26 a27 a28 a29 a30 a31 a32 a33 a34 a35 a36 a37 a38 a39 a40 a41 a42 a43 a44 a45 a46 a47 a48 a49 a50 a51 a52 a53 a54 a55 a56 a57 a58 a59 a60 a61 a62 a63 a64 a65 a66 a67 a68 a69 a70 a71 a72 a73 a74 a75 a76 a77 a78 a79 a80 Jd a82 a83 a84 a85 a86 a87 Jw a89 Lr a91 a92 a93 Lp Nw Pj Ph Qs Qr Iz Iy Iw Iu Ir a105 Js a107 Ls a109 Pv Pq Po Pn Pm:Value}:Dz [a0,a1,a2,a3,a4,a5,a6,a7,a8,a9,a10,a11,a12,Az,Ba,Bf,a16,a17,Bl,Bq,a20,a21,a22,a23,a24,a25,a26,a27,a28,a29,a30,a31,a32,a33,a34,a35,a36,a37,a38,a39,a40,a41,a42,a43,a44,a45,a46,a47,a48,a49,a50,a51,a52,a53,a54,a55,a56,a57,a58,a59,a60,a61,a62,a63,a64,a65,a66,a67,a68,a69,a70,a71,a72,a73,a74,a75,a76,a77,a78,a79,a80,Jd,a82,a83,a84,a85,a86,a87,Jw,a89,Lr,a91,a92,a93,Lp,Nw,Pj,Ph,Qs,Qr,Iz,Iy,Iw,Iu,Ir,a105,Js,a107,Ls,a109,Pv,Pq,Po,Pn,Pm]:=rfl
theorem Ap {a0 a1 a2 a3 a4 a5 a6 a7 a8 a9 a10 a11 a12 Az Ba Bf a16 a17 Bl Bq a20 a21 a22 a23 a24 a25 a26 a27 a28 a29 a30 a31 a32 a33 a34 a35 a36 a37 a38 a39 a40 a41 a42 a43 a44 a45 a46 a47 a48 a49 a50 a51 a52 a53 a54 a55 a56 a57 a58 a59 a60 a61 a62 a63 a64 a65 a66 a67 a68 a69 a70 a71 a72 a73 a74 a75 a76 a77 a78 a79 a80 Jd a82 a83 a84 a85 a86 a87 Jw a89 Lr a91 a92 a93 Lp Nw Pj Ph Qs Qr Iz Iy Iw Iu Ir a105 Js a107 Ls a109 Pv Pq Po Pn Pm Uu a116 a117 Ut a119 Us Ur:Value}:Dz [a0,a1,a2,a3,a4,a5,a6,a7,a8,a9,a10,a11,a12,Az,Ba,Bf,a16,a17,Bl,Bq,a20,a21,a22,a23,a24,a25,a26,a27,a28,a29,a30,a31,a32,a33,a34,a35,a36,a37,a38,a39,a40,a41,a42,a43,a44,a45,a46,a47,a48,a49,a50,a51,a52,a53,a54,a55,a56,a57,a58,a59,a60,a61,a62,a63,a64,a65,a66,a67,a68,a69,a70,a71,a72,a73,a74,a75,a76,a77,a78,a79,a80,Jd,a82,a83,a84,a85,a86,a87,Jw,a89,Lr,a91,a92,a93,Lp,Nw,Pj,Ph,Qs,Qr,Iz,Iy,Iw,Iu,Ir,a105,Js,a107,Ls,a109,Pv,Pq,Po,Pn,Pm,Uu,a116,a117,Ut,a119,Us,Ur]:=rfl
theorem e128 {a0 a1 a2 a3 a4 a5 a6 a7 a8 a9 a10 a11 a12 Az Ba Bf a16 a17 Bl Bq a20 a21 a22 a23 a24 a25 a26 a27 a28 a29 a30 a31 a32 a33 a34 a35 a36 a37 a38 a39 a40 a41 a42 a43 a44 a45 a46 a47 a48 a49 a50 a51 a52 a53 a54 a55 a56 a57 a58 a59 a60 a61 a62 a63 a64 a65 a66 a67 a68 a69 a70 a71 a72 a73 a74 a75 a76 a77 a78 a79 a80 Jd a82 a83 a84 a85 a86 a87 Jw a89 Lr a91 a92 a93 Lp Nw Pj Ph Qs Qr Iz Iy Iw Iu Ir a105 Js a107 Ls a109 Pv Pq Po Pn Pm Uu a116 a117 Ut a119 Us Ur YL YK a124 YJ YI a127:Value}:Dz [a0,a1,a2,a3,a4,a5,a6,a7,a8,a9,a10,a11,a12,Az,Ba,Bf,a16,a17,Bl,Bq,a20,a21,a22,a23,a24,a25,a26,a27,a28,a29,a30,a31,a32,a33,a34,a35,a36,a37,a38,a39,a40,a41,a42,a43,a44,a45,a46,a47,a48,a49,a50,a51,a52,a53,a54,a55,a56,a57,a58,a59,a60,a61,a62,a63,a64,a65,a66,a67,a68,a69,a70,a71,a72,a73,a74,a75,a76,a77,a78,a79,a80,Jd,a82,a83,a84,a85,a86,a87,Jw,a89,Lr,a91,a92,a93,Lp,Nw,Pj,Ph,Qs,Qr,Iz,Iy,Iw,Iu,Ir,a105,Js,a107,Ls,a109,Pv,Pq,Po,Pn,Pm,Uu,a116,a117,Ut,a119,Us,Ur,YL,YK,a124,YJ,YI,a127]:=rfl
theorem Bj {a0 a1 a2 a3 a4 a5 a6 a7 a8 a9 a10 a11 a12 Az Ba Bf a16 a17 Bl Bq a20 a21 a22 a23 a24 a25 a26 a27 a28 a29 a30 a31 a32 a33 a34 a35 a36 a37 a38 a39 a40 a41 a42 a43 a44 a45 a46 a47 a48 a49 a50 a51 a52 a53 a54 a55 a56 a57 a58 a59 a60 a61 a62 a63 a64 a65 a66 a67 a68 a69 a70 a71 a72 a73 a74 a75 a76 a77 a78 a79 a80 Jd a82 a83 a84 a85 a86 a87 Jw a89 Lr a91 a92 a93 Lp Nw Pj Ph Qs Qr Iz Iy Iw Iu Ir a105 Js a107 Ls a109 Pv Pq Po Pn Pm Uu a116 a117 Ut a119 Us Ur YL YK a124 YJ YI a127 a128 a129 a130 a131 a132 a133 a134 a135 a136 a137 a138 a139:Value}:Dz [a0,a1,a2,a3,a4,a5,a6,a7,a8,a9,a10,a11,a12,Az,Ba,Bf,a16,a17,Bl,Bq,a20,a21,a22,a23,a24,a25,a26,a27,a28,a29,a30,a31,a32,a33,a34,a35,a36,a37,a38,a39,a40,a41,a42,a43,a44,a45,a46,a47,a48,a49,a50,a51,a52,a53,a54,a55,a56,a57,a58,a59,a60,a61,a62,a63,a64,a65,a66,a67,a68,a69,a70,a71,a72,a73,a74,a75,a76,a77,a78,a79,a80,Jd,a82,a83,a84,a85,a86,a87,Jw,a89,Lr,a91,a92,a93,Lp,Nw,Pj,Ph,Qs,Qr,Iz,Iy,Iw,Iu,Ir,a105,Js,a107,Ls,a109,Pv,Pq,Po,Pn,Pm,Uu,a116,a117,Ut,a119,Us,Ur,YL,YK,a124,YJ,YI,a127,a128,a129,a130,a131,a132,a133,a134,a135,a136,a137,a138,a139]:=rfl
end Go.Proofs.YtjoeklkmnfaabaaGreat
namespace Go.Proofs.YtjoeklkmnfaabaaGreat
open Go Go.RowKit
set_option linter.unusedVariables false
set_option linter.unusedSimpArgs false
abbrev rH :=List PanicEntry
def rV (P:Program) (f:FuncId) (args:Array Value) (w:World) (R:Value→World→Prop) (RP:rH→World→Prop):Prop:=
 Calls P f args w fun e w'=>match e with | .returned v=>R v w' | .panicked ch=>RP ch w' | .outgrown=>False
theorem rV.d {P:Program} {f:FuncId} {args:Array Value} {w:World} {R:Value→World→Prop} {RP:rH→World→Prop} (h:rV P f args w R RP) (hp:∀ ch w',¬RP ch w'):zP P f args w R:=by
 refine Calls.mono h fun e w' hh=>?_
 cases e with
 | returned v=>exact⟨v,rfl,hh⟩
 | panicked ch=>exact absurd hh (hp _ _)
 | outgrown=>exact hh.elim
theorem rV.mono {P:Program} {f:FuncId} {args:Array Value} {w:World} {R R':Value→World→Prop} {RP RP':rH→World→Prop} (h:rV P f args w R RP) (hr:∀ v w',R v w'→R' v w') (hp:∀ ch w',RP ch w'→RP' ch w'):rV P f args w R' RP':=by
 refine Calls.mono h fun e w' hh=>?_
 cases e with
 | returned v=>exact hr _ _ hh
 | panicked ch=>exact hp _ _ hh
 | outgrown=>exact hh
section ops
variable {P:Program} {ds:List Deferred} {Q:vN} {K:List Value→World→Prop} {all os:List Oper} {l:List Value} {w w':World} {op:Op} {ty:TypeId} {pos:String} {af:Array Edge} {d:Tmp} {v:Value}
theorem rC {f:FuncId} {args:Array Value} {R:Value→World→Prop} {RP:rH→World→Prop} (hx:Ex P l op ty w (.enter f args) w) (hc:rV P f args w R RP) (hp:∀ ch w',RP ch w'→Q (.panic ch) l w')
 (h:∀ v w',R v w'→Ops P ds all K Q os (l.set d v) w'):Ops P ds all K Q (⟨some d,op,ty,pos,af,none⟩::os) l w:=by
 refine wpList_plain Y fun K' hK=>?_
 unfold Oper.wp
 rw[tU,hx,Oper.upon_enter]
 refine Calls.mono hc ?_
 intro e w2 hR
 cases e with
 | returned v=>refine hK _ _ ?_;rw[tF];exact h v w2 hR
 | panicked ch=>exact⟨rfl,hp ch w2 hR⟩
 | outgrown=>exact hR.elim
end ops
def FR (ro:Option Nat):Fence:={ fn:=fun _=>True,depth:=none,alive:=false,round:=ro }
section conv
variable {ro:Option Nat} {n:Nat} {P:Program}
theorem V9 {f:FuncId} {args:Array Value} {w:World} {R:Ending→World→Prop} (h:Calls P f args w R):CallsIn (FR ro) n P f args w R:=(callsIn_wide (n:=n)).2 h
theorem Ye {row:String} {args:Array Value} {w:World} {R:Value→World→Prop} (h:Rows P row args w R):RowsIn (FR ro) n P row args w R:=
 fun c cs _=>let ⟨v,w',r,s⟩:=h c cs;⟨v,w',r,(stepsIn_wide.2 s:StepsIn (Machine.fenced P Fence.wide) P _ _)⟩
def sN (o:Oper):Bool:=match o.op with | .defer _=>false | _=>true
theorem FT {o:Oper} (h:sN o=true):∀ c,o.op≠ .defer c:=by
 intro c hc
 simp[sN,hc]at h
theorem Yb {o:Oper} {a:Act} {next:Act→World→Prop} {Q:Exit→Act→World→Prop} {r:Result Next} (h:o.upon P a next Q r):o.uponIn (FR ro) n P a next Q r:=by
 cases r with
 | ok x w'=>
  cases x <;>first
   | exact h
   | exact h.elim
   | exact⟨fun hd=>(by cases hd),V9 h⟩
   | exact⟨fun hd=>(by cases hd),Ye h⟩
 | halt x w'=>cases x <;>first | exact h | exact h.elim
theorem wpR {o:Oper} {a:Act} {w:World} {next:Act→World→Prop} {Q:Exit→Act→World→Prop} (hd:sN o=true) (h:o.wp P a w next Q):o.wpIn (FR ro) n P a w next Q:=by
 refine⟨fun _ _=>trivial,?_⟩
 rw[Oper.semAt_eq _ _ _ (FT hd)]
 exact Yb h
theorem eM {ops:Array Oper} {Q Q':Exit→Act→World→Prop} (hq:∀ a w,¬Q .outgrown a w) (hqq:∀ e a w,e≠ .normal→Q e a w→Q' e a w):∀ (os rest:List Oper) (a:Act) (w:World),os.all sN=true→
 wpList P ops (Exit.then (wpListIn (FR ro) n P ops Q' rest) Q) os a w→wpListIn (FR ro) n P ops Q' (os++rest) a w
 | [],rest,a,w,_,h=>h
 | o::os,rest,a,w,hd,h=>by
  rw[List.all_cons,Bool.and_eq_true]at hd
  have ih:=eM (ops:=ops) hq hqq os rest
  unfold wpList at h
  show wpListIn (FR ro) n P ops Q' (o::(os++rest)) a w
  unfold wpListIn
  split
  · rename_i hw
    rw[if_pos hw]at h
    rcases h with h | ⟨_,a1,w1,h2⟩
    · have h3:=wpR (ro:=ro) (n:=n) hd.1 h
      refine⟨h3.1,?_⟩
      have h4:=h3.2
      generalize (o.semAt (FR ro).round a.eval).run P w=r at h4 ⊢
      cases r with
      | ok x w'=>
       cases x <;>first
        | exact ih _ _ hd.2 h4
        | exact h4
        | exact⟨h4.1,CallsIn.mono h4.2 (fun e w'' he=>by
         cases e with
         | returned v=>exact ih _ _ hd.2 he
         | panicked ch=>exact hqq _ _ _ (by simp) he
         | outgrown=>exact absurd he.choose_spec.choose_spec (hq _ _))⟩
        | exact⟨h4.1,RowsIn.mono h4.2 (fun v w'' he=>ih _ _ hd.2 he)⟩
        | exact⟨h4.1,RoundIn.mono h4.2 (fun e w'' he=>by
         cases e with
         | returned v=>exact ih _ _ hd.2 he
         | panicked ch=>exact hqq _ _ _ (by simp) he
         | outgrown=>exact absurd he.choose_spec.choose_spec (hq _ _))⟩
      | halt x w'=>cases x <;>first | exact hqq _ _ _ (by simp) h4 | exact h4
    · exact absurd h2 (hq _ _)
  · rename_i hw
    rw[if_neg hw]at h
    exact⟨fun _ _=>trivial,ih _ _ hd.2 h⟩
end conv
theorem rK {P:Program} {ops:Array Oper} {K1 K2:Act→World→Prop} {Q:Exit→Act→World→Prop} (hK:∀ a w,K1 a w→K2 a w):∀ (os:List Oper) (a:Act) (w:World),wpList P ops (Exit.then K1 Q) os a w→wpList P ops (Exit.then K2 Q) os a w
 | [],a,w,h=>hK _ _ h
 | o::os,a,w,h=>by
  unfold wpList at h ⊢
  split
  · rename_i hw
    rw[if_pos hw]at h
    rcases h with h | ⟨h1,a1,w1,h2⟩
    · exact .inl (Oper.wp_mono (fun a w h=>rK hK os a w h) (mP (fun e a w he h=>by cases e <;>first | exact absurd Y he | exact h) h))
    · exact .inr ⟨h1,a1,w1,h2⟩
  · rename_i hw
    rw[if_neg hw]at h
    exact rK hK os _ _ h
abbrev rS :=Exit→List Deferred→List Value→World→Prop
def Ja (f:FuncId) (ro:Option Nat) (P:Program) (c:Code) (Q:Exit→Act→World→Prop) (a:Act) (w:World):Prop:=
 ∀ (b:Frame) (k:List Item) (cs:List Frame),b.roundOf=ro→b.fn=f→
  ∃ e a' w',Q e a' w'∧ArrivesIn (Machine.fenced P Fence.wide) P (lone (b.atR a (.code c::k)) cs w) b k cs e a' w'
section rules
variable {f:FuncId} {ro:Option Nat} {P:Program} {Q:Exit→Act→World→Prop} {a:Act} {w:World}
theorem GV (ro:Option Nat) (n:Nat):(FR ro).room n:=fun _ h=>(by cases h)
theorem mQ {c:Code} (h:c.wpIn (FR ro) 0 P Q a w):Ja f ro P c Q a w:=fun b k cs hro _=>h b k cs hro trivial (GV _ _)
theorem qG {c:Code} {Q':Exit→Act→World→Prop} (h:Ja f ro P c Q a w) (hq:∀ e a w,Q e a w→Q' e a w):Ja f ro P c Q' a w:=
 fun b k cs hro hb=>let ⟨e,a',w',q,r⟩:=h b k cs hro hb;⟨e,a',w',hq _ _ _ q,r⟩
theorem LK (h:Q .normal a w):Ja f ro P .skip Q a w:=mQ (wpIn_skip h)
theorem LM {id:Nat} (h:Q (.exit id) a w):Ja f ro P (.exit id) Q a w:=mQ (wpIn_exit h)
theorem QE (h:Q .ret a w):Ja f ro P .ret Q a w:=mQ (wpIn_ret h)
theorem QD {x y:Code} (h:Ja f ro P x (Exit.then (Ja f ro P y Q) Q) a w):Ja f ro P (.seq x y) Q a w:=by
 intro b k cs hro hb
 have h0:∀ m,Machine.fenced P Fence.wide m:=fenced_wide P
 obtain⟨e,a₁,w₁,hq,harr⟩:=h b (.code y::k) cs hro hb
 cases e with
 | normal=>
  obtain⟨e₂,a₂,w₂,hq₂,harr₂⟩:=hq b k cs hro hb
  exact⟨e₂,a₂,w₂,hq₂,.of_steps (.head (h0 _) stepR_seq harr) harr₂⟩
 | exit id=>exact⟨_,a₁,w₁,hq,.of_steps (.one (h0 _) stepR_seq) (.pass (x:=.code y) rfl (fun _ _=> .inl (by simp)) harr)⟩
 | goto l=>exact⟨_,a₁,w₁,hq,.of_steps (.one (h0 _) stepR_seq) (.pass (x:=.code y) rfl (fun _ _=> .inl (by simp)) harr)⟩
 | ret=>exact⟨_,a₁,w₁,hq,.of_steps (.one (h0 _) stepR_seq) (.pass (x:=.code y) rfl (fun _ _=> .inl (by simp)) harr)⟩
 | panic ch=>exact⟨_,a₁,w₁,hq,.of_steps (.one (h0 _) stepR_seq) (.pass (x:=.code y) rfl (fun _ _=> .inl (by simp)) harr)⟩
 | outgrown=>exact⟨_,a₁,w₁,hq,.of_steps (.one (h0 _) stepR_seq) (.pass (x:=.code y) rfl (fun _ _=> .inl (by simp)) harr)⟩
theorem CF {c:Operand} {x y:Code} {t:Bool} (hc:a.eval c=.bool t) (h:Ja f ro P (if t then x else y) Q a w):Ja f ro P (.cond c x y) Q a w:=
 fun b k cs hro hb=>let ⟨e,a',w',q,r⟩:=h b k cs hro hb;⟨e,a',w',q,.of_steps (.one (fenced_wide P _) (stepR_cond hc)) r⟩
theorem bO {c:Operand} {x y:Code} (hc:a.eval c=.bool true) (h:Ja f ro P x Q a w):Ja f ro P (.cond c x y) Q a w:=CF hc h
theorem dG {c:Operand} {x y:Code} (hc:a.eval c=.bool false) (h:Ja f ro P y Q a w):Ja f ro P (.cond c x y) Q a w:=CF hc h
theorem JE {id:Nat} {c:Code} (h:Ja f ro P c (Exit.inBlock id Q) a w):Ja f ro P (.block id c) Q a w:=by
 intro b k cs hro hb
 have h0:∀ m,Machine.fenced P Fence.wide m:=fenced_wide P
 obtain⟨e,a₁,w₁,hq,harr⟩:=h b (.inBlock id::k) cs hro hb
 cases e with
 | normal=>exact⟨.normal,a₁,w₁,hq,.head (h0 _) stepR_block (StepsIn.trans harr (.one (h0 _) stepR_inBlock))⟩
 | exit id'=>
  by_cases hid:id'=id
  · simp only[Exit.inBlock,hid,if_true]at hq
    exact⟨.normal,a₁,w₁,hq,.head (h0 _) stepR_block (harr.1 k (by simp[exitTo,hid]))⟩
  · simp only[Exit.inBlock,hid,if_false]at hq
    have this:(id==id')=false:=by simp;exact fun h=>hid h.symm
    have hx:exitTo id' (.inBlock id::k)=exitTo id' k:=by simp[exitTo,this]
    exact⟨.exit id',a₁,w₁,hq,fun k' hk=> .head (h0 _) stepR_block (harr.1 k' (by rw[hx];exact hk)),
     fun hr' hk=>let ⟨k₁,h1,h2⟩:=harr.2 hr' (by rw[hx];exact hk);⟨k₁,h1,.head (h0 _) stepR_block h2⟩⟩
 | goto l=>
  have hx:gotoIn l (.inBlock id::k)=gotoIn l k:=by simp[gotoIn]
  exact⟨_,a₁,w₁,hq,fun k' hk=> .head (h0 _) stepR_block (harr.1 k' (by rw[hx];exact hk)),
   fun hr' hk=>let ⟨k₁,h1,h2⟩:=harr.2 hr' (by rw[hx];exact hk);⟨k₁,h1,.head (h0 _) stepR_block h2⟩⟩
 | ret=>exact⟨_,a₁,w₁,hq,.of_steps (.one (h0 _) stepR_block) harr⟩
 | panic ch=>exact⟨_,a₁,w₁,hq,.of_steps (.one (h0 _) stepR_block) harr⟩
 | outgrown=>exact⟨_,a₁,w₁,hq,.of_steps (.one (h0 _) stepR_block) harr⟩
theorem LL {c:Code} (I:Act→World→Prop) (μ:Act→World→Nat) (h₀:I a w)
 (round:∀ a w,I a w→Ja f ro P c (Exit.then (fun a' w'=>I a' w'∧μ a' w' < μ a w) Q) a w):Ja f ro P (.loop c) Q a w:=by
 intro b k cs hro hb
 have hw:∀ m,Machine.fenced P Fence.wide m:=fenced_wide P
 have key:∀ j a w,μ a w=j→I a w→
  ∃ e a' w',Q e a' w'∧ArrivesIn (Machine.fenced P Fence.wide) P (lone (b.atR a (.code c:: .inLoop c::k)) cs w) b k cs e a' w':=by
  intro j
  induction j using Nat.strongRecOn with
  | _ j ih=>
   intro a w hn hI
   obtain⟨e,a₁,w₁,hq,harr⟩:=round a w hI b (.inLoop c::k) cs hro hb
   cases e with
   | normal=>
    obtain⟨hI₁,hlt⟩:=hq
    obtain⟨e₂,a₂,w₂,hq₂,harr₂⟩:=ih (μ a₁ w₁) (hn▸hlt) a₁ w₁ rfl hI₁
    exact⟨e₂,a₂,w₂,hq₂,.of_steps (StepsIn.trans harr (.one (hw _) stepR_inLoop)) harr₂⟩
   | exit id=>exact⟨_,a₁,w₁,hq,.pass (x:=.inLoop c) rfl (fun _ _=> .inl (by simp)) harr⟩
   | goto l=>exact⟨_,a₁,w₁,hq,.pass (x:=.inLoop c) rfl (fun _ _=> .inl (by simp)) harr⟩
   | ret=>exact⟨_,a₁,w₁,hq,.pass (x:=.inLoop c) rfl (fun _ _=> .inl (by simp)) harr⟩
   | panic ch=>exact⟨_,a₁,w₁,hq,.pass (x:=.inLoop c) rfl (fun _ _=> .inl (by simp)) harr⟩
   | outgrown=>exact⟨_,a₁,w₁,hq,.pass (x:=.inLoop c) rfl (fun _ _=> .inl (by simp)) harr⟩
 obtain⟨e,a',w',hq,harr⟩:=key _ a w rfl h₀
 exact⟨e,a',w',hq,.of_steps (.one (hw _) stepR_loop) harr⟩
end rules
namespace Rn
def Cd {f:FuncId} {ro:Option Nat} (P:Program) (ds:List Deferred) (c:Code) (Q:rS) (l:List Value) (w:World):Prop:=
 Ja f ro P c (fun e a w'=>Q e a.defers a.tmps.toList w') ⟨l.toArray,ds⟩ w
def uQ (K:List Deferred→List Value→World→Prop) (Q:rS):rS
 | .normal,ds,l,w=>K ds l w
 | e,ds,l,w=>Q e ds l w
def jA (f:FuncId) (ro:Option Nat) (P:Program):List Code→rS→List Deferred→List Value→World→Prop
 | [],Q=>Q .normal
 | c::cs,Q=>fun ds l w=>Cd (f:=f) (ro:=ro) P ds c (uQ (jA f ro P cs Q) Q) l w
def Run {f:FuncId} {ro:Option Nat} (P:Program) (ds:List Deferred) (cs:List Code) (Q:rS) (l:List Value) (w:World):Prop:=jA f ro P cs Q ds l w
section code
variable {f:FuncId} {ro:Option Nat} {P:Program} {ds:List Deferred} {Q:rS} {l:List Value} {w:World} {x y:Code} {cs:List Code}
theorem zA (h:Q .normal ds l w):Run (f:=f) (ro:=ro) P ds [] Q l w:=h
theorem zN (h:Run (f:=f) (ro:=ro) P ds (x::y::cs) Q l w):Run (f:=f) (ro:=ro) P ds (.seq x y::cs) Q l w:=by
 refine QD (qG h ?_)
 rintro e ⟨t,d⟩ w' h2
 cases e with
 | normal=>exact qG h2 (fun e a w h=>by cases e <;>exact h)
 | _=>exact h2
theorem xH (h:Run (f:=f) (ro:=ro) P ds cs Q l w):Run (f:=f) (ro:=ro) P ds (.skip::cs) Q l w:=LK h
theorem wF (h:Q .ret ds l w):Run (f:=f) (ro:=ro) P ds (.ret::cs) Q l w:=QE h
theorem tD {n:Nat} (h:Q (.exit n) ds l w):Run (f:=f) (ro:=ro) P ds (.exit n::cs) Q l w:=LM h
theorem yL {c:Operand} (hc:ev l c=some (.bool true)) (h:Run (f:=f) (ro:=ro) P ds (x::cs) Q l w):Run (f:=f) (ro:=ro) P ds (.cond c x y::cs) Q l w:=
 bO (kV hc) h
theorem zW {c:Operand} (hc:ev l c=some (.bool false)) (h:Run (f:=f) (ro:=ro) P ds (y::cs) Q l w):Run (f:=f) (ro:=ro) P ds (.cond c x y::cs) Q l w:=
 dG (kV hc) h
theorem wU {c:Operand} {b:Bool} (hc:ev l c=some (.bool b)) (h1:b=true→Run (f:=f) (ro:=ro) P ds (x::cs) Q l w) (h2:b=false→Run (f:=f) (ro:=ro) P ds (y::cs) Q l w):Run (f:=f) (ro:=ro) P ds (.cond c x y::cs) Q l w:=by
 cases b
 · exact zW hc (h2 Y)
 · exact yL hc (h1 Y)
def iB (n:Nat) (K:List Deferred→List Value→World→Prop) (Q:rS):rS
 | .normal,ds,l,w=>K ds l w
 | .exit i,ds,l,w=>if i=n then K ds l w else Q (.exit i) ds l w
 | e,ds,l,w=>Q e ds l w
theorem wH {n:Nat} (h:Run (f:=f) (ro:=ro) P ds [x] (iB n (fun ds l w=>Run (f:=f) (ro:=ro) P ds cs Q l w) Q) l w):Run (f:=f) (ro:=ro) P ds (.block n x::cs) Q l w:=by
 refine JE (qG h ?_)
 rintro e a w' h2
 cases e with
 | exit i=>
  simp only[Exit.inBlock]
  simp only[uQ,iB]at h2
  split
  · rename_i hi;rw[if_pos hi]at h2;exact h2
  · rename_i hi;rw[if_neg hi]at h2;exact h2
 | _=>exact h2
theorem zB {n:Nat} {K:List Deferred→List Value→World→Prop} (h:K ds l w):iB n K Q .normal ds l w:=h
theorem zS {n:Nat} {K:List Deferred→List Value→World→Prop} (h:K ds l w):iB n K Q (.exit n) ds l w:=by simpa[iB]using h
theorem vG {n:Nat} {K:List Deferred→List Value→World→Prop} (h:Q .ret ds l w):iB n K Q .ret ds l w:=h
def A7 (K:List Deferred→List Value→World→Prop) (Q:rS):rS
 | .normal,ds,l,w=>K ds l w
 | e,ds,l,w=>Q e ds l w
theorem zI {K:List Deferred→List Value→World→Prop} (h:K ds l w):A7 K Q .normal ds l w:=h
theorem zT {n:Nat} {K:List Deferred→List Value→World→Prop} (h:Q (.exit n) ds l w):A7 K Q (.exit n) ds l w:=h
theorem yR {K:List Deferred→List Value→World→Prop} (h:Q .ret ds l w):A7 K Q .ret ds l w:=h
theorem zU (I:Nat→List Value→World→Prop) (n₀:Nat) (h₀:I n₀ l w)
 (round:∀ n l w,I n l w→Run (f:=f) (ro:=ro) P ds [x] (A7 (fun d' l' w'=>d'=ds∧∃ n',n' < n∧I n' l' w') Q) l w):Run (f:=f) (ro:=ro) P ds (.loop x::cs) Q l w:=by
 show Ja _ _ _ _ _ _ _
 have hi:∀ (a:Act) w,(∃ n,a.defers=ds∧I n a.tmps.toList w)→a.defers=ds∧I (leastOf fun n=>a.defers=ds∧I n a.tmps.toList w) a.tmps.toList w:=fun a w h=>(leastOf_spec h).1
 refine LL (fun a w=>∃ n,a.defers=ds∧I n a.tmps.toList w) (fun a w=>leastOf fun n=>a.defers=ds∧I n a.tmps.toList w) ⟨n₀,Y,h₀⟩ ?_
 rintro⟨t,d⟩ w' hI
 obtain⟨hd,h1⟩:=hi _ _ hI
 simp only at hd
 subst hd
 refine qG (round _ _ _ h1) ?_
 rintro e a w2 h2
 cases e with
 | normal=>
  obtain⟨hd,n',hn,hI'⟩:=h2
  exact⟨⟨n',hd,hI'⟩,Nat.lt_of_le_of_lt ((leastOf_spec (p:=fun n=>a.defers=d∧I n a.tmps.toList w2) ⟨n',hd,hI'⟩).2 n' ⟨hd,hI'⟩) hn⟩
 | _=>exact h2
abbrev QO (Q:rS) (ds:List Deferred):vN:=fun e l w=>Q e ds l w
theorem zJ {n:Nat} {os:List Oper} (hd:os.all sN=true) (hq:∀ l w,¬Q .outgrown ds l w) (h:Ops P ds os (fun l w=>Run (f:=f) (ro:=ro) P ds cs Q l w) (QO Q ds) os l w):Run (f:=f) (ro:=ro) P ds (.region n os.toArray false::cs) Q l w:=by
 refine mQ (wpIn_region_lit ?_)
 have:=eM (ro:=ro) (n:=0) (P:=P) (ops:=os.toArray) (Q:=fun e a w'=>a.defers=ds∧QO Q ds e a.tmps.toList w') (Q':=fun e a w'=>uQ (jA f ro P cs Q) Q e a.defers a.tmps.toList w')
  (fun a w h=>hq _ _ h.2) (fun e a w he h=>by cases e <;>first | exact absurd rfl he | (obtain⟨h1,h2⟩:=h;rw[h1];exact h2)) os [] ⟨l.toArray,ds⟩ w hd ?_
 · simpa using this
 · unfold Ops at h
   refine(show ∀ (os':List Oper) (a:Act) (w:World),wpList P os.toArray (Exit.then (fun a w'=>a.defers=ds∧Run (f:=f) (ro:=ro) P ds cs Q a.tmps.toList w') (fun e a w'=>a.defers=ds∧QO Q ds e a.tmps.toList w')) os' a w→wpList P os.toArray (Exit.then (wpListIn (FR ro) 0 P os.toArray (fun e a w'=>uQ (jA f ro P cs Q) Q e a.defers a.tmps.toList w') []) (fun e a w'=>a.defers=ds∧QO Q ds e a.tmps.toList w')) os' a w from ?_) os _ _ h
   intro os' a w h
   refine rK ?_ _ _ _ h
   rintro a w ⟨hd,h2⟩
   show jA f ro P cs Q a.defers a.tmps.toList w
   rw[hd]
   exact h2
end code
end Rn
end Go.Proofs.YtjoeklkmnfaabaaGreat
