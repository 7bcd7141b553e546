/-
  Parts of the walk, one behind the other.
-/
import Derived.Test.YtjoeklkmnfaabaaGreatRows
import Derived.WalkKit
import Derived.Deep.LoopGhost
import Derived.Deep.WholeRow
import Derived.StillTail
import Derived.OrdersHeld
import Derived.Laws.CopyRow
import Derived.Laws.StructEq
import Derived.Laws.ResultCell
import Derived.Lib.AppendZerosOnto
import Derived.Lib.Overlaps
import Derived.Lib.Bytealg
import Derived.MapKept
import Derived.Laws.Externs
import Derived.RangeFuncRecord
import Derived.OrdersIn
import Derived.TacticsIn
import Derived.Recover
namespace Go.Proofs.YtjoeklkmnfaabaaGreat
open Go Go.RowKit
set_option linter.unusedVariables false
set_option linter.unusedSimpArgs false
theorem Y {α : Sort _} {a : α} : a = a := rfl
theorem Ai:type_of% @Nat.le_refl:=@Nat.le_refl
theorem Dw:type_of% @Array.getElem?_eq_some_iff:=@Array.getElem?_eq_some_iff
theorem Ea:type_of% @List.getElem?_eq_some_iff:=@List.getElem?_eq_some_iff
theorem Jg:type_of% @Nat.lt_or_ge:=@Nat.lt_or_ge
theorem Di:type_of% @List.getElem?_append_left:=@List.getElem?_append_left
theorem Ef:type_of% @List.getElem?_append_right:=@List.getElem?_append_right
theorem Oy:type_of% @List.getElem?_map:=@List.getElem?_map
theorem Hy:type_of% @Option.map_some:=@Option.map_some
theorem Dz:type_of% @List.getD_eq_getElem?_getD:=@List.getD_eq_getElem?_getD
theorem Qk:type_of% @List.pairwise_iff_getElem:=@List.pairwise_iff_getElem
theorem Kt:type_of% @List.getElem?_set:=@List.getElem?_set
theorem Ci:type_of% @Nat.le_trans:=@Nat.le_trans
theorem Ir:type_of% @World.block_lt_of_cell?:=@World.block_lt_of_cell?
theorem Ed:type_of% @List.length_nil:=@List.length_nil
theorem Ll:type_of% @Addr.add_lit:=@Addr.add_lit
theorem Au:type_of% @Nat.zero_add:=@Nat.zero_add
theorem Gf:type_of% @Nat.add_assoc:=@Nat.add_assoc
theorem Aw:type_of% @List.length_take:=@List.length_take
theorem Bh:type_of% @List.length_drop:=@List.length_drop
theorem Lj:type_of% @Nat.sub_mul:=@Nat.sub_mul
theorem Ii:type_of% @Nat.min_eq_left:=@Nat.min_eq_left
theorem Dp:type_of% @Nat.mul_le_mul_right:=@Nat.mul_le_mul_right
theorem Hw:type_of% @List.getElem?_take:=@List.getElem?_take
theorem Em:type_of% @List.getElem?_drop:=@List.getElem?_drop
theorem Gx:type_of% @List.getElem?_toArray:=@List.getElem?_toArray
theorem Ce:type_of% @Bool.and_eq_true:=@Bool.and_eq_true
theorem Kr:type_of% @Int.eq_ofNat_of_zero_le:=@Int.eq_ofNat_of_zero_le
theorem Iq:type_of% @Addr.add_zero':=@Addr.add_zero'
theorem Ew:type_of% @List.all_eq_true:=@List.all_eq_true
theorem Qb:type_of% @Array.setIfInBounds_comm:=@Array.setIfInBounds_comm
theorem Bg:type_of% @List.length_cons:=@List.length_cons
theorem Om:type_of% @Region.noSelect_spec:=@Region.noSelect_spec
theorem Ol:type_of% @Region.free_spec:=@Region.free_spec
theorem Kq:type_of% @Nat.add_comm:=@Nat.add_comm
theorem Ih:type_of% @List.nil_append:=@List.nil_append
theorem Je:type_of% @List.cons_append:=@List.cons_append
theorem Hu:type_of% @List.size_toArray:=@List.size_toArray
theorem Af:type_of% @List.length_append:=@List.length_append
theorem Hq:type_of% @Nat.add_sub_cancel_left:=@Nat.add_sub_cancel_left
theorem Eu:type_of% @List.take_append_drop:=@List.take_append_drop
theorem Oj:type_of% @List.take_append:=@List.take_append
theorem Ej:type_of% @List.take_of_length_le:=@List.take_of_length_le
theorem Gm:type_of% @List.drop_of_length_le:=@List.drop_of_length_le
theorem Fz:type_of% @List.drop_drop:=@List.drop_drop
theorem Ht:type_of% @Nat.add_zero:=@Nat.add_zero
theorem Ig:type_of% @Nat.mod_eq_of_lt:=@Nat.mod_eq_of_lt
theorem Jr:type_of% @Nat.eq_zero_or_pos:=@Nat.eq_zero_or_pos
theorem Gv:type_of% @Nat.mod_lt:=@Nat.mod_lt
theorem Bq:type_of% @List.getElem?_eq_getElem:=@List.getElem?_eq_getElem
theorem Bz:type_of% @Nat.mul_one:=@Nat.mul_one
theorem Du:type_of% @Nat.add_mul:=@Nat.add_mul
theorem Ec:type_of% @List.eq_nil_of_length_eq_zero:=@List.eq_nil_of_length_eq_zero
theorem Dt:type_of% @List.append_nil:=@List.append_nil
theorem Oi:type_of% @List.ext_getElem?:=@List.ext_getElem?
theorem Ko:type_of% @List.length_set:=@List.length_set
theorem Lh:type_of% @List.getElem?_eq_none:=@List.getElem?_eq_none
theorem Et:type_of% @IntWalk.u64_in:=@IntWalk.u64_in
theorem Am:type_of% @Nat.zero_le:=@Nat.zero_le
theorem Ad:type_of% @IntWalk.i64_in:=@IntWalk.i64_in
theorem Oh:type_of% @List.drop_eq_getElem_cons:=@List.drop_eq_getElem_cons
theorem Bj:type_of% @List.mem_append:=@List.mem_append
theorem Nl:type_of% @List.mem_append_right:=@List.mem_append_right
theorem Fb:type_of% @List.mem_filterMap:=@List.mem_filterMap
theorem Fh:type_of% @List.mem_of_getElem?:=@List.mem_of_getElem?
theorem Ie:type_of% @List.mem_map:=@List.mem_map
theorem Es:type_of% @List.mem_cons_of_mem:=@List.mem_cons_of_mem
theorem Dh:type_of% @List.getElem?_of_mem:=@List.getElem?_of_mem
theorem Qa:type_of% @List.mem_append_left:=@List.mem_append_left
theorem Jq:type_of% @Nat.zero_mul:=@Nat.zero_mul
theorem Nk:type_of% @List.take_zero:=@List.take_zero
theorem Bc:type_of% @List.mem_singleton:=@List.mem_singleton
theorem Ic:type_of% @List.flatten_cons:=@List.flatten_cons
theorem Jd:type_of% @List.flatten_append:=@List.flatten_append
theorem Bf:type_of% @List.append_assoc:=@List.append_assoc
theorem Jc:type_of% @List.getElem?_cons_zero:=@List.getElem?_cons_zero
theorem Gu:type_of% @List.filter_cons:=@List.filter_cons
theorem Le:type_of% @Nat.sub_self:=@Nat.sub_self
theorem Og:type_of% @Nat.le_of_ble_eq_true:=@Nat.le_of_ble_eq_true
theorem Jp:type_of% @List.getElem?_cons_succ:=@List.getElem?_cons_succ
theorem Cm:type_of% @List.mem_cons:=@List.mem_cons
theorem Ep:type_of% @List.mem_of_mem_drop:=@List.mem_of_mem_drop
theorem Jo:type_of% @List.flatMap_cons:=@List.flatMap_cons
theorem Pz:type_of% @List.take_append_of_le_length:=@List.take_append_of_le_length
theorem Jm:type_of% @List.take_add_one:=@List.take_add_one
theorem Ei:type_of% @List.drop_zero:=@List.drop_zero
theorem Jl:type_of% @List.take_left':=@List.take_left'
theorem Gg:type_of% @List.drop_left':=@List.drop_left'
theorem Jk:type_of% @List.getElem_mem:=@List.getElem_mem
theorem Qv:type_of% @List.drop_append_of_le_length:=@List.drop_append_of_le_length
theorem Oe:type_of% @Bool.false_ne_true:=@Bool.false_ne_true
theorem Fa:type_of% @List.mem_of_mem_take:=@List.mem_of_mem_take
theorem Cc:type_of% @List.take_length:=@List.take_length
theorem Jz:type_of% @List.map_cons:=@List.map_cons
theorem Nj:type_of% @Nat.mod_add_mod:=@Nat.mod_add_mod
theorem Ez:type_of% @List.map_append:=@List.map_append
theorem Py:type_of% @List.getElem?_take_of_lt:=@List.getElem?_take_of_lt
theorem Ld:type_of% @List.filter_append:=@List.filter_append
theorem Lc:type_of% @List.filter_congr:=@List.filter_congr
theorem Dy:type_of% @List.mem_filter:=@List.mem_filter
theorem Nh:type_of% @List.length_filter_le:=@List.length_filter_le
theorem Bl:type_of% @List.length_map:=@List.length_map
theorem Gn:type_of% @List.mem_cons_self:=@List.mem_cons_self
theorem Lu:type_of% @List.not_mem_nil:=@List.not_mem_nil
theorem Gj:type_of% @Nat.add_le_add:=@Nat.add_le_add
@[reducible] def Aa (n:Int):Value:=.int .i64 n
@[reducible] def Ac (a:Option Addr) (n c:Nat):Value:=.slice a n c
@[reducible] def Dj:Value:=.slice none 0 0
@[reducible] def Ah (g:Nat):Value:=.pointer (some ⟨g,0,none⟩)
@[reducible] def Tt:List Value:=[Aa 0,Aa 0,Dj,Aa 0,Dj,Dj]
@[reducible] def Qc:=fun a=>([Ac a 8 8,Dj,Dj]:List Value)
@[reducible] def Tv:List Value:=[Aa 0,Aa 0,.bool false,Aa 0,Aa 0,Aa 0,Aa 0]
@[reducible] def Gt:=fun a b c d e f g h=>([Aa a,Aa b,Ac c d e,Ac f g h]:List Value)
abbrev Ns:=@Tryz.underlying22
abbrev U23:=@Tryz.underlying23
abbrev U27:=@Tryz.underlying27
abbrev Ub:=@Tryz.underlying37
abbrev Kv:=@Tryz.underlying38
abbrev La:=@Tryz.underlying39
abbrev U50:=@Tryz.underlying50
abbrev U56:=@Tryz.underlying56
abbrev U65:=@Tryz.underlying65
abbrev Hf:=@Tryz.underlying73
abbrev U86:=@Tryz.underlying86
abbrev U87:=@Tryz.underlying87
abbrev U91:=@Tryz.underlying91
abbrev Jj:=@Tryz.underlying94
abbrev Na:=@Tryz.underlying95
abbrev Vl:=@Tryz.underlying98
abbrev Lp:=@Tryz.underlying118
abbrev U136:=@Tryz.underlying136
abbrev ZI:=@Tryz.underlying144
abbrev Uc:=@Tryz.underlying175
abbrev U192:=@Tryz.underlying192
abbrev Oa:=@Tryz.underlying220
abbrev ZH:=@Tryz.underlying252
def nth :List Value→Nat→Option Value
 | [],_=>none
 | a::_,0=>some a
 | _::l,n+1=>nth l n
theorem pQ :∀ (l:List Value) (n:Nat),nth l n=l[n]?
 | [],n=>by simp[nth]
 | _::_,0=>by simp[nth]
 | _::l,n+1=>by simpa[nth]using pQ l n
def ev (l:List Value):Operand→Option Value
 | .tmp t=>nth l t
 | .const v=>some v
 | .global g=>some (.pointer (some ⟨g,0,none⟩))
 | .func f=>some (.func (.func f) #[] #[])
def evs (l:List Value):List Operand→Option (List Value)
 | []=>some []
 | x::xs=>match ev l x,evs l xs with
  | some v,some vs=>some (v::vs)
  | _,_=>none
def rho (l:List Value):Operand→Value:=Act.eval ⟨l.toArray,[]⟩
theorem sB (l:List Value) (ds:List Deferred):Act.eval ⟨l.toArray,ds⟩=rho l:=by
 funext x;cases x <;>rfl
theorem zV {l:List Value} {x:Operand} {v:Value} (h:ev l x=some v):rho l x=v:=by
 cases x with
 | tmp t=>
  simp only[ev,pQ]at h
  simp[rho,Act.eval,h]
 | const c=>simpa[ev,rho,Act.eval]using h
 | global g=>simpa[ev,rho,Act.eval]using h
 | func f=>simpa[ev,rho,Act.eval]using h
theorem nY {l:List Value}:∀ {xs:List Operand} {vs:List Value},evs l xs=some vs→xs.map (rho l)=vs
 | [],vs,h=>by simp[evs]at h;simp[h]
 | x::xs,vs,h=>by
  simp only[evs]at h
  cases hx:ev l x with
  | none=>rw[hx]at h;simp at h
  | some v=>
   cases hxs:evs l xs with
   | none=>rw[hx,hxs]at h;simp at h
   | some us=>
    rw[hx,hxs]at h
    simp only[Option.some.injEq]at h
    subst h
    simp[zV hx,nY hxs]
def xO :List (Option Value)→List Value→Prop
 | [],l=>l=[]
 | some v::ps,l=>∃ l',l=v::l'∧xO ps l'
 | none::ps,l=>∃ x l',l=x::l'∧xO ps l'
theorem f0 :xO [] []:=rfl
theorem fs {v:Value} {ps:List (Option Value)} {l:List Value} (h:xO ps l):xO (some v::ps) (v::l):=⟨l,rfl,h⟩
theorem fn {x:Value} {ps:List (Option Value)} {l:List Value} (h:xO ps l):xO (none::ps) (x::l):=⟨x,l,rfl,h⟩
def told (j:Nat→Value):List (Option Value)→Nat→List Value
 | [],_=>[]
 | some v::ps,k=>v::told j ps (k+1)
 | none::ps,k=>j k::told j ps (k+1)
theorem xO.ZV :∀ {ps:List (Option Value)} {l:List Value} (k:Nat),xO ps l→∃ j,l=told j ps k
 | [],l,k,h=>⟨fun _=>undef,h⟩
 | some v::ps,l,k,h=>by
  obtain⟨l',rfl,h'⟩:=h
  obtain⟨j,rfl⟩:=xO.ZV (k+1) h'
  exact⟨j,rfl⟩
 | none::ps,l,k,h=>by
  obtain⟨x,l',rfl,h'⟩:=h
  obtain⟨j,rfl⟩:=xO.ZV (k+1) h'
  have key:∀ (qs:List (Option Value)) (m:Nat),k < m→told (fun i=>if i=k then x else j i) qs m=told j qs m:=by
   intro qs
   induction qs with
   | nil=>intro m _;rfl
   | cons q qs ih=>
    intro m hm
    cases q with
    | none=>simp only[told];rw[if_neg (by omega),ih (m+1) (by omega)]
    | some v=>simp only[told];rw[ih (m+1) (by omega)]
  refine⟨fun i=>if i=k then x else j i,?_⟩
  simp only[told,if_true]
  rw[key ps (k+1) (by omega)]
theorem xO.open {ps:List (Option Value)} {l:List Value} (h:xO ps l):∃ j,l=told j ps 0:=h.ZV 0
def zO (P:Program) (f:FuncId) (args:Array Value) (w:World) (R:Value→World→Prop):Prop:=
 Calls P f args w fun e w'=>∃ v,e=.returned v∧R v w'
@[reducible] def Aj (f:FuncId) (args:Array Value) (w:World) (R:Value→World→Prop):Prop:=zO Tryz.prog f args w R
theorem zO.mono {P:Program} {f:FuncId} {args:Array Value} {w:World} {R R':Value→World→Prop} (h:zO P f args w R) (hr:∀ v w',R v w'→R' v w'):zO P f args w R':=
 Calls.mono h fun _ _ ⟨v,he,hv⟩=>⟨v,he,hr v _ hv⟩
abbrev vQ :=Exit→List Value→World→Prop
def Cd (P:Program) (ds:List Deferred) (c:Code) (Q:vQ) (l:List Value) (w:World):Prop:=
 Code.wp P c (fun e a w'=>a.defers=ds∧Q e a.tmps.toList w') ⟨l.toArray,ds⟩ w
def Ops (P:Program) (ds:List Deferred) (all:List Oper) (K:List Value→World→Prop) (Q:vQ) (os:List Oper) (l:List Value) (w:World):Prop:=
 wpList P all.toArray (Exit.then (fun a w'=>a.defers=ds∧K a.tmps.toList w') (fun e a w'=>a.defers=ds∧Q e a.tmps.toList w')) os ⟨l.toArray,ds⟩ w
def yT (P:Program) (ds:List Deferred) (all:List Oper) (w:World) (K:List Value→Prop) (os:List Oper) (l:List Value):Prop:=
 wpStill P all.toArray w (fun a=>a.defers=ds∧K a.tmps.toList) os ⟨l.toArray,ds⟩
section code
variable {P:Program} {ds:List Deferred} {Q:vQ} {l:List Value} {w:World} {x y z:Code} {cs:List Code}
def uR (K:List Value→World→Prop) (Q:vQ):vQ
 | .normal,l,w=>K l w
 | e,l,w=>Q e l w
def Run (P:Program) (ds:List Deferred):List Code→vQ→List Value→World→Prop
 | [],Q=>Q .normal
 | c::cs,Q=>Cd P ds c (uR (Run P ds cs Q) Q)
theorem UY {c:Code} {Q':vQ} (h:Cd P ds c Q l w) (hq:∀ e l w,Q e l w→Q' e l w):Cd P ds c Q' l w:=
 Go.wp_mono h fun e _ w h=>⟨h.1,hq e _ w h.2⟩
theorem zA (h:Q .normal l w):Run P ds [] Q l w:=h
theorem zN (h:Run P ds (x::y::cs) Q l w):Run P ds (.seq x y::cs) Q l w:=by
 refine wp_seq (Go.wp_mono h ?_)
 rintro e ⟨t,d⟩ w' ⟨hd,h2⟩
 cases e with
 | normal=>
  simp only at hd
  subst hd
  exact Go.wp_mono h2 (fun e a w h=>by cases e <;>exact h)
 | _=>exact⟨hd,h2⟩
theorem xI (h:Run P ds cs Q l w):Run P ds (.skip::cs) Q l w:=wp_skip ⟨rfl,h⟩
theorem wD (h:Q .ret l w):Run P ds (.ret::cs) Q l w:=wp_ret ⟨rfl,h⟩
theorem tE {n:Nat} (h:Q (.exit n) l w):Run P ds (.exit n::cs) Q l w:=wp_exit ⟨rfl,h⟩
theorem jO {x:Operand} {v:Value} (h:ev l x=some v):(⟨l.toArray,ds⟩:Act).eval x=v:=by
 rw[sB];exact zV h
theorem yL {c:Operand} (hc:ev l c=some (.bool true)) (h:Run P ds (x::cs) Q l w):Run P ds (.cond c x y::cs) Q l w:=
 wp_cond_true (jO hc) h
theorem zX {c:Operand} (hc:ev l c=some (.bool false)) (h:Run P ds (y::cs) Q l w):Run P ds (.cond c x y::cs) Q l w:=
 wp_cond_false (jO hc) h
theorem wP {c:Operand} {b:Bool} (hc:ev l c=some (.bool b)) (h1:b=true→Run P ds (x::cs) Q l w) (h2:b=false→Run P ds (y::cs) Q l w):Run P ds (.cond c x y::cs) Q l w:=by
 cases b
 · exact zX hc (h2 rfl)
 exact yL hc (h1 rfl)
def iV (n:Nat) (K:List Value→World→Prop) (Q:vQ):vQ
 | .normal,l,w=>K l w
 | .exit i,l,w=>if i=n then K l w else Q (.exit i) l w
 | e,l,w=>Q e l w
theorem wF {n:Nat} (h:Run P ds [x] (iV n (Run P ds cs Q) Q) l w):Run P ds (.block n x::cs) Q l w:=by
 refine wp_block (Go.wp_mono h ?_)
 rintro e a w' ⟨hd,h2⟩
 cases e with
 | exit i=>
  simp only[Exit.inBlock]
  simp only[uR,iV]at h2
  split
  · rename_i hi;rw[if_pos hi]at h2;exact⟨hd,h2⟩
  rename_i hi;rw[if_neg hi]at h2;exact⟨hd,h2⟩
 | _=>exact⟨hd,h2⟩
theorem zD {n:Nat} {K:List Value→World→Prop} (h:K l w):iV n K Q .normal l w:=h
theorem zS {n:Nat} {K:List Value→World→Prop} (h:K l w):iV n K Q (.exit n) l w:=by simpa[iV]using h
theorem MM {n i:Nat} {K:List Value→World→Prop} (hi:(i==n)=false) (h:Q (.exit i) l w):iV n K Q (.exit i) l w:=by
 have:¬i=n:=by simpa using hi
 simpa[iV,this]using h
theorem vJ {n:Nat} {K:List Value→World→Prop} (h:Q .ret l w):iV n K Q .ret l w:=h
def aU (K:List Value→World→Prop) (Q:vQ):vQ
 | .normal,l,w=>K l w
 | e,l,w=>Q e l w
theorem zH {K:List Value→World→Prop} (h:K l w):aU K Q .normal l w:=h
theorem zT {n:Nat} {K:List Value→World→Prop} (h:Q (.exit n) l w):aU K Q (.exit n) l w:=h
theorem yN {K:List Value→World→Prop} (h:Q .ret l w):aU K Q .ret l w:=h
theorem zU (I:Nat→List Value→World→Prop) (n₀:Nat) (h₀:I n₀ l w)
 (round:∀ n l w,I n l w→Run P ds [x] (aU (fun l' w'=>∃ n',n' < n∧I n' l' w') Q) l w):Run P ds (.loop x::cs) Q l w:=by
 refine wp_loop_ghost (fun n a w=>a.defers=ds∧I n a.tmps.toList w) n₀ ⟨rfl,h₀⟩ ?_
 rintro n ⟨t,d⟩ w' ⟨hd,hI⟩
 simp only at hd
 subst hd
 refine Go.wp_mono (round n _ _ hI) ?_
 rintro e a w2 ⟨hd,h2⟩
 cases e with
 | normal=>exact(let ⟨n',hn,hI'⟩:=h2;⟨n',hn,hd,hI'⟩)
 | _=>exact⟨hd,h2⟩
theorem zI {n:Nat} {os:List Oper} (h:Ops P ds os (Run P ds cs Q) Q os l w):Run P ds (.region n os.toArray false::cs) Q l w:=by
 refine wp_region_lit ?_
 have e:(Exit.then (fun(a:Act) w'=>a.defers=ds∧Run P ds cs Q a.tmps.toList w') (fun e a w'=>a.defers=ds∧Q e a.tmps.toList w'))=
  fun e (a:Act) w'=>a.defers=ds∧uR (Run P ds cs Q) Q e a.tmps.toList w':=by
  funext e a w';cases e <;>rfl
 rw[← e]
 exact h
theorem yD {all:List Oper} {K:List Value→World→Prop} (h:K l w):Ops P ds all K Q [] l w:=wpList_nil ⟨rfl,h⟩
theorem still_mono {all:List Oper} {K K':Act→Prop} (hk:∀ a,K a→K' a):∀ (os:List Oper) (a:Act),wpStill P all.toArray w K os a→wpStill P all.toArray w K' os a
 | [],_,h=>hk _ h
 | o::os,a,h=>by
  unfold wpStill at h ⊢
  split
  · rename_i hw;rw[if_pos hw]at h;exact Oper.still_mono (fun a h=>still_mono hk os a h) h
  rename_i hw;rw[if_neg hw]at h;exact still_mono hk os _ h
theorem uU {n:Nat} {os:List Oper} (hm:P.follows .mixedOrders=true) (hB:Region.lexB .any os.toArray=true)
 (h:∀ w',w'={ w with drawn:=w.drawn+1 }→yT P ds os w' (fun l'=>Run P ds cs Q l' w') os l):Run P ds (.region n os.toArray true::cs) Q l w:=by
 refine wp_region_still_lit hm hB ?_
 exact h _ rfl
end code
abbrev Ent :=Option Nat×TypeId×List Value
def qV (w0 w:World) (S:List Nat) (e:Ent):Prop:=
 match e.1 with
 | none=>e.2.2=[]
 | some g=>w.heap[g]? =some (.cells e.2.2.toArray e.2.1 (0,0))∧(g∈S∨w0.heap.size≤g)
structure Hp (w0 w:World) (S:List Nat) (es:List Ent):Prop where
 os:w.os=w0.os
 tape:w.tape=w0.tape
 output:w.output=w0.output
 size:w0.heap.size≤w.heap.size
 frame:∀ k,k < w0.heap.size→k∉S→w.heap[k]? =w0.heap[k]?
 ent:∀ (i:Nat) (e:Ent),es[i]? =some e→qV w0 w S e
 apart:∀ (i j:Nat) (e f:Ent) (g:Nat),es[i]? =some e→es[j]? =some f→e.1=some g→f.1=some g→i=j
abbrev hd (g:Option Nat):Option Addr:=g.map fun b=>⟨b,0,none⟩
section mem
variable {w0 w w':World} {S S':List Nat} {es es':List Ent} {i:Nat} {g:Nat} {T:TypeId} {cs:List Value}
theorem Hp.refl (w:World):Hp w w [] []:=⟨rfl,rfl,rfl,Ai _,fun _ _ _=>rfl,by simp,by simp⟩
theorem Hp.at (H:Hp w0 w S es) (he:es[i]? =some (some g,T,cs)):w.heap[g]? =some (.cells cs.toArray T (0,0)):=(H.ent i _ he).1
theorem Hp.lt (H:Hp w0 w S es) (he:es[i]? =some (some g,T,cs)):g < w.heap.size:=(Dw.1 (H.at he)).1
theorem Hp.place (H:Hp w0 w S es) (he:es[i]? =some (some g,T,cs)):g∈S∨w0.heap.size≤g:=(H.ent i _ he).2
theorem Hp.none_ (H:Hp w0 w S es) (he:es[i]? =some (none,T,cs)):cs=[]:=H.ent i _ he
theorem Hp.cell (H:Hp w0 w S es) (he:es[i]? =some (some g,T,cs)) {o:Nat} {v:Value} (hv:cs[o]? =some v):w.cell? ⟨g,o,none⟩=some v:=by
 simp[World.cell?,H.at he,hv]
theorem Hp.drew (H:Hp w0 w S es):Hp w0 { w with drawn:=w.drawn+1 } S es:=⟨H.os,H.tape,H.output,H.size,H.frame,H.ent,H.apart⟩
theorem lt_of_get {α:Type} {l:List α} {i:Nat} {x:α} (h:l[i]? =some x):i < l.length:=(Ea.1 h).1
theorem Hp.Xg (H:Hp w0 w S es) {e:Ent} (he:es[i]? =some e) {g:Nat} (hg:e.1=some g):g < w.heap.size:=by
 obtain⟨a,b,c⟩:=e
 simp only at hg
 subst hg
 exact H.lt he
theorem Hp.alloc (H:Hp w0 w S es) (T:TypeId) (cs:List Value):Hp w0 (w.alloc (.cells cs.toArray T)) S (es++[(some w.heap.size,T,cs)]):=by
 refine⟨H.os,H.tape,H.output,?_,?_,?_,?_⟩
 · have:=H.size;simp;omega
 · intro k hk hS
   rw[heap_alloc_old w _ (by have:=H.size;omega)]
   exact H.frame k hk hS
 · intro i e he
   rcases Jg i es.length with hi | hi
   · rw[Di hi]at he
     have h:=H.ent i e he
     unfold qV at h ⊢
     split
     · rename_i hn;rw[hn]at h;exact h
     rename_i g hg
     rw[hg]at h
     exact⟨by rw[heap_alloc_old w _ (H.Xg he hg)];exact h.1,h.2⟩
   rw[Ef hi]at he
   cases hj:i - es.length with
   | zero=>
    rw[hj]at he
    simp at he
    subst he
    exact⟨heap_alloc_new w _,.inr H.size⟩
   | succ n=>rw[hj]at he;simp at he
 intro i j e f g hi hj hge hgf
 have key:∀ (i:Nat) (e:Ent),(es++[(some w.heap.size,T,cs)])[i]? =some e→e.1=some g→(i < es.length∧es[i]? =some e∧g < w.heap.size)∨(i=es.length∧g=w.heap.size):=by
  intro i e hi hg
  rcases Jg i es.length with h | h
  · rw[Di h]at hi
    exact .inl ⟨h,hi,H.Xg hi hg⟩
  rw[Ef h]at hi
  cases hk:i - es.length with
  | zero=>
   rw[hk]at hi
   simp at hi
   subst hi
   simp only[Option.some.injEq]at hg
   exact .inr ⟨by omega,hg.symm⟩
  | succ n=>rw[hk]at hi;simp at hi
 rcases key i e hi hge with ⟨h1,h2,h3⟩ | ⟨h1,h2⟩ <;>rcases key j f hj hgf with ⟨h4,h5,h6⟩ | ⟨h4,h5⟩
 · exact H.apart i j e f g h2 h5 hge hgf
 · omega
 · omega
 omega
theorem Hp.nil (H:Hp w0 w S es) (T:TypeId):Hp w0 w S (es++[(none,T,[])]):=by
 have key:∀ (i:Nat) (e:Ent),(es++[((none:Option Nat),T,([]:List Value))])[i]? =some e→es[i]? =some e∨e=(none,T,[]):=by
  intro i e hi
  rcases Jg i es.length with h | h
  · rw[Di h]at hi;exact .inl hi
  rw[Ef h]at hi
  cases hk:i - es.length with
  | zero=>rw[hk]at hi;simp at hi;exact .inr hi.symm
  | succ n=>rw[hk]at hi;simp at hi
 refine⟨H.os,H.tape,H.output,H.size,H.frame,?_,?_⟩
 · intro i e he
   rcases key i e he with h | rfl
   · exact H.ent i e h
   rfl
 intro i j e f g hi hj hge hgf
 rcases key i e hi with h | rfl
 · rcases key j f hj with h' | rfl
   · exact H.apart i j e f g h h' hge hgf
   simp at hgf
 simp at hge
theorem Hp.pick (H:Hp w0 w S es) (idx:List Nat) (hnd:idx.Nodup):Hp w0 w S (idx.map fun i=>es.getD i (none,0,[])):=by
 have key:∀ (k:Nat) (e:Ent),(idx.map fun i=>es.getD i (none,0,[]))[k]? =some e→∃ i,idx[k]? =some i∧(es[i]? =some e∨e=(none,0,[])):=by
  intro k e hk
  rw[Oy]at hk
  cases hi:idx[k]? with
  | none=>rw[hi]at hk;simp at hk
  | some i=>
   rw[hi]at hk
   simp only[Hy,Option.some.injEq]at hk
   refine⟨i,Y,?_⟩
   cases he:es[i]? with
   | none=>rw[Dz,he]at hk;exact .inr hk.symm
   | some x=>rw[Dz,he]at hk;simp only[Option.getD_some]at hk;subst hk;exact .inl rfl
 refine⟨H.os,H.tape,H.output,H.size,H.frame,?_,?_⟩
 · intro k e he
   obtain⟨i,_,h | rfl⟩:=key k e he
   · exact H.ent i e h
   rfl
 intro a b e f g ha hb hge hgf
 obtain⟨i,hi,h | rfl⟩:=key a e ha
 · obtain⟨j,hj,h' | rfl⟩:=key b f hb
   · have:=H.apart i j e f g h h' hge hgf
     subst this
     have h1:=Ea.1 hi
     have h2:=Ea.1 hj
     obtain⟨x1,x2⟩:=h1
     obtain⟨y1,y2⟩:=h2
     have hp:=Qk.1 hnd
     rcases Nat.lt_trichotomy a b with hab | hab | hab
     · exact absurd (x2.trans y2.symm) (hp a b x1 y1 hab)
     · exact hab
     exact absurd (y2.trans x2.symm) (hp b a y1 x1 hab)
   simp at hgf
 simp at hge
theorem Hp.setRow (H:Hp w0 w S es) (he:es[i]? =some (some g,T,cs)) (cs':List Value):Hp w0 (w.setRow g cs'.toArray) S (es.set i (some g,T,cs')):=by
 have hne:∀ (j:Nat) (e:Ent) (h:Nat),es[j]? =some e→e.1=some h→j≠i→h≠g:=by
  intro j e h hj hh hji heq
  subst heq
  exact hji (H.apart j i _ _ h hj he hh Y)
 refine⟨H.os,H.tape,H.output,by simpa using H.size,?_,?_,?_⟩
 · intro k hk hS
   have hkg:k≠g:=by
    rintro rfl
    rcases H.place he with h | h
    · exact hS h
    omega
   rw[setRow_other _ _ _ _ hkg]
   exact H.frame k hk hS
 · intro j e hj
   rw[Kt]at hj
   split at hj
   · rename_i hij
     split at hj
     · simp only[Option.some.injEq]at hj
       subst hj
       exact⟨setRow_heap _ _ _ _ _ _ (H.at he),H.place he⟩
     simp at hj
   rename_i hij
   have h:=H.ent j e hj
   unfold qV at h ⊢
   split
   · rename_i hn;rw[hn]at h;exact h
   rename_i k hk
   rw[hk]at h
   exact⟨by rw[setRow_other _ _ _ _ (hne j e k hj hk (Ne.symm hij))];exact h.1,h.2⟩
 have key:∀ (j:Nat) (e:Ent),(es.set i (some g,T,cs'))[j]? =some e→∃ e':Ent,es[j]? =some e'∧e'.1=e.1:=by
  intro j e hj
  rw[Kt]at hj
  split at hj
  · rename_i hij
    split at hj
    · simp only[Option.some.injEq]at hj;subst hj;exact⟨(some g,T,cs),by rw[← hij];exact he,rfl⟩
    simp at hj
  exact⟨e,hj,Y⟩
 intro a b e f k ha hb hge hgf
 obtain⟨e',he',h1⟩:=key a e ha
 obtain⟨f',hf',h2⟩:=key b f hb
 exact H.apart a b e' f' k he' hf' (h1.trans hge) (h2.trans hgf)
def kill (es:List Ent):List Nat→List Ent
 | []=>es
 | i::is=>(kill es is).set i (none,0,[])
theorem Ve :∀ (is:List Nat) (j:Nat) (e:Ent),(kill es is)[j]? =some e→(es[j]? =some e∧j∉is)∨e=(none,0,[])
 | [],j,e,h=> .inl ⟨h,by simp⟩
 | i::is,j,e,h=>by
  simp only[kill]at h
  rw[Kt]at h
  split at h
  · split at h
    · simp only[Option.some.injEq]at h;exact .inr h.symm
    simp at h
  rename_i hij
  rcases Ve is j e h with ⟨h1,h2⟩ | h1
  · exact .inl ⟨h1,by simp[h2,Ne.symm hij]⟩
  exact .inr h1
theorem Hp.call (H:Hp w0 w S es) (H':Hp w w' S' es') (is:List Nat) (hS:∀ b∈S',∃ i∈is,∃ T cs,es[i]? =some (some b,T,cs)):Hp w0 w' S (kill es is++es'):=by
 have hold:∀ b,b∈S'→b∈S∨w0.heap.size≤b:=by
  intro b hb
  obtain⟨i,_,T,cs,he⟩:=hS b hb
  exact H.place he
 have hk:∀ (j:Nat) (e:Ent) (h:Nat),(kill es is)[j]? =some e→e.1=some h→es[j]? =some e∧h∉S'∧h < w.heap.size:=by
  intro j e h hj hh
  rcases Ve is j e hj with ⟨h1,h2⟩ | rfl
  · refine⟨h1,?_,H.Xg h1 hh⟩
    intro hb
    obtain⟨i,hi,T,cs,he⟩:=hS h hb
    have:=H.apart j i e _ h h1 he hh rfl
    subst this
    exact h2 hi
  simp at hh
 have hlen:(kill es is).length=es.length:=by
  clear hk hS
  induction is with
  | nil=>rfl
  | cons i is ih=>simp[kill,ih]
 refine⟨H'.os.trans H.os,H'.tape.trans H.tape,H'.output.trans H.output,Ci H.size H'.size,?_,?_,?_⟩
 · intro k hk0 YR
   rw[H'.frame k (by have:=H.size;omega) (fun hb=>by rcases hold k hb with h | h;exact YR h;omega)]
   exact H.frame k hk0 YR
 · intro j e hj
   rcases Jg j (kill es is).length with h | h
   · rw[Di h]at hj
     unfold qV
     split
     · rename_i hn
       rcases Ve is j e hj with ⟨h1,_⟩ | rfl
       · have:=H.ent j e h1;unfold qV at this;rw[hn]at this;exact this
       rfl
     rename_i k hk'
     obtain⟨h1,h2,h3⟩:=hk j e k hj hk'
     have:=H.ent j e h1
     unfold qV at this
     rw[hk']at this
     exact⟨by rw[H'.frame k h3 h2];exact this.1,this.2⟩
   rw[Ef h]at hj
   have:=H'.ent _ e hj
   unfold qV at this ⊢
   split
   · rename_i hn;rw[hn]at this;exact this
   rename_i k hk'
   rw[hk']at this
   refine⟨this.1,?_⟩
   rcases this.2 with h1 | h1
   · exact hold k h1
   exact .inr (Ci H.size h1)
 have key:∀ (j:Nat) (e:Ent) (g:Nat),(kill es is++es')[j]? =some e→e.1=some g→(j < es.length∧es[j]? =some e∧g∉S'∧g < w.heap.size)∨(es.length≤j∧es'[j - es.length]? =some e∧(g∈S'∨w.heap.size≤g)):=by
  intro j e g hj hg
  rcases Jg j (kill es is).length with h | h
  · rw[Di h]at hj
    exact .inl ⟨by omega,hk j e g hj hg⟩
  rw[Ef h,hlen]at hj
  have:=H'.ent _ e hj
  unfold qV at this
  rw[hg]at this
  exact .inr ⟨by omega,hj,this.2⟩
 intro a b e f g ha hb hge hgf
 rcases key a e g ha hge with ⟨_,h2,h3,h4⟩ | ⟨h1,h2,h3⟩ <;>rcases key b f g hb hgf with ⟨_,h6,h7,h8⟩ | ⟨h5,h6,h7⟩
 · exact H.apart a b e f g h2 h6 hge hgf
 · rcases h7 with h | h
   · exact absurd h h3
   omega
 · rcases h3 with h | h
   · exact absurd h h7
   omega
 have:=H'.apart _ _ e f g h2 h6 hge hgf
 omega
theorem Hp.call0 (H:Hp w0 w S es) (H':Hp w w' [] es'):Hp w0 w' S (es++es'):=H.call H' [] (by simp)
theorem Hp.call1 (H:Hp w0 w S es) (he:es[i]? =some (some g,T,cs)) (H':Hp w w' [g] es'):Hp w0 w' S (es.set i (none,0,[])++es'):=
 H.call H' [i] (by intro b hb;simp at hb;subst hb;exact⟨i,by simp,T,cs,he⟩)
theorem Hp.old (hg:w.heap[g]? =some (.cells cs.toArray T (0,0))):Hp w w [g] [(some g,T,cs)]:=by
 refine⟨Y,Y,Y,Ai _,fun _ _ _=>Y,?_,?_⟩
 · intro i e he
   cases i with
   | zero=>simp at he;subst he;exact⟨hg,.inl (by simp)⟩
   | succ n=>simp at he
 intro i j e f _ hi hj _ _
 cases i with
 | zero=>cases j with
  | zero=>rfl
  | succ n=>simp at hj
 | succ n=>simp at hi
theorem Hp.below (H:Hp w0 w [] es):Below w0.heap.size w0 w:=⟨H.os,H.tape,H.output,H.size,fun k hk=>H.frame k hk (by simp)⟩
structure Rd (w:World) (A:Option Addr) (n sz:Nat) (xs:List Value):Prop where
 len:xs.length=n*sz
 cells:∀ a,A=some a→∀ j u,xs[j]? =some u→w.cell? (a.add j)=some u
 nil:A=none→n=0
theorem Rd.to {A:Option Addr} {n sz:Nat} {xs:List Value} (h:Rd w0 A n sz xs) (H:Hp w0 w S es) (hS:∀ a,A=some a→a.block∉S):Rd w A n sz xs:=by
 refine⟨h.len,fun a ha j u hu=>?_,h.nil⟩
 have hc:=h.cells a ha j u hu
 have hb:(a.add j).block=a.block:=by unfold Addr.add;split <;>rfl
 have hlt:=Ir w0 _ hc
 rw[World.cell?_of_block (w:=w0)]
 · exact hc
 exact H.frame _ hlt (by rw[hb];exact hS a ha)
theorem Rd.to0 {A:Option Addr} {n sz:Nat} {xs:List Value} (h:Rd w0 A n sz xs) (H:Hp w0 w [] es):Rd w A n sz xs:=h.to H (by simp)
theorem Hp.rd (H:Hp w0 w S es) {o:Option Nat} {xs sp:List Value} (he:es[i]? =some (o,T,xs++sp)) {n sz:Nat} (hn:xs.length=n*sz) (hz:0 < sz):Rd w (hd o) n sz xs:=by
 cases o with
 | none=>
  have:=H.none_ he
  have hx:xs=[]:=(List.append_eq_nil_iff.1 this).1
  subst hx
  refine⟨hn,by simp[hd],fun _=>?_⟩
  simp only[Ed]at hn
  rcases Nat.mul_eq_zero.1 hn.symm with h | h
  · exact h
  omega
 | some g=>
  refine⟨hn,fun a ha j u hu=>?_,by simp[hd]⟩
  simp only[hd,Hy,Option.some.injEq]at ha
  subst ha
  rw[Ll,Au]
  refine H.cell he ?_
  rw[Di (lt_of_get hu)]
  exact hu
theorem tV (a:Addr) (i j:Nat):(a.add i).add j=a.add (i+j):=by
 unfold Addr.add
 by_cases hi:i=0 <;>by_cases hj:j=0 <;>simp[hi,hj,Gf]
theorem Rd.cut {A:Option Addr} {n sz:Nat} {xs:List Value} (h:Rd w A n sz xs) (lo hi mx:Nat) (h1:lo≤hi) (h2:hi≤n) (h3:hi≤mx):
 Rd w (if mx=lo then A else A.map (·.add (lo*sz))) (hi - lo) sz ((xs.drop (lo*sz)).take ((hi - lo)*sz)):=by
 refine⟨?_,?_,?_⟩
 · rw[Aw,Bh,h.len,← Lj]
   exact Ii (Dp _ (by omega))
 · intro a ha j u hu
   by_cases hm:mx=lo
   · have:hi - lo=0:=by omega
     rw[this]at hu
     simp at hu
   rw[if_neg hm]at ha
   cases A with
   | none=>simp at ha
   | some b=>
    simp only[Hy,Option.some.injEq]at ha
    subst ha
    rw[tV]
    refine h.cells b Y _ u ?_
    rw[Hw]at hu
    split at hu
    · rwa [Em]at hu
    cases hu
 intro hA
 by_cases hm:mx=lo
 · omega
 rw[if_neg hm]at hA
 cases A with
 | none=>have:=h.nil rfl;omega
 | some b=>simp at hA
theorem Rd.none_ (w:World) (sz:Nat):Rd w none 0 sz []:=⟨by simp,by simp,fun _=>rfl⟩
theorem Rd.some_ {A:Option Addr} {n sz:Nat} {xs:List Value} (h:Rd w A n sz xs) (hn:0 < n):∃ a,A=some a:=by
 cases A with
 | none=>have:=h.nil rfl;omega
 | some a=>exact⟨a,rfl⟩
end mem
def Ex (P:Program) (l:List Value) (op:Op) (ty:TypeId) (w:World) (nx:Next) (w':World):Prop:=
 ∀ d pos af g,(execOp (rho l) ⟨d,op,ty,pos,af,g⟩).run P w=.ok nx w'
section steps
variable {P:Program} {ds:List Deferred} {Q:vQ} {K:List Value→World→Prop} {all os:List Oper} {l:List Value} {w w':World} {op:Op} {ty:TypeId} {pos:String} {af:Array Edge} {d:Tmp} {v:Value}
theorem tG (l:List Value) (ds:List Deferred) (d:Tmp) (v:Value):(⟨l.toArray,ds⟩:Act).put (some d) v=⟨(l.set d v).toArray,ds⟩:=by
 simp[Act.put]
theorem zB (hx:Ex P l op ty w (.value v) w') (h:Ops P ds all K Q os (l.set d v) w'):Ops P ds all K Q (⟨some d,op,ty,pos,af,none⟩::os) l w:=by
 refine wpList_plain Y fun K' hK=>?_
 unfold Oper.wp
 rw[sB,hx,Oper.upon_value]
 refine hK _ _ ?_
 rw[tG]
 exact h
theorem EP (hx:Ex P l op ty w .skip w') (h:Ops P ds all K Q os l w'):Ops P ds all K Q (⟨none,op,ty,pos,af,none⟩::os) l w:=by
 refine wpList_plain Y fun K' hK=>?_
 unfold Oper.wp
 rw[sB,hx,Oper.upon_skip]
 exact hK _ _ h
theorem tF {f:FuncId} {args:Array Value} {R:Value→World→Prop} (hx:Ex P l op ty w (.enter f args) w) (hc:zO P f args w R)
 (h:∀ v w',R v w'→Ops P ds all K Q os (l.set d v) w'):Ops P ds all K Q (⟨some d,op,ty,pos,af,none⟩::os) l w:=by
 refine wpList_plain Y fun K' hK=>?_
 unfold Oper.wp
 rw[sB,hx,Oper.upon_enter]
 refine Calls.mono hc ?_
 rintro e w2 ⟨v,rfl,hR⟩
 refine hK _ _ ?_
 rw[tG]
 exact h v w2 hR
theorem wQ {f:FuncId} {args:Array Value} (hx:Ex P l op ty w (.enter f args) w) (hc:zO P f args w fun r w'=>r=v∧w'=w)
 (h:Ops P ds all K Q os (l.set d v) w):Ops P ds all K Q (⟨some d,op,ty,pos,af,none⟩::os) l w:=
 tF hx hc fun r w' ⟨h1,h2⟩=>by rw[h1,h2];exact h
theorem pC {f:FuncId} {args:Array Value} {R:World→Prop} (hx:Ex P l op ty w (.enter f args) w) (hc:zO P f args w fun r w'=>r=v∧R w')
 (h:∀ w',R w'→Ops P ds all K Q os (l.set d v) w'):Ops P ds all K Q (⟨some d,op,ty,pos,af,none⟩::os) l w:=
 tF hx hc fun r w' ⟨h1,h2⟩=>by rw[h1];exact h w' h2
theorem lM {p:Prop} {_:Decidable p} (hx:Ex P l op ty w (.value (.bool (decide p))) w) (hp:p) (h:Ops P ds all K Q os (l.set d (.bool true)) w):Ops P ds all K Q (⟨some d,op,ty,pos,af,none⟩::os) l w:=
 zB hx (by rw[decide_eq_true hp];exact h)
theorem jD {p:Prop} {_:Decidable p} (hx:Ex P l op ty w (.value (.bool (decide p))) w) (hp:¬p) (h:Ops P ds all K Q os (l.set d (.bool false)) w):Ops P ds all K Q (⟨some d,op,ty,pos,af,none⟩::os) l w:=
 zB hx (by rw[decide_eq_false hp];exact h)
theorem vP {p:Prop} {_:Decidable p} (hx:Ex P l op ty w (.value (.bool (decide p))) w) (h1:p→Ops P ds all K Q os (l.set d (.bool true)) w) (h2:¬p→Ops P ds all K Q os (l.set d (.bool false)) w):
 Ops P ds all K Q (⟨some d,op,ty,pos,af,none⟩::os) l w:=by
 by_cases hp:p
 · exact lM hx hp (h1 hp)
 exact jD hx hp (h2 hp)
def yes (all:List Oper) (l:List Value) (j:Nat):Option Bool:=
 match all[j]? with
 | some o=>match o.dst with
  | some t=>match nth l t with
   | some (.bool b)=>some b
   | _=>none
  | none=>none
 | none=>none
theorem rX (all:List Oper) (l:List Value) (j:Nat):yielded all.toArray l.toArray j=yes all l j:=by
 simp only[yielded,yes,pQ,Gx]
 cases all[j]? with
 | none=>rfl
 | some o=>
  simp only[Option.bind_some]
  cases o.dst with
  | none=>rfl
  | some t=>simp only[Option.bind_some];cases l[t]? <;>rfl
theorem sL {dst:Option Tmp} {j:Nat} {b:Bool} (hg:yes all l j=some b) (h:Ops P ds all K Q (⟨dst,op,ty,pos,af,none⟩::os) l w):Ops P ds all K Q (⟨dst,op,ty,pos,af,some (j,b)⟩::os) l w:=by
 unfold Ops wpList at h ⊢
 have e1:Region.wanted ⟨dst,op,ty,pos,af,some (j,b)⟩ (yielded all.toArray l.toArray)=true:=by simp[Region.wanted,rX,hg]
 have e2:Region.wanted ⟨dst,op,ty,pos,af,none⟩ (yielded all.toArray l.toArray)=true:=rfl
 rw[if_pos e1]
 rw[if_pos e2]at h
 exact h
theorem ops_no {j:Nat} {b:Bool} (hg:(yes all l j==some b)=false) (h:Ops P ds all K Q os (l.set d undef) w):Ops P ds all K Q (⟨some d,op,ty,pos,af,some (j,b)⟩::os) l w:=by
 refine wpList_skip ?_ ?_
 · simpa[Region.wanted,rX]using hg
 rw[tG];exact h
variable {KS:List Value→Prop}
theorem xP (h:KS l):yT P ds all w KS [] l:=wpStill_nil ⟨rfl,h⟩
theorem NO (h:Oper.still P ⟨some d,op,ty,pos,af,none⟩ ⟨l.toArray,ds⟩ w (wpStill P all.toArray w (fun a=>a.defers=ds∧KS a.tmps.toList) os)):yT P ds all w KS (⟨some d,op,ty,pos,af,none⟩::os) l:=h
theorem uJ (hx:Ex P l op ty w (.value v) w) (h:yT P ds all w KS os (l.set d v)):yT P ds all w KS (⟨some d,op,ty,pos,af,none⟩::os) l:=by
 refine NO ?_
 unfold Oper.still
 rw[sB,hx,Oper.stillUpon_value,tG]
 exact h
theorem GK {p:Prop} {_:Decidable p} (hx:Ex P l op ty w (.value (.bool (decide p))) w) (hp:p) (h:yT P ds all w KS os (l.set d (.bool true))):yT P ds all w KS (⟨some d,op,ty,pos,af,none⟩::os) l:=
 uJ hx (by rw[decide_eq_true hp];exact h)
theorem DS {p:Prop} {_:Decidable p} (hx:Ex P l op ty w (.value (.bool (decide p))) w) (hp:¬p) (h:yT P ds all w KS os (l.set d (.bool false))):yT P ds all w KS (⟨some d,op,ty,pos,af,none⟩::os) l:=
 uJ hx (by rw[decide_eq_false hp];exact h)
theorem vG {p:Prop} {_:Decidable p} (hx:Ex P l op ty w (.value (.bool (decide p))) w) (h1:p→yT P ds all w KS os (l.set d (.bool true))) (h2:¬p→yT P ds all w KS os (l.set d (.bool false))):
 yT P ds all w KS (⟨some d,op,ty,pos,af,none⟩::os) l:=by
 by_cases hp:p
 · exact GK hx hp (h1 hp)
 exact DS hx hp (h2 hp)
theorem yS {dst:Option Tmp} {j:Nat} {b:Bool} (hg:yes all l j=some b) (h:yT P ds all w KS (⟨dst,op,ty,pos,af,none⟩::os) l):yT P ds all w KS (⟨dst,op,ty,pos,af,some (j,b)⟩::os) l:=by
 have e1:Region.wanted ⟨dst,op,ty,pos,af,some (j,b)⟩ (yielded all.toArray l.toArray)=true:=by simp[Region.wanted,rX,hg]
 show(if _ then _ else _)
 rw[if_pos e1]
 exact h
theorem yY {j:Nat} {b:Bool} (hg:(yes all l j==some b)=false) (h:yT P ds all w KS os (l.set d undef)):yT P ds all w KS (⟨some d,op,ty,pos,af,some (j,b)⟩::os) l:=by
 have e1:¬Region.wanted ⟨some d,op,ty,pos,af,some (j,b)⟩ (yielded all.toArray l.toArray)=true:=by simpa[Region.wanted,rX]using hg
 show(if _ then _ else _)
 rw[if_neg e1,tG]
 exact h
end steps
section ex
variable {P:Program} {l:List Value} {w:World} {ty t t':TypeId} {x y z:Operand} {k k':IntKind} {m n r:Int} {b:Bool} {u v:Value}
theorem zK (hx:ev l x=some v):Ex P l (.move x) ty w (.value v) w:=fun _ _ _ _=>by simp[execOp,zV hx]
theorem zP (hx:ev l x=some v):Ex P l (.assign x) ty w (.value v) w:=fun _ _ _ _=>by simp[execOp,zV hx]
theorem xS (hc:ev l x=some (.bool true)) (hx:ev l y=some v):Ex P l (.pick x y z) ty w (.value v) w:=fun _ _ _ _=>by simp[execOp,zV hc,zV hx,asBool]
theorem vL (hc:ev l x=some (.bool false)) (hx:ev l z=some v):Ex P l (.pick x y z) ty w (.value v) w:=fun _ _ _ _=>by simp[execOp,zV hc,zV hx,asBool]
theorem aF (hx:ev l x=some (.bool b)):Ex P l (.unOp .not t x) ty w (.value (.bool (!b))) w:=fun _ _ _ _=>by simp[execOp,zV hx,Op.unary]
theorem zL (hx:ev l x=some (.int k m)) (hy:ev l y=some (.int k n)) (hr:k.wrap (m+n)=r):Ex P l (.binOp .add t x y t') ty w (.value (.int k r)) w:=fun _ _ _ _=>by
 simp[execOp,zV hx,zV hy,binOp,Op.intArith,eqGuard,hr]
theorem uI (hx:ev l x=some (.int k m)) (hy:ev l y=some (.int k n)) (hr:k.wrap (m - n)=r):Ex P l (.binOp .sub t x y t') ty w (.value (.int k r)) w:=fun _ _ _ _=>by
 simp[execOp,zV hx,zV hy,binOp,Op.intArith,eqGuard,hr]
theorem aG (hx:ev l x=some (.int k m)) (hy:ev l y=some (.int k n)) (hr:k.wrap (m*n)=r):Ex P l (.binOp .mul t x y t') ty w (.value (.int k r)) w:=fun _ _ _ _=>by
 simp[execOp,zV hx,zV hy,binOp,Op.intArith,eqGuard,hr]
theorem CZ (hx:ev l x=some (.int k m)) (hy:ev l y=some (.int k n)) (h0:n≠0) (hr:k.wrap (m.tdiv n)=r):Ex P l (.binOp .quo t x y t') ty w (.value (.int k r)) w:=fun _ _ _ _=>by
 simp[execOp,zV hx,zV hy,binOp,Op.intDiv,eqGuard,h0,hr]
theorem eO (hx:ev l x=some (.int k m)) (hy:ev l y=some (.int k n)) (h0:n≠0) (hr:m.tmod n=r):Ex P l (.binOp .rem t x y t') ty w (.value (.int k r)) w:=fun _ _ _ _=>by
 simp[execOp,zV hx,zV hy,binOp,Op.intDiv,eqGuard,h0,hr]
theorem HY (hx:ev l x=some (.int k m)) (hy:ev l y=some (.int k n)) (hr:bits .and k m n=r):Ex P l (.binOp .and t x y t') ty w (.value (.int k r)) w:=fun _ _ _ _=>by
 simp[execOp,zV hx,zV hy,binOp,Op.intBits,eqGuard,← hr,bits]
theorem dG (hx:ev l x=some (.int k m)) (hy:ev l y=some (.int k n)) (hr:bits .or k m n=r):Ex P l (.binOp .or t x y t') ty w (.value (.int k r)) w:=fun _ _ _ _=>by
 simp[execOp,zV hx,zV hy,binOp,Op.intBits,eqGuard,← hr,bits]
theorem FK (hx:ev l x=some (.int k m)) (hr:bits .xor k (if k.signed then -1 else k.max) m=r):Ex P l (.unOp .xor t x) ty w (.value (.int k r)) w:=fun _ _ _ _=>by
 simp[execOp,zV hx,Op.unary,Op.intBits,← hr,bits]
theorem X4 (hx:ev l x=some (.int k m)) (hr:k.wrap (0 - m)=r):Ex P l (.unOp .neg t x) ty w (.value (.int k r)) w:=fun _ _ _ _=>by
 simp[execOp,zV hx,Op.unary,Op.intArith,← hr]
theorem kE (hx:ev l x=some (.int k m)) (hy:ev l y=some (.int k' n)) (h0:0≤n) (hr:k.wrap (m*2^(min n.toNat k.bits))=r):Ex P l (.binOp .shl t x y t') ty w (.value (.int k r)) w:=fun _ _ _ _=>by
 have h0':¬n < 0:=by omega
 simp[execOp,zV hx,zV hy,binOp,Op.shift,eqGuard,h0',← hr]
theorem oW (hx:ev l x=some (.int k m)) (hy:ev l y=some (.int k' n)) (h0:0≤n) (hr:m.fdiv (2^(min n.toNat k.bits))=r):Ex P l (.binOp .shr t x y t') ty w (.value (.int k r)) w:=fun _ _ _ _=>by
 have h0':¬n < 0:=by omega
 simp[execOp,zV hx,zV hy,binOp,Op.shift,eqGuard,h0',← hr]
theorem zR (hx:ev l x=some (.int k m)) (hy:ev l y=some (.int k n)):Ex P l (.binOp .lss t x y t') ty w (.value (.bool (decide (m < n)))) w:=fun _ _ _ _=>by
 simp[execOp,zV hx,zV hy,binOp,Op.intCmp,eqGuard]
theorem uV (hx:ev l x=some (.int k m)) (hy:ev l y=some (.int k n)):Ex P l (.binOp .leq t x y t') ty w (.value (.bool (decide (m≤n)))) w:=fun _ _ _ _=>by
 simp[execOp,zV hx,zV hy,binOp,Op.intCmp,eqGuard]
theorem yP (hx:ev l x=some (.int k m)) (hy:ev l y=some (.int k n)):Ex P l (.binOp .gtr t x y t') ty w (.value (.bool (decide (n < m)))) w:=fun _ _ _ _=>by
 simp[execOp,zV hx,zV hy,binOp,Op.intCmp,eqGuard]
theorem wC (hx:ev l x=some (.int k m)) (hy:ev l y=some (.int k n)):Ex P l (.binOp .geq t x y t') ty w (.value (.bool (decide (n≤m)))) w:=fun _ _ _ _=>by
 simp[execOp,zV hx,zV hy,binOp,Op.intCmp,eqGuard]
theorem yU (hx:ev l x=some (.int k m)) (hy:ev l y=some (.int k n)):Ex P l (.binOp .eql t x y t') ty w (.value (.bool (decide (m=n)))) w:=fun _ _ _ _=>by
 simp[execOp,zV hx,zV hy,binOp,Op.intCmp,eqGuard]
 rfl
theorem yR (hx:ev l x=some (.int k m)) (hy:ev l y=some (.int k n)):Ex P l (.binOp .neq t x y t') ty w (.value (.bool (decide (m≠n)))) w:=fun _ _ _ _=>by
 simp[execOp,zV hx,zV hy,binOp,Op.intCmp,eqGuard,bne]
 rfl
theorem xJ (hd:P.underlying t'=some (.int k)) (hs:P.underlying t=some (.int k')) {k2:IntKind} (hx:ev l x=some (.int k2 m)) (hr:k.wrap m=r):Ex P l (.convert t t' x) ty w (.value (.int k r)) w:=fun _ _ _ _=>by
 simp[execOp,zV hx,convert,run_underlying hd,run_underlying hs,Conv.intToInt,hr]
theorem yH {a:Addr} (hx:ev l x=some (.pointer (some a))):Ex P l (.nilCheck x) ty w (.value (.pointer (some a))) w:=fun _ _ _ _=>by
 simp[execOp,zV hx]
theorem xA {vs:List Value} {i:Nat} (hx:ev l x=some (.tuple vs.toArray)) (hi:vs[i]? =some v):Ex P l (.extract x i) ty w (.value v) w:=fun _ _ _ _=>by
 simp[execOp,zV hx,Instr.extract,hi]
theorem wH {fn:Fn} {xs ys:List Operand} {us vs:List Value} (h1:evs l xs=some us) (h2:evs l ys=some vs):Ex P l (.makeFunc fn xs.toArray ys.toArray) ty w (.value (.func fn us.toArray vs.toArray)) w:=fun _ _ _ _=>by
 simp[execOp,Instr.makeFunc,nY h1,nY h2]
theorem tB {e:TypeId} {A:Option Addr} {n c:Nat} {ats:Array TypeId} (ht:(ats[0]?).bind P.underlying=some (.slice e)) (hx:ev l x=some (.slice A n c)):
 Ex P l (.call { callee:=.builtin .len,args:=#[x],argTypes:=ats }) ty w (.value (.int .i64 n)) w:=fun _ _ _ _=>by
 cases ha:ats[0]? with
 | none=>rw[ha]at ht;simp at ht
 | some s=>
  rw[ha]at ht
  simp only[Option.bind_some]at ht
  simp[execOp,resolve,invoke,builtin,zV hx,Builtin.len_,ha,run_underlying ht,goInt]
theorem mR {e:TypeId} {A:Option Addr} {n c:Nat} {ats:Array TypeId} (ht:(ats[0]?).bind P.underlying=some (.slice e)) (hx:ev l x=some (.slice A n c)):
 Ex P l (.call { callee:=.builtin .cap,args:=#[x],argTypes:=ats }) ty w (.value (.int .i64 c)) w:=fun _ _ _ _=>by
 cases ha:ats[0]? with
 | none=>rw[ha]at ht;simp at ht
 | some s=>
  rw[ha]at ht
  simp only[Option.bind_some]at ht
  simp[execOp,resolve,invoke,builtin,zV hx,Builtin.cap_,ha,run_underlying ht,goInt]
theorem oX {s:ByteArray} {ats:Array TypeId} (ht:(ats[0]?).bind P.underlying=some .string) (hx:ev l x=some (.string s)):
 Ex P l (.call { callee:=.builtin .len,args:=#[x],argTypes:=ats }) ty w (.value (.int .i64 s.size)) w:=fun _ _ _ _=>by
 cases ha:ats[0]? with
 | none=>rw[ha]at ht;simp at ht
 | some u=>
  rw[ha]at ht
  simp only[Option.bind_some]at ht
  simp[execOp,resolve,invoke,builtin,zV hx,Builtin.len_,ha,run_underlying ht,goInt]
theorem HT {ats:Array TypeId} (hx:ev l x=some (.int k m)) (hy:ev l y=some (.int k n)):
 Ex P l (.call { callee:=.builtin .max,args:=#[x,y],argTypes:=ats }) ty w (.value (.int k (max m n))) w:=fun _ _ _ _=>by
 simp[execOp,resolve,invoke,builtin,zV hx,zV hy,Builtin.max_,Builtin.max2]
 by_cases h:m < n
 · rw[if_pos h];omega
 rw[if_neg h];omega
theorem QU {ats:Array TypeId} (hx:ev l x=some (.int k m)) (hy:ev l y=some (.int k n)):
 Ex P l (.call { callee:=.builtin .min,args:=#[x,y],argTypes:=ats }) ty w (.value (.int k (min m n))) w:=fun _ _ _ _=>by
 simp[execOp,resolve,invoke,builtin,zV hx,zV hy,Builtin.min_,Builtin.min2]
 by_cases h:n < m
 · rw[if_pos h];omega
 rw[if_neg h];omega
theorem B8 {f:FuncId} {fn:Func} {c:Code} (hf:P.funcs[f]? =some fn) (hb:fn.body=some c) (hn:(fn.name== "runtime.NumGoroutine")=false) (args:Array Value):(callFunc f args).run P w=.ok (.enter f args) w:=by
 have hn':¬fn.name= "runtime.NumGoroutine":=by simpa using hn
 simp[callFunc,hf,hb,program,Sem.run,hn']
def yB (P:Program) (f:FuncId):Bool:=match P.funcs[f]? with
 | some fn=>fn.body.isSome && !(fn.name== "runtime.NumGoroutine")
 | none=>false
theorem gC {f:FuncId} (h:yB P f=true) (args:Array Value):(callFunc f args).run P w=.ok (.enter f args) w:=by
 unfold yB at h
 split at h
 · rename_i fn hf
   simp only[Ce,Bool.not_eq_true',Option.isSome_iff_exists]at h
   obtain⟨⟨c,hc⟩,hn⟩:=h
   exact B8 hf hc hn args
 cases h
theorem mS {f:FuncId} (hf:yB P f=true) {xs:List Operand} {vs:List Value} {ats:Array TypeId} (hx:evs l xs=some vs):
 Ex P l (.call { callee:=.value (.func f),args:=xs.toArray,argTypes:=ats }) ty w (.enter f vs.toArray) w:=fun _ _ _ _=>by
 have hr:rho l (.func f)=.func (.func f) #[] #[]:=rfl
 simp[execOp,resolve,Deferred.ofValue,invoke,nY hx,gC hf,hr]
theorem xD {f:FuncId} (hf:yB P f=true) {xs:List Operand} {vs cap:List Value} {ats:Array TypeId} (hc:ev l x=some (.func (.func f) #[] cap.toArray)) (hx:evs l xs=some vs):
 Ex P l (.call { callee:=.value x,args:=xs.toArray,argTypes:=ats }) ty w (.enter f (vs++cap).toArray) w:=fun _ _ _ _=>by
 simp[execOp,resolve,Deferred.ofValue,invoke,nY hx,gC hf,zV hc]
def tyOf (P:Program) (t:TypeId):Option (List Value×Nat×Nat×Bool):=
 match P.info? t,P.underlying t with
 | some i,some d=>match i.zero with
  | some z=>if z.cells.toList.length=i.size then some (z.cells.toList,i.size,i.bytes,match d with | .struct _ | .array _ _=>true | _=>false) else none
  | none=>none
 | _,_=>none
structure xQ (P:Program) (t:TypeId) (zs:List Value) (sz bytes:Nat) (agg:Bool):Prop where
 len:zs.length=sz
 ex:∃ i z d,P.info? t=some i∧i.zero=some z∧z.cells.toList=zs∧i.size=sz∧i.bytes=bytes∧P.underlying t=some d∧agg=(match d with | .struct _ | .array _ _=>true | _=>false)
theorem vU {t:TypeId} {zs:List Value} {sz bytes:Nat} {agg:Bool} (h:tyOf P t=some (zs,sz,bytes,agg)):xQ P t zs sz bytes agg:=by
 unfold tyOf at h
 split at h
 · rename_i i d hi hd
   split at h
   · rename_i z hz
     split at h
     · rename_i hl
       simp only[Option.some.injEq,Prod.mk.injEq]at h
       exact⟨by rw[← h.1,← h.2.1];exact hl,i,z,d,hi,hz,h.1,h.2.1,h.2.2.1,hd,h.2.2.2.symm⟩
     cases h
   cases h
 cases h
def yC (P:Program) (t:TypeId) (f:Nat):Option (Nat×TypeId):=
 match P.underlying t with
 | some (.struct fs)=>match fs[f]? with
  | some fd=>match P.info? fd.type with
   | some i=>if i.size=0 then none else some (fd.offset,fd.type)
   | none=>none
  | none=>none
 | _=>none
variable {zs:List Value} {sz bytes:Nat} {agg:Bool}
theorem fV (h:xQ P t zs sz bytes agg):(isAgg t).run P w=.ok agg w:=by
 obtain⟨i,z,d,hi,hz,_,_,_,hd,rfl⟩:=h.ex
 simp only[isAgg,Sem.run_bind,run_underlying hd,Result.andThen_ok]
 cases d <;>rfl
theorem vH (h:xQ P t zs sz bytes agg):(sizeOf t).run P w=.ok sz w:=by
 obtain⟨i,z,d,hi,hz,_,rfl,_,hd,rfl⟩:=h.ex
 simp[sizeOf,typeInfo,hi]
theorem pB (h:xQ P t zs sz bytes false) {p:Addr} (hc:w.cell? p=some v):(loadVar t p).run P w=.ok v w:=by
 simp only[loadVar,Sem.run_bind,fV h,Result.andThen_ok]
 simp[load,Sem.run,hc]
theorem pA (h:xQ P t zs sz bytes true) {p:Addr} {vs:List Value} (hl:vs.length=sz) (hc:∀ j u,vs[j]? =some u→w.cell? (p.add j)=some u):(loadVar t p).run P w=.ok (.agg vs.toArray) w:=by
 have hr:=run_loadCells_list (P:=P) w p vs hc
 simp[loadVar,fV h,vH h,← hl,hr]
theorem gZ (h:xQ P t zs sz bytes false) {p:Addr} (hx:ev l x=some (.pointer (some p))) (hc:w.cell? p=some v):Ex P l (.load t x) ty w (.value v) w:=fun _ _ _ _=>by
 simp[execOp,zV hx,Instr.loadAt,Instr.sureAddr,pB h hc]
theorem FJ (h:xQ P t zs sz bytes true) {p:Addr} (hx:ev l x=some (.pointer (some p))) {vs:List Value} (hl:vs.length=sz) (hc:∀ j u,vs[j]? =some u→w.cell? (p.add j)=some u):Ex P l (.load t x) ty w (.value (.agg vs.toArray)) w:=fun _ _ _ _=>by
 simp[execOp,zV hx,Instr.loadAt,Instr.sureAddr,pA h hl hc]
theorem rR {f off:Nat} {ft:TypeId} (h:yC P t f=some (off,ft)) {b o:Nat} (hx:ev l x=some (.pointer (some ⟨b,o,none⟩))):Ex P l (.fieldAddr t x f) ty w (.value (.pointer (some ⟨b,o+off,none⟩))) w:=fun _ _ _ _=>by
 unfold yC at h
 split at h
 · rename_i fs hu
   split at h
   · rename_i fd hfd
     split at h
     · rename_i i hi
       split at h
       · cases h
       rename_i hsz
       simp only[Option.some.injEq,Prod.mk.injEq]at h
       obtain⟨rfl,rfl⟩:=h
       simp[execOp,zV hx,Instr.fieldAt,run_underlying hu,hfd,Instr.sureAddr,fieldPlace,sizeOf,typeInfo,hi,hsz,Ll]
     cases h
   cases h
 cases h
theorem QV {e:TypeId} (ht:P.underlying t=some (.slice e)) (he:xQ P e zs sz bytes agg) {a:Addr} {len c:Nat} (hx:ev l x=some (.slice (some a) len c)) (hy:ev l y=some (.int k n)) (h0:0≤n) (h1:n < len):
 Ex P l (.indexAddr t x y) ty w (.value (.pointer (some (a.add (n.toNat*sz))))) w:=fun _ _ _ _=>by
 have h2:0≤n∧n < len:=⟨h0,h1⟩
 simp[execOp,zV hx,zV hy,Instr.indexAt,asIntOf,run_underlying ht,vH he,h2]
theorem eR {e:TypeId} (ht:P.underlying t=some (.slice e)) (he:xQ P e zs sz bytes agg) {a:Addr} {len c i o:Nat} (hx:ev l x=some (.slice (some a) len c)) (hy:ev l y=some (.int k n)) (hn:n=(i:Int)) (hi:i < len) (ho:i*sz=o):
 Ex P l (.indexAddr t x y) ty w (.value (.pointer (some (a.add o)))) w:=by
 subst hn
 have h:=QV (ty:=ty) (w:=w) ht he hx hy (by omega) (by omega)
 rw[Int.toNat_natCast,ho]at h
 exact h
def wE (A:Option Addr) (lo mx sz:Nat):Option Addr:=if mx=lo then A else A.map (·.add (lo*sz))
theorem UJ {e:TypeId} (ht:P.underlying t=some (.slice e)) (he:xQ P e zs sz bytes agg) {A:Option Addr} {len c:Nat} {lo hi mx:Int} {kl kh km:IntKind} {xl xh xm:Operand}
 (hx:ev l x=some (.slice A len c)) (hl:ev l xl=some (.int kl lo)) (hh:ev l xh=some (.int kh hi)) (hm:ev l xm=some (.int km mx)) (h:0≤lo∧lo≤hi∧hi≤mx∧mx≤c):
 Ex P l (.slice t x (some xl) (some xh) (some xm)) ty w (.value (.slice (wE A lo.toNat mx.toNat sz) (hi.toNat - lo.toNat) (mx.toNat - lo.toNat))) w:=fun _ _ _ _=>by
 obtain⟨a,rfl⟩:=Kr (show 0≤lo by omega)
 obtain⟨b,rfl⟩:=Kr (show 0≤hi by omega)
 obtain⟨d,rfl⟩:=Kr (show 0≤mx by omega)
 have h1:d≤c:=by omega
 have h2:b≤d:=by omega
 have h3:a≤b:=by omega
 simp[execOp,zV hx,zV hl,zV hh,zV hm,Instr.sliceAt,Instr.slice,run_underlying ht,vH he,Instr.sliceBounds,Instr.sliceBound,asIntOf,h1,h2,h3,wE]
theorem pX {e:TypeId} (ht:P.underlying t=some (.slice e)) (he:xQ P e zs sz bytes agg) {A:Option Addr} {len c:Nat} {hi:Int} {kh:IntKind} {xh:Operand}
 (hx:ev l x=some (.slice A len c)) (hh:ev l xh=some (.int kh hi)) (h:0≤hi∧hi≤c):
 Ex P l (.slice t x none (some xh) none) ty w (.value (.slice A hi.toNat c)) w:=fun _ _ _ _=>by
 obtain⟨b,rfl⟩:=Kr (show 0≤hi by omega)
 have h2:b≤c:=by omega
 simp[execOp,zV hx,zV hh,Instr.sliceAt,Instr.slice,run_underlying ht,vH he,Instr.sliceBounds,Instr.sliceBound,asIntOf,h2,Iq]
theorem vB {e:TypeId} (ht:P.underlying t=some (.slice e)) (he:xQ P e zs sz bytes agg) {A:Option Addr} {len c:Nat} {lo:Int} {kl:IntKind} {xl:Operand}
 (hx:ev l x=some (.slice A len c)) (hl:ev l xl=some (.int kl lo)) (h:0≤lo∧lo≤len):
 Ex P l (.slice t x (some xl) none none) ty w (.value (.slice (wE A lo.toNat c sz) (len - lo.toNat) (c - lo.toNat))) w:=fun _ _ _ _=>by
 obtain⟨a,rfl⟩:=Kr (show 0≤lo by omega)
 have h3:a≤len:=by omega
 simp[execOp,zV hx,zV hl,Instr.sliceAt,Instr.slice,run_underlying ht,vH he,Instr.sliceBounds,Instr.sliceBound,asIntOf,h3,wE]
theorem jN {u v:Value} {b:Bool} (hx:ev l x=some u) (hy:ev l y=some v) (hg:eqGuard .eql t x y u v=pure ()) (hb:binOp .eql t u v=(do pure (.bool (← Op.equal t u v)))) (h:∀ d,(Op.equalIn (d+1) t u v).run P w=.ok b w):
 Ex P l (.binOp .eql t x y t') ty w (.value (.bool b)) w:=fun _ _ _ _=>by
 have he:(Op.equal t u v).run P w=.ok b w:=h 9999
 simp only[execOp,zV hx,zV hy,hb,hg]
 simp[he]
theorem eP {u v:Value} {b:Bool} (hx:ev l x=some u) (hy:ev l y=some v) (hg:eqGuard .neq t x y u v=pure ()) (hb:binOp .neq t u v=(do pure (.bool (!(← Op.equal t u v))))) (h:∀ d,(Op.equalIn (d+1) t u v).run P w=.ok b w):
 Ex P l (.binOp .neq t x y t') ty w (.value (.bool (!b))) w:=fun _ _ _ _=>by
 have he:(Op.equal t u v).run P w=.ok b w:=h 9999
 simp only[execOp,zV hx,zV hy,hb,hg]
 simp[he]
theorem aI {e:TypeId} (ht:P.underlying t=some (.slice e)) (A:Option Addr) (n c:Nat) (d:Nat):(Op.equalIn (d+1) t (.slice A n c) (.slice none 0 0)).run P w=.ok (decide (A=none)) w:=by
 cases A <;>simp[Op.equalIn,run_underlying ht]
theorem fC {e:TypeId} (ht:P.underlying t=some (.pointer e)) (A:Option Addr) (d:Nat):(Op.equalIn (d+1) t (.pointer A) (.pointer none)).run P w=.ok (decide (A=none)) w:=by
 cases A <;>simp[Op.equalIn,run_underlying ht]
theorem vA {e:TypeId} (ht:P.underlying t=some (.slice e)) {A:Option Addr} {len c:Nat} (hx:ev l x=some (.slice A len c)):
 Ex P l (.binOp .eql t x (.const (.slice none 0 0)) t') ty w (.value (.bool (decide (A=none)))) w:=
 jN hx rfl rfl rfl (aI ht A len c)
theorem yE {e:TypeId} (ht:P.underlying t=some (.pointer e)) {A:Option Addr} (hx:ev l x=some (.pointer A)):
 Ex P l (.binOp .eql t x (.const (.pointer none)) t') ty w (.value (.bool (decide (A=none)))) w:=
 jN hx rfl rfl rfl (fC ht A)
theorem uB {e:TypeId} (ht:P.underlying t=some (.pointer e)) {A:Option Addr} (hx:ev l x=some (.pointer A)):
 Ex P l (.binOp .neq t x (.const (.pointer none)) t') ty w (.value (.bool (decide (¬A=none)))) w:=by
 rw[decide_not];exact eP hx rfl rfl rfl (fC ht A)
end ex
section
variable {P:Program} {ops:Array Oper} {md:Region.Mode} {w:World} {n m:Nat} {listed:Array Bool}
theorem gJ {t j:Nat} (hw:Region.waitsFor md ops t j=true) (hj:listed.getD j true=false):t∉Region.ready md ops listed:=by
 intro hr
 obtain⟨_,ot,hot,hall⟩:=mem_ready.1 hr
 obtain⟨o',ho',e,he,hb,hon⟩:=Region.waitsFor_spec hw
 have:o'=ot:=Option.some.inj (ho'.symm.trans hot)
 subst this
 have h2:=hall e he hb
 rw[hon,getD_both hj]at h2
 cases h2
theorem lI (hs:Region.sinkB md ops n=true) (inv:HeadInv md ops n listed) (hn:n < ops.size):∀ (d i:Nat),n - i≤d→i < n→listed.getD i true=false→n∉Region.ready md ops listed
 | 0,i,h,hi,_=>by omega
 | d+1,i,h,hi,hun=>by
  obtain⟨j,hj,hj2⟩:=List.any_eq_true.1 (Ew.1 hs i (List.mem_range.2 hi))
  simp only[Ce,decide_eq_true_eq]at hj2
  have hjle:j < n+1:=List.mem_range.1 hj
  by_cases hjn:j=n
  · subst hjn;exact gJ hj2.2 hun
  refine lI hs inv hn d j (by omega) (by omega) ?_
  cases hl:listed.getD j false with
  | false=>exact getD_in (by rw[inv.size];omega) hl
  | true=>
   obtain⟨oj,hoj,e,he,hb,hon⟩:=Region.waitsFor_spec hj2.2
   have h2:=inv.closed j oj hoj hl e he hb
   rw[hon,getD_both hun]at h2
   cases h2
def fJ (md:Region.Mode) (ops:Array Oper) (n:Nat):Bool:=
 (List.range ops.size).all fun t=>decide (t≤n) || (List.range t).any fun j=>decide (n≤j) && Region.waitsFor md ops t j
theorem bV (hs:Region.sinkB md ops n=true) (hc:fJ md ops n=true) (hn:n < ops.size) (inv:HeadInv md ops n listed) {i:Nat} (hi:i < n) (hun:listed.getD i true=false):∀ t,n≤t→t∉Region.ready md ops listed:=by
 intro t ht
 by_cases htn:t=n
 · subst htn;exact lI hs inv hn (t - i) i (Ai _) hi hun
 by_cases htl:t < ops.size
 · have h1:=Ew.1 hc t (List.mem_range.2 htl)
   simp only[Bool.or_eq_true,decide_eq_true_eq]at h1
   rcases h1 with h1 | h1
   · omega
   obtain⟨j,hj,hj2⟩:=List.any_eq_true.1 h1
   simp only[Ce,decide_eq_true_eq]at hj2
   have:=List.mem_range.1 hj
   exact gJ hj2.2 (inv.tail j hj2.1 (by omega))
 intro hr
 obtain⟨_,ot,hot,_⟩:=mem_ready.1 hr
 exact htl (Dw.1 hot).1
theorem BH {i:Nat} {oi:Oper} {v:Value} {L:Array Bool→Act→Prop} (hi:ops[i]? =some oi) (hsel:∀ (j:Nat) (o:Oper) cs b,ops[j]? =some o→o.op≠ .select cs b) (hin:i < n)
 (hw:∀ listed,HeadInv md ops n listed→listed.getD i true=false→∀ t,n≤t→t∉Region.ready md ops listed) (hdone:∀ listed a,L listed a→∀ j∈Region.ready md ops listed,n≤j):
 ∀ (f:Nat) (listed:Array Bool) (a:Act),HeadInv md ops n listed→
  (∀ j oj,ops[j]? =some oj→j≠i→listed.getD j true=false→(∀ e∈oj.after,Region.binds md e=true→e.on≠i)→oi.apart ops oj=true)→
  i∈Region.ready md ops listed→YieldsAt P ops w oi v a→
  wpAnyL P md ops w n L f (listed.setIfInBounds i true) (a.put oi.dst v)→wpAnyL P md ops w n L (f+1) listed a
 | f,listed,a,inv,hfree,hr,hy,H=>by
  have hun:=(mem_ready.1 hr).1
  refine⟨fun h=>(by rw[h]at hr;cases hr),fun j hj=>?_⟩
  have hjn:j < n:=Nat.lt_of_not_le fun h=>hw listed inv hun j h hj
  refine⟨hjn,?_⟩
  by_cases hji:j=i
  · subst hji;exact hy.stOp hi H
  cases f with
  | zero=>have:=hdone _ _ H j (ready_mono hj hji);omega
  | succ f=>
   obtain⟨hjun,oj,hoj,hall⟩:=mem_ready.1 hj
   have h2:=stOp_put hoj (hfree j oj hoj hji hjun fun e he hb heq=>by
    have h1:=hall e he hb
    rw[heq,getD_both hun]at h1
    cases h1) (fun cs b=>hsel i oi cs b hi) (fun cs b=>hsel j oj cs b hoj) hy (H.2 j (ready_mono hj hji)).2
   refine stOp_mono (fun a' h3=>BH hi hsel hin hw hdone f (listed.setIfInBounds j true) a' (inv.set hj hjn) (fun k ok hk hki hu hno=>?_) (ready_mono hr (Ne.symm hji)) h3.1 ?_) h2
   · refine hfree k ok hk hki ?_ hno
     by_cases hjk:j=k
     · subst hjk;exact hjun
     rw[getD_set_ne true hjk]at hu;exact hu
   rw[Qb _ _ hji]
   exact h3.2
def GY (md:Region.Mode) (ops:Array Oper):Nat→Nat→Array Bool→Bool
 | 0,k,listed=>Region.lexFrom md ops (ops.size - k) k listed
 | g+1,k,listed=>decide (Region.ready md ops listed=[k]) && GY md ops g (k+1) (listed.setIfInBounds k true)
def E8 (md:Region.Mode) (ops:Array Oper) (g:Nat):Nat→Nat→Array Bool→Bool
 | 0,k,listed=>GY md ops (g+1) k listed
 | f+1,k,listed=>(Region.ready md ops listed).contains k && Region.free md ops listed k && E8 md ops g f (k+1) (listed.setIfInBounds k true)
def CO (md:Region.Mode) (ops:Array Oper) (n g:Nat):Bool:=
 Region.noSelect ops && decide (n+g < ops.size) && Region.sinkB md ops n && fJ md ops n && E8 md ops g n 0 (Array.replicate ops.size false)
theorem E7 {g:Nat} {Lq:Act→Prop} (hsel:Region.noSelect ops=true) (hs:Region.sinkB md ops n=true) (hc:fJ md ops n=true) (hn:n < ops.size):
 ∀ (l:List Oper) (k:Nat) (listed:Array Bool) (a:Act),(∀ j,j < l.length→l[j]? =ops[k+j]?)→k+l.length=n→HeadInv md ops n listed→
 E8 md ops g l.length k listed=true→wpStill P ops w Lq l a→
 wpAnyL P md ops w n (fun listed' a'=>GY md ops (g+1) n listed'=true∧Lq a') l.length listed a
 | [],k,listed,a,_,hk,_,hB,h=>by
  have:k=n:=by simpa using hk
  subst this
  exact⟨by simpa[E8]using hB,h⟩
 | o::l,k,listed,a,hl,hk,inv,hB,h=>by
  have h0:ops[k]? =some o:=by simpa using(hl 0 (by simp)).symm
  simp only[Bg,E8,Ce]at hB
  obtain⟨⟨hr,hf⟩,hB'⟩:=hB
  have hkn:k < n:=by simp only[Bg]at hk;omega
  have hr':k∈Region.ready md ops listed:=by simpa using hr
  have hst:stOp P ops w k (wpStill P ops w Lq l) a:=by unfold stOp;simp only[h0];exact h
  obtain⟨v,hy,hK⟩:=yieldsAt_of_stOp h0 hst
  refine BH h0 (Om hsel) hkn (fun listed inv hu=>bV hs hc hn inv hkn hu) (fun listed' a' hL j hj=>?_) l.length listed a inv (Ol h0 hf) hr' hy
   (E7 hsel hs hc hn l (k+1) _ _ (fun j hj=>by have:=hl (j+1) (by simp;omega);simpa[Gf,Kq 1 j]using this) (by simp only[Bg]at hk;omega) (inv.set hr' hkn) hB' hK)
  have h1:=hL.1
  simp only[GY,Ce,decide_eq_true_eq]at h1
  rw[h1.1]at hj
  have:j=n:=by simpa using hj
  omega
theorem lA {o:Oper} {a:Act} {K:Act→World→Prop} {Q1 Q2:Exit→Act→World→Prop} (hq:∀ e a w,e≠ .normal→Q1 e a w→Q2 e a w) (hh:o.wp P a w K Q1):o.wp P a w K Q2:=by
 unfold Oper.wp at*
 generalize (execOp a.eval o).run P w=r at*
 cases r with
 | ok n w'=>
  cases n <;>simp only[Oper.upon]at hh ⊢ <;>
   first
    | exact hh
    | exact Calls.mono hh (fun e w'' he=>by
     cases e with
     | returned v=>exact he
     | panicked c=>exact hq _ _ _ (by simp) he
     | outgrown=>exact(let ⟨a,w,h⟩:=he;⟨a,w,hq _ _ _ (by simp) h⟩))
 | halt x w'=>
  cases x <;>simp only[Oper.upon]at hh ⊢ <;>first | exact hq _ _ _ (by simp) hh | exact hh
theorem JB {Q' : Exit → Act → World → Prop} (hsel : Region.noSelect ops = true) : ∀ (l1 l2 : List Oper) (k : Nat) (listed : Array Bool) (a : Act) (w : World), (∀ j, (l1 ++ l2)[j]? = ops[k + j]?) → ops.size - k = (l1 ++ l2).length →
    GY md ops l1.length k listed = true → wpList P ops (Exit.then (fun a' w' => wpStill P ops w' (fun a'' => Q' .normal a'' w') l2 a') Q') l1 a w →
    wpAny P md ops Q' (l1 ++ l2).length listed a w
  | [], l2, k, listed, a, w, hl, hsz, hB, h => by
    simp only [Ih, Ed, GY] at hl hB hsz ⊢
    rw [hsz] at hB
    exact wpAny_of_still (fun _ h => h) _ _ _ (wpAnyS_lex hsel l2 k listed a hl hB h)
  | o :: l1, l2, k, listed, a, w, hl, hsz, hB, h => by
    have h0 : ops[k]? = some o := by simpa using (hl 0).symm
    simp only [Bg, GY, Ce, decide_eq_true_eq] at hB
    refine ⟨fun h1 => (by rw [hB.1] at h1; cases h1), fun i hi => ?_⟩
    rw [hB.1] at hi
    have hik : i = k := by simpa using hi
    subst hik
    have ih := fun a' w' h' => JB (Q' := Q') hsel l1 l2 (i + 1) (listed.setIfInBounds i true) a' w' (fun j => by have := hl (j + 1); simpa [Gf, Kq 1 j] using this)
      (by simp only [Je, Bg] at hsz; omega) hB.2 h'
    unfold wpOp
    simp only [h0]
    unfold wpList at h
    split
    · rename_i hw
      rw [if_pos hw] at h
      rcases h with h | ⟨h1, a1, w1, h2⟩
      · exact .inl (Oper.wp_mono ih (lA (fun e a w he h => by cases e <;> first | exact absurd Y he | exact h) h))
      exact .inr ⟨h1, a1, w1, h2⟩
    rename_i hw
    rw [if_neg hw] at h
    exact ih _ _ h
theorem aQ {id:Nat} {Q:Exit→Act→World→Prop} {a:Act} {l l1 l2 l3:List Oper} (hl:l=l1++(l2++l3)) (n g:Nat) (hn:l1.length=n) (hg:l2.length=g+1) (hm:P.follows .mixedOrders=true) (hB:CO .any l.toArray n g=true)
 (h:wpStill P l.toArray { w with drawn:=w.drawn+1 } (fun a'=>wpList P l.toArray (Exit.then (fun a' w'=>wpStill P l.toArray w' (fun a''=>Q .normal a'' w') l3 a') Q) l2 a' { w with drawn:=w.drawn+1 }) l1 a):(Code.region id l.toArray true).wp P Q a w:=by
 simp only[CO,Ce,decide_eq_true_eq]at hB
 obtain⟨⟨⟨⟨hsel,hlt⟩,hs⟩,hc⟩,hlex⟩:=hB
 subst hn
 have hlen:l.length=l1.length+(l2.length+l3.length):=by rw[hl];simp
 have hn':l1.length < l.toArray.size:=by simp only[Hu]at hlt ⊢;omega
 have inv0:HeadInv .any l.toArray l1.length (Array.replicate l.toArray.size false):=
  ⟨by simp,fun j oj _ hl=>(by rw[getD_replicate_false]at hl;cases hl),fun t _ ht=>getD_in (by simpa using ht) (getD_replicate_false _ _)⟩
 have H:=E7 (md:=.any) (g:=g) hsel hs hc hn' l1 0 _ a (fun j hj=>by subst hl;rw[Au,Gx,Di hj]) (by simp) inv0 hlex h
 refine wp_region_any hm ?_
 have:=wpAny_of_head (Q':=Q) (g:=l.toArray.size - l1.length) (fun listed a' hL=>by
  have hsz:l.toArray.size - l1.length=(l2++l3).length:=by simp only[Hu,Af];omega
  rw[hsz]
  refine JB hsel l2 l3 l1.length listed a' _ ?_ hsz (by rw[hg];exact hL.1) hL.2
  intro j
  subst hl
  rw[Gx]
  exact((Ef (l₁:=l1) (l₂:=l2++l3) (by omega)).trans (by rw[Hq])).symm) l1.length (Array.replicate l.toArray.size false) a H
 have he:l1.length+(l.toArray.size - l1.length)=l.toArray.size:=by simp only[Hu]at hn' ⊢;omega
 rw[he]at this
 exact this
end
theorem SP {P:Program} {ds:List Deferred} {Q:vQ} {l:List Value} {w:World} {cs:List Code} {n:Nat} {os:List Oper} (k g:Nat) (hm:P.follows .mixedOrders=true) (hB:CO .any os.toArray k g=true) (hk:(os.take k).length=k) (hg:((os.drop k).take (g+1)).length=g+1)
 (h:∀ w',w'={ w with drawn:=w.drawn+1 }→yT P ds os w' (fun l'=>Ops P ds os (fun l2 w2=>yT P ds os w2 (fun l3=>Run P ds cs Q l3 w2) ((os.drop k).drop (g+1)) l2) Q ((os.drop k).take (g+1)) l' w') (os.take k) l):Run P ds (.region n os.toArray true::cs) Q l w:=by
 refine aQ (l1:=os.take k) (l2:=(os.drop k).take (g+1)) (l3:=(os.drop k).drop (g+1)) (by rw[Eu,Eu]) k g hk hg hm hB ?_
 have h':=h _ rfl
 unfold yT at h'
 refine still_mono ?_ _ _ h'
 rintro⟨t,d⟩ ⟨hd,h2⟩
 simp only at hd
 subst hd
 unfold Ops at h2
 have mono:∀ (os':List Oper) (a:Act) (w:World) (K1 K2:Act→World→Prop) (Q1 Q2:Exit→Act→World→Prop),(∀ a w,K1 a w→K2 a w)→(∀ e a w,e≠ .normal→Q1 e a w→Q2 e a w)→wpList P os.toArray (Exit.then K1 Q1) os' a w→wpList P os.toArray (Exit.then K2 Q2) os' a w:=by
  intro os'
  induction os' with
  | nil=>intro a w K1 K2 Q1 Q2 hK hq h;exact hK _ _ h
  | cons o os' ih=>
   intro a w K1 K2 Q1 Q2 hK hq h
   unfold wpList at h ⊢
   split
   · rename_i hw
     rw[if_pos hw]at h
     rcases h with h | ⟨h1,a1,w1,h2⟩
     · exact .inl (Oper.wp_mono (fun a w h=>ih a w K1 K2 Q1 Q2 hK hq h) (lA (fun e a w he h=>by cases e <;>first | exact absurd Y he | exact hq _ _ _ he h) h))
     exact .inr ⟨h1,a1,w1,hq _ _ _ (by simp) h2⟩
   rename_i hw
   rw[if_neg hw]at h
   exact ih _ _ _ _ _ _ hK hq h
 refine mono _ _ _ _ _ _ _ ?_ (fun e a w he h=>?_) h2
 · rintro⟨t,d'⟩ w' ⟨hd,h3⟩
   simp only at hd
   subst hd
   exact h3
 cases e <;>first | exact absurd rfl he | exact h
def RU (P:Program) (ρ:Operand→Value) (o:Oper) (w:World) (v:Value):Prop:=
 (execOp ρ o).run P w=.ok (.value v) w∨∃ f args,(execOp ρ o).run P w=.ok (.enter f args) w∧Calls P f args w fun e w'=>e=.returned v∧w'=w
def tW (P:Program) (ops:Array Oper) (S:World→Prop) (o:Oper) (v:Value) (a:Act):Prop:=
 (Region.wanted o (yielded ops a.tmps)=true∧∀ w,S w→RU P a.eval o w v)∨(Region.wanted o (yielded ops a.tmps)=false∧v=undef)
section gives
variable {P:Program} {ops:Array Oper} {Q:Exit→Act→World→Prop} {md:Region.Mode} {S:World→Prop}
theorem tW.wpOp {i:Nat} {o:Oper} {v:Value} {a:Act} (hi:ops[i]? =some o) (hy:tW P ops S o v a) {K:Act→World→Prop} {w:World} (hS:S w) (h:K (a.put o.dst v) w):wpOp P ops Q i K a w:=by
 unfold Go.wpOp
 simp only[hi]
 rcases hy with ⟨hw,hv⟩ | ⟨hw,rfl⟩
 · simp only[hw,if_true]
   refine .inl ?_
   unfold Oper.wp
   rcases hv w hS with h1 | ⟨f,args,h1,h2⟩
   · rw[h1];exact h
   rw[h1]
   refine Calls.mono h2 ?_
   rintro e w' ⟨rfl,rfl⟩
   exact h
 simp only[hw,Bool.false_eq_true,if_false];exact h
theorem tW.of_same {o:Oper} {v:Value} {a a':Act} (hy:tW P ops S o v a) (he:execOp a'.eval o=execOp a.eval o)
 (hw:Region.wanted o (yielded ops a'.tmps)=Region.wanted o (yielded ops a.tmps)):tW P ops S o v a':=by
 unfold tW RU at*
 rw[he,hw]
 exact hy
theorem kN {j:Nat} {oi oj:Oper} {v:Value} (hj:ops[j]? =some oj) (hap:oi.apart ops oj=true)
 (hsi:∀ cs b,oi.op≠ .select cs b) (hsj:∀ cs b,oj.op≠ .select cs b)
 (hQ:∀ c a w,Q (.panic c) (a.put oi.dst v) w→Q (.panic c) a w) {K:Act→World→Prop} {a:Act} {w:World}
 (hy:tW P ops S oi v a) (h:wpOp P ops Q j K (a.put oi.dst v) w):
 wpOp P ops Q j (fun a' w'=>tW P ops S oi v a'∧K (a'.put oi.dst v) w') a w:=by
 obtain⟨h1,h2,h3⟩:=Oper.apart_spec hap
 have keep:∀ (a:Act),tW P ops S oi v a→∀ u,tW P ops S oi v (a.put oj.dst u):=fun a hy u=>
  hy.of_same (execOp_put oi hsi a oj.dst u h3) (wanted_put oi a oj.dst u h3)
 have keepD:∀ d,tW P ops S oi v { a with defers:=d::a.defers }:=fun d=>hy.of_same rfl rfl
 unfold wpOp at*
 simp only[hj]at*
 rw[wanted_put oj a oi.dst v h1]at h
 split
 · rename_i hw
   simp only[hw,if_true]at h
   rcases h with h | ⟨hasks,hlets⟩
   case inr=>exact .inr ⟨by unfold Oper.asks at*;rw[execOp_put oj hsj a oi.dst v h1]at hasks;exact hasks,hlets⟩
   refine .inl ?_
   unfold Oper.wp at*
   rw[execOp_put oj hsj a oi.dst v h1]at h
   generalize (execOp a.eval oj).run P w=r at*
   cases r with
   | ok n w'=>
    cases n <;>simp only[Oper.upon]at h ⊢
    case value u=>exact⟨keep a hy u,by rw[← Act.put_comm a v u h2];exact h⟩
    case skip=>exact⟨keep a hy _,by rw[← Act.put_comm a v undef h2];exact h⟩
    case defer d=>
     refine⟨keep _ (keepD d) _,?_⟩
     rw[← Act.put_comm _ v undef h2,← Act.put_defers]
     exact h
    case enter f args=>
     refine Calls.mono h fun e w'' he=>?_
     cases e with
     | returned u=>exact⟨keep a hy u,by rw[← Act.put_comm a v u h2];exact he⟩
     | panicked c=>exact hQ _ _ _ he
     | outgrown=>exact he
    case row row args=>exact Rows.mono h fun u w'' he=>⟨keep a hy u,by rw[← Act.put_comm a v u h2];exact he⟩
   | halt x w'=>
    cases x <;>simp only[Oper.upon]at h ⊢
    case panic u=>exact hQ _ _ _ h
 rename_i hw
 simp only[hw]at h
 exact⟨keep a hy _,by rw[← Act.put_comm a v undef h2];exact h⟩
theorem BV {i:Nat} {oi:Oper} {v:Value} (hi:ops[i]? =some oi) (hsel:∀ (j:Nat) (o:Oper) cs b,ops[j]? =some o→o.op≠ .select cs b)
 (hQ:∀ c a w,Q (.panic c) (a.put oi.dst v) w→Q (.panic c) a w):
 ∀ (fuel:Nat) (listed:Array Bool) (a:Act) (w:World),
  (∀ j oj,ops[j]? =some oj→j≠i→listed.getD j true=false→(∀ e∈oj.after,Region.binds md e=true→e.on≠i)→oi.apart ops oj=true)→
  i∈Region.ready md ops listed→tW P ops S oi v a→S w→
  wpAnyH P md ops Q S fuel (listed.setIfInBounds i true) (a.put oi.dst v) w→wpAnyH P md ops Q S (fuel+1) listed a w:=by
 intro fuel
 induction fuel with
 | zero=>
  intro listed a w _ hr hy hS H
  refine⟨fun h=>(by rw[h]at hr;cases hr),fun j hj=>?_⟩
  by_cases hji:j=i
  · subst hji;exact hy.wpOp hi hS ⟨hS,H⟩
  have:=ready_mono hj hji
  rw[H.1]at this
  cases this
 | succ fuel ih=>
  intro listed a w hfree hr hy hS H
  refine⟨fun h=>(by rw[h]at hr;cases hr),fun j hj=>?_⟩
  by_cases hji:j=i
  · subst hji;exact hy.wpOp hi hS ⟨hS,H⟩
  have h1:=H.2 j (ready_mono hj hji)
  obtain⟨hjun,oj,hoj,hall⟩:=mem_ready.1 hj
  have Xb:=(mem_ready.1 hr).1
  have hnot:∀ e∈oj.after,Region.binds md e=true→e.on≠i:=fun e he hb heq=>by
   have h2:=hall e he hb
   rw[heq,getD_both Xb]at h2
   cases h2
  have h2:=kN hoj (hfree j oj hoj hji hjun hnot) (fun cs b=>hsel i oi cs b hi) (fun cs b=>hsel j oj cs b hoj) hQ hy h1
  have hfree':∀ k ok,ops[k]? =some ok→k≠i→(listed.setIfInBounds j true).getD k true=false→
   (∀ e∈ok.after,Region.binds md e=true→e.on≠i)→oi.apart ops ok=true:=fun k ok hk hki hun hno=>by
   refine hfree k ok hk hki ?_ hno
   by_cases hjk:j=k
   · subst hjk;exact hjun
   rw[getD_set_ne true hjk]at hun;exact hun
  refine wpOp_mono (fun a' w' h3=>⟨h3.2.1,ih (listed.setIfInBounds j true) a' w' hfree' (ready_mono hr (Ne.symm hji)) h3.1 h3.2.1 ?_⟩) h2
  rw[Qb _ _ hji]
  exact h3.2.2
theorem DE {i:Nat} {oi:Oper} {v:Value} {fuel:Nat} {listed:Array Bool} {a:Act} {w:World} (hi:ops[i]? =some oi)
 (hs:Region.noSelect ops=true) (hf:Region.free md ops listed i=true) (hr:(Region.ready md ops listed).contains i=true)
 (hQ:∀ c a w,Q (.panic c) (a.put oi.dst v) w→Q (.panic c) a w) (hy:tW P ops S oi v a) (hS:S w)
 (h:wpAnyH P md ops Q S fuel (listed.setIfInBounds i true) (a.put oi.dst v) w):wpAnyH P md ops Q S (fuel+1) listed a w:=
 BV hi (Om hs) hQ fuel listed a w (Ol hi hf) (by simpa using hr) hy hS h
end gives
def Ws (ops:Array Oper):List (Bool×Nat)→Array Bool→Bool
 | [],listed=>(Region.ready .any ops listed).isEmpty
 | (true,i)::s,listed=>(Region.ready .any ops listed).contains i && Region.free .any ops listed i && Ws ops s (listed.setIfInBounds i true)
 | (false,i)::s,listed=>decide (Region.ready .any ops listed=[i]) && Ws ops s (listed.setIfInBounds i true)
def Wq (l:List Value):Option Tmp→Value→List Value
 | some d,v=>l.set d v
 | none,_=>l
section mix
variable {P:Program} {ds:List Deferred} {all:List Oper} {S:World→Prop} {K:List Value→World→Prop} {l:List Value} {w:World} {op:Op} {ty:TypeId} {pos:String} {af:Array Edge} {d:Tmp} {v:Value} {o:Oper} {i:Nat} {s:List (Bool×Nat)}
def mZ (P:Program) (all:List Oper) (S:World→Prop) (K:List Value→World→Prop) (o:Oper) (l:List Value) (w:World):Prop:=
 ∃ v,((Region.wanted o (yielded all.toArray l.toArray)=true∧∀ w',S w'→RU P (rho l) o w' v)∨(Region.wanted o (yielded all.toArray l.toArray)=false∧v=undef))∧K (Wq l o.dst v) w
def rT (P:Program) (ds:List Deferred) (all:List Oper) (S:World→Prop) (K:List Value→World→Prop):List (Bool×Nat)→List Value→World→Prop
 | [],l,w=>K l w
 | (true,i)::s,l,w=>∃ o,all[i]? =some o∧mZ P all S (rT P ds all S K s) o l w
 | (false,i)::s,l,w=>∃ o,all[i]? =some o∧Ops P ds all (fun l' w'=>S w'∧rT P ds all S K s l' w') (fun _ _ _=>False) [o] l w
theorem tR (h:K l w):rT P ds all S K [] l w:=h
theorem zY (ho:all[i]? =some o) (h:mZ P all S (rT P ds all S K s) o l w):rT P ds all S K ((true,i)::s) l w:=⟨o,ho,h⟩
theorem I8 (ho:all[i]? =some o) (h:Ops P ds all (fun l' w'=>S w'∧rT P ds all S K s l' w') (fun _ _ _=>False) [o] l w):rT P ds all S K ((false,i)::s) l w:=⟨o,ho,h⟩
theorem rN (hx:∀ w,S w→Ex P l op ty w (.value v) w) (h:K (l.set d v) w):mZ P all S K ⟨some d,op,ty,pos,af,none⟩ l w:=⟨v,.inl ⟨rfl,fun w' hw=> .inl (hx w' hw _ _ _ _)⟩,h⟩
theorem rF {f:FuncId} {args:Array Value} (hx:∀ w,S w→Ex P l op ty w (.enter f args) w) (hc:∀ w,S w→zO P f args w fun r w'=>r=v∧w'=w) (h:K (l.set d v) w):mZ P all S K ⟨some d,op,ty,pos,af,none⟩ l w:=
 ⟨v,.inl ⟨rfl,fun w' hw=> .inr ⟨f,args,hx w' hw _ _ _ _,Calls.mono (hc w' hw) fun e w2 ⟨r,h1,h2,h3⟩=>⟨by rw[h1,h2],h3⟩⟩⟩,h⟩
theorem EZ {dst:Option Tmp} {j:Nat} {b:Bool} (hg:yes all l j=some b) (h:mZ P all S K ⟨dst,op,ty,pos,af,none⟩ l w):mZ P all S K ⟨dst,op,ty,pos,af,some (j,b)⟩ l w:=by
 have e1:Region.wanted ⟨dst,op,ty,pos,af,some (j,b)⟩ (yielded all.toArray l.toArray)=true:=by simp[Region.wanted,rX,hg]
 obtain⟨v,⟨_,hv⟩ | ⟨h1,_⟩,h2⟩:=h
 · exact⟨v,.inl ⟨e1,hv⟩,h2⟩
 cases h1
theorem JA {j:Nat} {b:Bool} (hg:(yes all l j==some b)=false) (h:K (l.set d undef) w):mZ P all S K ⟨some d,op,ty,pos,af,some (j,b)⟩ l w:=
 ⟨undef,.inr ⟨by simpa[Region.wanted,rX]using hg,rfl⟩,h⟩
theorem nJ {p:Prop} {_:Decidable p} (hx:∀ w,S w→Ex P l op ty w (.value (.bool (decide p))) w) (hp:p) (h:K (l.set d (.bool true)) w):mZ P all S K ⟨some d,op,ty,pos,af,none⟩ l w:=
 rN hx (by rw[decide_eq_true hp];exact h)
theorem iM {p:Prop} {_:Decidable p} (hx:∀ w,S w→Ex P l op ty w (.value (.bool (decide p))) w) (hp:¬p) (h:K (l.set d (.bool false)) w):mZ P all S K ⟨some d,op,ty,pos,af,none⟩ l w:=
 rN hx (by rw[decide_eq_false hp];exact h)
theorem vZ {p:Prop} {_:Decidable p} (hx:∀ w,S w→Ex P l op ty w (.value (.bool (decide p))) w) (h1:p→K (l.set d (.bool true)) w) (h2:¬p→K (l.set d (.bool false)) w):mZ P all S K ⟨some d,op,ty,pos,af,none⟩ l w:=by
 by_cases hp:p
 · exact nJ hx hp (h1 hp)
 exact iM hx hp (h2 hp)
theorem nH (l:List Value) (ds:List Deferred) (dst:Option Tmp) (v:Value):(⟨l.toArray,ds⟩:Act).put dst v=⟨(Wq l dst v).toArray,ds⟩:=by
 cases dst with
 | none=>rfl
 | some d=>exact tG l ds d v
theorem I9 (hsel:Region.noSelect all.toArray=true):∀ (s:List (Bool×Nat)) (listed:Array Bool) (l:List Value) (w:World),Ws all.toArray s listed=true→S w→rT P ds all S K s l w→
 wpAnyH P .any all.toArray (fun e a w'=>a.defers=ds∧uR K (fun _ _ _=>False) e a.tmps.toList w') S s.length listed ⟨l.toArray,ds⟩ w:=by
 intro s
 induction s with
 | nil=>intro listed l w hB _ h;exact wpAnyH_done (by simpa[Ws]using hB) ⟨rfl,h⟩ 0
 | cons x s IH=>
  obtain⟨b,i⟩:=x
  cases b
  · rintro listed l w hB hS ⟨o,ho,h⟩
    simp only[Ws,Ce,decide_eq_true_eq]at hB
    refine wpAnyH_all hB.1 (by simp) fun k hk=>?_
    have hki:k=i:=by simpa using hk
    rw[hki]
    unfold Ops wpList at h
    unfold wpOp
    rw[Gx,ho]
    simp only
    have ih:∀ (a:Act) w',(a.defers=ds∧S w'∧rT P ds all S K s a.tmps.toList w')→(S w'∧wpAnyH P .any all.toArray (fun e a w'=>a.defers=ds∧uR K (fun _ _ _=>False) e a.tmps.toList w') S s.length (listed.setIfInBounds i true) a w'):=by
     rintro⟨t,d⟩ w' ⟨hd,hS',h2⟩
     simp only at hd
     subst hd
     exact⟨hS',IH _ _ _ hB.2 hS' h2⟩
    have hq:∀ (e:Exit) (a:Act) w',e≠ .normal→Exit.then (fun(a:Act) w'=>a.defers=ds∧S w'∧rT P ds all S K s a.tmps.toList w') (fun _ a _=>a.defers=ds∧False) e a w'→(a.defers=ds∧uR K (fun _ _ _=>False) e a.tmps.toList w'):=by
     intro e a w' he h
     cases e <;>first | exact absurd rfl he | exact h.2.elim
    split
    · rename_i hw
      rw[if_pos hw]at h
      rcases h with h | ⟨h1,a1,w1,h2⟩
      · exact .inl (Oper.wp_mono ih (lA hq h))
      exact .inr ⟨h1,a1,w1,hq _ _ _ (by simp) h2⟩
    rename_i hw
    rw[if_neg hw]at h
    exact ih _ _ h
  rintro listed l w hB hS ⟨o,ho,v,hv,hK⟩
  simp only[Ws,Ce]at hB
  refine DE (oi:=o) (v:=v) (by rw[Gx];exact ho) hsel hB.1.2 hB.1.1 (fun _ _ _ h=>h.2.elim) ?_ hS ?_
  · rcases hv with ⟨h1,h2⟩ | ⟨h1,h2⟩
    · exact .inl ⟨h1,by rw[sB];exact h2⟩
    exact .inr ⟨h1,h2⟩
  rw[nH]
  exact IH _ _ _ hB.2 hS hK
theorem SO {Q:vQ} {cs:List Code} {n:Nat} (s:List (Bool×Nat)) (S:World→Prop) (hm:P.follows .mixedOrders=true) (hB:(Region.noSelect all.toArray && decide (s.length=all.length) && Ws all.toArray s (Array.replicate all.length false))=true)
 (h:∀ w',w'={ w with drawn:=w.drawn+1 }→S w'∧rT P ds all S (Run P ds cs Q) s l w'):Run P ds (.region n all.toArray true::cs) Q l w:=by
 simp only[Ce,decide_eq_true_eq]at hB
 obtain⟨⟨hsel,hlen⟩,hB⟩:=hB
 show Cd P ds _ _ l w
 unfold Cd
 refine Go.wp_mono (Q:=fun e a w'=>a.defers=ds∧uR (Run P ds cs Q) (fun _ _ _=>False) e a.tmps.toList w') (wp_region_held (S:=S) hm ?_) ?_
 · have:=I9 hsel s _ l _ hB (h _ rfl).1 (h _ rfl).2
   rw[hlen]at this
   simpa using this
 rintro e a w' ⟨hd,h2⟩
 cases e <;>first | exact⟨hd,h2⟩ | exact h2.elim
theorem sY {Q:vQ} {cs:List Code} {n:Nat} {w0:World} {SS:List Nat} {es:List Ent} (s:List (Bool×Nat)) (H:Hp w0 w SS es) (idx:List Nat) (hm:P.follows .mixedOrders=true) (hnd:idx.Nodup)
 (hB:(Region.noSelect all.toArray && decide (s.length=all.length) && Ws all.toArray s (Array.replicate all.length false))=true)
 (h:∀ w',w'={ w with drawn:=w.drawn+1 }→rT P ds all (fun wz=>Hp w0 wz SS (idx.map fun i=>es.getD i (none,0,[]))) (Run P ds cs Q) s l w'):Run P ds (.region n all.toArray true::cs) Q l w:=
 SO s _ hm hB fun w' hw'=>⟨by rw[hw'];exact H.drew.pick idx hnd,h w' hw'⟩
def oL (P:Program) (ops:Array Oper) (Q:Exit→Act→World→Prop) (S:World→Prop) (z:Nat):Nat→Array Bool→Act→World→Prop
 | 0,listed,a,w=>Region.ready .any ops listed=[]∧Q .normal a w
 | f+1,listed,a,w=>(Region.ready .any ops listed=[]→Q .normal a w)∧
  ∀ i∈Region.ready .any ops listed,wpOp P ops Q i (fun a' w'=>(i≠z→S w')∧oL P ops Q S z f (listed.setIfInBounds i true) a' w') a w
theorem kK {ops:Array Oper} {Q:Exit→Act→World→Prop} {z:Nat}:∀ (f:Nat) (listed:Array Bool) (a:Act) (w:World),oL P ops Q S z f listed a w→wpAny P .any ops Q f listed a w
 | 0,_,_,_,h=>h
 | f+1,_,_,_,h=>⟨h.1,fun i hi=>wpOp_mono (fun a' w' h'=>kK f _ a' w' h'.2) (h.2 i hi)⟩
theorem KH {ops:Array Oper} {Q:Exit→Act→World→Prop} {z i:Nat} {oi:Oper} {v:Value} (hi:ops[i]? =some oi) (hsel:∀ (j:Nat) (o:Oper) cs b,ops[j]? =some o→o.op≠ .select cs b)
 (hQ:∀ c a w,Q (.panic c) (a.put oi.dst v) w→Q (.panic c) a w) (hs:Region.sinkB .any ops z=true) (hz:z+1=ops.size) (hiz:i < z):
 ∀ (f:Nat) (listed:Array Bool) (a:Act) (w:World),HeadInv .any ops z listed→
  (∀ j oj,ops[j]? =some oj→j≠i→listed.getD j true=false→(∀ e∈oj.after,Region.binds .any e=true→e.on≠i)→oi.apart ops oj=true)→
  i∈Region.ready .any ops listed→tW P ops S oi v a→S w→
  oL P ops Q S z f (listed.setIfInBounds i true) (a.put oi.dst v) w→oL P ops Q S z (f+1) listed a w:=by
 intro f
 induction f with
 | zero=>
  intro listed a w _ _ hr hy hS H
  refine⟨fun h=>(by rw[h]at hr;cases hr),fun j hj=>?_⟩
  by_cases hji:j=i
  · rw[hji];exact hy.wpOp hi hS ⟨fun _=>hS,H⟩
  have h1:=ready_mono hj hji
  rw[H.1]at h1
  cases h1
 | succ f ih=>
  intro listed a w inv hfree hr hy hS H
  refine⟨fun h=>(by rw[h]at hr;cases hr),fun j hj=>?_⟩
  by_cases hji:j=i
  · rw[hji];exact hy.wpOp hi hS ⟨fun _=>hS,H⟩
  have h1:=H.2 j (ready_mono hj hji)
  obtain⟨hjun,oj,hoj,hall⟩:=mem_ready.1 hj
  have Xb:=(mem_ready.1 hr).1
  have hjz:j≠z:=by
   intro e
   rw[e]at hj
   exact lI hs inv (by omega) (z - i) i (Ai _) hiz Xb hj
  have hjs:=(Dw.1 hoj).1
  have hnot:∀ e∈oj.after,Region.binds .any e=true→e.on≠i:=fun e he hb heq=>by
   have h2:=hall e he hb
   rw[heq,getD_both Xb]at h2
   cases h2
  have h2:=kN hoj (hfree j oj hoj hji hjun hnot) (fun cs b=>hsel i oi cs b hi) (fun cs b=>hsel j oj cs b hoj) hQ hy h1
  refine wpOp_mono (fun a' w' h3=>⟨h3.2.1,ih (listed.setIfInBounds j true) a' w' (inv.set hj (by omega)) (fun k ok hk hki hun hno=>?_) (ready_mono hr (Ne.symm hji)) h3.1 (h3.2.1 hjz) ?_⟩) h2
  · refine hfree k ok hk hki ?_ hno
    by_cases hjk:j=k
    · rw[← hjk];exact hjun
    rw[getD_set_ne true hjk]at hun;exact hun
  rw[Qb _ _ hji]
  exact h3.2.2
def oY (P:Program) (ds:List Deferred) (all:List Oper) (S:World→Prop) (K:List Value→World→Prop):List (Bool×Nat)→List Value→World→Prop
 | [],l,w=>K l w
 | (true,i)::s,l,w=>∃ o,all[i]? =some o∧mZ P all S (oY P ds all S K s) o l w
 | (false,i)::s,l,w=>∃ o,all[i]? =some o∧Ops P ds all (fun l' w'=>(s≠[]→S w')∧oY P ds all S K s l' w') (fun _ _ _=>False) [o] l w
theorem EX (h:K l w):oY P ds all S K [] l w:=h
theorem bO (ho:all[i]? =some o) (h:mZ P all S (oY P ds all S K s) o l w):oY P ds all S K ((true,i)::s) l w:=⟨o,ho,h⟩
theorem PB (ho:all[i]? =some o) (h:Ops P ds all (fun l' w'=>(s≠[]→S w')∧oY P ds all S K s l' w') (fun _ _ _=>False) [o] l w):oY P ds all S K ((false,i)::s) l w:=⟨o,ho,h⟩
def Td (ops:Array Oper) (z:Nat):List (Bool×Nat)→Array Bool→Bool
 | [],listed=>(Region.ready .any ops listed).isEmpty
 | (true,i)::s,listed=>decide (i < z) && (Region.ready .any ops listed).contains i && Region.free .any ops listed i && Td ops z s (listed.setIfInBounds i true)
 | (false,i)::s,listed=>((decide (i < z) && !s.isEmpty) || (decide (i=z) && s.isEmpty)) && decide (Region.ready .any ops listed=[i]) && Td ops z s (listed.setIfInBounds i true)
theorem bP {z:Nat} (hsel:Region.noSelect all.toArray=true) (hs:Region.sinkB .any all.toArray z=true) (hz:z+1=all.toArray.size):∀ (s:List (Bool×Nat)) (listed:Array Bool) (l:List Value) (w:World),(s≠[]→HeadInv .any all.toArray z listed)→Td all.toArray z s listed=true→(s≠[]→S w)→oY P ds all S K s l w→
 oL P all.toArray (fun e a w'=>a.defers=ds∧uR K (fun _ _ _=>False) e a.tmps.toList w') S z s.length listed ⟨l.toArray,ds⟩ w:=by
 intro s
 induction s with
 | nil=>intro listed l w _ hB _ h;exact⟨by simpa[Td]using hB,rfl,h⟩
 | cons x s IH=>
  obtain⟨b,i⟩:=x
  cases b
  · rintro listed l w inv hB hS ⟨o,ho,h⟩
    simp only[Td,Ce,Bool.or_eq_true,decide_eq_true_eq]at hB
    obtain⟨⟨hiz,hr⟩,hB'⟩:=hB
    have Ho:i∈Region.ready .any all.toArray listed:=by rw[hr];simp
    have hlast:s≠[]→i < z:=fun h=>by
     rcases hiz with h1 | h1
     · exact h1.1
     exact absurd (by simpa using h1.2) h
    refine⟨fun h0=>(by rw[hr]at h0;cases h0),fun k hk=>?_⟩
    have hki:k=i:=by rw[hr]at hk;simpa using hk
    rw[hki]
    unfold Ops wpList at h
    unfold wpOp
    rw[Gx,ho]
    simp only
    have hne:i≠z→s≠[]:=fun h1=>by
     rcases hiz with h2 | h2
     · intro h3;rw[h3]at h2;simp at h2
     exact absurd h2.1 h1
    have ih:∀ (a:Act) w',(a.defers=ds∧(s≠[]→S w')∧oY P ds all S K s a.tmps.toList w')→((i≠z→S w')∧oL P all.toArray (fun e a w'=>a.defers=ds∧uR K (fun _ _ _=>False) e a.tmps.toList w') S z s.length (listed.setIfInBounds i true) a w'):=by
     rintro⟨t,d⟩ w' ⟨hd,hS',h2⟩
     simp only at hd
     subst hd
     exact⟨fun h1=>hS' (hne h1),IH _ _ _ (fun h1=>(inv (by simp)).set Ho (hlast h1)) hB' hS' h2⟩
    have hq:∀ (e:Exit) (a:Act) w',e≠ .normal→Exit.then (fun(a:Act) w'=>a.defers=ds∧(s≠[]→S w')∧oY P ds all S K s a.tmps.toList w') (fun _ a _=>a.defers=ds∧False) e a w'→(a.defers=ds∧uR K (fun _ _ _=>False) e a.tmps.toList w'):=by
     intro e a w' he h
     cases e <;>first | exact absurd rfl he | exact h.2.elim
    split
    · rename_i hw
      rw[if_pos hw]at h
      rcases h with h | ⟨h1,a1,w1,h2⟩
      · exact .inl (Oper.wp_mono ih (lA hq h))
      exact .inr ⟨h1,a1,w1,hq _ _ _ (by simp) h2⟩
    rename_i hw
    rw[if_neg hw]at h
    exact ih _ _ h
  rintro listed l w inv hB hS ⟨o,ho,v,hv,hK⟩
  simp only[Td,Ce,decide_eq_true_eq]at hB
  obtain⟨⟨⟨hiz,hr⟩,hf⟩,hB'⟩:=hB
  have hi:all.toArray[i]? =some o:=by rw[Gx];exact ho
  have Ho:i∈Region.ready .any all.toArray listed:=by simpa using hr
  refine KH (oi:=o) (v:=v) hi (Om hsel) (fun _ _ _ h=>h.2.elim) hs hz hiz s.length listed _ w (inv (by simp)) (Ol hi hf) Ho ?_ (hS (by simp)) ?_
  · rcases hv with ⟨h1,h2⟩ | ⟨h1,h2⟩
    · exact .inl ⟨h1,by rw[sB];exact h2⟩
    exact .inr ⟨h1,h2⟩
  rw[nH]
  exact IH _ _ _ (fun _=>(inv (by simp)).set Ho hiz) hB' (fun _=>hS (by simp)) hK
theorem NW {Q:vQ} {cs:List Code} {n:Nat} (z:Nat) (s:List (Bool×Nat)) (S:World→Prop) (hm:P.follows .mixedOrders=true)
 (hB:(Region.noSelect all.toArray && decide (s.length=all.length) && decide (z+1=all.length) && Region.sinkB .any all.toArray z && Td all.toArray z s (Array.replicate all.length false))=true)
 (h:∀ w',w'={ w with drawn:=w.drawn+1 }→S w'∧oY P ds all S (Run P ds cs Q) s l w'):Run P ds (.region n all.toArray true::cs) Q l w:=by
 simp only[Ce,decide_eq_true_eq]at hB
 obtain⟨⟨⟨⟨hsel,hlen⟩,hz⟩,hs⟩,hB⟩:=hB
 show Cd P ds _ _ l w
 unfold Cd
 have inv0:HeadInv .any all.toArray z (Array.replicate all.toArray.size false):=
  ⟨by simp,fun j oj _ hl=>(by rw[getD_replicate_false]at hl;cases hl),fun t _ ht=>getD_in (by simpa using ht) (getD_replicate_false _ _)⟩
 refine Go.wp_mono (Q:=fun e a w'=>a.defers=ds∧uR (Run P ds cs Q) (fun _ _ _=>False) e a.tmps.toList w') (wp_region_any hm ?_) ?_
 · have:=bP (S:=S) (K:=Run P ds cs Q) (P:=P) (ds:=ds) hsel hs (by simpa using hz) s _ l { w with drawn:=w.drawn+1 } (fun _=>by simpa using inv0) hB (fun _=>(h _ rfl).1) (h _ rfl).2
   rw[hlen]at this
   have h2:=kK _ _ _ _ this
   simpa using h2
 rintro e a w' ⟨hd,h2⟩
 cases e <;>first | exact⟨hd,h2⟩ | exact h2.elim
theorem zQ {Q:vQ} {cs:List Code} {n:Nat} {w0:World} {SS:List Nat} {es:List Ent} (z:Nat) (s:List (Bool×Nat)) (H:Hp w0 w SS es) (idx:List Nat) (hm:P.follows .mixedOrders=true) (hnd:idx.Nodup)
 (hB:(Region.noSelect all.toArray && decide (s.length=all.length) && decide (z+1=all.length) && Region.sinkB .any all.toArray z && Td all.toArray z s (Array.replicate all.length false))=true)
 (h:∀ w',w'={ w with drawn:=w.drawn+1 }→oY P ds all (fun wz=>Hp w0 wz SS (idx.map fun i=>es.getD i (none,0,[]))) (Run P ds cs Q) s l w'):Run P ds (.region n all.toArray true::cs) Q l w:=by
 simp only[Ce,decide_eq_true_eq]at hB
 obtain⟨⟨⟨⟨hsel,hlen⟩,hz⟩,hs⟩,hB⟩:=hB
 show Cd P ds _ _ l w
 unfold Cd
 have inv0:HeadInv .any all.toArray z (Array.replicate all.toArray.size false):=
  ⟨by simp,fun j oj _ hl=>(by rw[getD_replicate_false]at hl;cases hl),fun t _ ht=>getD_in (by simpa using ht) (getD_replicate_false _ _)⟩
 refine Go.wp_mono (Q:=fun e a w'=>a.defers=ds∧uR (Run P ds cs Q) (fun _ _ _=>False) e a.tmps.toList w') (wp_region_any hm ?_) ?_
 · have:=bP (S:=fun wz=>Hp w0 wz SS (idx.map fun i=>es.getD i (none,0,[]))) (K:=Run P ds cs Q) (P:=P) (ds:=ds) hsel hs (by simpa using hz) s _ l { w with drawn:=w.drawn+1 } (fun _=>by simpa using inv0) hB (fun _=>H.drew.pick idx hnd) (h _ rfl)
   rw[hlen]at this
   have h2:=kK _ _ _ _ this
   simpa using h2
 rintro e a w' ⟨hd,h2⟩
 cases e <;>first | exact⟨hd,h2⟩ | exact h2.elim
end mix
def zG (cs:List Value) (o:Nat) (vs:List Value):List Value:=cs.take o++vs++cs.drop (o+vs.length)
theorem fY {cs:List Value} {o:Nat} {v:Value} (h:o < cs.length):zG cs o [v]=cs.set o v:=by
 rw[zG,List.set_eq_take_append_cons_drop,if_pos h]
 simp
theorem FE (off:Nat):∀ (vs:List Value) (k:Nat) (cs:List Value),off+k+vs.length≤cs.length→
 (vs.zipIdx k).foldl (fun(cs:Array Value) (x:Value×Nat)=>cs.setIfInBounds (off+x.2) x.1) cs.toArray=(zG cs (off+k) vs).toArray
 | [],k,cs,_=>by simp[zG]
 | v::vs,k,cs,h=>by
  simp only[Bg]at h
  simp only[List.zipIdx_cons,List.foldl_cons,List.setIfInBounds_toArray]
  rw[FE off vs (k+1) (cs.set (off+k) v) (by simp;omega)]
  congr 1
  unfold zG
  rw[List.set_eq_take_append_cons_drop,if_pos (by omega)]
  have e1:(List.take (off+k) cs++v::List.drop (off+k+1) cs).take (off+(k+1))=cs.take (off+k)++[v]:=by
   rw[Oj,Aw,Ii (by omega),Ej (by simp;omega),show off+(k+1) - (off+k)=1 by omega]
   simp
  have e2:(List.take (off+k) cs++v::List.drop (off+k+1) cs).drop (off+(k+1)+vs.length)=cs.drop (off+k+(vs.length+1)):=by
   rw[List.drop_append,Aw,Ii (by omega),Gm (by simp;omega),show off+(k+1)+vs.length - (off+k)=vs.length+1 by omega]
   simp only[List.drop_succ_cons,Ih,Fz]
   congr 1
   omega
  rw[e1,e2]
  simp[Gf]
def kD (place:Nat→Option (Nat×Nat)):List Value→List (Nat×Value)→Option (List Value)
 | cells,[]=>some cells
 | cells,(i,v)::rest=>match place i with
  | none=>none
  | some (off,size)=>match decide (v.cells.toList.length=size),decide (off+v.cells.toList.length≤cells.length)with
   | true,true=>kD place (zG cells off v.cells.toList) rest
   | _,_=>none
theorem cB (place:Nat→Option (Nat×Nat)):∀ (vs:List (Nat×Value)) (cells cs:List Value),kD place cells vs=some cs→Instr.fill place cells.toArray vs=some cs.toArray
 | [],cells,cs,h=>by simp[kD]at h;simp[Instr.fill,h]
 | (i,v)::rest,cells,cs,h=>by
  unfold kD at h
  unfold Instr.fill
  cases hp:place i with
  | none=>rw[hp]at h;simp at h
  | some x=>
   obtain⟨off,size⟩:=x
   rw[hp]at h
   simp only at h ⊢
   split at h
   · rename_i h1 h2
     simp only[decide_eq_true_eq,Array.length_toList]at h1 h2
     rw[if_neg (by simp;omega)]
     have hz:v.cells.zipIdx.foldl (fun(cs:Array Value) (x:Value×Nat)=>cs.setIfInBounds (off+x.2) x.1) cells.toArray=(zG cells off v.cells.toList).toArray:=by
      have:=FE off v.cells.toList 0 cells (by simpa using h2)
      rw[Ht]at this
      rw[← this,← Array.foldl_toList]
      congr 1
      simp
     have ih:=cB place rest _ _ h
     rw[← hz]at ih
     exact ih
   cases h
def initL (zs:List Value) (n:Nat):List Value:=(List.replicate n zs).flatten
theorem wR (zs:List Value) (n:Nat):(initL zs n).length=n*zs.length:=by simp[initL]
theorem BG (zs:List Value):∀ (n i:Nat),i < n*zs.length→(initL zs n)[i]? =zs[i % zs.length]?
 | 0,i,h=>by simp at h
 | n+1,i,h=>by
  have e:initL zs (n+1)=zs++initL zs n:=by simp[initL,List.replicate_succ]
  rw[e]
  by_cases hi:i < zs.length
  · rw[Di hi,Ig hi]
  have h2:i - zs.length < n*zs.length:=by rw[Nat.succ_mul]at h;omega
  rw[Ef (by omega),BG zs n _ h2]
  congr 1
  rw[Nat.mod_eq_sub_mod (a:=i) (by omega)]
theorem dW (zs:List Value) (n:Nat):(Array.range (n*zs.length)).map (zs.toArray[· % zs.toArray.size]!)=(initL zs n).toArray:=by
 apply Array.ext
 · simp[wR]
 intro i h1 h2
 simp only[Array.size_map,Array.size_range]at h1
 have hg:=BG zs n i h1
 have hpos:0 < zs.length:=by
  rcases Jr zs.length with h0 | h0
  · rw[h0]at h1;omega
  exact h0
 have hlt:=Gv i hpos
 have h3:i < (initL zs n).length:=by simpa using h2
 rw[Bq h3,Bq hlt]at hg
 simp only[Option.some.injEq]at hg
 simp only[Array.getElem_map,Array.getElem_range,List.getElem_toArray,hg,Hu]
 rw[getElem!_pos zs.toArray _ (by simpa using hlt)]
 simp
section mk
variable {P:Program} {ds:List Deferred} {Q:vQ} {K:List Value→World→Prop} {all os:List Oper} {l:List Value} {w0 w:World} {S:List Nat} {es:List Ent} {ty t:TypeId} {pos:String} {af:Array Edge} {d:Tmp} {v:Value}
 {x y z:Operand} {zs:List Value} {sz bytes:Nat} {agg:Bool}
theorem oO (h:xQ P t zs sz bytes agg):∃ z,z.cells.toList=zs∧∀ w,(zeroValue t).run P w=.ok z w:=by
 obtain⟨i,z,d,hi,hz,hzs,_,_,hd,_⟩:=h.ex
 exact⟨z,hzs,fun w=>by simp[zeroValue,typeInfo,hi,hz]⟩
theorem BB (h:xQ P t zs sz bytes agg) (H:Hp w0 w S es)
 (k:∀ w' g,Hp w0 w' S (es++[(some g,t,zs)])→g=w.heap.size→Ops P ds all K Q os (l.set d (.pointer (some ⟨g,0,none⟩))) w'):Ops P ds all K Q (⟨some d,.alloc t,ty,pos,af,none⟩::os) l w:=by
 obtain⟨z,hz,hr⟩:=oO h
 have H':=H.alloc t zs
 refine zB (w':=w.alloc (.cells zs.toArray t)) ?_ (k _ _ H' Y)
 intro _ _ _ _
 simp[execOp,Instr.alloc,hr,newVar,newRow,newObj,Sem.run]
 rw[← hz]
theorem zW (hx:ev l x=some v) {vs:List Value} (hv:v.cells=vs.toArray) (H:Hp w0 w S es)
 (k:∀ w' g,Hp w0 w' S (es++[(some g,t,vs)])→g=w.heap.size→Ops P ds all K Q os (l.set d (.pointer (some ⟨g,0,none⟩))) w'):Ops P ds all K Q (⟨some d,.box t x,ty,pos,af,none⟩::os) l w:=by
 have H':=H.alloc t vs
 refine zB (w':=w.alloc (.cells vs.toArray t)) ?_ (k _ _ H' Y)
 intro _ _ _ _
 simp[execOp,Instr.box,zV hx,newVar,newRow,newObj,Sem.run,hv]
theorem DU (ht:xQ P t zs sz bytes agg) (H:Hp w0 w S es) {i g o:Nat} {T:TypeId} {cs vs:List Value} (hi:es[i]? =some (some g,T,cs)) (hv:v.cells=vs.toArray) (hl:vs.length=sz) (hfit:o+vs.length≤cs.length) (h1:vs.all (·.oneCell')=true):
 (Instr.storeAt t (.pointer (some ⟨g,o,none⟩)) v).run P w=.ok () (w.setRow g (zG cs o vs).toArray):=by
 have hs:=run_storeCells_at (P:=P) g o T vs 0 cs.toArray w (H.at hi) (by simpa using hfit) (by simpa using h1)
 simp only[Ht]at hs
 simp[Instr.storeAt,Instr.sureAddr,storeVar,vH ht,hv,hl,hs,zG]
theorem eD (ht:xQ P t zs sz bytes agg) (H:Hp w0 w S es) (i:Nat) {g o:Nat} {T:TypeId} {cs vs:List Value} (hx:ev l x=some (.pointer (some ⟨g,o,none⟩))) (hy:ev l y=some v) (hi:es[i]? =some (some g,T,cs))
 (hv:v.cells=vs.toArray) (hl:vs.length=sz) (hfit:o+vs.length≤cs.length) (h1:vs.all (·.oneCell')=true)
 (k:∀ w',Hp w0 w' S (es.set i (some g,T,zG cs o vs))→Ops P ds all K Q os l w'):Ops P ds all K Q (⟨none,.store t x y,ty,pos,af,none⟩::os) l w:=by
 refine EP (w':=w.setRow g (zG cs o vs).toArray) ?_ (k _ (H.setRow hi _))
 intro _ _ _ _
 simp[execOp,zV hx,zV hy,DU ht H hi hv hl hfit h1]
theorem bJ (ht:xQ P t zs 1 bytes agg) (H:Hp w0 w S es) (i:Nat) {g o:Nat} {T:TypeId} {cs:List Value} (hx:ev l x=some (.pointer (some ⟨g,o,none⟩))) (hy:ev l y=some v) (hi:es[i]? =some (some g,T,cs))
 (hv:v.cells=[v].toArray) (hfit:o < cs.length) (h1:v.oneCell'=true)
 (k:∀ w',Hp w0 w' S (es.set i (some g,T,cs.set o v))→Ops P ds all K Q os l w'):Ops P ds all K Q (⟨none,.store t x y,ty,pos,af,none⟩::os) l w:=by
 refine eD ht H i hx hy hi hv Y (by simpa using Nat.succ_le_of_lt hfit) (by simp[h1]) ?_
 rw[fY hfit]
 exact k
def pN (l:List Value):List (Nat×Operand)→Option (List (Nat×Value))
 | []=>some []
 | (i,x)::r=>match ev l x,pN l r with
  | some v,some vs=>some ((i,v)::vs)
  | _,_=>none
theorem oE :∀ {ps:List (Nat×Operand)} {vs:List (Nat×Value)},pN l ps=some vs→ps.map (fun(i,x)=>(i,rho l x))=vs
 | [],vs,h=>by simp[pN]at h;simp[h]
 | (i,x)::r,vs,h=>by
  simp only[pN]at h
  split at h
  · rename_i v us hv hus
    simp only[Option.some.injEq]at h
    subst h
    simp[zV hv,oE hus]
  cases h
theorem zJ {e:TypeId} (ht:P.underlying t=some (.slice e)) (he:xQ P e zs sz bytes agg) (H:Hp w0 w S es) {n:Nat} {ps:List (Nat×Operand)} {vs:List (Nat×Value)} {cs:List Value} (hp:pN l ps=some vs)
 (hn:n*sz≤16777216) (hf':kD (fun i=>some (i*sz,sz)) (initL zs n) vs=some cs)
 (k:∀ w' g,Hp w0 w' S (es++[(some g,e,cs)])→g=w.heap.size→Ops P ds all K Q os (l.set d (.slice (hd (some g)) n n)) w'):Ops P ds all K Q (⟨some d,.buildSlice t n ps.toArray,ty,pos,af,none⟩::os) l w:=by
 obtain⟨z,hz,hr⟩:=oO he
 have H':=H.alloc e cs
 refine zB (w':=w.alloc (.cells cs.toArray e)) ?_ (k _ _ H' Y)
 intro _ _ _ _
 have hps:=oE hp
 have hnn:¬(n*sz > 2^24):=by omega
 have hzz:z.cells=zs.toArray:=by rw[← hz]
 have hf:=cB _ _ _ _ hf'
 rw[← dW,he.len]at hf
 have h00:∀ f:Nat→Value,(Array.range 0).map f=#[]:=fun f=>by rw[Array.range_zero'];simp
 by_cases h0:n*sz=0
 · rw[h0,h00]at hf
   simp only[execOp,Instr.buildSlice,Sem.run_bind,run_underlying ht,vH he,Result.andThen_ok,List.map_toArray,hps,h0,if_true]
   simp[hf,h00,newRow,newObj,Sem.run]
 have hcell:z.cells.size=zs.length:=by rw[hzz];simp
 simp only[Hu]at hf
 simp only[execOp,Instr.buildSlice,Sem.run_bind,run_underlying ht,vH he,Result.andThen_ok,List.map_toArray,hps,hnn,h0,if_false,hr,hzz,Hu,Sem.run_pure,hf]
 simp[newRow,newObj,Sem.run]
theorem OL {e:TypeId} {z:Value} (ht:P.underlying t=some (.slice e)) (he:xQ P e [z] 1 bytes agg) (H:Hp w0 w S es) {k1 k2:IntKind} {n c:Nat} (hx:ev l x=some (.int k1 n)) (hy:ev l y=some (.int k2 c))
 (hnc:n≤c) (hb:bytes*c≤281474976710656) (h63:c≤9223372036854775807)
 (k:∀ w' g,Hp w0 w' S (es++[(some g,e,List.replicate c z)])→g=w.heap.size→Ops P ds all K Q os (l.set d (.slice (hd (some g)) n c)) w'):Ops P ds all K Q (⟨some d,.makeSlice t x y,ty,pos,af,none⟩::os) l w:=by
 obtain⟨i,z',d',hi,hz,hzs,hsz,hby,hd',_⟩:=he.ex
 have H':=H.alloc e (List.replicate c z)
 refine zB (w':=w.alloc (.cells (List.replicate c z).toArray e)) ?_ (k _ _ H' Y)
 intro _ _ _ _
 have hr:=run_make (P:=P) w t e i z' ht hi hz k1 k2 n c (by omega) (by omega) (by rw[hby];omega) (by omega)
 have hc:madeCells z'.cells (c*i.size)=(List.replicate c z).toArray:=by
  have hcl:z'.cells=#[z]:=by
   apply Array.ext'
   simpa using hzs
  rw[hsz,hcl,Bz]
  apply Array.ext
  · simp[madeCells]
  intro j h1 h2
  simp[madeCells,Nat.mod_one]
 simp only[Int.toNat_natCast]at hr
 simp[execOp,zV hx,zV hy,hr,hc]
theorem X0 {need old bytes:Nat} (h:old < need) (hb:need*bytes≤211106232532992) (h2:bytes≤1048576):Builtin.nextslicecap need old*bytes≤281474976710656:=by
 have key:Builtin.nextslicecap need old≤need+(need+768) / 4+512:=by
  unfold Builtin.nextslicecap
  split
  · omega
  · split
    · omega
    · rw[growBy_four]
      repeat' split
      all_goals omega
 have h3:Builtin.nextslicecap need old*bytes≤(need+(need+768) / 4+512)*bytes:=Dp _ key
 have h4:(4*(need+(need+768) / 4+512))*bytes≤(5*need+2816)*bytes:=Dp _ (by omega)
 rw[Nat.mul_assoc,Du (5*need),Nat.mul_assoc 5]at h4
 omega
theorem GN (H:Hp w0 w S es) {e:TypeId} (ht:P.underlying t=some (.slice e)) (he:xQ P e zs sz bytes agg) (hsz:0 < sz)
 {g:Option Nat} {n cap i:Nat} {xs sp:List Value} (hi:es[i]? =some (g,e,xs++sp)) (hn:xs.length=n*sz) (hc:cap*sz≤(xs++sp).length) (hnc:n≤cap) (hcap:g=none→cap=0)
 {A:Option Addr} {m c:Nat} {ys:List Value} (hr:Rd w A m sz ys) (h1:ys.all (·.oneCell')=true) (h63:n+m≤9223372036854775807) (hb:(n+m)*bytes≤211106232532992) (hb2:bytes≤1048576):
 ∃ w' g' cap' sp',(Builtin.append_ #[t,t] ty #[.slice (hd g) n cap,.slice A m c]).run P w=.ok (.slice (hd g') (n+m) cap') w'∧
  Hp w0 w' S (es.set i (g',e,(xs++ys)++sp'))∧cap'*sz≤((xs++ys)++sp').length∧n+m≤cap'∧(g'=none→cap'=0):=by
 obtain⟨inf,z,dd,hinf,hz,hzs,rfl,rfl,_,_⟩:=he.ex
 have hzsz:z.cells.size=zs.length:=by rw[← hzs];simp
 by_cases hroom:n+m≤cap
 ·
  cases g with
  | none=>
   have h0:=hcap rfl
   obtain⟨rfl,rfl⟩:n=0∧m=0:=by omega
   subst h0
   have hys:ys=[]:=Ec (by simpa using hr.len)
   have hxs:=H.none_ hi
   subst hys
   refine⟨w,none,0,sp,?_,?_,by simp,by omega,fun _=>Y⟩
   · cases A with
     | none=>simp[hd,Builtin.append_,run_underlying ht,sizeOf,typeInfo,hinf,Builtin.lenOf,Builtin.firstCells]
     | some a=>
      simp[hd,Builtin.append_,run_underlying ht,sizeOf,typeInfo,hinf,Builtin.lenOf,Builtin.firstCells,loadCells,loadCellsFrom]
   rw[Dt]
   have:es.set i (none,e,xs++sp)=es:=by
    apply Oi
    intro j
    rw[Kt]
    split
    · rename_i hij;subst hij;rw[if_pos (lt_of_get hi)];exact hi.symm
    rfl
   rw[this]
   exact H
  | some g=>
   have hrun:(Builtin.append_ #[t,t] ty #[.slice (hd (some g)) n cap,.slice A m c]).run P w=
    .ok (.slice (hd (some g)) (n+m) cap) (w.setRow g (zG (xs++sp) (n*inf.size) ys).toArray):=by
    have hst:=run_storeCells_at (P:=P) g (n*inf.size) e ys 0 (xs++sp).toArray w (H.at hi) (by
     simp only[Ht,Hu]
     rw[hr.len,← Du]
     exact Ci (Dp _ hroom) hc) (by simpa using h1)
    simp only[Ht]at hst
    have hfc:(Builtin.firstCells inf.size m (.slice A m c)).run P w=.ok ys.toArray w:=by
     cases A with
     | none=>
      have:=hr.nil rfl
      subst this
      have hys:ys=[]:=Ec (by simpa using hr.len)
      subst hys
      exact run_firstCells_none w _ _ _ _
     | some a=>exact run_firstCells_some w inf.size m a m c ys hr.len (hr.cells a rfl)
    simp[hd,Builtin.append_,run_underlying ht,sizeOf,typeInfo,hinf,Builtin.lenOf,hroom,hfc,Ll,hst,zG]
   have hp:zG (xs++sp) (n*inf.size) ys=(xs++ys)++sp.drop ys.length:=by
    rw[zG,← hn]
    have e1:(xs++sp).take xs.length=xs:=List.take_left
    have e2:(xs++sp).drop (xs.length+ys.length)=sp.drop ys.length:=by
     rw[List.drop_append]
     simp
    rw[e1,e2]
   refine⟨_,some g,cap,sp.drop ys.length,hrun,?_,?_,hroom,by simp⟩
   · rw[← hp];exact H.setRow hi _
   rw[← hp,zG]
   have hle:n*inf.size+ys.length≤(xs++sp).length:=by
    rw[hr.len,← Du];exact Ci (Dp _ hroom) hc
   simp only[Af,Aw,Bh]at hc hle ⊢
   omega
 ·
  have hold:cap < n+m:=by omega
  have hfit:=X0 hold hb hb2
  have hfo:(Builtin.firstCells inf.size n (.slice (hd g) n cap)).run P w.drew=.ok xs.toArray w.drew:=by
   cases g with
   | none=>
    have h0:=hcap rfl
    have hn0:n=0:=by omega
    subst hn0
    have hxs:xs=[]:=Ec (by simpa using hn)
    subst hxs
    exact run_firstCells_none _ _ _ _ _
   | some g=>
    refine run_firstCells_some _ inf.size n ⟨g,0,none⟩ n cap xs hn ?_
    intro j u hu
    rw[Ll,Au]
    exact H.cell hi (by rw[Di (lt_of_get hu)];exact hu)
  have hfc:(Builtin.firstCells inf.size m (.slice A m c)).run P w.drew=.ok ys.toArray w.drew:=by
   cases A with
   | none=>
    have:=hr.nil rfl
    subst this
    have hys:ys=[]:=Ec (by simpa using hr.len)
    subst hys
    exact run_firstCells_none _ _ _ _ _
   | some a=>exact run_firstCells_some _ inf.size m a m c ys hr.len (fun j u hu=>hr.cells a rfl j u hu)
  have hn':¬(n+m≤cap):=hroom
  have h63':¬(9223372036854775807 < ((n:Int)+(m:Int))):=by omega
  have h48':¬(281474976710656 < Builtin.nextslicecap (n+m) cap*inf.bytes):=by omega
  have hge:=grownCap_ge w (n+m) cap e
  have hrun:(Builtin.append_ #[t,t] ty #[.slice (hd g) n cap,.slice A m c]).run P w=
   .ok (.slice (some ⟨w.heap.size,0,none⟩) (n+m) (grownCap w (n+m) cap e))
    (w.drew.alloc (.cells ((xs++ys)++(Builtin.zeroCells z.cells (grownCap w (n+m) cap e - (n+m))).toList).toArray e)):=by
   simp[Builtin.append_,run_underlying ht,sizeOf,typeInfo,zeroValue,hinf,hz,Builtin.lenOf,hn',h63',h48',Question.forced,hfc,hfo,newRow,grownCap]
   congr 2
   apply Array.ext'
   simp
  have H1:Hp w0 w.drew S es:=H.drew
  have H2:=(H1.alloc e ((xs++ys)++(Builtin.zeroCells z.cells (grownCap w (n+m) cap e - (n+m))).toList)).pick
   ((List.range es.length).set i es.length) (by
    rw[List.nodup_iff_pairwise_ne,Qk]
    intro a b ha hb hab
    simp only[Ko,List.length_range]at ha hb
    rw[List.getElem_set,List.getElem_set]
    split <;>split <;>simp <;>omega)
  have hpick:(((List.range es.length).set i es.length).map fun j=>(es++[(some w.drew.heap.size,e,(xs++ys)++(Builtin.zeroCells z.cells (grownCap w (n+m) cap e - (n+m))).toList)]).getD j (none,0,[]))=
   es.set i (some w.heap.size,e,(xs++ys)++(Builtin.zeroCells z.cells (grownCap w (n+m) cap e - (n+m))).toList):=by
   apply Oi
   intro j
   rw[Oy,Kt,Kt]
   by_cases hij:i=j
   · subst hij
     have hlt:=lt_of_get hi
     simp[hlt]
   simp only[hij,if_false]
   rcases Jg j es.length with hj | hj
   · rw[List.getElem?_range hj,Hy,Dz,Di hj,Bq hj]
     rfl
   rw[Lh (by simpa using hj),Lh hj]
   rfl
  rw[hpick]at H2
  refine⟨_,some w.heap.size,_,_,hrun,H2,?_,hge,by simp⟩
  simp only[Af,hn,hr.len,Array.length_toList,Builtin.zeroCells,Array.size_map,Array.size_range]
  rw[hzsz,he.len,← Du,← Du]
  exact Dp _ (by omega)
theorem yX {e:TypeId} (ht:P.underlying t=some (.slice e)) (he:xQ P e zs sz bytes agg) (hsz:0 < sz) (H:Hp w0 w S es) (i:Nat)
 {g:Option Nat} {n cap:Nat} {xs sp:List Value} (hx:ev l x=some (.slice (hd g) n cap)) (hi:es[i]? =some (g,e,xs++sp)) (hn:xs.length=n*sz) (hc:cap*sz≤(xs++sp).length) (hnc:n≤cap) (hcap:g=none→cap=0)
 {A:Option Addr} {m c:Nat} {ys:List Value} (hy:ev l y=some (.slice A m c)) (hr:Rd w A m sz ys) (h1:ys.all (·.oneCell')=true) (h63:n+m≤9223372036854775807) (hb:(n+m)*bytes≤211106232532992) (hb2:bytes≤1048576)
 (k:∀ w' g' cap' sp',Hp w0 w' S (es.set i (g',e,(xs++ys)++sp'))→cap'*sz≤((xs++ys)++sp').length→n+m≤cap'→(g'=none→cap'=0)→Ops P ds all K Q os (l.set d (.slice (hd g') (n+m) cap')) w'):
 Ops P ds all K Q (⟨some d,.call { callee:=.builtin .append,args:=#[x,y],argTypes:=#[t,t] },ty,pos,af,none⟩::os) l w:=by
 obtain⟨w',g',cap',sp',hrun,H',h2,h3,h4⟩:=GN (ty:=ty) (c:=c) H ht he hsz hi hn hc hnc hcap hr h1 h63 hb hb2
 refine zB (w':=w') ?_ (k w' g' cap' sp' H' h2 h3 h4)
 intro _ _ _ _
 simp[execOp,resolve,invoke,builtin,zV hx,zV hy,hrun]
def fin (P:Program) (fn:Func) (R:Value→World→Prop):vQ
 | .normal,l,w=>∃ v,(results fn l.toArray).run P w=.ok v w∧R v w
 | .ret,l,w=>∃ v,(results fn l.toArray).run P w=.ok v w∧R v w
 | _,_,_=>False
theorem zE {f:FuncId} {fn:Func} {c:Code} {args:List Value} {R:Value→World→Prop} {n:Nat} (hf:P.funcs[f]? =some fn) (hn:fn.ntmps=n) (hb:fn.body=some c)
 (h:Run P [] [c] (fin P fn R) (args++List.replicate (n - args.length) undef) w):zO P f args.toArray w R:=by
 refine calls_of_wp hf hb ?_
 rw[hn]
 have hl:args.toArray++Array.replicate (n - args.toArray.size) undef=(args++List.replicate (n - args.length) undef).toArray:=by simp
 rw[hl]
 refine Go.wp_mono h ?_
 rintro e ⟨t,d⟩ w' ⟨hd,h2⟩
 cases e with
 | normal=>exact(let ⟨v,h3,h4⟩:=h2;⟨hd,v,h3,v,rfl,h4⟩)
 | ret=>exact(let ⟨v,h3,h4⟩:=h2;⟨hd,v,h3,v,rfl,h4⟩)
 | _=>exact h2.elim
variable {fn:Func} {R:Value→World→Prop} {u v1 v2 v3:Value} {r1 r2 r3:Tmp}
theorem rQ (hr:fn.results=#[]) (h:R (.tuple #[]) w):fin P fn R .ret l w:=⟨_,results_none hr _ _ _,h⟩
theorem yO (hr:fn.results=#[]) (h:R (.tuple #[]) w):fin P fn R .normal l w:=⟨_,results_none hr _ _ _,h⟩
theorem gT {l:List Value} {t:Nat} {v:Value} (h:nth l t=some v):l.toArray.getD t undef=v:=by
 rw[pQ]at h
 simp[h]
theorem tH (hr:fn.results=#[.tmp r1]) (h1:nth l r1=some v1) (h:R v1 w):fin P fn R .ret l w:=
 ⟨_,results_tmp hr _ _ _,by rw[gT h1];exact h⟩
theorem FH (hr:fn.results=#[.tmp r1,.tmp r2]) (h1:nth l r1=some v1) (h2:nth l r2=some v2) (h:R (.tuple #[v1,v2]) w):fin P fn R .ret l w:=
 ⟨_,results_tmp2 hr _ _ _,by rw[gT h1,gT h2];exact h⟩
theorem sF (hr:fn.results=#[.tmp r1,.tmp r2,.tmp r3]) (h1:nth l r1=some v1) (h2:nth l r2=some v2) (h3:nth l r3=some v3) (h:R (.tuple #[v1,v2,v3]) w):fin P fn R .ret l w:=
 ⟨.tuple #[v1,v2,v3],by rw[pQ]at h1 h2 h3;simp[results,hr,h1,h2,h3],h⟩
end mk
end Go.Proofs.YtjoeklkmnfaabaaGreat
namespace Go.Proofs.YtjoeklkmnfaabaaGreat
open Go
variable {P:Program} {ds:List Deferred} {o p:List Oper} {K:List Value→World→Prop} {Q:vQ} {w:World} {a0 a1 a2 a3 a4 a5 a6 a7 a8 a9 a10 a11 a12 Iw Jb Jh a16 a17 Js Jy a20 a21 a22 a23 a24 a25 a26 a27 a28 a29 a30 a31 a32 a33 a34 a35 a36 a37 a38 a39 a40:Value} {c:List Code}
theorem nO15 (h:Ops P ds o K Q p [a0,a1,a2,a3,a4,a5,a6,a7,a8,a9,a10,a11,a12,Iw,Jb] w):Ops P ds o K Q p [a0,a1,a2,a3,a4,a5,a6,a7,a8,a9,a10,a11,a12,Iw,Jb] w:=h
theorem nO19 (h:Ops P ds o K Q p [a0,a1,a2,a3,a4,a5,a6,a7,a8,a9,a10,a11,a12,Iw,Jb,Jh,a16,a17,Js] w):Ops P ds o K Q p [a0,a1,a2,a3,a4,a5,a6,a7,a8,a9,a10,a11,a12,Iw,Jb,Jh,a16,a17,Js] w:=h
theorem nO26 (h:Ops P ds o K Q p [a0,a1,a2,a3,a4,a5,a6,a7,a8,a9,a10,a11,a12,Iw,Jb,Jh,a16,a17,Js,Jy,a20,a21,a22,a23,a24,a25] w):Ops P ds o K Q p [a0,a1,a2,a3,a4,a5,a6,a7,a8,a9,a10,a11,a12,Iw,Jb,Jh,a16,a17,Js,Jy,a20,a21,a22,a23,a24,a25] w:=h
theorem CJ (h:Ops P ds o K Q p [a0,a1,a2,a3,a4,a5,a6,a7,a8,a9,a10,a11,a12,Iw,Jb,Jh,a16,a17,Js,Jy,a20,a21,a22,a23,a24,a25,a26,a27,a28,a29,a30] w):Ops P ds o K Q p [a0,a1,a2,a3,a4,a5,a6,a7,a8,a9,a10,a11,a12,Iw,Jb,Jh,a16,a17,Js,Jy,a20,a21,a22,a23,a24,a25,a26,a27,a28,a29,a30] w:=h
theorem iL (h:Ops P ds o K Q p [a0,a1,a2,a3,a4,a5,a6,a7,a8,a9,a10,a11,a12,Iw,Jb,Jh,a16,a17,Js,Jy,a20,a21,a22,a23,a24,a25,a26,a27,a28,a29,a30,a31,a32,a33,a34,a35,a36,a37,a38,a39,a40] w):Ops P ds o K Q p [a0,a1,a2,a3,a4,a5,a6,a7,a8,a9,a10,a11,a12,Iw,Jb,Jh,a16,a17,Js,Jy,a20,a21,a22,a23,a24,a25,a26,a27,a28,a29,a30,a31,a32,a33,a34,a35,a36,a37,a38,a39,a40] w:=h
theorem LR (h:Run P ds c Q [a0,a1,a2,a3,a4,a5,a6,a7,a8,a9,a10,a11,a12,Iw,Jb] w):Run P ds c Q [a0,a1,a2,a3,a4,a5,a6,a7,a8,a9,a10,a11,a12,Iw,Jb] w:=h
theorem CI (h:Run P ds c Q [a0,a1,a2,a3,a4,a5,a6,a7,a8,a9,a10,a11,a12,Iw,Jb,Jh,a16,a17,Js] w):Run P ds c Q [a0,a1,a2,a3,a4,a5,a6,a7,a8,a9,a10,a11,a12,Iw,Jb,Jh,a16,a17,Js] w:=h
theorem gL (h:Run P ds c Q [a0,a1,a2,a3,a4,a5,a6,a7,a8,a9,a10,a11,a12,Iw,Jb,Jh,a16,a17,Js,Jy,a20,a21,a22,a23,a24,a25] w):Run P ds c Q [a0,a1,a2,a3,a4,a5,a6,a7,a8,a9,a10,a11,a12,Iw,Jb,Jh,a16,a17,Js,Jy,a20,a21,a22,a23,a24,a25] w:=h
theorem eI (h:Run P ds c Q [a0,a1,a2,a3,a4,a5,a6,a7,a8,a9,a10,a11,a12,Iw,Jb,Jh,a16,a17,Js,Jy,a20,a21,a22,a23,a24,a25,a26,a27,a28,a29,a30] w):Run P ds c Q [a0,a1,a2,a3,a4,a5,a6,a7,a8,a9,a10,a11,a12,Iw,Jb,Jh,a16,a17,Js,Jy,a20,a21,a22,a23,a24,a25,a26,a27,a28,a29,a30] w:=h
theorem sU (h:Run P ds c Q [a0,a1,a2,a3,a4,a5,a6,a7,a8,a9,a10,a11,a12,Iw,Jb,Jh,a16,a17,Js,Jy,a20,a21,a22,a23,a24,a25,a26,a27,a28,a29,a30,a31,a32,a33,a34,a35,a36,a37,a38,a39,a40] w):Run P ds c Q [a0,a1,a2,a3,a4,a5,a6,a7,a8,a9,a10,a11,a12,Iw,Jb,Jh,a16,a17,Js,Jy,a20,a21,a22,a23,a24,a25,a26,a27,a28,a29,a30,a31,a32,a33,a34,a35,a36,a37,a38,a39,a40] w:=h
theorem nS26 {K:List Value→Prop} (h:yT P ds o w K p [a0,a1,a2,a3,a4,a5,a6,a7,a8,a9,a10,a11,a12,Iw,Jb,Jh,a16,a17,Js,Jy,a20,a21,a22,a23,a24,a25]):yT P ds o w K p [a0,a1,a2,a3,a4,a5,a6,a7,a8,a9,a10,a11,a12,Iw,Jb,Jh,a16,a17,Js,Jy,a20,a21,a22,a23,a24,a25]:=h
end Go.Proofs.YtjoeklkmnfaabaaGreat
namespace Go.Proofs.YtjoeklkmnfaabaaGreat
open Go
theorem ty3 :xQ Tryz.prog 3 [.int .i64 0] 1 8 false:=vU (by kernel_rfl)
theorem ty4 :xQ Tryz.prog 4 [.bool false] 1 1 false:=vU (by kernel_rfl)
theorem ty5 :xQ Tryz.prog 5 [.int .u8 0] 1 1 false:=vU (by kernel_rfl)
theorem ty9 :xQ Tryz.prog 9 [.string .empty] 1 16 false:=vU (by kernel_rfl)
theorem lF :xQ Tryz.prog 22 [.slice none 0 0] 1 24 false:=vU (by kernel_rfl)
theorem gB :xQ Tryz.prog 23 [.pointer none] 1 8 false:=vU (by kernel_rfl)
theorem oA :xQ Tryz.prog 24 [.int .i64 0] 1 8 false:=vU (by kernel_rfl)
theorem lE :xQ Tryz.prog 27 [.pointer none] 1 8 false:=vU (by kernel_rfl)
theorem xR :xQ Tryz.prog 35 [.int .i64 0,.string .empty,.int .i64 0,.int .i64 0] 4 40 true:=vU (by kernel_rfl)
theorem qD :yC Tryz.prog 35 0=some (0,3):=by kernel_rfl
theorem oV :yC Tryz.prog 35 1=some (1,9):=by kernel_rfl
theorem aC :yC Tryz.prog 35 2=some (2,3):=by kernel_rfl
theorem G7 :yC Tryz.prog 35 3=some (3,3):=by kernel_rfl
theorem qX :xQ Tryz.prog 37 [.slice none 0 0] 1 24 false:=vU (by kernel_rfl)
theorem gA :xQ Tryz.prog 38 [.slice none 0 0] 1 24 false:=vU (by kernel_rfl)
theorem mX :xQ Tryz.prog 39 [.slice none 0 0] 1 24 false:=vU (by kernel_rfl)
theorem xH :xQ Tryz.prog 41 [.slice none 0 0,.slice none 0 0,.slice none 0 0] 3 72 true:=vU (by kernel_rfl)
theorem vW :yC Tryz.prog 41 0=some (0,37):=by kernel_rfl
theorem rP :yC Tryz.prog 41 1=some (1,38):=by kernel_rfl
theorem tP :yC Tryz.prog 41 2=some (2,39):=by kernel_rfl
theorem DL :xQ Tryz.prog 50 [.slice none 0 0] 1 24 false:=vU (by kernel_rfl)
theorem ty59 :xQ Tryz.prog 59 [.pointer none,.pointer none,.slice none 0 0,.int .i64 0,.bool false] 5 56 true:=vU (by kernel_rfl)
theorem kC :yC Tryz.prog 59 0=some (0,27):=by kernel_rfl
theorem iU :yC Tryz.prog 59 1=some (1,23):=by kernel_rfl
theorem qQ :yC Tryz.prog 59 2=some (2,22):=by kernel_rfl
theorem G6 :yC Tryz.prog 59 3=some (3,3):=by kernel_rfl
theorem CT :yC Tryz.prog 59 4=some (4,4):=by kernel_rfl
theorem ty62 :xQ Tryz.prog 62 [.int .i64 0,.int .i64 0,.slice none 0 0,.slice none 0 0] 4 64 true:=vU (by kernel_rfl)
theorem QG :yC Tryz.prog 62 0=some (0,3):=by kernel_rfl
theorem XZ :yC Tryz.prog 62 1=some (1,3):=by kernel_rfl
theorem aB :yC Tryz.prog 62 2=some (2,22):=by kernel_rfl
theorem QF :yC Tryz.prog 62 3=some (3,50):=by kernel_rfl
theorem uF :xQ Tryz.prog 65 [.pointer none] 1 8 false:=vU (by kernel_rfl)
theorem ty69 :xQ Tryz.prog 69 [.pointer none,.slice none 0 0,.slice none 0 0,.slice none 0 0] 4 80 true:=vU (by kernel_rfl)
theorem iT :yC Tryz.prog 69 0=some (0,65):=by kernel_rfl
theorem iS :yC Tryz.prog 69 1=some (1,41):=by kernel_rfl
theorem xG :xQ Tryz.prog 73 [.slice none 0 0] 1 24 false:=vU (by kernel_rfl)
theorem vC :xQ Tryz.prog 75 [.int .i64 0,.int .i64 0] 2 16 true:=vU (by kernel_rfl)
theorem sW :yC Tryz.prog 75 0=some (0,3):=by kernel_rfl
theorem qC :yC Tryz.prog 75 1=some (1,3):=by kernel_rfl
theorem xC :xQ Tryz.prog 77 [.int .i64 0,.int .i64 0,.int .i64 0,.slice none 0 0] 4 48 true:=vU (by kernel_rfl)
theorem wY :yC Tryz.prog 77 0=some (0,3):=by kernel_rfl
theorem tA :yC Tryz.prog 77 1=some (1,75):=by kernel_rfl
theorem tO :yC Tryz.prog 77 2=some (3,73):=by kernel_rfl
theorem wJ :xQ Tryz.prog 79 [.int .i64 0,.slice none 0 0] 2 32 true:=vU (by kernel_rfl)
theorem xX :yC Tryz.prog 79 0=some (0,3):=by kernel_rfl
theorem uH :yC Tryz.prog 79 1=some (1,73):=by kernel_rfl
theorem xT :xQ Tryz.prog 81 [.int .i64 0,.int .i64 0,.int .i64 0,.int .i64 0,.int .i64 0,.int .i64 0,.int .i64 0,.slice none 0 0,.int .i64 0,.slice none 0 0,.int .i64 0,.string .empty,.int .i64 0,.int .i64 0,.int .i64 0,.int .i64 0] 16 168 true:=vU (by kernel_rfl)
theorem qP :yC Tryz.prog 81 0=some (0,3):=by kernel_rfl
theorem fl81_1 :yC Tryz.prog 81 1=some (1,3):=by kernel_rfl
theorem mM :yC Tryz.prog 81 2=some (2,75):=by kernel_rfl
theorem qO :yC Tryz.prog 81 3=some (4,77):=by kernel_rfl
theorem vV :yC Tryz.prog 81 4=some (8,79):=by kernel_rfl
theorem kB :yC Tryz.prog 81 5=some (10,35):=by kernel_rfl
theorem uQ :yC Tryz.prog 81 6=some (14,3):=by kernel_rfl
theorem tN :yC Tryz.prog 81 7=some (15,3):=by kernel_rfl
theorem GG :xQ Tryz.prog 86 [.slice none 0 0] 1 24 false:=vU (by kernel_rfl)
theorem aT :xQ Tryz.prog 87 [.slice none 0 0] 1 24 false:=vU (by kernel_rfl)
theorem ty89 :xQ Tryz.prog 89 [.slice none 0 0,.slice none 0 0,.bool false,.int .i64 0] 4 64 true:=vU (by kernel_rfl)
theorem iR :yC Tryz.prog 89 0=some (0,86):=by kernel_rfl
theorem oU :yC Tryz.prog 89 1=some (1,87):=by kernel_rfl
theorem kA :yC Tryz.prog 89 2=some (2,4):=by kernel_rfl
theorem eN :yC Tryz.prog 89 3=some (3,3):=by kernel_rfl
theorem fS :xQ Tryz.prog 91 [.int .u8 0,.int .u8 0,.int .u8 0,.int .u8 0,.int .u8 0,.int .u8 0,.int .u8 0,.int .u8 0,.int .u8 0,.int .u8 0,.int .u8 0,.int .u8 0,.int .u8 0,.int .u8 0,.int .u8 0,.int .u8 0,.int .u8 0,.int .u8 0,.int .u8 0,.int .u8 0,.int .u8 0,.int .u8 0,.int .u8 0,.int .u8 0,.int .u8 0,.int .u8 0,.int .u8 0,.int .u8 0,.int .u8 0,.int .u8 0,.int .u8 0,.int .u8 0,.int .u8 0,.int .u8 0,.int .u8 0,.int .u8 0,.int .u8 0,.int .u8 0,.int .u8 0,.int .u8 0,.int .u8 0,.int .u8 0,.int .u8 0,.int .u8 0,.int .u8 0,.int .u8 0,.int .u8 0,.int .u8 0,.int .u8 0,.int .u8 0,.int .u8 0,.int .u8 0,.int .u8 0,.int .u8 0,.int .u8 0,.int .u8 0,.int .u8 0,.int .u8 0,.int .u8 0,.int .u8 0,.int .u8 0,.int .u8 0,.int .u8 0,.int .u8 0] 64 64 true:=vU (by kernel_rfl)
theorem fR :xQ Tryz.prog 93 [.int .i64 0,.int .u8 0,.int .u8 0,.int .u8 0,.int .u8 0,.int .u8 0,.int .u8 0,.int .u8 0,.int .u8 0,.int .u8 0,.int .u8 0,.int .u8 0,.int .u8 0,.int .u8 0,.int .u8 0,.int .u8 0,.int .u8 0,.int .u8 0,.int .u8 0,.int .u8 0,.int .u8 0,.int .u8 0,.int .u8 0,.int .u8 0,.int .u8 0,.int .u8 0,.int .u8 0,.int .u8 0,.int .u8 0,.int .u8 0,.int .u8 0,.int .u8 0,.int .u8 0,.int .u8 0,.int .u8 0,.int .u8 0,.int .u8 0,.int .u8 0,.int .u8 0,.int .u8 0,.int .u8 0,.int .u8 0,.int .u8 0,.int .u8 0,.int .u8 0,.int .u8 0,.int .u8 0,.int .u8 0,.int .u8 0,.int .u8 0,.int .u8 0,.int .u8 0,.int .u8 0,.int .u8 0,.int .u8 0,.int .u8 0,.int .u8 0,.int .u8 0,.int .u8 0,.int .u8 0,.int .u8 0,.int .u8 0,.int .u8 0,.int .u8 0,.int .u8 0] 65 72 true:=vU (by kernel_rfl)
theorem CS :yC Tryz.prog 93 0=some (0,3):=by kernel_rfl
theorem CR :yC Tryz.prog 93 1=some (1,91):=by kernel_rfl
theorem tY :xQ Tryz.prog 94 [.slice none 0 0] 1 24 false:=vU (by kernel_rfl)
theorem tX :xQ Tryz.prog 95 [.slice none 0 0] 1 24 false:=vU (by kernel_rfl)
theorem xY :xQ Tryz.prog 97 [.int .i64 0,.int .i64 0,.slice none 0 0,.int .i64 0,.slice none 0 0,.slice none 0 0] 6 96 true:=vU (by kernel_rfl)
theorem uZ :yC Tryz.prog 97 0=some (0,75):=by kernel_rfl
theorem wM :yC Tryz.prog 97 1=some (2,94):=by kernel_rfl
theorem wX :yC Tryz.prog 97 2=some (3,3):=by kernel_rfl
theorem uY :yC Tryz.prog 97 3=some (4,73):=by kernel_rfl
theorem wL :yC Tryz.prog 97 4=some (5,95):=by kernel_rfl
theorem fQ :xQ Tryz.prog 98 [.slice none 0 0] 1 24 false:=vU (by kernel_rfl)
theorem yQ :xQ Tryz.prog 110 [.int .i64 0,.int .i64 0,.bool false,.int .i64 0,.int .i64 0,.int .i64 0,.int .i64 0] 7 56 true:=vU (by kernel_rfl)
theorem tT :yC Tryz.prog 110 0=some (0,3):=by kernel_rfl
theorem jM :yC Tryz.prog 110 1=some (1,3):=by kernel_rfl
theorem JU :yC Tryz.prog 110 2=some (2,4):=by kernel_rfl
theorem ty116 :xQ Tryz.prog 116 [] 0 0 true:=vU (by kernel_rfl)
theorem nC :xQ Tryz.prog 118 [.int .u64 0] 1 8 false:=vU (by kernel_rfl)
theorem ty120 :xQ Tryz.prog 120 [.pointer none,.bool false,.int .u64 0,.int .i64 0,.slice none 0 0,.slice none 0 0,.int .i64 0,.int .i64 0,.int .i64 0] 9 104 true:=vU (by kernel_rfl)
theorem pF :yC Tryz.prog 120 0=some (0,27):=by kernel_rfl
theorem mO :yC Tryz.prog 120 1=some (1,4):=by kernel_rfl
theorem CX :yC Tryz.prog 120 2=some (2,118):=by kernel_rfl
theorem qG :yC Tryz.prog 120 3=some (3,3):=by kernel_rfl
theorem sO :yC Tryz.prog 120 4=some (4,98):=by kernel_rfl
theorem jL :yC Tryz.prog 120 5=some (5,50):=by kernel_rfl
theorem oH :yC Tryz.prog 120 6=some (6,3):=by kernel_rfl
theorem gX :yC Tryz.prog 120 7=some (7,3):=by kernel_rfl
theorem cA :yC Tryz.prog 120 8=some (8,3):=by kernel_rfl
theorem pL :xQ Tryz.prog 122 [.int .u64 0,.int .i64 0,.int .i64 0,.int .i64 0] 4 32 true:=vU (by kernel_rfl)
theorem dZ :yC Tryz.prog 122 0=some (0,118):=by kernel_rfl
theorem CW :yC Tryz.prog 122 1=some (1,3):=by kernel_rfl
theorem JT :yC Tryz.prog 122 2=some (2,3):=by kernel_rfl
theorem CV :yC Tryz.prog 122 3=some (3,3):=by kernel_rfl
theorem DM :xQ Tryz.prog 136 [.nilFunc] 1 8 false:=vU (by kernel_rfl)
theorem NI :xQ Tryz.prog 165 [.pointer none] 1 8 false:=vU (by kernel_rfl)
theorem ty167 :xQ Tryz.prog 167 [.slice none 0 0,.pointer none,.bool false] 3 40 true:=vU (by kernel_rfl)
theorem jK :yC Tryz.prog 167 0=some (0,73):=by kernel_rfl
theorem CU :yC Tryz.prog 167 1=some (1,165):=by kernel_rfl
theorem uD :yC Tryz.prog 167 2=some (2,4):=by kernel_rfl
theorem oD :xQ Tryz.prog 175 [.pointer none] 1 8 false:=vU (by kernel_rfl)
theorem VE :xQ Tryz.prog 178 [.pointer none,.slice none 0 0,.bool false,.int .i64 0] 4 48 true:=vU (by kernel_rfl)
theorem tS :yC Tryz.prog 178 0=some (0,175):=by kernel_rfl
theorem dY :yC Tryz.prog 178 1=some (1,73):=by kernel_rfl
theorem oG :yC Tryz.prog 178 2=some (2,4):=by kernel_rfl
theorem JS :yC Tryz.prog 178 3=some (3,24):=by kernel_rfl
theorem tQ :xQ Tryz.prog 180 [.pointer none] 1 8 false:=vU (by kernel_rfl)
theorem ty192 :xQ Tryz.prog 192 [.nilFunc,.nilFunc,.nilFunc,.nilFunc,.nilFunc] 5 40 true:=vU (by kernel_rfl)
theorem ty219 :xQ Tryz.prog 219 [.slice none 0 0,.int .i64 0,.int .i64 0] 3 40 true:=vU (by kernel_rfl)
theorem dX :yC Tryz.prog 219 0=some (0,73):=by kernel_rfl
theorem gW :yC Tryz.prog 219 1=some (1,3):=by kernel_rfl
theorem mN :yC Tryz.prog 219 2=some (2,24):=by kernel_rfl
theorem AH :xQ Tryz.prog 224 [.pointer none] 1 8 false:=vU (by kernel_rfl)
theorem VD :xQ Tryz.prog 245 [.int .i64 0,.int .i64 0,.int .i64 0,.slice none 0 0] 4 48 true:=vU (by kernel_rfl)
theorem VC :xQ Tryz.prog 261 [.map none] 1 8 false:=vU (by kernel_rfl)
theorem VB :xQ Tryz.prog 263 [.int .i64 0,.int .i64 0,.int .i64 0,.map none] 4 32 true:=vU (by kernel_rfl)
theorem JR :yC Tryz.prog 263 2=some (3,261):=by kernel_rfl
theorem gf7 :yB Tryz.prog 7=true:=by kernel_rfl
theorem gf8 :yB Tryz.prog 8=true:=by kernel_rfl
theorem gf9 :yB Tryz.prog 9=true:=by kernel_rfl
theorem gf10 :yB Tryz.prog 10=true:=by kernel_rfl
theorem gf11 :yB Tryz.prog 11=true:=by kernel_rfl
theorem gf12 :yB Tryz.prog 12=true:=by kernel_rfl
theorem gf13 :yB Tryz.prog 13=true:=by kernel_rfl
theorem L6 :yB Tryz.prog 14=true:=by kernel_rfl
theorem gf15 :yB Tryz.prog 15=true:=by kernel_rfl
theorem gf16 :yB Tryz.prog 16=true:=by kernel_rfl
theorem UF :yB Tryz.prog 17=true:=by kernel_rfl
theorem gf19 :yB Tryz.prog 19=true:=by kernel_rfl
theorem P0 :yB Tryz.prog 20=true:=by kernel_rfl
theorem gf23 :yB Tryz.prog 23=true:=by kernel_rfl
theorem gf26 :yB Tryz.prog 26=true:=by kernel_rfl
theorem XW :yB Tryz.prog 27=true:=by kernel_rfl
theorem gf28 :yB Tryz.prog 28=true:=by kernel_rfl
theorem gf29 :yB Tryz.prog 29=true:=by kernel_rfl
theorem gf30 :yB Tryz.prog 30=true:=by kernel_rfl
theorem gf31 :yB Tryz.prog 31=true:=by kernel_rfl
theorem UE :yB Tryz.prog 32=true:=by kernel_rfl
theorem gf33 :yB Tryz.prog 33=true:=by kernel_rfl
theorem gf34 :yB Tryz.prog 34=true:=by kernel_rfl
theorem gf35 :yB Tryz.prog 35=true:=by kernel_rfl
theorem gf36 :yB Tryz.prog 36=true:=by kernel_rfl
theorem gf37 :yB Tryz.prog 37=true:=by kernel_rfl
theorem XV :yB Tryz.prog 38=true:=by kernel_rfl
theorem PY :yB Tryz.prog 39=true:=by kernel_rfl
theorem gf40 :yB Tryz.prog 40=true:=by kernel_rfl
theorem gf41 :yB Tryz.prog 41=true:=by kernel_rfl
theorem gf42 :yB Tryz.prog 42=true:=by kernel_rfl
theorem gf43 :yB Tryz.prog 43=true:=by kernel_rfl
theorem gf44 :yB Tryz.prog 44=true:=by kernel_rfl
theorem gf45 :yB Tryz.prog 45=true:=by kernel_rfl
theorem gf46 :yB Tryz.prog 46=true:=by kernel_rfl
theorem gf47 :yB Tryz.prog 47=true:=by kernel_rfl
theorem gf48 :yB Tryz.prog 48=true:=by kernel_rfl
theorem gf49 :yB Tryz.prog 49=true:=by kernel_rfl
theorem gf50 :yB Tryz.prog 50=true:=by kernel_rfl
theorem UD :yB Tryz.prog 51=true:=by kernel_rfl
theorem L4 :yB Tryz.prog 52=true:=by kernel_rfl
theorem gf53 :yB Tryz.prog 53=true:=by kernel_rfl
theorem gf54 :yB Tryz.prog 54=true:=by kernel_rfl
theorem XU :yB Tryz.prog 55=true:=by kernel_rfl
theorem gf56 :yB Tryz.prog 56=true:=by kernel_rfl
theorem G5 :yB Tryz.prog 57=true:=by kernel_rfl
theorem gf58 :yB Tryz.prog 58=true:=by kernel_rfl
theorem gf59 :yB Tryz.prog 59=true:=by kernel_rfl
theorem gf60 :yB Tryz.prog 60=true:=by kernel_rfl
theorem gf61 :yB Tryz.prog 61=true:=by kernel_rfl
theorem jS :yB Tryz.prog 62=true:=by kernel_rfl
theorem gf63 :yB Tryz.prog 63=true:=by kernel_rfl
theorem gf64 :yB Tryz.prog 64=true:=by kernel_rfl
theorem gf65 :yB Tryz.prog 65=true:=by kernel_rfl
theorem gf66 :yB Tryz.prog 66=true:=by kernel_rfl
theorem gf67 :yB Tryz.prog 67=true:=by kernel_rfl
theorem gf68 :yB Tryz.prog 68=true:=by kernel_rfl
theorem gf69 :yB Tryz.prog 69=true:=by kernel_rfl
theorem gf70 :yB Tryz.prog 70=true:=by kernel_rfl
theorem gf71 :yB Tryz.prog 71=true:=by kernel_rfl
theorem gf72 :yB Tryz.prog 72=true:=by kernel_rfl
theorem XT :yB Tryz.prog 73=true:=by kernel_rfl
theorem XS :yB Tryz.prog 74=true:=by kernel_rfl
theorem gf75 :yB Tryz.prog 75=true:=by kernel_rfl
theorem gf76 :yB Tryz.prog 76=true:=by kernel_rfl
theorem gf77 :yB Tryz.prog 77=true:=by kernel_rfl
theorem XR :yB Tryz.prog 78=true:=by kernel_rfl
theorem gf79 :yB Tryz.prog 79=true:=by kernel_rfl
theorem gf80 :yB Tryz.prog 80=true:=by kernel_rfl
theorem XQ :yB Tryz.prog 81=true:=by kernel_rfl
theorem gf82 :yB Tryz.prog 82=true:=by kernel_rfl
theorem gf83 :yB Tryz.prog 83=true:=by kernel_rfl
theorem gf84 :yB Tryz.prog 84=true:=by kernel_rfl
theorem PX :yB Tryz.prog 85=true:=by kernel_rfl
theorem gf86 :yB Tryz.prog 86=true:=by kernel_rfl
theorem XO :yB Tryz.prog 87=true:=by kernel_rfl
theorem UC :yB Tryz.prog 88=true:=by kernel_rfl
theorem XN :yB Tryz.prog 89=true:=by kernel_rfl
theorem gf90 :yB Tryz.prog 90=true:=by kernel_rfl
theorem gf91 :yB Tryz.prog 91=true:=by kernel_rfl
theorem gf92 :yB Tryz.prog 92=true:=by kernel_rfl
theorem gf93 :yB Tryz.prog 93=true:=by kernel_rfl
theorem gf94 :yB Tryz.prog 94=true:=by kernel_rfl
theorem gf95 :yB Tryz.prog 95=true:=by kernel_rfl
theorem gf96 :yB Tryz.prog 96=true:=by kernel_rfl
theorem gf97 :yB Tryz.prog 97=true:=by kernel_rfl
theorem gf98 :yB Tryz.prog 98=true:=by kernel_rfl
theorem gf99 :yB Tryz.prog 99=true:=by kernel_rfl
theorem gf100 :yB Tryz.prog 100=true:=by kernel_rfl
theorem gf101 :yB Tryz.prog 101=true:=by kernel_rfl
theorem FD :yB Tryz.prog 102=true:=by kernel_rfl
theorem V9 :yB Tryz.prog 103=true:=by kernel_rfl
theorem gf104 :yB Tryz.prog 104=true:=by kernel_rfl
theorem gf105 :yB Tryz.prog 105=true:=by kernel_rfl
theorem oF :yB Tryz.prog 106=true:=by kernel_rfl
theorem JQ :yB Tryz.prog 107=true:=by kernel_rfl
theorem V8 :yB Tryz.prog 108=true:=by kernel_rfl
theorem V7 :yB Tryz.prog 109=true:=by kernel_rfl
theorem V6 :yB Tryz.prog 110=true:=by kernel_rfl
theorem gf111 :yB Tryz.prog 111=true:=by kernel_rfl
theorem V5 :yB Tryz.prog 112=true:=by kernel_rfl
theorem V4 :yB Tryz.prog 113=true:=by kernel_rfl
theorem gf114 :yB Tryz.prog 114=true:=by kernel_rfl
theorem JP :yB Tryz.prog 115=true:=by kernel_rfl
theorem P7 :yB Tryz.prog 116=true:=by kernel_rfl
theorem gf117 :yB Tryz.prog 117=true:=by kernel_rfl
theorem gf118 :yB Tryz.prog 118=true:=by kernel_rfl
theorem gf119 :yB Tryz.prog 119=true:=by kernel_rfl
theorem gf120 :yB Tryz.prog 120=true:=by kernel_rfl
theorem V3 :yB Tryz.prog 121=true:=by kernel_rfl
theorem gf122 :yB Tryz.prog 122=true:=by kernel_rfl
theorem V2 :yB Tryz.prog 123=true:=by kernel_rfl
theorem gS :yB Tryz.prog 124=true:=by kernel_rfl
theorem gf125 :yB Tryz.prog 125=true:=by kernel_rfl
theorem gf126 :yB Tryz.prog 126=true:=by kernel_rfl
theorem V1 :yB Tryz.prog 127=true:=by kernel_rfl
theorem gf128 :yB Tryz.prog 128=true:=by kernel_rfl
theorem gf129 :yB Tryz.prog 129=true:=by kernel_rfl
theorem V0 :yB Tryz.prog 130=true:=by kernel_rfl
theorem gf131 :yB Tryz.prog 131=true:=by kernel_rfl
theorem VZ :yB Tryz.prog 132=true:=by kernel_rfl
theorem JO :yB Tryz.prog 133=true:=by kernel_rfl
theorem gf134 :yB Tryz.prog 134=true:=by kernel_rfl
theorem VY :yB Tryz.prog 135=true:=by kernel_rfl
theorem VX :yB Tryz.prog 136=true:=by kernel_rfl
theorem gf137 :yB Tryz.prog 137=true:=by kernel_rfl
theorem FB :yB Tryz.prog 138=true:=by kernel_rfl
theorem gf139 :yB Tryz.prog 139=true:=by kernel_rfl
theorem VW :yB Tryz.prog 140=true:=by kernel_rfl
theorem JN :yB Tryz.prog 141=true:=by kernel_rfl
theorem VV :yB Tryz.prog 142=true:=by kernel_rfl
theorem gf143 :yB Tryz.prog 143=true:=by kernel_rfl
theorem gf144 :yB Tryz.prog 144=true:=by kernel_rfl
theorem gf145 :yB Tryz.prog 145=true:=by kernel_rfl
theorem JM :yB Tryz.prog 146=true:=by kernel_rfl
theorem VU :yB Tryz.prog 147=true:=by kernel_rfl
theorem gf148 :yB Tryz.prog 148=true:=by kernel_rfl
theorem gf149 :yB Tryz.prog 149=true:=by kernel_rfl
theorem BJ :yB Tryz.prog 150=true:=by kernel_rfl
theorem VT :yB Tryz.prog 151=true:=by kernel_rfl
theorem gf152 :yB Tryz.prog 152=true:=by kernel_rfl
theorem VS :yB Tryz.prog 153=true:=by kernel_rfl
theorem gf154 :yB Tryz.prog 154=true:=by kernel_rfl
theorem VR :yB Tryz.prog 155=true:=by kernel_rfl
theorem gf156 :yB Tryz.prog 156=true:=by kernel_rfl
theorem gf157 :yB Tryz.prog 157=true:=by kernel_rfl
theorem gf158 :yB Tryz.prog 158=true:=by kernel_rfl
theorem gf159 :yB Tryz.prog 159=true:=by kernel_rfl
theorem P6 :yB Tryz.prog 162=true:=by kernel_rfl
theorem VQ :yB Tryz.prog 163=true:=by kernel_rfl
theorem gf164 :yB Tryz.prog 164=true:=by kernel_rfl
theorem gf165 :yB Tryz.prog 165=true:=by kernel_rfl
theorem gf166 :yB Tryz.prog 166=true:=by kernel_rfl
theorem JL :yB Tryz.prog 167=true:=by kernel_rfl
theorem gf168 :yB Tryz.prog 168=true:=by kernel_rfl
theorem gf169 :yB Tryz.prog 169=true:=by kernel_rfl
theorem gf170 :yB Tryz.prog 170=true:=by kernel_rfl
theorem VP :yB Tryz.prog 171=true:=by kernel_rfl
theorem gf172 :yB Tryz.prog 172=true:=by kernel_rfl
theorem gf173 :yB Tryz.prog 173=true:=by kernel_rfl
theorem P5 :yB Tryz.prog 174=true:=by kernel_rfl
theorem gf175 :yB Tryz.prog 175=true:=by kernel_rfl
theorem P4 :yB Tryz.prog 176=true:=by kernel_rfl
theorem JK :yB Tryz.prog 177=true:=by kernel_rfl
theorem P3 :yB Tryz.prog 178=true:=by kernel_rfl
theorem gf179 :yB Tryz.prog 179=true:=by kernel_rfl
theorem gf180 :yB Tryz.prog 180=true:=by kernel_rfl
theorem P2 :yB Tryz.prog 181=true:=by kernel_rfl
theorem gf182 :yB Tryz.prog 182=true:=by kernel_rfl
theorem gf183 :yB Tryz.prog 183=true:=by kernel_rfl
theorem gf184 :yB Tryz.prog 184=true:=by kernel_rfl
theorem gf185 :yB Tryz.prog 185=true:=by kernel_rfl
theorem gf186 :yB Tryz.prog 186=true:=by kernel_rfl
theorem gf189 :yB Tryz.prog 189=true:=by kernel_rfl
theorem gf190 :yB Tryz.prog 190=true:=by kernel_rfl
theorem gf194 :yB Tryz.prog 194=true:=by kernel_rfl
theorem gf195 :yB Tryz.prog 195=true:=by kernel_rfl
theorem gf196 :yB Tryz.prog 196=true:=by kernel_rfl
theorem gf197 :yB Tryz.prog 197=true:=by kernel_rfl
theorem P1 :yB Tryz.prog 198=true:=by kernel_rfl
theorem VO :yB Tryz.prog 199=true:=by kernel_rfl
theorem gf200 :yB Tryz.prog 200=true:=by kernel_rfl
theorem gf203 :yB Tryz.prog 203=true:=by kernel_rfl
theorem JJ :yB Tryz.prog 204=true:=by kernel_rfl
theorem gf205 :yB Tryz.prog 205=true:=by kernel_rfl
theorem VN :yB Tryz.prog 206=true:=by kernel_rfl
theorem gf207 :yB Tryz.prog 207=true:=by kernel_rfl
theorem gf208 :yB Tryz.prog 208=true:=by kernel_rfl
theorem gf209 :yB Tryz.prog 209=true:=by kernel_rfl
theorem gf213 :yB Tryz.prog 213=true:=by kernel_rfl
theorem PZ :yB Tryz.prog 214=true:=by kernel_rfl
theorem yF :Tryz.prog.follows .mixedOrders=true:=by kernel_rfl
end Go.Proofs.YtjoeklkmnfaabaaGreat
namespace Go.Proofs.YtjoeklkmnfaabaaGreat
open Go Go.RowKit
set_option linter.unusedVariables false
set_option linter.unusedSimpArgs false
section
def u8s (l:List UInt8):List Value:=l.map fun c=> .int .u8 (c.toNat:Int)
variable {i v c:Nat} {k:IntKind} {b:List UInt8} {most:Int}
theorem zZ (l:List UInt8):(u8s l).length=l.length:=by simp[u8s]
theorem yV (l:List UInt8):(u8s l).length=l.length*1:=by simp[u8s]
theorem vE (a b:List UInt8):u8s (a++b)=u8s a++u8s b:=by simp[u8s]
theorem dP (c:UInt8):u8s [c]=[.int .u8 (c.toNat:Int)]:=rfl
theorem uM (l:List UInt8):(u8s l).all (·.oneCell')=true:=by simp[u8s,Value.oneCell']
theorem kP {l:List UInt8} (h:i < l.length):(u8s l)[i]? =some (.int .u8 (l[i].toNat:Int)):=by simp[u8s,h]
def enc (v:Nat):List UInt8:=if v < 128 then[UInt8.ofNat v] else UInt8.ofNat (v % 128+128)::enc (v / 128)
termination_by v
decreasing_by omega
theorem enc_lt (h:v < 128):enc v=[UInt8.ofNat v]:=by rw[enc,if_pos h]
theorem aJ (h:128≤v):enc v=UInt8.ofNat (v % 128+128)::enc (v / 128):=by rw[enc,if_neg (by omega)]
theorem UO (k:Nat):∀ v,v < 128^(k+1)→(enc v).length≤k+1:=by
 induction k with
 | zero=>intro v h;rw[enc_lt (by simpa using h)];simp
 | succ k ih=>
  intro v h
  by_cases hv:v < 128
  · rw[enc_lt hv];simp
  rw[aJ (by omega),Bg]
  have:=ih (v / 128) (by rw[Nat.div_lt_iff_lt_mul (by omega)];rw[Nat.pow_succ]at h;exact h)
  omega
theorem uW (h:v < 2^64):(enc v).length≤10:=UO 9 v (Nat.lt_of_lt_of_le h (by decide))
theorem JY (v:Nat):0 < (enc v).length:=by
 by_cases h:v < 128
 · rw[enc_lt h];simp
 rw[aJ (by omega)];simp
theorem u8n {n:Nat} (h:n < 256):(UInt8.ofNat n).toNat=n:=UInt8.toNat_ofNat_of_lt' h
theorem u8w (v:Nat):IntKind.u8.wrap (v:Int)=((v % 256:Nat):Int):=by rw[IntKind.wrap_u8];omega
theorem u64w (v:Nat):IntKind.u64.wrap (v:Int)=((v % 2^64:Nat):Int):=by rw[IntKind.wrap_u64];omega
theorem qZ (v k b:Nat):((v:Int)).fdiv (2^(min ((k:Int)).toNat b))=((v / 2^(min k b):Nat):Int):=by
 rw[Int.toNat_natCast]
 have h:(2:Int)^(min k b)=((2^(min k b):Nat):Int):=by simp
 rw[h]
 exact(Int.ofNat_fdiv v _).symm
theorem shr7 (v:Nat):((v:Int)).fdiv (2^(min (7:Int).toNat IntKind.u64.bits))=((v / 128:Nat):Int):=qZ v 7 64
theorem rE (k:IntKind) (a:Nat) (ha:a < 2^k.bits):(BitVec.ofInt k.bits (a:Int)).toNat=a:=by
 rw[BitVec.ofInt_natCast,BitVec.toNat_ofNat];exact Ig ha
theorem M3 (hk:k.signed=false) (n:Nat) (h:n < 2^k.bits):k.wrap (n:Int)=n:=by
 simp only[IntKind.wrap,hk]
 have:((2:Int)^k.bits)=((2^k.bits:Nat):Int):=by simp
 simp only[Bool.false_and,Bool.false_eq_true,if_false,this]
 rw[← Int.natCast_emod,Ig h]
theorem cE (hk:k.signed=false) (a b:Nat) (ha:a < 2^k.bits) (hb:b < 2^k.bits):bits .or k (a:Int) (b:Int)=((a ||| b:Nat):Int):=by
 simp only[bits,BitVec.toNat_or,rE k a ha,rE k b hb]
 exact M3 hk _ (Nat.or_lt_two_pow ha hb)
theorem F4 (hk:k.signed=false) (a b:Nat) (ha:a < 2^k.bits) (hb:b < 2^k.bits):bits .and k (a:Int) (b:Int)=((a &&& b:Nat):Int):=by
 simp only[bits,BitVec.toNat_and,rE k a ha,rE k b hb]
 exact M3 hk _ (Nat.and_lt_two_pow _ hb)
theorem or128 (v:Nat):bits .or .u8 ((v % 256:Nat):Int) 128=((v % 128+128:Nat):Int):=by
 have h:=cE (k:=.u8) rfl (v % 256) 128 (by show _ < 256;omega) (by decide)
 rw[show(128:Int)=((128:Nat):Int) from rfl,h]
 congr 1
 have e:v % 256 ||| 128=(v % 128) ||| 128:=by
  apply Nat.eq_of_testBit_eq
  intro i
  rw[Nat.testBit_or,Nat.testBit_or,show(256:Nat)=2^8 from rfl,show(128:Nat)=2^7 from rfl,Nat.testBit_mod_two_pow,Nat.testBit_mod_two_pow,Nat.testBit_two_pow]
  by_cases h7:i=7
  · subst h7;simp
  by_cases h:i < 7
  · simp[h,show i < 8 by omega]
  simp[h,show ¬i < 8 by omega]
 rw[e,show(128:Nat)=2^7 from rfl,Nat.or_comm]
 have:=Nat.two_pow_add_eq_or_of_lt (i:=7) (b:=v % 2^7) (Gv _ (by decide)) 1
 simp only[Bz]at this
 rw[← this,Kq]
theorem RM (c:Nat) (h:c < 256):bits .and .u8 (c:Int) 127=((c % 128:Nat):Int):=by
 have h1:=F4 (k:=.u8) rfl c 127 h (by decide)
 rw[show(127:Int)=((127:Nat):Int) from rfl,h1]
 congr 1
 rw[show(127:Nat)=2^7 - 1 from rfl,Nat.and_two_pow_sub_one_eq_mod]
theorem and1 (v:Nat) (h:v < 2^64):bits .and .u64 (v:Int) 1=((v % 2:Nat):Int):=by
 have h1:=F4 (k:=.u64) rfl v 1 h (by decide)
 rw[show(1:Int)=((1:Nat):Int) from rfl,h1]
 congr 1
 rw[show(1:Nat)=2^1 - 1 from rfl,Nat.and_two_pow_sub_one_eq_mod]
theorem A4 {a b:Nat} (h:a≤b):2^a≤2^b:=Nat.pow_le_pow_right (by omega) h
theorem bI (hi:i≤9) (hc:c < 128) (h9:i=9→c≤1):c*2^(7*i)+2^(7*i)≤2^64:=by
 rcases Jg i 9 with h | h
 · have h1:(c+1)*2^(7*i)≤128*2^(7*i):=Dp _ (by omega)
   have h2:128*2^(7*i)=2^(7*i+7):=by rw[Nat.pow_add];omega
   have h3:2^(7*i+7)≤2^64:=A4 (by omega)
   rw[Du]at h1
   omega
 have h9':i=9:=by omega
 subst h9'
 have:=h9 rfl
 have h1:(c+1)*2^63≤2*2^63:=Dp _ (by omega)
 omega
theorem shl7 (hi:i≤9) (hc:c < 128) (h9:i=9→c≤1):IntKind.u64.wrap ((c:Int)*2^(min (7*(i:Int)).toNat IntKind.u64.bits))=((c*2^(7*i):Nat):Int):=by
 have e:min (7*(i:Int)).toNat IntKind.u64.bits=7*i:=by
  show min (7*(i:Int)).toNat 64=7*i
  omega
 rw[e]
 have e2:(c:Int)*2^(7*i)=((c*2^(7*i):Nat):Int):=by simp
 rw[e2,u64w,Ig]
 have:=bI hi hc h9
 have:=Nat.two_pow_pos (7*i)
 omega
theorem EO (hi:i≤9) (hc:c < 128) (h9:i=9→c≤1) (hv:v < 2^(7*i)):bits .or .u64 (v:Int) ((c*2^(7*i):Nat):Int)=((v+c*2^(7*i):Nat):Int):=by
 have hp:=bI hi hc h9
 have h0:=Nat.two_pow_pos (7*i)
 have h64:2^(7*i)≤2^64:=A4 (by omega)
 rw[cE (k:=.u64) rfl _ _ (by show _ < 2^64;omega) (by show _ < 2^64;omega)]
 congr 1
 rw[Nat.mul_comm c,Nat.or_comm,← Nat.two_pow_add_eq_or_of_lt hv,Kq]
theorem bH (hc:c < 128) (hv:v < 2^(7*i)):v+c*2^(7*i) < 2^(7*(i+1)):=by
 have e:2^(7*(i+1))=128*2^(7*i):=by rw[Nat.mul_add,Nat.pow_add];omega
 have h3:(c+1)*2^(7*i)≤128*2^(7*i):=Dp _ (by omega)
 rw[Du]at h3
 omega
def sQ :List UInt8→Nat→Nat→Nat×Nat×Nat
 | [],_,_=>(0,0,20)
 | c::l,i,v=>
  if i=9∧1 < c.toNat then(0,0,21)
  else if 128≤c.toNat then sQ l (i+1) (v+c.toNat % 128*2^(7*i))
  else if c.toNat=0∧0 < i then(0,0,21)
  else(v+c.toNat % 128*2^(7*i),i+1,0)
def xL (b:List UInt8):Nat×Nat×Nat:=sQ b 0 0
theorem ET (b:List UInt8):xL b=sQ b 0 0:=rfl
theorem EU :∀ (l:List UInt8) (i v:Nat),i≤9→v < 2^(7*i)→(sQ l i v).1 < 2^64∧(sQ l i v).2.1≤i+l.length∧(sQ l i v).2.1≤10∧((sQ l i v).2.2=0∨(sQ l i v).2.2=20∨(sQ l i v).2.2=21)∧((sQ l i v).2.2≠0→(sQ l i v).1=0∧(sQ l i v).2.1=0)∧((sQ l i v).2.2=0→i < (sQ l i v).2.1)
 | [],i,v,_,_=>by simp[sQ]
 | c::l,i,v,hi,hv=>by
  unfold sQ
  split
  · simp
  rename_i h1
  have hp:=bI (c:=c.toNat % 128) hi (by omega) (by intro h9;omega)
  split
  · rename_i h2
    have h9:i≠9:=by rintro rfl;exact h1 ⟨rfl,by omega⟩
    have hv':v+c.toNat % 128*2^(7*i) < 2^(7*(i+1)):=by
     have e:2^(7*(i+1))=128*2^(7*i):=by rw[Nat.mul_add,Nat.pow_add];omega
     have h3:(c.toNat % 128+1)*2^(7*i)≤128*2^(7*i):=Dp _ (by omega)
     rw[Du]at h3
     omega
    have ih:=EU l (i+1) _ (by omega) hv'
    simp only[Bg]
    refine⟨ih.1,by omega,ih.2.2.1,ih.2.2.2.1,ih.2.2.2.2.1,fun h=>by have:=ih.2.2.2.2.2 h;omega⟩
  split
  · simp
  simp only[Bg]
  refine⟨by omega,by omega,by omega,by simp,by simp,by omega⟩
theorem pP (b:List UInt8):(xL b).1 < 2^64∧(xL b).2.1≤b.length∧(xL b).2.1≤10∧((xL b).2.2=0∨(xL b).2.2=20∨(xL b).2.2=21)∧((xL b).2.2≠0→(xL b).1=0∧(xL b).2.1=0)∧((xL b).2.2=0→0 < (xL b).2.1):=by
 have:=EU b 0 0 (by omega) (by decide)
 simpa[xL]using this
def zig (n:Int):Nat:=if n < 0 then(-2*n - 1).toNat else(2*n).toNat
def uC (n:Int):List UInt8:=enc (zig n)
def xW (b:List UInt8):List UInt8:=enc b.length++b
def Own (w0 w':World) (r:Value) (l:List UInt8):Prop:=
 ∃ g cap sp,r=.slice (hd g) l.length cap∧l.length≤cap∧cap*1≤(u8s l++sp).length∧(g=none→cap=0)∧Hp w0 w' [] [(g,5,u8s l++sp)]
def yA (b:List UInt8) (most:Int):Nat×Nat×Nat:=
 if(xL b).2.2≠0 then(0,0,(xL b).2.2) else if max most 0 < (xL b).1 then(0,0,22) else((xL b).1,(xL b).2.1,0)
theorem MJ (n:Int) (h0:-9223372036854775808≤n) (h:n < 0):bits .xor .i64 (-1) n=-n - 1:=by
 have e:n=-((((-n - 1).toNat:Nat):Int)+1):=by omega
 generalize hm:(-n - 1).toNat=m at e
 have hm2:m < 2^63:=by omega
 subst e
 simp only[bits]
 have e1:BitVec.ofInt 64 (-((m:Int)+1))= ~~~ (BitVec.ofNat 64 m):=by
  apply BitVec.eq_of_toNat_eq
  rw[BitVec.toNat_ofInt,BitVec.toNat_not,BitVec.toNat_ofNat,Ig (by omega)]
  omega
 have e2:BitVec.ofInt 64 (-1)=BitVec.allOnes 64:=by decide
 show IntKind.i64.wrap ((BitVec.ofInt 64 (-1)^^^BitVec.ofInt 64 (-((m:Int)+1))).toNat:Int)=_
 rw[e1,e2,BitVec.allOnes_xor,BitVec.not_not,BitVec.toNat_ofNat,Ig (by omega),IntKind.wrap_i64]
 omega
theorem shl1 (n:Nat) (h:n < 2^63):IntKind.u64.wrap ((n:Int)*2^(min (1:Int).toNat IntKind.u64.bits))=((2*n:Nat):Int):=by
 have e:min (1:Int).toNat IntKind.u64.bits=1:=rfl
 rw[e,show((n:Int)*2^1)=((2*n:Nat):Int) by omega,u64w,Ig (by omega)]
theorem or1 (n:Nat) (h:n < 2^63):bits .or .u64 ((2*n:Nat):Int) 1=((2*n+1:Nat):Int):=by
 rw[show(1:Int)=((1:Nat):Int) from rfl,cE (k:=.u64) rfl _ _ (by show _ < 2^64;omega) (by decide)]
 congr 1
 have:=Nat.two_pow_add_eq_or_of_lt (i:=1) (b:=1) (by decide) n
 rw[this]
theorem kH (h:(xL b).2.2≠0):yA b most=(0,0,(xL b).2.2):=by unfold yA;rw[if_pos h]
theorem kG (h:(xL b).2.2=0) (h2:max most 0 < (xL b).1):yA b most=(0,0,22):=by unfold yA;rw[if_neg (by omega),if_pos h2]
theorem oK (h:(xL b).2.2=0) (h2:¬max most 0 < (xL b).1):yA b most=((xL b).1,(xL b).2.1,0):=by unfold yA;rw[if_neg (by omega),if_neg h2]
theorem rH (n:Int):uC n=enc (zig n):=rfl
theorem rB (b:List UInt8):xW b=enc b.length++b:=rfl
theorem yW {P:Program} {ds:List Deferred} {Q:vQ} {K:List Value→World→Prop} {all os:List Oper} {l:List Value} {w:World} {op:Op} {ty:TypeId} {pos:String} {af:Array Edge} {d:Tmp}
 {f:FuncId} {args:Array Value} {bs:List UInt8} (hx:Ex P l op ty w (.enter f args) w) (hc:zO P f args w fun r w'=>Own w w' r bs)
 (h:∀ w' g cap sp,bs.length≤cap→cap*1≤(u8s bs++sp).length→(g=none→cap=0)→Hp w w' [] [(g,5,u8s bs++sp)]→Ops P ds all K Q os (l.set d (.slice (hd g) bs.length cap)) w'):
 Ops P ds all K Q (⟨some d,op,ty,pos,af,none⟩::os) l w:=
 tF hx hc fun r w' ⟨g,cap,sp,h1,h2,h3,h4,h5⟩=>by rw[h1];exact h w' g cap sp h2 h3 h4 h5
attribute [irreducible] xL yA uC xW zig
end
end Go.Proofs.YtjoeklkmnfaabaaGreat
namespace Go.Proofs.YtjoeklkmnfaabaaGreat
open Go Go.RowKit
set_option linter.unusedVariables false
set_option linter.unusedSimpArgs false
attribute [local irreducible] yT Ops zO Cd
set_option maxRecDepth 100000 in
set_option maxHeartbeats 4000000 in
theorem CH (v:Nat) (w0:World) (hv:v < 2^64):
 Aj 181 #[.int .u64 v] w0 (fun r w'=>Own w0 w' r (enc v)):=by
 refine zE Tryz.func181 Tryz.ntmps181 Y ?_
 refine CI ?_
 have H:=Hp.refl w0
 refine zN ?_
 refine zI ?_
 refine zB (zP Y) ?_
 refine yD ?_
 refine CI ?_
 refine zN ?_
 refine zI ?_
 refine zB (zP Y) ?_
 refine yD ?_
 refine CI ?_
 refine zN ?_
 refine wF ?_
 refine zU (fun nQ lQ w=>∃ (v1:Nat) (pre:List UInt8) (x:Int) (g:Option Nat) (m cap:Nat) (xs sp:List Value),v1=nQ∧xO [some (.int .u64 x),none,some (Dj),some (Ac (hd g) m cap),none,none,none,none,none,none,none,none,none,none,none,none,none,none,none] lQ∧x=v1∧v1≤v∧m=pre.length∧xs=u8s pre∧enc v=pre++enc v1∧m≤cap∧cap*1≤(xs++sp).length∧(g=none→cap=0)∧Hp w0 w [] [(g,5,xs++sp)]) (v) ?_ ?_
 · exact⟨v,[],_,none,0,0,[],[],Y,(fs (fn (fs (fs (fn (fn (fn (fn (fn (fn (fn (fn (fn (fn (fn (fn (fn (fn (fn f0))))))))))))))))))),Y,Ai _,Y,Y,Y,Ai _,by simp,fun _=>Y,H.nil 5⟩
 rintro nQ lQ w1 ⟨v1,pre,x,g,m,cap,xs,sp,rfl,hfit,rfl,hle,rfl,rfl,henc,hmc,hcap,hg0,H1⟩
 obtain⟨j,rfl⟩:=hfit.open
 refine CI ?_
 clear hfit
 have hl10:=uW hv
 have hlp:pre.length+(enc v1).length=(enc v).length:=by rw[henc];simp
 have hpos:=JY v1
 refine zN ?_
 refine zN ?_
 refine zI ?_
 refine zB (zK Y) ?_
 refine vP (wC Y Y) (fun hp5=>?_) (fun hp5=>?_)
 · skip
   refine yD ?_
   refine CI ?_
   refine yL Y ?_
   refine xI ?_
   refine wF ?_
   refine zN ?_
   refine zI ?_
   refine zB (zK Y) ?_
   refine zB (zK Y) ?_
   refine zB (xJ Tryz.underlying5 Lp Y (u8w v1)) ?_
   refine zB (dG Y Y (or128 v1)) ?_
   refine nO19 ?_
   refine zJ Hf ty5 H1 Y (by decide) Y ?_
   intro w2 g2 H2 hg2
   refine yX Hf ty5 (by decide) H2 0 Y Y (yV pre) hcap hmc hg0 Y (H2.rd (i:=1) (o:=some g2) (xs:=[Value.int .u8 ((v1 % 128+128:Nat):Int)]) (sp:=[]) Y Y (by decide)) Y (by omega) (by omega) (by decide) ?_
   intro w3 g3 cap3 sp3 H3 hcap3 hmc3 hg3
   refine zB (zP Y) ?_
   refine yD ?_
   refine CI ?_
   refine zI ?_
   refine zB (zK Y) ?_
   refine zB (oW Y Y (by omega) (shr7 v1)) ?_
   refine zB (zP Y) ?_
   refine yD ?_
   refine CI ?_
   refine zA (zD ?_)
   refine zA (zH ?_)
   exact⟨v1 / 128,by omega,v1 / 128,pre++[UInt8.ofNat (v1 % 128+128)],_,g3,_,cap3,u8s pre++[Value.int .u8 ((v1 % 128+128:Nat):Int)],sp3,Y,(fs (fn (fs (fs (fn (fn (fn (fn (fn (fn (fn (fn (fn (fn (fn (fn (fn (fn (fn f0))))))))))))))))))),Y,by omega,by simp,by rw[vE,dP,u8n (by omega)],by rw[henc,aJ (by omega)];simp,hmc3,hcap3,hg3,H3.pick [0] (by decide)⟩
 refine yD ?_
 refine CI ?_
 refine zX Y ?_
 refine tE ?_
 refine zT ?_
 refine zS ?_
 refine zN ?_
 refine zI ?_
 refine zB (zK Y) ?_
 refine zB (zK Y) ?_
 refine zB (xJ Tryz.underlying5 Lp Y (u8w v1)) ?_
 refine zJ Hf ty5 H1 Y (by decide) Y ?_
 intro w2 g2 H2 hg2
 refine nO19 ?_
 refine yX Hf ty5 (by decide) H2 0 Y Y (yV pre) hcap hmc hg0 Y (H2.rd (i:=1) (o:=some g2) (xs:=[Value.int .u8 ((v1 % 256:Nat):Int)]) (sp:=[]) Y Y (by decide)) Y (by omega) (by omega) (by decide) ?_
 intro w3 g3 cap3 sp3 H3 hcap3 hmc3 hg3
 refine zB (zP Y) ?_
 refine yD ?_
 refine CI ?_
 refine wD ?_
 refine tH Y Y ?_
 have e1:enc v=pre++[UInt8.ofNat v1]:=by rw[henc,enc_lt (by omega)]
 have e2:u8s (enc v)=u8s pre++[.int .u8 ((v1 % 256:Nat):Int)]:=by rw[e1,vE,dP,u8n (by omega),Ig (by omega)]
 have e3:(enc v).length=pre.length+1:=by rw[e1];simp
 unfold Own
 rw[e2,e3]
 exact⟨g3,cap3,sp3,Y,hmc3,hcap3,hg3,H3.pick [0] (by decide)⟩
set_option maxRecDepth 100000 in
set_option maxHeartbeats 4000000 in
theorem T6 (n:Int) (w0:World) (hlo:-9223372036854775808≤n) (hhi:n≤9223372036854775807):
 Aj 148 #[Aa n] w0 (fun r w'=>Own w0 w' r (uC n)):=by
 refine zE Tryz.func148 Tryz.ntmps148 Y ?_
 refine LR ?_
 have H:=Hp.refl w0
 refine zN ?_
 refine zI ?_
 refine zB (zP Y) ?_
 refine yD ?_
 refine LR ?_
 refine zN ?_
 refine zN ?_
 refine zI ?_
 refine zB (zK Y) ?_
 refine vP (zR Y Y) (fun hp4=>?_) (fun hp4=>?_)
 · skip
   refine yD ?_
   refine LR ?_
   refine yL Y ?_
   refine zN ?_
   refine zI ?_
   refine zB (zK Y) ?_
   refine zB (FK Y ((MJ n hlo hp4).trans (show -n - 1=(((-n - 1).toNat:Nat):Int) by omega))) ?_
   refine zB (xJ Lp Tryz.underlying3 Y (Et _ (by omega))) ?_
   refine zB (kE Y Y (by omega) (shl1 _ (by omega))) ?_
   refine nO15 ?_
   refine zB (dG Y Y (or1 _ (by omega))) ?_
   refine yW (mS P2 Y) (CH (2*(-n - 1).toNat+1) _ (by omega)) ?_
   intro w1 g1 c1 sp1 hm1 hc1 hg1 H1
   refine zB (zP Y) ?_
   refine yD ?_
   refine LR ?_
   refine wD ?_
   refine tH Y Y ?_
   have e:uC n=enc (2*(-n - 1).toNat+1):=by rw[rH];unfold zig;rw[if_pos hp4];congr 1;omega
   rw[e]
   exact⟨g1,c1,sp1,Y,hm1,hc1,hg1,H1⟩
 obtain⟨m,rfl⟩:=Kr (show 0≤n by omega)
 refine yD ?_
 refine LR ?_
 refine zX Y ?_
 refine xI ?_
 refine zN ?_
 refine zI ?_
 refine zB (zK Y) ?_
 refine zB (xJ Lp Tryz.underlying3 Y (Et _ (by omega))) ?_
 refine zB (kE Y Y (by omega) (shl1 _ (by omega))) ?_
 refine yW (mS P2 Y) (CH (2*m) _ (by omega)) ?_
 intro w1 g1 c1 sp1 hm1 hc1 hg1 H1
 refine nO15 ?_
 refine zB (zP Y) ?_
 refine yD ?_
 refine LR ?_
 refine wD ?_
 refine tH Y Y ?_
 have e:uC (m:Int)=enc (2*m):=by rw[rH];unfold zig;rw[if_neg (by omega)];congr 1
 rw[e]
 exact⟨g1,c1,sp1,Y,hm1,hc1,hg1,H1⟩
set_option maxRecDepth 100000 in
set_option maxHeartbeats 4000000 in
theorem vM (A:Option Addr) (b:List UInt8) (c:Nat) (w0:World) (hr:Rd w0 A b.length 1 (u8s b)) (hb:b.length≤211106232532992):
 Aj 62 #[Ac A b.length c] w0 (fun r w'=>Own w0 w' r (b)):=by
 refine zE Tryz.func62 Tryz.ntmps62 Y ?_
 change Run _ _ _ _ [Ac A b.length c,undef,undef,undef,undef,undef,undef,undef] _
 have H:=Hp.refl w0
 refine zN ?_
 refine zI ?_
 refine zB (zP Y) ?_
 refine yD ?_
 change Run _ _ _ _ [_,_,_,_,_,_,_,_] _
 refine zN ?_
 refine zN ?_
 refine zI ?_
 refine zB (zK Y) ?_
 refine vP (vA Hf Y) (fun hp4=>?_) (fun hp4=>?_)
 · skip
   refine yD ?_
   change Run _ _ _ _ [_,_,_,_,_,_,_,_] _
   refine yL Y ?_
   refine zN ?_
   refine zI ?_
   refine zB (zP Y) ?_
   refine yD ?_
   change Run _ _ _ _ [_,_,_,_,_,_,_,_] _
   refine wD ?_
   refine tH Y Y ?_
   have hb:b=[]:=Ec (hr.nil hp4)
   subst hb
   exact⟨none,0,[],Y,Ai _,by simp,fun _=>Y,by have:=H.nil 5;exact this⟩
 refine yD ?_
 change Run _ _ _ _ [_,_,_,_,_,_,_,_] _
 refine zX Y ?_
 refine xI ?_
 refine zN ?_
 refine zI ?_
 refine zJ Hf ty5 H Y (by decide) Y ?_
 intro w1 g1 H1 hg1
 refine zB (zK Y) ?_
 refine yX Hf ty5 (by decide) H1 0 (g:=some g1) (xs:=[]) (sp:=[]) Y Y Y (by decide) (by decide) (by simp) Y (hr.to0 H1) (uM b) (by omega) (by omega) (by decide) ?_
 intro w2 g3 cap3 sp3 H2 hcap3 hmc3 hg3
 refine zB (zP Y) ?_
 refine yD ?_
 change Run _ _ _ _ [_,_,_,_,_,_,_,_] _
 refine wD ?_
 refine tH Y Y ?_
 rw[Au]at hmc3
 refine⟨g3,cap3,sp3,?_,hmc3,hcap3,hg3,H2.pick [0] (by decide)⟩
 rw[Au]
set_option maxRecDepth 100000 in
set_option maxHeartbeats 4000000 in
theorem NK (A:Option Addr) (b:List UInt8) (c:Nat) (w0:World) (hr:Rd w0 A b.length 1 (u8s b)) (hb:b.length≤211106232532900):
 Aj 184 #[Ac A b.length c] w0 (fun r w'=>Own w0 w' r (xW b)):=by
 have hl10:=uW (v:=b.length) (by omega)
 refine zE Tryz.func184 Tryz.ntmps184 Y ?_
 change Run _ _ _ _ [Ac A b.length c,undef,undef,undef,undef,undef,undef,undef,undef] _
 have H:=Hp.refl w0
 refine zN ?_
 refine zI ?_
 refine zB (zP Y) ?_
 refine yD ?_
 change Run _ _ _ _ [_,_,_,_,_,_,_,_,_] _
 refine zN ?_
 refine zI ?_
 refine zB (zK Y) ?_
 refine zB (tB Hf Y) ?_
 refine zB (xJ Lp Tryz.underlying3 Y ((Et _ (by omega)))) ?_
 refine yW (mS P2 Y) (CH b.length _ (by omega)) ?_
 intro w1 g1 c1 sp1 hm1 hc1 hg1 H1
 change Ops _ _ _ _ _ _ [_,_,_,_,_,_,_,_,_] _
 refine zB (zK Y) ?_
 refine yX Hf ty5 (by decide) H1 0 Y Y (yV _) hc1 hm1 hg1 Y (hr.to0 H1) (uM b) (by omega) (by omega) (by decide) ?_
 intro w2 g3 cap3 sp3 H2 hcap3 hmc3 hg3
 refine zB (zP Y) ?_
 refine yD ?_
 change Run _ _ _ _ [_,_,_,_,_,_,_,_,_] _
 refine wD ?_
 refine tH Y Y ?_
 unfold Own
 rw[rB,vE,Af]
 exact⟨g3,cap3,sp3,Y,hmc3,hcap3,hg3,H2⟩
set_option maxRecDepth 100000 in
set_option maxHeartbeats 4000000 in
theorem LH (A B:Option Addr) (a b:List UInt8) (c d:Nat) (w0:World) (hra:Rd w0 A a.length 1 (u8s a)) (hrb:Rd w0 B b.length 1 (u8s b)) (ha:a.length≤211106232532992) (hb:b.length≤211106232532992):
 Aj 128 #[Ac A a.length c,Ac B b.length d] w0 (fun r w'=>r=.bool (decide (a=b))∧Hp w0 w' [] []):=by
 refine zE Tryz.func128 Tryz.ntmps128 Y ?_
 refine gL ?_
 have H:=Hp.refl w0
 refine zN ?_
 refine zI ?_
 refine zB (zP Y) ?_
 refine yD ?_
 refine gL ?_
 refine zN ?_
 refine zN ?_
 refine zI ?_
 refine zB (zK Y) ?_
 refine zB (tB Hf Y) ?_
 refine zB (zK Y) ?_
 refine zB (tB Hf Y) ?_
 refine nO26 ?_
 refine vP (yR Y Y) (fun hp10=>?_) (fun hp10=>?_)
 · skip
   refine yD ?_
   refine gL ?_
   refine yL Y ?_
   refine zN ?_
   refine zI ?_
   refine zB (zP Y) ?_
   refine yD ?_
   refine gL ?_
   refine wD ?_
   refine tH Y Y ?_
   exact⟨by rw[decide_eq_false (by rintro rfl;omega)],H⟩
 have hlen:a.length=b.length:=by omega
 refine yD ?_
 refine gL ?_
 refine zX Y ?_
 refine xI ?_
 refine zN ?_
 refine zN ?_
 refine zI ?_
 refine zB (zP Y) ?_
 refine yD ?_
 refine gL ?_
 refine wF ?_
 refine zU (fun nQ lQ w=>∃ (i:Nat) (y:Int),a.length - i=nQ∧xO [some (Ac A a.length c),some (Ac B b.length d),none,none,none,some (Aa y),some (Ac A a.length c),some (Aa a.length),some (Ac B b.length d),some (Aa b.length),some (.bool false),none,none,none,none,none,none,none,none,none,none,none,none,none,none,none] lQ∧y=i∧i≤a.length∧a.take i=b.take i∧Hp w0 w [] []) (a.length) ?_ ?_
 · exact⟨0,_,Y,(fs (fs (fn (fn (fn (fs (fs (fs (fs (fs (fs (fn (fn (fn (fn (fn (fn (fn (fn (fn (fn (fn (fn (fn (fn (fn f0)))))))))))))))))))))))))),Y,Am _,Y,H⟩
 rintro nQ lQ w1 ⟨i,y,rfl,hfit,rfl,hi,hpre,H1⟩
 obtain⟨j,rfl⟩:=hfit.open
 refine gL ?_
 clear hfit
 refine zN ?_
 refine zN ?_
 refine zI ?_
 refine zB (zK Y) ?_
 refine zB (zK Y) ?_
 refine zB (tB Hf Y) ?_
 refine vP (zR Y Y) (fun hp14=>?_) (fun hp14=>?_)
 · obtain⟨x,rfl⟩:=hra.some_ (by omega)
   obtain⟨z,rfl⟩:=hrb.some_ (by omega)
   have hia:i < a.length:=by omega
   have hib:i < b.length:=by omega
   refine yD ?_
   refine gL ?_
   refine yL Y ?_
   refine xI ?_
   refine zN ?_
   refine wF ?_
   refine zN ?_
   refine uU yF (by kernel_rfl) ?_
   rintro w2 hw2
   have H2:=Hp.drew H1;rw[← hw2]at H2
   refine uJ (zK Y) ?_
   refine uJ (zK Y) ?_
   refine uJ (eR Hf ty5 Y Y Y hia (Bz _)) ?_
   refine uJ (gZ ty5 Y ((hra.to0 H2).cells x Y i _ (kP hia))) ?_
   refine nS26 ?_
   refine uJ (zK Y) ?_
   refine uJ (zK Y) ?_
   refine uJ (eR Hf ty5 Y Y Y hib (Bz _)) ?_
   refine uJ (gZ ty5 Y ((hrb.to0 H2).cells z Y i _ (kP hib))) ?_
   refine nS26 ?_
   refine vG (yR Y Y) (fun hp25=>?_) (fun hp25=>?_)
   · skip
     refine xP ?_
     refine gL ?_
     refine yL Y ?_
     refine zN ?_
     refine zI ?_
     refine zB (zP Y) ?_
     refine yD ?_
     refine gL ?_
     refine wD ?_
     refine vJ ?_
     refine yN ?_
     refine vJ ?_
     refine tH Y Y ?_
     exact⟨by rw[decide_eq_false (by rintro rfl;omega)],H2⟩
   refine xP ?_
   refine gL ?_
   refine zX Y ?_
   refine xI ?_
   refine zA (zD ?_)
   refine zI ?_
   refine zB (zK Y) ?_
   refine zB (zL Y Y (Ad _ (by omega))) ?_
   refine zB (zP Y) ?_
   refine yD ?_
   refine gL ?_
   refine zA (zH ?_)
   exact⟨a.length - (i+1),by omega,i+1,_,Y,(fs (fs (fn (fn (fn (fs (fs (fs (fs (fs (fs (fn (fn (fn (fn (fn (fn (fn (fn (fn (fn (fn (fn (fn (fn (fn f0)))))))))))))))))))))))))),by omega,by omega,by rw[← List.take_append_getElem hia,← List.take_append_getElem hib,hpre,UInt8.toNat_inj.1 (show a[i].toNat=b[i].toNat by omega)],H2⟩
 refine yD ?_
 refine gL ?_
 refine zX Y ?_
 refine tE ?_
 refine zT ?_
 refine zS ?_
 refine zN ?_
 refine zI ?_
 refine zB (zP Y) ?_
 refine yD ?_
 refine gL ?_
 refine wD ?_
 refine tH Y Y ?_
 exact⟨by rw[decide_eq_true (by rw[← Ej (l:=a) (i:=i) (by omega),hpre,Ej (by omega)])],H1⟩
set_option maxRecDepth 100000 in
set_option maxHeartbeats 4000000 in
theorem nP (A B:Option Addr) (a b:List UInt8) (c d:Nat) (w0:World) (hra:Rd w0 A a.length 1 (u8s a)) (hrb:Rd w0 B b.length 1 (u8s b)) (ha:a.length≤211106232532992) (hb:b.length≤211106232532992):
 Aj 85 #[Ac A a.length c,Ac B b.length d] w0 (fun r w'=>r=.bool (decide (a=b))∧Hp w0 w' [] []):=by
 refine zE Tryz.func85 Tryz.ntmps85 Y ?_
 change Run _ _ _ _ [Ac A a.length c,Ac B b.length d,undef,undef,undef,undef,undef,undef] _
 have H:=Hp.refl w0
 refine zN ?_
 refine zI ?_
 refine zB (zP Y) ?_
 refine yD ?_
 change Run _ _ _ _ [_,_,_,_,_,_,_,_] _
 refine zN ?_
 refine zI ?_
 refine zB (zK Y) ?_
 refine zB (zK Y) ?_
 refine pC (mS gf128 Y) (LH A B a b c d _ (hra.to0 H) (hrb.to0 H) ha hb) ?_
 intro w1 Hc
 have H1:=H.call0 Hc
 refine zB (zP Y) ?_
 refine yD ?_
 change Run _ _ _ _ [_,_,_,_,_,_,_,_] _
 refine wD ?_
 refine tH Y Y ?_
 exact⟨Y,H1⟩
set_option maxRecDepth 100000 in
set_option maxHeartbeats 4000000 in
theorem bL (A:Option Addr) (b:List UInt8) (c:Nat) (w0:World) (hr:Rd w0 A b.length 1 (u8s b)) (hb:b.length≤211106232532992):
 Aj 206 #[Ac A b.length c] w0 (fun r w'=>r=.tuple #[.int .u64 (xL b).1,Aa (xL b).2.1,Aa (xL b).2.2]∧w'=w0):=by
 refine zE Tryz.func206 Tryz.ntmps206 Y ?_
 refine sU ?_
 have H:=Hp.refl w0
 refine zN ?_
 refine zI ?_
 refine zB (zP Y) ?_
 refine zB (zP Y) ?_
 refine zB (zP Y) ?_
 refine yD ?_
 refine sU ?_
 refine zN ?_
 refine zI ?_
 refine zB (zP Y) ?_
 refine yD ?_
 refine sU ?_
 refine zN ?_
 refine zN ?_
 refine zI ?_
 refine zB (zK Y) ?_
 refine zB (tB Hf Y) ?_
 refine zB (zK Y) ?_
 refine yD ?_
 refine sU ?_
 refine wF ?_
 refine zU (fun nQ lQ w=>∃ (i v:Nat) (x y:Int),b.length - i=nQ∧xO [some (Ac A b.length c),none,none,none,none,some (.int .u64 x),none,none,some (Ac A b.length c),some (Aa b.length),some (Aa y),none,none,none,none,none,none,none,none,none,none,none,none,none,none,none,none,none,none,none,none,none,none,none,none,none,none,none,none,none,none] lQ∧x=v∧y=i∧i≤b.length∧i≤9∧v < 2^(7*i)∧xL b=sQ (b.drop i) i v∧w=w0) (b.length) ?_ ?_
 · exact⟨0,0,_,_,Y,(fs (fn (fn (fn (fn (fs (fn (fn (fs (fs (fs (fn (fn (fn (fn (fn (fn (fn (fn (fn (fn (fn (fn (fn (fn (fn (fn (fn (fn (fn (fn (fn (fn (fn (fn (fn (fn (fn (fn (fn (fn f0))))))))))))))))))))))))))))))))))))))))),Y,Y,Am _,by omega,by decide,ET b,Y⟩
 rintro nQ lQ w1 ⟨i,v,x,y,rfl,hfit,rfl,rfl,hi,hi9,hv,hnum,rfl⟩
 obtain⟨j,rfl⟩:=hfit.open
 refine sU ?_
 clear hfit
 refine zN ?_
 refine zI ?_
 refine vP (zR Y Y) (fun hp11=>?_) (fun hp11=>?_)
 · obtain⟨a,rfl⟩:=hr.some_ (by omega)
   have hib:i < b.length:=by omega
   rw[Oh hib,sQ]at hnum
   have hc:=b[i].toNat_lt
   generalize hcb:b[i].toNat=cc at hc hnum
   refine yD ?_
   refine sU ?_
   refine zN ?_
   refine yL Y ?_
   refine xI ?_
   refine zN ?_
   refine wF ?_
   refine zN ?_
   refine zI ?_
   refine zB (zK Y) ?_
   refine zB (eR Hf ty5 Y Y Y hib (Bz _)) ?_
   refine zB (gZ ty5 Y (hr.cells a Y i (.int .u8 (cc:Int)) (by rw[← hcb];exact kP hib))) ?_
   refine zB (zP Y) ?_
   refine iL ?_
   refine zB (zP Y) ?_
   refine yD ?_
   refine sU ?_
   refine zN ?_
   refine zN ?_
   refine zI ?_
   refine zB (zK Y) ?_
   refine vP (yU Y Y) (fun hp16=>?_) (fun hp16=>?_)
   · have h9:i=9:=by omega
     refine zB (zK Y) ?_
     refine iL ?_
     refine sL Y ?_
     refine zB (zK Y) ?_
     refine sL Y ?_
     refine vP (yP Y Y) (fun hp19=>?_) (fun hp19=>?_)
     · rw[if_pos ⟨h9,by omega⟩]at hnum
       refine zB (xS Y Y) ?_
       refine yD ?_
       refine sU ?_
       refine yL Y ?_
       refine zN ?_
       refine zI ?_
       refine zB (zP Y) ?_
       refine zB (zP Y) ?_
       refine zB (zP Y) ?_
       refine yD ?_
       refine sU ?_
       refine wD ?_
       refine vJ ?_
       refine yN ?_
       refine vJ ?_
       refine sF Y Y Y Y ?_
       rw[hnum]
       exact⟨Y,Y⟩
     rw[if_neg (by omega)]at hnum
     refine zB (xS Y Y) ?_
     refine yD ?_
     refine sU ?_
     refine zX Y ?_
     refine xI ?_
     refine zN ?_
     refine zI ?_
     refine zB (zK Y) ?_
     refine zB (zK Y) ?_
     refine zB (HY Y Y (RM cc hc)) ?_
     refine zB (xJ Lp Tryz.underlying5 Y (Et _ (by omega))) ?_
     refine iL ?_
     refine zB (zK Y) ?_
     refine zB (aG Y Y (Ad _ (by omega))) ?_
     refine zB (kE Y Y (by omega) (shl7 (by omega) (by omega) (by omega))) ?_
     refine zB (dG Y Y (EO (by omega) (by omega) (by omega) hv)) ?_
     refine iL ?_
     refine zB (zP Y) ?_
     refine yD ?_
     refine sU ?_
     refine zN ?_
     refine zN ?_
     refine zI ?_
     refine zB (zK Y) ?_
     refine vP (wC Y Y) (fun hp30=>?_) (fun hp30=>?_)
     · rw[if_pos (by omega)]at hnum
       refine yD ?_
       refine sU ?_
       refine yL Y ?_
       refine tE ?_
       refine zS ?_
       refine zI ?_
       refine zB (zL Y Y (Ad _ (by omega))) ?_
       refine zB (zK Y) ?_
       refine yD ?_
       refine sU ?_
       refine zA (zH ?_)
       exact⟨b.length - (i+1),by omega,i+1,v+cc % 128*2^(7*i),_,_,Y,(fs (fn (fn (fn (fn (fs (fn (fn (fs (fs (fs (fn (fn (fn (fn (fn (fn (fn (fn (fn (fn (fn (fn (fn (fn (fn (fn (fn (fn (fn (fn (fn (fn (fn (fn (fn (fn (fn (fn (fn (fn f0))))))))))))))))))))))))))))))))))))))))),Y,by omega,by omega,by omega,bH (by omega) hv,hnum,Y⟩
     rw[if_neg (by omega)]at hnum
     refine yD ?_
     refine sU ?_
     refine zX Y ?_
     refine xI ?_
     refine zN ?_
     refine zN ?_
     refine zI ?_
     refine zB (zK Y) ?_
     refine vP (yU Y Y) (fun hp32=>?_) (fun hp32=>?_)
     · skip
       refine zB (zK Y) ?_
       refine iL ?_
       refine sL Y ?_
       refine zB (zK Y) ?_
       refine sL Y ?_
       refine vP (yP Y Y) (fun hp35=>?_) (fun hp35=>?_)
       · rw[if_pos ⟨by omega,by omega⟩]at hnum
         refine zB (xS Y Y) ?_
         refine yD ?_
         refine sU ?_
         refine yL Y ?_
         refine zN ?_
         refine zI ?_
         refine zB (zP Y) ?_
         refine zB (zP Y) ?_
         refine zB (zP Y) ?_
         refine yD ?_
         refine sU ?_
         refine wD ?_
         refine vJ ?_
         refine yN ?_
         refine vJ ?_
         refine sF Y Y Y Y ?_
         rw[hnum]
         exact⟨Y,Y⟩
       rw[if_neg (by omega)]at hnum
       refine zB (xS Y Y) ?_
       refine yD ?_
       refine sU ?_
       refine zX Y ?_
       refine xI ?_
       refine zN ?_
       refine zI ?_
       refine zB (zK Y) ?_
       refine zB (zK Y) ?_
       refine zB (zL Y Y (Ad _ (by omega))) ?_
       refine zB (zP Y) ?_
       refine iL ?_
       refine zB (zP Y) ?_
       refine zB (zP Y) ?_
       refine yD ?_
       refine sU ?_
       refine wD ?_
       refine vJ ?_
       refine yN ?_
       refine vJ ?_
       refine sF Y Y Y Y ?_
       rw[hnum]
       exact⟨Y,Y⟩
     rw[if_neg (by omega)]at hnum
     refine zB (zK Y) ?_
     refine iL ?_
     refine ops_no Y ?_
     refine ops_no Y ?_
     refine zB (vL Y Y) ?_
     refine yD ?_
     refine sU ?_
     refine zX Y ?_
     refine xI ?_
     refine zN ?_
     refine zI ?_
     refine zB (zK Y) ?_
     refine zB (zK Y) ?_
     refine zB (zL Y Y (Ad _ (by omega))) ?_
     refine zB (zP Y) ?_
     refine iL ?_
     refine zB (zP Y) ?_
     refine zB (zP Y) ?_
     refine yD ?_
     refine sU ?_
     refine wD ?_
     refine vJ ?_
     refine yN ?_
     refine vJ ?_
     refine sF Y Y Y Y ?_
     rw[hnum]
     exact⟨Y,Y⟩
   have h9:i≠9:=by omega
   rw[if_neg (by omega)]at hnum
   refine zB (zK Y) ?_
   refine iL ?_
   refine ops_no Y ?_
   refine ops_no Y ?_
   refine zB (vL Y Y) ?_
   refine yD ?_
   refine sU ?_
   refine zX Y ?_
   refine xI ?_
   refine zN ?_
   refine zI ?_
   refine zB (zK Y) ?_
   refine zB (zK Y) ?_
   refine zB (HY Y Y (RM cc hc)) ?_
   refine zB (xJ Lp Tryz.underlying5 Y (Et _ (by omega))) ?_
   refine iL ?_
   refine zB (zK Y) ?_
   refine zB (aG Y Y (Ad _ (by omega))) ?_
   refine zB (kE Y Y (by omega) (shl7 (by omega) (by omega) (by omega))) ?_
   refine zB (dG Y Y (EO (by omega) (by omega) (by omega) hv)) ?_
   refine iL ?_
   refine zB (zP Y) ?_
   refine yD ?_
   refine sU ?_
   refine zN ?_
   refine zN ?_
   refine zI ?_
   refine zB (zK Y) ?_
   refine vP (wC Y Y) (fun hp30=>?_) (fun hp30=>?_)
   · rw[if_pos (by omega)]at hnum
     refine yD ?_
     refine sU ?_
     refine yL Y ?_
     refine tE ?_
     refine zS ?_
     refine zI ?_
     refine zB (zL Y Y (Ad _ (by omega))) ?_
     refine zB (zK Y) ?_
     refine yD ?_
     refine sU ?_
     refine zA (zH ?_)
     exact⟨b.length - (i+1),by omega,i+1,v+cc % 128*2^(7*i),_,_,Y,(fs (fn (fn (fn (fn (fs (fn (fn (fs (fs (fs (fn (fn (fn (fn (fn (fn (fn (fn (fn (fn (fn (fn (fn (fn (fn (fn (fn (fn (fn (fn (fn (fn (fn (fn (fn (fn (fn (fn (fn (fn f0))))))))))))))))))))))))))))))))))))))))),Y,by omega,by omega,by omega,bH (by omega) hv,hnum,Y⟩
   rw[if_neg (by omega)]at hnum
   refine yD ?_
   refine sU ?_
   refine zX Y ?_
   refine xI ?_
   refine zN ?_
   refine zN ?_
   refine zI ?_
   refine zB (zK Y) ?_
   refine vP (yU Y Y) (fun hp32=>?_) (fun hp32=>?_)
   · skip
     refine zB (zK Y) ?_
     refine iL ?_
     refine sL Y ?_
     refine zB (zK Y) ?_
     refine sL Y ?_
     refine vP (yP Y Y) (fun hp35=>?_) (fun hp35=>?_)
     · rw[if_pos ⟨by omega,by omega⟩]at hnum
       refine zB (xS Y Y) ?_
       refine yD ?_
       refine sU ?_
       refine yL Y ?_
       refine zN ?_
       refine zI ?_
       refine zB (zP Y) ?_
       refine zB (zP Y) ?_
       refine zB (zP Y) ?_
       refine yD ?_
       refine sU ?_
       refine wD ?_
       refine vJ ?_
       refine yN ?_
       refine vJ ?_
       refine sF Y Y Y Y ?_
       rw[hnum]
       exact⟨Y,Y⟩
     rw[if_neg (by omega)]at hnum
     refine zB (xS Y Y) ?_
     refine yD ?_
     refine sU ?_
     refine zX Y ?_
     refine xI ?_
     refine zN ?_
     refine zI ?_
     refine zB (zK Y) ?_
     refine zB (zK Y) ?_
     refine zB (zL Y Y (Ad _ (by omega))) ?_
     refine zB (zP Y) ?_
     refine iL ?_
     refine zB (zP Y) ?_
     refine zB (zP Y) ?_
     refine yD ?_
     refine sU ?_
     refine wD ?_
     refine vJ ?_
     refine yN ?_
     refine vJ ?_
     refine sF Y Y Y Y ?_
     rw[hnum]
     exact⟨Y,Y⟩
   rw[if_neg (by omega)]at hnum
   refine zB (zK Y) ?_
   refine iL ?_
   refine ops_no Y ?_
   refine ops_no Y ?_
   refine zB (vL Y Y) ?_
   refine yD ?_
   refine sU ?_
   refine zX Y ?_
   refine xI ?_
   refine zN ?_
   refine zI ?_
   refine zB (zK Y) ?_
   refine zB (zK Y) ?_
   refine zB (zL Y Y (Ad _ (by omega))) ?_
   refine zB (zP Y) ?_
   refine iL ?_
   refine zB (zP Y) ?_
   refine zB (zP Y) ?_
   refine yD ?_
   refine sU ?_
   refine wD ?_
   refine vJ ?_
   refine yN ?_
   refine vJ ?_
   refine sF Y Y Y Y ?_
   rw[hnum]
   exact⟨Y,Y⟩
 rw[Gm (by omega),sQ]at hnum
 refine yD ?_
 refine sU ?_
 refine zN ?_
 refine zX Y ?_
 refine tE ?_
 refine zT ?_
 refine zS ?_
 refine zN ?_
 refine zI ?_
 refine zB (zP Y) ?_
 refine zB (zP Y) ?_
 refine zB (zP Y) ?_
 refine yD ?_
 refine sU ?_
 refine wD ?_
 refine sF Y Y Y Y ?_
 rw[hnum]
 exact⟨Y,Y⟩
set_option maxRecDepth 100000 in
set_option maxHeartbeats 4000000 in
theorem FO (A:Option Addr) (b:List UInt8) (c:Nat) (most:Int) (w0:World) (hr:Rd w0 A b.length 1 (u8s b)) (hb:b.length≤211106232532992) (hlo:-9223372036854775808≤most) (hhi:most≤9223372036854775807):
 Aj 208 #[Ac A b.length c,Aa most] w0 (fun r w'=>r=.tuple #[Aa (yA b most).1,Aa (yA b most).2.1,Aa (yA b most).2.2]∧w'=w0):=by
 have hbd:=pP b
 refine zE Tryz.func208 Tryz.ntmps208 Y ?_
 refine eI ?_
 have H:=Hp.refl w0
 refine zN ?_
 refine zI ?_
 refine zB (zP Y) ?_
 refine zB (zP Y) ?_
 refine zB (zP Y) ?_
 refine yD ?_
 refine eI ?_
 refine zN ?_
 refine zI ?_
 refine zB (zK Y) ?_
 refine wQ (mS VN Y) (bL A b c _ hr hb) ?_
 refine zB (zK Y) ?_
 refine zB (xA Y Y) ?_
 refine CJ ?_
 refine zB (xA Y Y) ?_
 refine zB (xA Y Y) ?_
 refine zB (zP Y) ?_
 refine zB (zP Y) ?_
 refine CJ ?_
 refine zB (zP Y) ?_
 refine yD ?_
 refine eI ?_
 refine zN ?_
 refine zN ?_
 refine zI ?_
 refine zB (zK Y) ?_
 refine vP (yU Y Y) (fun hp17=>?_) (fun hp17=>?_)
 · have h0:(xL b).2.2=0:=by omega
   refine zB (zK Y) ?_
   refine CJ ?_
   refine sL Y ?_
   refine zB (zK Y) ?_
   refine sL Y ?_
   refine zB (zK Y) ?_
   refine CJ ?_
   refine sL Y ?_
   refine zB (HT Y Y) ?_
   refine sL Y ?_
   refine zB (xJ Lp Tryz.underlying3 Y (Et _ (by omega))) ?_
   refine CJ ?_
   refine sL Y ?_
   refine vP (yP Y Y) (fun hp23=>?_) (fun hp23=>?_)
   · skip
     refine zB (xS Y Y) ?_
     refine yD ?_
     refine eI ?_
     refine yL Y ?_
     refine zI ?_
     refine zB (zP Y) ?_
     refine yD ?_
     refine eI ?_
     refine zN ?_
     refine zN ?_
     refine zI ?_
     refine zB (zK Y) ?_
     refine lM (yR Y Y) (by omega) ?_
     refine yD ?_
     refine eI ?_
     refine yL Y ?_
     refine zN ?_
     refine zI ?_
     refine zB (zK Y) ?_
     refine zB (zP Y) ?_
     refine zB (zP Y) ?_
     refine zB (zP Y) ?_
     refine yD ?_
     refine eI ?_
     refine wD ?_
     refine sF Y Y Y Y ?_
     refine⟨?_,Y⟩
     rw[kG h0 hp23]
     rfl
   refine zB (xS Y Y) ?_
   refine yD ?_
   refine eI ?_
   refine zX Y ?_
   refine xI ?_
   refine zN ?_
   refine zN ?_
   refine zI ?_
   refine zB (zK Y) ?_
   refine jD (yR Y Y) (by omega) ?_
   refine yD ?_
   refine eI ?_
   refine zX Y ?_
   refine xI ?_
   refine zN ?_
   refine zI ?_
   refine zB (zK Y) ?_
   refine zB (xJ Tryz.underlying3 Lp Y (Ad _ (by omega))) ?_
   refine zB (zK Y) ?_
   refine zB (zP Y) ?_
   refine CJ ?_
   refine zB (zP Y) ?_
   refine zB (zP Y) ?_
   refine yD ?_
   refine eI ?_
   refine wD ?_
   refine sF Y Y Y Y ?_
   refine⟨?_,Y⟩
   rw[oK h0 hp23]
   rfl
 have h0:(xL b).2.2≠0:=by omega
 refine zB (zK Y) ?_
 refine CJ ?_
 refine ops_no Y ?_
 refine ops_no Y ?_
 refine CJ ?_
 refine ops_no Y ?_
 refine ops_no Y ?_
 refine CJ ?_
 refine ops_no Y ?_
 refine zB (vL Y Y) ?_
 refine yD ?_
 refine eI ?_
 refine zX Y ?_
 refine xI ?_
 refine zN ?_
 refine zN ?_
 refine zI ?_
 refine zB (zK Y) ?_
 refine lM (yR Y Y) (by omega) ?_
 refine yD ?_
 refine eI ?_
 refine yL Y ?_
 refine zN ?_
 refine zI ?_
 refine zB (zK Y) ?_
 refine zB (zP Y) ?_
 refine zB (zP Y) ?_
 refine zB (zP Y) ?_
 refine yD ?_
 refine eI ?_
 refine wD ?_
 refine sF Y Y Y Y ?_
 refine⟨?_,Y⟩
 rw[kH h0]
 rfl
end Go.Proofs.YtjoeklkmnfaabaaGreat
namespace Go.Proofs.YtjoeklkmnfaabaaGreat
open Go Go.RowKit
set_option linter.unusedVariables false
set_option linter.unusedSimpArgs false
section more
variable {P:Program} {ds:List Deferred} {Q:vQ} {K:List Value→World→Prop} {all os:List Oper} {l:List Value} {w0 w w':World} {S S':List Nat} {es es':List Ent} {ty t:TypeId} {pos:String} {af:Array Edge} {d:Tmp} {v:Value} {op:Op}
 {zs cs:List Value} {sz bytes:Nat} {agg:Bool}
def wW (P:Program) (t:TypeId):Option (List (Nat×Nat)):=
 match P.underlying t with
 | some (.struct fields)=>fields.toList.mapM (fun f=>(P.info? f.type).map fun i=>(f.offset,i.size))
 | _=>none
theorem FL (h:xQ P t zs sz bytes agg) {ps:List (Nat×Nat)} (hp:wW P t=some ps) {xs:List (Nat×Operand)} {vs:List (Nat×Value)} (hv:pN l xs=some vs) (hf:kD (fun i=>ps[i]?) zs vs=some cs):
 Ex P l (.build t xs.toArray) ty w (.value (.agg cs.toArray)) w:=fun _ _ _ _=>by
 obtain⟨i,z,d,hi,hz,hzs,_,_,hd,_⟩:=h.ex
 have hb:P.built t (xs.toArray.map fun(i,x)=>(i,rho l x)).toList=some cs.toArray:=by
  have hvs:(xs.toArray.map fun(i,x)=>(i,rho l x)).toList=vs:=by simpa using oE hv
  rw[hvs]
  unfold wW at hp
  rw[hd]at hp
  cases d with
  | struct fields=>
   simp only at hp
   have hf':=cB (fun i=>ps[i]?) vs zs cs hf
   have e:z.cells=zs.toArray:=by rw[← hzs]
   unfold Program.built
   rw[hi,hd]
   simp only[hz,hp,e]
   simpa using hf'
  | _=>cases hp
 have hr:=run_build (P:=P) w t _ _ hb
 simp only[execOp,Sem.run_bind]
 rw[hr]
 rfl
theorem Hp.then (H:Hp w0 w S es) (H':Hp w w' S' es'):Hp w0 w' (S++S') es':=by
 refine⟨H'.os.trans H.os,H'.tape.trans H.tape,H'.output.trans H.output,Ci H.size H'.size,?_,?_,H'.apart⟩
 · intro k hk hS
   simp only[Bj,not_or]at hS
   rw[H'.frame k (Nat.lt_of_lt_of_le hk H.size) hS.2]
   exact H.frame k hk hS.1
 intro i e he
 have:=H'.ent i e he
 unfold qV at this ⊢
 split
 · rename_i hn;rw[hn]at this;exact this
 rename_i g hg
 rw[hg]at this
 refine⟨this.1,?_⟩
 rcases this.2 with h | h
 · exact .inl (Nl _ h)
 exact .inr (Ci H.size h)
theorem Hp.keep (H:Hp w0 w S es) {g:Nat} {o:Obj} (hg:w0.heap[g]? =some o) (hS:g∉S):w.heap[g]? =some o:=by
 rw[H.frame g (Dw.1 hg).1 hS];exact hg
theorem aV {f:FuncId} {args:Array Value} {R:Nat→Nat→World→Prop} (hx:Ex P l op ty w (.enter f args) w) (hc:zO P f args w fun r w'=>∃ k e:Nat,r=.tuple #[.int .i64 k,.int .i64 e]∧R k e w')
 (h:∀ (k e:Nat) w',R k e w'→Ops P ds all K Q os (l.set d (.tuple #[.int .i64 k,.int .i64 e])) w'):Ops P ds all K Q (⟨some d,op,ty,pos,af,none⟩::os) l w:=
 tF hx hc fun r w' ⟨k,e,h1,h2⟩=>by rw[h1];exact h k e w' h2
theorem BA {f:FuncId} {args:Array Value} {R:Nat→Nat→World→Prop} {M:Nat→Nat→World→World→Prop} (hx:Ex P l op ty w (.enter f args) w) (hc:zO P f args w fun r w'=>∃ k e w2,R k e w2∧r=.bool (decide (e=0))∧M k e w2 w')
 (h:∀ (k e:Nat) w2 w',R k e w2→M k e w2 w'→Ops P ds all K Q os (l.set d (.bool (decide (e=0)))) w'):Ops P ds all K Q (⟨some d,op,ty,pos,af,none⟩::os) l w:=
 tF hx hc fun r w' ⟨k,e,w2,h1,h2,h3⟩=>by rw[h2];exact h k e w2 w' h1 h3
theorem aH {e:TypeId} {x:Operand} (ht:P.underlying t=some (.slice e)) (he:xQ P e zs sz bytes agg) {A:Option Addr} {len c lo hi mx n m:Nat} {kl kh km:IntKind} {xl xh xm:Operand}
 (hx:ev l x=some (.slice A len c)) (hl:ev l xl=some (.int kl lo)) (hh:ev l xh=some (.int kh hi)) (hm:ev l xm=some (.int km mx)) (h:lo≤hi∧hi≤mx∧mx≤c) (hn:n=hi - lo) (hm':m=mx - lo):
 Ex P l (.slice t x (some xl) (some xh) (some xm)) ty w (.value (.slice (wE A lo mx sz) n m)) w:=by
 subst hn hm'
 have:=UJ (ty:=ty) (w:=w) ht he hx hl hh hm (by omega)
 simpa only[Int.toNat_natCast]using this
end more
section rdr
variable {w w':World} {gr:Nat} {A:Option Addr} {c:Nat} {b:List UInt8} {i e:Nat}
theorem cO (b:List UInt8) (i:Nat):u8s (b.drop i)=(u8s b).drop i:=by simp[u8s,List.map_drop]
theorem cN (b:List UInt8) (i:Nat):u8s (b.take i)=(u8s b).take i:=by simp[u8s,List.map_take]
theorem Rd.tail (h:Rd w A b.length 1 (u8s b)) (hi:i≤b.length):Rd w (wE A i b.length 1) (b.drop i).length 1 (u8s (b.drop i)):=by
 have:=h.cut i b.length b.length hi (Ai _) (Ai _)
 rw[cO,Bh]
 simp only[Bz]at this
 rw[Ej (by rw[Bh,zZ];exact Ai _)]at this
 unfold wE
 simp only[Bz]
 exact this
theorem Rd.mid {n v:Nat} (h:Rd w A b.length 1 (u8s b)) (hi:n+v≤b.length):Rd w (wE A n (n+v) 1) ((b.drop n).take v).length 1 (u8s ((b.drop n).take v)):=by
 have:=h.cut n (n+v) (n+v) (by omega) hi (Ai _)
 rw[cN,cO,Aw,Bh,Ii (by omega)]
 simp only[Bz,Hq]at this
 unfold wE
 simp only[Bz]
 exact this
end rdr
section app
variable {P:Program} {ds:List Deferred} {Q:vQ} {K:List Value→World→Prop} {all os:List Oper} {l:List Value} {w0 w w':World} {S S':List Nat} {es es':List Ent} {ty t:TypeId} {pos:String} {af:Array Edge} {d:Tmp} {v:Value} {op:Op}
 {zs cs:List Value} {agg:Bool} {x y:Operand}
theorem lP {e:TypeId} (ht:P.underlying t=some (.slice e)) (he:xQ P e zs 1 1 agg) (H:Hp w0 w S es) (i:Nat)
 {g:Option Nat} {cap:Nat} {L M:List UInt8} {sp:List Value} (hx:ev l x=some (.slice (hd g) L.length cap)) (hi:es[i]? =some (g,e,u8s L++sp)) (hc:cap*1≤(u8s L++sp).length) (hnc:L.length≤cap) (hcap:g=none→cap=0)
 {A:Option Addr} {c:Nat} (hy:ev l y=some (.slice A M.length c)) (hr:Rd w A M.length 1 (u8s M)) (hb:L.length+M.length≤211106232532992)
 (k:∀ w' g' cap' sp',Hp w0 w' S (es.set i (g',e,u8s (L++M)++sp'))→(L++M).length≤cap'→cap'*1≤(u8s (L++M)++sp').length→(g'=none→cap'=0)→Ops P ds all K Q os (l.set d (.slice (hd g') (L++M).length cap')) w'):
 Ops P ds all K Q (⟨some d,.call { callee:=.builtin .append,args:=#[x,y],argTypes:=#[t,t] },ty,pos,af,none⟩::os) l w:=by
 refine yX ht he (by decide) H i hx hi (yV L) hc hnc hcap hy hr (uM M) (by omega) (by omega) (by decide) ?_
 intro w' g' cap' sp' H' h1 h2 h3
 rw[← Af]
 rw[← Af]at h2
 rw[← vE]at H' h1
 exact k w' g' cap' sp' H' h2 h1 h3
end app
theorem Hp.ne {w0 w:World} {S:List Nat} {es:List Ent} (H:Hp w0 w S es) {i j g g':Nat} {T T':TypeId} {cs cs':List Value} (h1:es[i]? =some (some g,T,cs)) (h2:es[j]? =some (some g',T',cs')) (hij:i≠j):g≠g':=by
 rintro rfl
 exact hij (H.apart i j _ _ g h1 h2 Y Y)
theorem Rd.mid2 {w:World} {A:Option Addr} {b:List UInt8} {n v c:Nat} (h:Rd w A b.length 1 (u8s b)) (hi:n+v≤b.length) (hc:b.length≤c):Rd w (wE A n c 1) ((n+v) - n) 1 (u8s ((b.drop n).take v)):=by
 have:=h.cut n (n+v) c (by omega) hi (by omega)
 rw[cN,cO]
 simp only[Bz,Hq]at this ⊢
 unfold wE
 simp only[Bz]
 exact this
theorem Rd.Yi {w:World} {A:Option Addr} {b:List UInt8} {i c:Nat} (h:Rd w A b.length 1 (u8s b)) (hi:i≤b.length) (hc:b.length≤c):Rd w (wE A i c 1) (b.length - i) 1 (u8s (b.drop i)):=by
 have:=h.mid2 (n:=i) (v:=b.length - i) (c:=c) (by omega) hc
 rw[Hq,Ej (by rw[Bh];exact Ai _)]at this
 exact this
theorem eV (g o:Nat):(⟨g,0,none⟩:Addr).add o=⟨g,o,none⟩:=by
 unfold Addr.add
 split
 · rename_i h;rw[h]
 simp
abbrev Blk :=List UInt8
def bl (es:List Ent):List Nat:=es.filterMap (·.1)
theorem Hp.here {w0 w:World} {S:List Nat} {es:List Ent} (H:Hp w0 w S es):Hp w w (bl es) es:=by
 refine⟨Y,Y,Y,Ai _,fun _ _ _=>Y,?_,H.apart⟩
 intro i e he
 have h:=H.ent i e he
 unfold qV at h ⊢
 split
 · rename_i hn;rw[hn]at h;exact h
 rename_i g hg
 rw[hg]at h
 exact⟨h.1,.inl (Fb.2 ⟨e,Fh he,hg⟩)⟩
theorem KC {es es':List Ent} {is:List Nat} (h:es'=is.map fun i=>es.getD i (none,0,[])):∀ b∈bl es',∃ i∈is,∃ T cs,es[i]? =some (some b,T,cs):=by
 intro b hb
 subst h
 obtain⟨e,he,hg⟩:=Fb.1 hb
 obtain⟨i,hi,rfl⟩:=Ie.1 he
 refine⟨i,hi,?_⟩
 cases h:es[i]? with
 | none=>rw[Dz,h]at hg;simp at hg
 | some x=>
  rw[Dz,h]at hg
  obtain⟨a,T,cs⟩:=x
  simp at hg
  exact⟨T,cs,by rw[hg]⟩
theorem lY {w0 w:World} {S:List Nat} {es:List Ent} (H:Hp w0 w S es) (i:Nat) {g:Option Nat} {T:TypeId} {cs:List Value} (he:es[i]? =some (g,T,cs)) (ha:∀ p,hd g=some p→p.block∉S):∀ p,hd g=some p→w0.heap.size≤p.block:=by
 intro p hp
 cases g with
 | none=>simp[hd]at hp
 | some x=>
  have h2:=ha p hp
  simp only[hd,Hy,Option.some.injEq]at hp
  subst hp
  rcases H.place he with h | h
  · exact absurd h h2
  exact h
theorem Ip (b o n:Nat):(⟨b,o,none⟩:Addr).add n=⟨b,o+n,none⟩:=by
 unfold Addr.add
 split
 · rename_i h;rw[h];rfl
 rfl
theorem dF :∀ (is:List Nat) (es:List Ent),(kill es is).length=es.length
 | [],_=>rfl
 | i::is,es=>by simp[kill,dF is es]
theorem E0 :∀ (is:List Nat) (es:List Ent) (j:Nat),j∉is→(kill es is)[j]? =es[j]?
 | [],_,_,_=>rfl
 | i::is,es,j,h=>by
  simp only[kill]
  rw[List.getElem?_set_ne (fun e=>h (by simp[e])),E0 is es j (fun hh=>h (Es _ hh))]
theorem vS (a b:List Ent):bl (a++b)=bl a++bl b:=by simp[bl]
theorem Hp.Dq {w0 w w':World} {S:List Nat} {es es1 es2:List Ent} (H:Hp w0 w S es) (is:List Nat) (h1:es1=is.map fun i=>es.getD i (none,0,[])) (H':Hp w w' (bl es1) es2):Hp w0 w' S (kill es is++es2):=H.call H' is (KC h1)
section
variable {w0 w w':World} {S S':List Nat} {es es' es1 es2 R:List Ent}
theorem Hp.sub (H:Hp w0 w S es) (φ:Nat→Nat) (h:∀ i e,es'[i]? =some e→es[φ i]? =some e∨(e.1=none∧e.2.2=[])) (hinj:∀ i j,i < es'.length→j < es'.length→φ i=φ j→i=j):Hp w0 w S es':=by
 refine⟨H.os,H.tape,H.output,H.size,H.frame,?_,?_⟩
 · intro i e he
   rcases h i e he with h1 | ⟨h1,h2⟩
   · exact H.ent _ e h1
   unfold qV;rw[h1];exact h2
 intro i j e f g hi hj he hf
 rcases h i e hi with h1 | ⟨h1,_⟩
 · rcases h j f hj with h2 | ⟨h2,_⟩
   · exact hinj i j (lt_of_get hi) (lt_of_get hj) (H.apart _ _ e f g h1 h2 he hf)
   rw[h2]at hf;cases hf
 rw[h1]at he;cases he
theorem Hp.less (H:Hp w0 w S (es++R)):Hp w0 w S es:=
 H.sub id (fun i e he=> .inl (by rw[id,Di (lt_of_get he)];exact he)) (fun _ _ _ _ h=>h)
theorem Hp.front (H:Hp w0 w S (es1++R)) (H':Hp w w' (bl es1) es2):Hp w0 w' S (es2++R):=by
 have hS:∀ b∈bl es1,∃ i∈List.range es1.length,∃ T cs,(es1++R)[i]? =some (some b,T,cs):=by
  intro b hb
  obtain⟨⟨g,T,cs⟩,he,hg⟩:=Fb.1 hb
  obtain⟨i,hi⟩:=Dh he
  have hlt:=lt_of_get hi
  simp only at hg
  subst hg
  exact⟨i,List.mem_range.2 hlt,T,cs,by rw[Di hlt];exact hi⟩
 have hC:=H.call H' (List.range es1.length) hS
 have hlen:(kill (es1++R) (List.range es1.length)).length=es1.length+R.length:=by rw[dF];simp
 refine hC.sub (fun i=>if i < es2.length then es1.length+R.length+i else es1.length+(i - es2.length)) ?_ ?_
 · intro i e he
   split
   · rename_i h
     left
     rw[Ef (by omega),hlen,Hq]
     rwa [Di h]at he
   rename_i h
   left
   rw[Ef (by omega)]at he
   have:=lt_of_get he
   rw[Di (by omega),E0 _ _ _ (by simp),Ef (by omega),Hq]
   exact he
 intro i j hi hj h
 simp only[Af]at hi hj
 split at h <;>split at h <;>omega
theorem Hp.all (HB:Hp w0 w S es) (H:Hp w w' (bl es) es'):Hp w0 w' S es':=by
 have:=Hp.front (R:=[]) (by simpa using HB) H
 simpa using this
theorem Fp {b:Nat} (hb:b∈bl es1):b∈bl (es1++R):=by rw[vS];exact Qa _ hb
theorem Hp.YL (H:Hp w0 w S es) (o:Obj):Hp w0 (w.alloc o) S es:=by
 refine⟨H.os,H.tape,H.output,?_,?_,?_,H.apart⟩
 · have:=H.size;simp;omega
 · intro k hk hS
   rw[heap_alloc_old w _ (by have:=H.size;omega)]
   exact H.frame k hk hS
 intro i e he
 have h:=H.ent i e he
 unfold qV at h ⊢
 split
 · rename_i hn;rw[hn]at h;exact h
 rename_i g hg
 rw[hg]at h
 exact⟨by rw[heap_alloc_old w _ (H.Xg he hg)];exact h.1,h.2⟩
theorem rZ (H:Hp w0 w S (es1++R)) {i:Nat} {g:Option Nat} {T:TypeId} {cs:List Value} (he:R[i]? =some (g,T,cs)):∀ p,hd g=some p→p.block∉bl es1:=by
 intro p hp hb
 obtain⟨⟨g2,T2,cs2⟩,hm,hg⟩:=Fb.1 hb
 obtain⟨j,hj⟩:=Dh hm
 simp only at hg
 subst hg
 cases g with
 | none=>simp[hd]at hp
 | some x=>
  simp only[hd,Hy,Option.some.injEq]at hp
  subst hp
  have hjl:=lt_of_get hj
  have:=H.apart j (es1.length+i) _ _ x (by rw[Di hjl];exact hj) (by rw[Ef (by omega),Hq];exact he) rfl rfl
  omega
theorem Hp.Ap (H:Hp w0 w S es) (H':Hp w w' [] es2):Hp w0 w' S es:=(H.call0 H').less
end
theorem pZ {w0 w:World} {S:List Nat} {es:List Ent} (H:Hp w0 w S es) {b:Nat} (hb:b∈bl es):b < w.heap.size:=by
 obtain⟨⟨g,T,cs⟩,he,hg⟩:=Fb.1 hb
 obtain⟨i,hi⟩:=Dh he
 simp only at hg
 subst hg
 exact H.lt hi
theorem vO {w0 w:World} {S:List Nat} {es:List Ent} {i:Nat} {g:Option Nat} {T:TypeId} {cs:List Value} (H:Hp w0 w S es) (he:es[i]? =some (g,T,cs)) (h:0 < cs.length):∃ k,g=some k:=by
 cases g with
 | some k=>exact⟨k,rfl⟩
 | none=>
  have h1:=H.ent i _ he
  change cs=[]at h1
  subst h1
  cases h
theorem bl_place {w0 w:World} {S:List Nat} {es:List Ent} (H:Hp w0 w S es):∀ b∈bl es,b∈S∨w0.heap.size≤b:=by
 intro b hb
 obtain⟨e,he,hg2⟩:=Fb.1 hb
 obtain⟨i,hi⟩:=Dh he
 obtain⟨g',T,cs⟩:=e
 simp only at hg2
 subst hg2
 exact H.place hi
theorem sJ {w0 w:World} {S:List Nat} {es:List Ent} (H:Hp w0 w S es):∀ b∈bl es,∃ arr T z,w.heap[b]? =some (.cells arr T z):=by
 intro b hb
 obtain⟨e,he,hg2⟩:=Fb.1 hb
 obtain⟨i,hi⟩:=Dh he
 obtain⟨g',T,cs⟩:=e
 simp only at hg2
 subst hg2
 exact⟨_,_,_,H.at hi⟩
theorem Fg {w0 w:World} {S:List Nat} {es:List Ent} (H:Hp w0 w S es) {i:Nat} {g:Nat} {T:TypeId} {cs:List Value} (hi:es[i]? =some (some g,T,cs)) {is:List Nat} (hn:i∉is):g∉bl (is.map fun j=>es.getD j (none,0,[])):=by
 intro hb
 obtain⟨j,hj,T',cs',hj2⟩:=KC rfl _ hb
 have:=H.apart i j _ _ g hi hj2 rfl rfl
 subst this
 exact hn hj
theorem Gl {w0 w:World} {S:List Nat} {es:List Ent} {is:List Nat} (_:Hp w0 w S es):∀ p∈bl (is.map fun i=>es.getD i (none,0,[])),p∈bl es:=by
 intro p hp
 obtain⟨i,_,T,cs,h⟩:=KC rfl p hp
 exact Fb.2 ⟨_,Fh h,Y⟩
theorem Hp.drewW (w:World):Hp w { w with drawn:=w.drawn+1 } [] []:=(Hp.refl w).drew
theorem Hp.Ag {w0 w:World} {S:List Nat} {es:List Ent} (H:Hp w0 w S es):Hp w0 w S []:=H.pick [] (by simp)
theorem Hp.right {w0 w:World} {S:List Nat} {a b:List Ent} (H:Hp w0 w S (a++b)):Hp w0 w S b:=by
 have key:∀ (i:Nat) (e:Ent),b[i]? =some e→(a++b)[a.length+i]? =some e:=fun i e h=>by rw[Ef (by omega),Hq];exact h
 refine⟨H.os,H.tape,H.output,H.size,H.frame,fun i e he=>H.ent _ e (key i e he),fun i j e f g hi hj h1 h2=>?_⟩
 have:=H.apart _ _ e f g (key i e hi) (key j f hj) h1 h2
 omega
section laws
variable {P:Program} {ds:List Deferred} {Q:vQ} {K:List Value→World→Prop} {all os:List Oper} {l:List Value} {w0 w w':World} {S S':List Nat} {es es':List Ent} {ty t:TypeId} {pos:String} {af:Array Edge} {d:Tmp} {v:Value} {op:Op}
 {x y:Operand} {zs cs:List Value} {sz bytes:Nat} {agg:Bool}
theorem uS {e:TypeId} {k:IntKind} {n:Int} (ht:P.underlying t=some (.slice e)) (he:xQ P e zs sz bytes agg) {b o len c i:Nat} (hx:ev l x=some (.slice (some ⟨b,o,none⟩) len c)) (hy:ev l y=some (.int k n)) (hn:n=(i:Int)) (hi:i < len):
 Ex P l (.indexAddr t x y) ty w (.value (.pointer (some ⟨b,o+i*sz,none⟩))) w:=by
 have h:=eR (ty:=ty) (w:=w) ht he hx hy hn hi rfl
 rwa [Ip]at h
theorem eE {e:TypeId} (ht:P.underlying t=some (.slice e)) (he:xQ P e zs sz bytes agg) (H:Hp w0 w S es) {k1 k2:IntKind} {n c:Nat} (hx:ev l x=some (.int k1 n)) (hy:ev l y=some (.int k2 c))
 (hnc:n≤c) (hb:bytes*c≤281474976710656) (h63:c≤9223372036854775807)
 (k:∀ w' g,Hp w0 w' S (es++[(some g,e,initL zs c)])→g=w.heap.size→Ops P ds all K Q os (l.set d (.slice (hd (some g)) n c)) w'):Ops P ds all K Q (⟨some d,.makeSlice t x y,ty,pos,af,none⟩::os) l w:=by
 obtain⟨i,z',d',hi,hz,hzs,hsz,hby,hd',_⟩:=he.ex
 have H':=H.alloc e (initL zs c)
 refine zB (w':=w.alloc (.cells (initL zs c).toArray e)) ?_ (k _ _ H' Y)
 intro _ _ _ _
 have hr:=run_make (P:=P) w t e i z' ht hi hz k1 k2 n c (by omega) (by omega) (by rw[hby];omega) (by omega)
 have hc:madeCells z'.cells (c*i.size)=(initL zs c).toArray:=by
  have hcl:z'.cells=zs.toArray:=by rw[← hzs]
  rw[hsz,← he.len,hcl,← dW]
  rfl
 simp only[Int.toNat_natCast]at hr
 simp[execOp,zV hx,zV hy,hr,hc]
theorem QQ {v:Value} (hl:v.cells.toList.length=sz) (hz:zs.length=sz):kD (fun i=>some (i*sz,sz)) (initL zs 1) [(0,v)]=some v.cells.toList:=by
 have h1:(initL zs 1).length=sz:=by rw[wR,Nat.one_mul,hz]
 simp only[kD,Jq]
 rw[decide_eq_true hl,decide_eq_true (by omega)]
 simp only[zG,Au]
 congr 1
 rw[Nk,Ih,Gm (by omega),Dt]
theorem bK {e:TypeId} (ht:P.underlying t=some (.slice e)) (he:xQ P e zs sz bytes agg) (H:Hp w0 w S es) {A0:Option Addr} {n cap:Nat} {xs:List Value} (hx:ev l x=some (.slice A0 n cap)) (hrx:Rd w A0 n sz xs)
 {A:Option Addr} {m c:Nat} {ys:List Value} (hy:ev l y=some (.slice A m c)) (hr:Rd w A m sz ys) (hg:cap < n+m) (h63:n+m≤9223372036854775807) (hb:(n+m)*bytes≤211106232532992) (hb2:bytes≤1048576)
 (k:∀ w' g cap' sp',Hp w0 w' S (es++[(some g,e,(xs++ys)++sp')])→cap'*sz≤((xs++ys)++sp').length→n+m≤cap'→Ops P ds all K Q os (l.set d (.slice (hd (some g)) (n+m) cap')) w'):
 Ops P ds all K Q (⟨some d,.call { callee:=.builtin .append,args:=#[x,y],argTypes:=#[t,t] },ty,pos,af,none⟩::os) l w:=by
 obtain⟨inf,z,dd,hinf,hz,hzs,rfl,rfl,_,_⟩:=he.ex
 have hzsz:z.cells.size=zs.length:=by rw[← hzs];simp
 have hfit:=X0 hg hb hb2
 have first:∀ {A:Option Addr} {n c:Nat} {xs:List Value},Rd w A n inf.size xs→(Builtin.firstCells inf.size n (.slice A n c)).run P w.drew=.ok xs.toArray w.drew:=by
  intro A n c xs hr
  cases A with
  | none=>
   have:=hr.nil rfl
   subst this
   have hys:xs=[]:=Ec (by simpa using hr.len)
   subst hys
   exact run_firstCells_none _ _ _ _ _
  | some a=>exact run_firstCells_some _ inf.size n a n c xs hr.len (fun j u hu=>hr.cells a rfl j u hu)
 have hfo:=first (c:=cap) hrx
 have hfc:=first (c:=c) hr
 have hn':¬(n+m≤cap):=by omega
 have h63':¬(9223372036854775807 < ((n:Int)+(m:Int))):=by omega
 have h48':¬(281474976710656 < Builtin.nextslicecap (n+m) cap*inf.bytes):=by omega
 have hge:=grownCap_ge w (n+m) cap e
 have hrun:(Builtin.append_ #[t,t] ty #[.slice A0 n cap,.slice A m c]).run P w=
  .ok (.slice (some ⟨w.heap.size,0,none⟩) (n+m) (grownCap w (n+m) cap e))
   (w.drew.alloc (.cells ((xs++ys)++(Builtin.zeroCells z.cells (grownCap w (n+m) cap e - (n+m))).toList).toArray e)):=by
  simp[Builtin.append_,run_underlying ht,sizeOf,typeInfo,zeroValue,hinf,hz,Builtin.lenOf,hn',h63',h48',Question.forced,hfc,hfo,newRow,grownCap]
  congr 2
  apply Array.ext'
  simp
 have H2:=(H.drew).alloc e ((xs++ys)++(Builtin.zeroCells z.cells (grownCap w (n+m) cap e - (n+m))).toList)
 refine zB (w':=w.drew.alloc (.cells ((xs++ys)++(Builtin.zeroCells z.cells (grownCap w (n+m) cap e - (n+m))).toList).toArray e)) ?_ (k _ _ _ _ H2 ?_ hge)
 · intro _ _ _ _
   simp[execOp,resolve,invoke,builtin,zV hx,zV hy,hrun]
 simp only[Af,hrx.len,hr.len,Array.length_toList,Builtin.zeroCells,Array.size_map,Array.size_range]
 rw[hzsz,he.len,← Du,← Du]
 exact Dp _ (by omega)
theorem qB {cs vs:List Value} (h:cs.length=vs.length):zG cs 0 vs=vs:=by
 simp[zG,h]
theorem sI {w0 w:World} {S:List Nat} {es:List Ent} {i g o:Nat} {T:TypeId} {cs vs:List Value} (H:Hp w0 w S es) (he:es[i]? =some (some g,T,cs)) (h:∀ j u,vs[j]? =some u→cs[o+j]? =some u):∀ j u,vs[j]? =some u→w.cell? ((⟨g,o,none⟩:Addr).add j)=some u:=by
 intro j u hu
 have e:(⟨g,o,none⟩:Addr).add j=⟨g,o+j,none⟩:=by
  unfold Addr.add
  split
  · rename_i h0;rw[h0];rfl
  rfl
 rw[e]
 exact H.cell he (h j u hu)
theorem AI (a b:Nat):((a:Int)).tmod (b:Int)=((a % b:Nat):Int):=rfl
end laws
section
variable {P:Program} {fn:Func} {l:List Value} {w w0:World} {R:Value→World→Prop} {zs:List Value} {sz bytes:Nat}
theorem uO {r1:Tmp} {ty:TypeId} (hr:fn.results=#[.cell r1 ty]) (ht:xQ P ty zs sz bytes true) {g:Nat} {cs:List Value} (h1:nth l r1=some (.pointer (some ⟨g,0,none⟩))) (hl:cs.length=sz) (hc:∀ j u,cs[j]? =some u→w.cell? ((⟨g,0,none⟩:Addr).add j)=some u) (h:R (.agg cs.toArray) w):fin P fn R .ret l w:=by
 refine⟨.agg cs.toArray,?_,h⟩
 have hl2:=pA (P:=P) (w:=w) ht hl hc
 have hp:l[r1]? =some (.pointer (some ⟨g,0,none⟩)):=by rw[← pQ];exact h1
 simp[results,hr,hp,asAddr,hl2]
theorem xN {r1 r2:Tmp} {ty:TypeId} (hr:fn.results=#[.cell r1 ty,.tmp r2]) (ht:xQ P ty zs sz bytes true) {g:Nat} {cs:List Value} {v2:Value} (h1:nth l r1=some (.pointer (some ⟨g,0,none⟩))) (h2:nth l r2=some v2) (hl:cs.length=sz) (hc:∀ j u,cs[j]? =some u→w.cell? ((⟨g,0,none⟩:Addr).add j)=some u)
 (h:R (.tuple #[.agg cs.toArray,v2]) w):fin P fn R .ret l w:=by
 refine⟨.tuple #[.agg cs.toArray,v2],?_,h⟩
 have hl2:=pA (P:=P) (w:=w) ht hl hc
 have hp:l[r1]? =some (.pointer (some ⟨g,0,none⟩)):=by rw[← pQ];exact h1
 rw[results_cell_tmp hr]
 rw[gT h1,gT h2]
 simp[asAddr,hl2]
end
theorem Hp.Ak {w0 w:World} {S:List Nat} {es:List Ent} {i g o:Nat} {T:TypeId} {cs us:List Value} (H:Hp w0 w S es) (he:es[i]? =some (some g,T,cs)) (hs:(cs.drop o).take us.length=us):∀ j u,us[j]? =some u→w.cell? ((⟨g,o,none⟩:Addr).add j)=some u:=
 sI H he fun j u hu=>by
  rw[← hs,Hw]at hu
  split at hu
  · rwa [Em]at hu
  cases hu
def Pl (sz:Nat) (ps:List (List Value)):Prop:=∀ p∈ps,p.length=sz
section
variable {sz i:Nat} {ps qs:List (List Value)} {p q:List Value}
theorem Pl.nil (sz:Nat):Pl sz []:=fun _ h=>by cases h
theorem Pl.at (h:Pl sz ps) (hi:ps[i]? =some p):p.length=sz:=h p (Fh hi)
theorem Pl.tail (h:Pl sz (p::ps)):Pl sz ps:=fun x hx=>h x (Es _ hx)
theorem Pl.sub (h:Pl sz ps) (hs:∀ x∈qs,x∈ps):Pl sz qs:=fun x hx=>h x (hs x hx)
theorem Pl.app (h:Pl sz ps) (h2:Pl sz qs):Pl sz (ps++qs):=fun x hx=>(Bj.1 hx).elim (h x) (h2 x)
theorem Pl.one (h:p.length=sz):Pl sz [p]:=fun x hx=>by rw[Bc.1 hx];exact h
theorem Pl.len :∀ {ps:List (List Value)},Pl sz ps→ps.flatten.length=ps.length*sz
 | [],_=>by simp
 | p::ps,h=>by
  rw[Ic,Af,h p (by simp),Pl.len h.tail,Bg,Du];omega
theorem Pl.YJ :∀ {ps:List (List Value)} (i:Nat),Pl sz ps→ps.flatten.drop (i*sz)=(ps.drop i).flatten
 | ps,0,_=>by simp
 | [],i+1,_=>by simp
 | p::ps,i+1,h=>by
  rw[Ic,List.drop_succ_cons,← Pl.YJ i h.tail,show(i+1)*sz=p.length+i*sz by rw[h p (by simp),Du];omega,← Fz,List.drop_left]
theorem Pl.Vx :∀ {ps:List (List Value)} (i:Nat),Pl sz ps→ps.flatten.take (i*sz)=(ps.take i).flatten
 | ps,0,_=>by simp
 | [],i+1,_=>by simp
 | p::ps,i+1,h=>by
  rw[Ic,List.take_succ_cons,Ic,← Pl.Vx i h.tail,show(i+1)*sz=p.length+i*sz by rw[h p (by simp),Du];omega,Oj,Hq,Ej (by omega)]
theorem Pl.part (h:Pl sz ps) (hi:ps[i]? =some p):(ps.flatten.drop (i*sz)).take sz=p:=by
 obtain⟨hl,rfl⟩:=Ea.1 hi
 rw[Pl.YJ i h,Oh hl,Ic,← h.at hi,List.take_left]
theorem Pl.get (h:Pl sz ps) (hi:ps[i]? =some p) {j:Nat} {u:Value} (hu:p[j]? =some u):ps.flatten[i*sz+j]? =some u:=by
 rw[← Em]
 rw[← h.part hi,Hw]at hu
 split at hu
 · exact hu
 cases hu
theorem Pl.set_ (h:Pl sz ps) (hi:i < ps.length) (hq:q.length=sz):zG ps.flatten (i*sz) q=(ps.set i q).flatten:=by
 rw[zG,h.Vx,hq,show i*sz+sz=(i+1)*sz by rw[Du];omega,h.YJ,List.set_eq_take_append_cons_drop,if_pos hi,Jd,Ic,Bf]
theorem Pl.Sr (h:Pl sz ps) (hq:q.length=sz):Pl sz (ps.set i q):=fun x hx=>by
 rcases List.mem_or_eq_of_mem_set hx with hx | rfl
 · exact h x hx
 exact hq
theorem mA {cs sp vs:List Value} {o:Nat} (h:o+vs.length≤cs.length):zG (cs++sp) o vs=zG cs o vs++sp:=by
 unfold zG
 rw[Oj,List.drop_append,show o - cs.length=0 by omega,show o+vs.length - cs.length=0 by omega]
 simp
theorem xF (h:∀ p∈ps,p.all (·.oneCell')=true):ps.flatten.all (·.oneCell')=true:=by
 rw[Ew]
 intro x hx
 obtain⟨p,hp,hxp⟩:=List.mem_flatten.1 hx
 exact Ew.1 (h p hp) x hxp
theorem Rd.elem {w:World} {a:Addr} {n:Nat} (h:Rd w (some a) n sz ps.flatten) (hp:Pl sz ps) (hi:ps[i]? =some p):∀ j u,p[j]? =some u→w.cell? ((a.add (i*sz)).add j)=some u:=fun j u hu=>by
 rw[tV]
 exact h.cells a Y _ u (hp.get hi hu)
theorem Hp.elem {w0 w:World} {S:List Nat} {es:List Ent} {k g:Nat} {T:TypeId} {sp:List Value} (H:Hp w0 w S es) (he:es[k]? =some (some g,T,ps.flatten++sp)) (hp:Pl sz ps) (hi:ps[i]? =some p):∀ j u,p[j]? =some u→w.cell? (((⟨g,0,none⟩:Addr).add (i*sz)).add j)=some u:=fun j u hu=>by
 rw[tV,Ip,Au]
 exact H.cell he (by
  have h1:=hp.get hi hu
  rw[Di (lt_of_get h1)];exact h1)
end
def wT {α β:Type} (R:α→β→Prop):List α→List β→Prop
 | [],[]=>True
 | a::xs,b::ys=>R a b∧wT R xs ys
 | _,_=>False
section
variable {α β:Type} {R R':α→β→Prop}
theorem wT.len :∀ {xs:List α} {ys:List β},wT R xs ys→xs.length=ys.length
 | [],[],_=>rfl
 | _::_,_::_,h=>by rw[Bg,Bg,wT.len h.2]
theorem wT.imp (hh:∀ a b,R a b→R' a b):∀ {xs:List α} {ys:List β},wT R xs ys→wT R' xs ys
 | [],[],_=>trivial
 | _::_,_::_,h=>⟨hh _ _ h.1,wT.imp hh h.2⟩
theorem wT.app :∀ {xs xs':List α} {ys ys':List β},wT R xs ys→wT R xs' ys'→wT R (xs++xs') (ys++ys')
 | [],_,[],_,_,h2=>h2
 | _::_,_,_::_,_,h,h2=>⟨h.1,wT.app h.2 h2⟩
theorem wT.get :∀ {xs:List α} {ys:List β} {i:Nat} {b:β},wT R xs ys→ys[i]? =some b→∃ a,xs[i]? =some a∧R a b
 | [],[],_,_,_,hi=>by simp at hi
 | a::_,b::_,0,_,h,hi=>by simp only[Jc,Option.some.injEq]at hi;subst hi;exact⟨a,rfl,h.1⟩
 | _::_,_::_,i+1,_,h,hi=>wT.get (i:=i) h.2 (by simpa using hi)
theorem wT.getL :∀ {xs:List α} {ys:List β} {i:Nat} {a:α},wT R xs ys→xs[i]? =some a→∃ b,ys[i]? =some b∧R a b
 | [],[],_,_,_,hi=>by simp at hi
 | _::_,b::_,0,_,h,hi=>by simp only[Jc,Option.some.injEq]at hi;subst hi;exact⟨b,rfl,h.1⟩
 | _::_,_::_,i+1,_,h,hi=>wT.getL (i:=i) h.2 (by simpa using hi)
theorem wT.take :∀ {xs:List α} {ys:List β} (i:Nat),wT R xs ys→wT R (xs.take i) (ys.take i)
 | _,_,0,_=>by simp[wT]
 | [],[],_+1,_=>trivial
 | _::_,_::_,i+1,h=>⟨h.1,wT.take i h.2⟩
theorem wT.drop :∀ {xs:List α} {ys:List β} (i:Nat),wT R xs ys→wT R (xs.drop i) (ys.drop i)
 | _,_,0,h=>h
 | [],[],_+1,_=>trivial
 | _::_,_::_,i+1,h=>wT.drop i h.2
theorem wT.set :∀ {xs:List α} {ys:List β} (i:Nat) {a:α} {b:β},wT R xs ys→R a b→wT R (xs.set i a) (ys.set i b)
 | [],[],_,_,_,_,_=>trivial
 | _::_,_::_,0,_,_,h,h2=>⟨h2,h.2⟩
 | _::_,_::_,i+1,_,_,h,h2=>⟨h.1,wT.set i h.2 h2⟩
theorem wT.filter {f:α→Bool} {g:β→Bool} (hfg:∀ a b,R a b→f a=g b):∀ {xs:List α} {ys:List β},wT R xs ys→wT R (xs.filter f) (ys.filter g)
 | [],[],_=>trivial
 | a::xs,b::ys,h=>by
  rw[Gu,Gu,hfg a b h.1]
  split
  · exact⟨h.1,wT.filter hfg h.2⟩
  exact wT.filter hfg h.2
theorem wT.one {a:α} {b:β} (h:R a b):wT R [a] [b]:=⟨h,trivial⟩
end
section laws
variable {P:Program} {ds:List Deferred} {Q:vQ} {K:List Value→World→Prop} {all os:List Oper} {l:List Value} {w0 w w':World} {S S':List Nat} {es es':List Ent} {ty t:TypeId} {pos:String} {af:Array Edge} {d:Tmp} {v:Value} {op:Op}
 {x y:Operand} {zs cs:List Value} {sz bytes:Nat} {agg:Bool}
theorem uK {e:TypeId} (ht:P.underlying t=some (.slice e)) (he:xQ P e zs sz bytes agg) (H:Hp w0 w S es) (i:Nat) {g o n m dc sc:Nat} {a:Addr} {T:TypeId} {cs vs:List Value} (hx:ev l x=some (.slice (some ⟨g,o,none⟩) n dc)) (hy:ev l y=some (.slice (some a) m sc))
 (hi:es[i]? =some (some g,T,cs)) (hn:vs.length=Nat.min m n*sz) (hsrc:∀ j u,vs[j]? =some u→w.cell? (a.add j)=some u) (hfit:o+vs.length≤cs.length) (h1:vs.all (·.oneCell')=true)
 (k:∀ w',Hp w0 w' S (es.set i (some g,T,zG cs o vs))→Ops P ds all K Q os (l.set d (.int .i64 ((Nat.min m n:Nat):Int))) w'):
 Ops P ds all K Q (⟨some d,.call { callee:=.builtin .copy,args:=#[x,y],argTypes:=#[t,t] },ty,pos,af,none⟩::os) l w:=by
 obtain⟨inf,z,dd,hinf,hz,hzs,rfl,hby,_,_⟩:=he.ex
 have hl:=run_loadCells_list (P:=P) w a vs hsrc
 rw[hn]at hl
 have hst:=run_storeCells_at P g o T vs 0 cs.toArray w (H.at hi) (by simpa using hfit) (fun v hv=>Ew.1 h1 v hv)
 have e1:(cs.toArray.toList.take (o+0)++vs++cs.toArray.toList.drop (o+0+vs.length)).toArray=(zG cs o vs).toArray:=by simp[zG]
 rw[e1]at hst
 refine zB (w':=w.setRow g (zG cs o vs).toArray) ?_ (k _ (H.setRow hi _))
 intro _ _ _ _
 simp[execOp,resolve,invoke,builtin,Builtin.copy_,run_underlying ht,Builtin.lenOf,Builtin.firstCells,sizeOf,typeInfo,hinf,hl,hst,zV hx,zV hy,goInt]
theorem eF {e:TypeId} (ht:P.underlying t=some (.slice e)) (he:xQ P e zs sz bytes agg) (H:Hp w0 w S es) (i:Nat) {g o n c:Nat} {T:TypeId} {cs:List Value} (hx:ev l x=some (.slice (some ⟨g,o,none⟩) n c))
 (hi:es[i]? =some (some g,T,cs)) (hfit:o+n*sz≤cs.length) (h1:zs.all (·.oneCell')=true)
 (k:∀ w',Hp w0 w' S (es.set i (some g,T,zG cs o (initL zs n)))→Ops P ds all K Q os l w'):
 Ops P ds all K Q (⟨none,.call { callee:=.builtin .clear,args:=#[x],argTypes:=#[t] },ty,pos,af,none⟩::os) l w:=by
 obtain⟨z,hz,hr⟩:=oO he
 have hlen:zs.length=sz:=he.len
 have hzc:z.cells=zs.toArray:=by rw[← hz]
 have hil:(initL zs n).length=n*sz:=by rw[wR,hlen]
 have h1':∀ v∈initL zs n,v.oneCell'=true:=by
  intro v hv
  obtain⟨q,hq,hvq⟩:=List.mem_flatten.1 hv
  rw[(List.mem_replicate.1 hq).2]at hvq
  exact Ew.1 h1 v hvq
 have hst:=run_storeCells_at P g o T (initL zs n) 0 cs.toArray w (H.at hi) (by simpa[hil]using hfit) h1'
 have e1:(cs.toArray.toList.take (o+0)++initL zs n++cs.toArray.toList.drop (o+0+(initL zs n).length)).toArray=(zG cs o (initL zs n)).toArray:=by simp[zG]
 rw[e1]at hst
 have hzz:(Builtin.zeroCells z.cells n).toList=initL zs n:=by
  rw[hzc]
  have h2:=dW zs n
  rw[Hu]at h2
  unfold Builtin.zeroCells
  rw[Hu,h2]
 refine wpList_plain Y fun K' hK=>?_
 unfold Oper.wp
 rw[sB]
 have hx2:(execOp (rho l) ⟨none,.call { callee:=.builtin .clear,args:=#[x],argTypes:=#[t] },ty,pos,af,none⟩).run P w=.ok (.value (.tuple #[])) (w.setRow g (zG cs o (initL zs n)).toArray):=by
  cases n with
  | zero=>
   have h0:initL zs 0=[]:=by simp[initL]
   have h3:zG cs o []=cs:=by simp[zG]
   have hs:=setRow_self w g cs.toArray T (0,0) (H.at hi)
   rw[h0,h3,hs]
   simp[execOp,resolve,invoke,builtin,Builtin.clear_,run_underlying ht,zV hx]
  | succ n=>
   simp[execOp,resolve,invoke,builtin,Builtin.clear_,run_underlying ht,zV hx,hr,hzz,hst]
 rw[hx2,Oper.upon_value]
 exact hK _ _ (k _ (H.setRow hi _))
theorem lO {e tn:TypeId} {kn kq:IntKind} (ht:P.underlying t=some (.slice e)) (htn:P.underlying tn=some (.int kn)) (he:xQ P e zs sz bytes agg) (hsz:0 < sz) (H:Hp w0 w S es) {A0:Option Addr} {n cap m:Nat} {xs:List Value} (hx:ev l x=some (.slice A0 n cap)) (hrx:Rd w A0 n sz xs)
 (hy:ev l y=some (.int kq (m:Int))) (h0:0 < m) (hg:cap < n+m) (h63:n+m≤9223372036854775807) (hb:(n+m)*bytes≤211106232532992) (hb2:bytes≤1048576)
 (k:∀ w' g cap' sp',Hp w0 w' S (es++[(some g,e,(xs++initL zs m)++sp')])→cap'*sz≤((xs++initL zs m)++sp').length→n+m≤cap'→Ops P ds all K Q os (l.set d (.slice (hd (some g)) (n+m) cap')) w'):
 Ops P ds all K Q (⟨some d,.call { callee:=.builtin .append,args:=#[x,y],argTypes:=#[t,tn] },ty,pos,af,none⟩::os) l w:=by
 obtain⟨inf,z,dd,hinf,hz,hzs,rfl,rfl,_,_⟩:=he.ex
 have hzsz:z.cells.size=zs.length:=by rw[← hzs];simp
 have hlen:zs.length=inf.size:=he.len
 have hzc:z.cells=zs.toArray:=by rw[← hzs]
 have hfit:=X0 hg hb hb2
 have hold:(Builtin.firstCells inf.size n (.slice A0 n cap)).run P w.drew=.ok xs.toArray w.drew:=by
  cases A0 with
  | none=>
   have hn0:=hrx.nil rfl
   subst hn0
   have hxs:xs=[]:=Ec (by simpa using hrx.len)
   subst hxs
   exact run_firstCells_none _ _ _ _ _
  | some a=>exact run_firstCells_some _ inf.size n a n cap xs hrx.len (fun j u hu=>hrx.cells a rfl j u hu)
 have hrun:=Lib.run_append_grow_zeros (P:=P) w t tn ty e inf z kq kn ht htn hinf hz A0 n cap xs hold m h0 hsz hg (by omega) (Ci (Ci (Dp _ (Nat.le_add_left m n)) hb) (by omega)) hfit
 have hge:=grownCap_ge w (n+m) cap e
 have hzm:∀ q,Builtin.zeroCells z.cells q=(initL zs q).toArray:=by
  intro q
  rw[hzc]
  have h2:=dW zs q
  rw[Hu]at h2
  unfold Builtin.zeroCells
  rw[Hu,h2]
 rw[hzm,hzm]at hrun
 have H2:=(Hp.drew H).alloc e ((xs++initL zs m)++initL zs (grownCap w (n+m) cap e - (n+m)))
 refine zB (w':=w.drew.alloc (.cells ((xs++initL zs m)++initL zs (grownCap w (n+m) cap e - (n+m))).toArray e)) ?_ (k _ w.heap.size (grownCap w (n+m) cap e) (initL zs (grownCap w (n+m) cap e - (n+m))) H2 ?_ hge)
 · intro _ _ _ _
   have e2:(xs.toArray++(initL zs m).toArray++(initL zs (grownCap w (n+m) cap e - (n+m))).toArray)=((xs++initL zs m)++initL zs (grownCap w (n+m) cap e - (n+m))).toArray:=by simp
   rw[e2]at hrun
   simp[execOp,resolve,invoke,builtin,zV hx,zV hy,hrun]
 simp only[Af,wR,hrx.len,hlen,← Du]
 exact Dp _ (by omega)
theorem oS {f:FuncId} {args:Array Value} {p:Prop} {_:Decidable p} {R:World→Prop} (hx:Ex P l op ty w (.enter f args) w) (hc:zO P f args w fun r w'=>r=.bool (decide p)∧R w')
 (h1:p→∀ w',R w'→Ops P ds all K Q os (l.set d (.bool true)) w') (h2:¬p→∀ w',R w'→Ops P ds all K Q os (l.set d (.bool false)) w'):Ops P ds all K Q (⟨some d,op,ty,pos,af,none⟩::os) l w:=
 pC hx hc fun w' hr=>by
  by_cases hp:p
  · rw[decide_eq_true hp];exact h1 hp w' hr
  rw[decide_eq_false hp];exact h2 hp w' hr
theorem oR {f:FuncId} {args:Array Value} {p:Prop} {_:Decidable p} {R:World→Prop} (hx:Ex P l op ty w (.enter f args) w) (hc:zO P f args w fun r w'=>r=.bool (decide p)∧R w')
 (hp:p) (h1:∀ w',R w'→Ops P ds all K Q os (l.set d (.bool true)) w'):Ops P ds all K Q (⟨some d,op,ty,pos,af,none⟩::os) l w:=
 oS hx hc (fun _=>h1) fun h=>absurd hp h
theorem bt {p:Prop} {_:Decidable p} (h:p):Value.bool true=.bool (decide p):=by rw[decide_eq_true h]
theorem bf {p:Prop} {_:Decidable p} (h:¬p):Value.bool false=.bool (decide p):=by rw[decide_eq_false h]
theorem mC {f:FuncId} {fn:Func} {e:Array Value→Sem Value} {xs:List Operand} {vs:List Value} {ats:Array TypeId} (hf:P.funcs[f]? =some fn) (hname:(fn.name== "runtime.NumGoroutine")=false) (hb:fn.body.isNone=true) (hn:Extern.findNext fn=none) (he:Extern.find fn=some e)
 (hx:evs l xs=some vs) (hr:(e vs.toArray).run P w=.ok v w) (h:Ops P ds all K Q os (l.set d v) w):
 Ops P ds all K Q (⟨some d,.call { callee:=.value (.func f),args:=xs.toArray,argTypes:=ats },ty,pos,af,none⟩::os) l w:=by
 refine zB ?_ h
 intro _ _ _ _
 have hq:=run_callFunc_extern hf hname hb hn he vs.toArray w
 have hr2:rho l (.func f)=.func (.func f) #[] #[]:=rfl
 simp only[hr,Result.andThen_ok]at hq
 simp[execOp,resolve,Deferred.ofValue,invoke,nY hx,hq,hr2]
theorem dE (H:Hp w0 w S es) (k:∀ w' g,Hp w0 w' S es→w'.heap[g]? =some (.map #[] 0)→g=w.heap.size→Ops P ds all K Q os (l.set d (.map (some g))) w'):Ops P ds all K Q (⟨some d,.makeMap t none,ty,pos,af,none⟩::os) l w:=by
 refine zB (w':=w.alloc (.map #[] 0)) ?_ (k _ w.heap.size (H.YL _) (heap_alloc_new w _) Y)
 intro _ _ _ _
 simp[execOp,Instr.makeMap,newObj,Sem.run]
def mV (w:World) (r:Nat):Prop:=∃ es clock,w.heap[r]? =some (.map es clock)∧∀ x∈es.toList,MapKept.IsKey (.int .i64) x.key
theorem mV.not {w:World} {r:Nat} (h:mV w r):∀ arr T z,w.heap[r]?≠some (.cells arr T z):=by
 obtain⟨es,c,h,_⟩:=h
 intro arr T z h2
 rw[h]at h2
 cases h2
theorem mV.new {w:World} {r:Nat} (h:w.heap[r]? =some (.map #[] 0)):mV w r:=⟨_,_,h,fun x hx=>by cases hx⟩
theorem mV.to {w w':World} {S:List Nat} {es:List Ent} {r:Nat} (h:mV w r) (H:Hp w w' S es) (hr:r∉S):mV w' r:=by
 obtain⟨a,c,h1,h2⟩:=h
 exact⟨a,c,(H.frame r (Dw.1 h1).1 hr).trans h1,h2⟩
theorem Hp.putM (H:Hp w0 w S es) {r:Nat} {o:Obj} (hn:∀ arr T z,w.heap[r]?≠some (.cells arr T z)) (hr:w0.heap.size≤r):Hp w0 { w with heap:=w.heap.setIfInBounds r o } S es:=by
 refine⟨H.os,H.tape,H.output,by simpa using H.size,?_,?_,H.apart⟩
 · intro k hk hS
   have h1:¬r=k:=by omega
   rw[← H.frame k hk hS]
   simp[h1]
 intro i e he
 have h:=H.ent i e he
 unfold qV at h ⊢
 split
 · rename_i hg;rw[hg]at h;exact h
 rename_i g hg
 rw[hg]at h
 have h1:¬r=g:=fun hh=>hn _ _ _ (by rw[hh];exact h.1)
 exact⟨by rw[← h.1];simp[h1],h.2⟩
theorem jV {kt et:TypeId} {z:Operand} (hm:P.underlying t=some (.map kt et)) (hd:P.underlying kt=some (.int .i64)) (H:Hp w0 w S es) {r:Nat} {n:Int} (hx:ev l x=some (.map (some r))) (hy:ev l y=some (.int .i64 n)) (hz:ev l z=some v) (hI:mV w r) (hr:w0.heap.size≤r)
 (k:∀ w',Hp w0 w' S es→mV w' r→w'.heap.size=w.heap.size→Ops P ds all K Q os l w'):Ops P ds all K Q (⟨none,.mapUpdate t x y z,ty,pos,af,none⟩::os) l w:=by
 obtain⟨mes,clock,hb,hks⟩:=hI
 have hk:MapKept.IsKey (.int .i64) (.int .i64 n):=rfl
 have key:∃ o,(Instr.mapUpdate t (.map (some r)) (.int .i64 n) v).run P w=.ok () { w with heap:=w.heap.setIfInBounds r o }∧mV { w with heap:=w.heap.setIfInBounds r o } r:=by
  rcases MapKept.findNow_spec hk mes.toList 0 hks with ⟨h1,_⟩ | ⟨j,e,h1,h2,h3⟩
  · refine⟨.map (mes.push { key:=.int .i64 n,val:=v,born:=clock }) (clock+1),?_,_,_,(MapKept.heap_set hb).1,?_⟩
    · simp[Instr.mapUpdate,run_underlying hm,MapKept.run_getObj_map hb,MapKept.run_checkKey hd hk,MapKept.run_findKey hd h1,MapKept.run_setObj_map _ hb,Result.andThen]
    intro x hx
    simp only[Array.toList_push,Bj,Bc]at hx
    rcases hx with hx | rfl
    · exact hks x hx
    exact hk
  have hj:mes[j]? =some e:=by simpa using h2
  refine⟨.map (mes.modify j fun e=>{ e with key:=.int .i64 n,val:=v }) clock,?_,_,_,(MapKept.heap_set hb).1,?_⟩
  · simp[Instr.mapUpdate,run_underlying hm,MapKept.run_getObj_map hb,MapKept.run_checkKey hd hk,MapKept.run_findKey hd h1,hj,h3,MapKept.run_keyThatStays hk,MapKept.run_setObj_map _ hb,Result.andThen]
  intro x hx
  obtain⟨i,hi⟩:=Dh hx
  rw[Array.getElem?_toList,Array.getElem?_modify]at hi
  split at hi
  · cases h5:mes[i]? with
    | none=>rw[h5]at hi;cases hi
    | some y=>rw[h5]at hi;simp only[Hy,Option.some.injEq]at hi;subst hi;exact hk
  exact hks x (by rw[Array.mem_toList_iff];exact Array.mem_of_getElem? hi)
 obtain⟨o,hrun,hI2⟩:=key
 refine EP ?_ (k _ (H.putM (fun arr T z h=>by rw[hb]at h;cases h) hr) hI2 (by simp))
 intro _ _ _ _
 simp[execOp,zV hx,zV hy,zV hz,hrun]
end laws
inductive Vo 
 | nil
 | p (i:Nat) (s:Vo)
 | o (i:Nat) (s:Vo)
 | two (i:Nat) (s:Vo) (j:Nat) (t:Vo)
def Vo.size :Vo→Nat
 | .nil=>0
 | .p _ s=>s.size+1
 | .o _ s=>s.size+1
 | .two _ s _ _=>s.size+1
def Vo.isNil :Vo→Bool
 | .nil=>true
 | _=>false
theorem Vo.nil_of {s:Vo} (h:s.isNil=true):s=.nil:=by cases s <;>first | rfl | cases h
section mix
variable {P:Program} {ds:List Deferred} {all:List Oper} {S:World→Prop} {K:List Value→World→Prop} {l:List Value} {w:World} {o:Oper} {i:Nat}
def pG (P:Program) (ds:List Deferred) (all:List Oper) (S:World→Prop) (K:List Value→World→Prop):Vo→List Value→World→Prop
 | .nil,l,w=>K l w
 | .p i s,l,w=>∃ o,all[i]? =some o∧mZ P all S (pG P ds all S K s) o l w
 | .o i s,l,w=>∃ o,all[i]? =some o∧Ops P ds all (fun l' w'=>(s≠ .nil→S w')∧pG P ds all S K s l' w') (fun _ _ _=>False) [o] l w
 | .two i s j t,l,w=>(∃ o,all[i]? =some o∧Ops P ds all (fun l' w'=>(s≠ .nil→S w')∧pG P ds all S K s l' w') (fun _ _ _=>False) [o] l w)∧
  (∃ o,all[j]? =some o∧Ops P ds all (fun l' w'=>(t≠ .nil→S w')∧pG P ds all S K t l' w') (fun _ _ _=>False) [o] l w)
theorem rA (h:K l w):pG P ds all S K .nil l w:=h
theorem CN {s:Vo} (ho:all[i]? =some o) (h:mZ P all S (pG P ds all S K s) o l w):pG P ds all S K (.p i s) l w:=⟨o,ho,h⟩
theorem PC {s:Vo} (ho:all[i]? =some o) (h:Ops P ds all (fun l' w'=>(s≠ .nil→S w')∧pG P ds all S K s l' w') (fun _ _ _=>False) [o] l w):pG P ds all S K (.o i s) l w:=⟨o,ho,h⟩
theorem pU {s t:Vo} {j:Nat} (h1:pG P ds all S K (.o i s) l w) (h2:pG P ds all S K (.o j t) l w):pG P ds all S K (.two i s j t) l w:=⟨h1,h2⟩
def Ro (ops:Array Oper) (z:Nat):Vo→Array Bool→Bool
 | .nil,listed=>(Region.ready .any ops listed).isEmpty
 | .p i s,listed=>decide (i < z) && (Region.ready .any ops listed).contains i && Region.free .any ops listed i && Ro ops z s (listed.setIfInBounds i true)
 | .o i s,listed=>((decide (i < z) && !s.isNil) || (decide (i=z) && s.isNil)) && decide (Region.ready .any ops listed=[i]) && Ro ops z s (listed.setIfInBounds i true)
 | .two i s j t,listed=>decide (i < z) && decide (j < z) && !s.isNil && !t.isNil && decide (s.size=t.size) && decide (Region.ready .any ops listed=[i,j]) && Ro ops z s (listed.setIfInBounds i true) && Ro ops z t (listed.setIfInBounds j true)
theorem eJ {z:Nat} {s:Vo} {listed:Array Bool} (hd:s.isNil=false∨i=z) (h:∃ o,all[i]? =some o∧Ops P ds all (fun l' w'=>(s≠ .nil→S w')∧pG P ds all S K s l' w') (fun _ _ _=>False) [o] l w)
 (IH:∀ (l:List Value) (w:World),(s≠ .nil→S w)→pG P ds all S K s l w→oL P all.toArray (fun e a w'=>a.defers=ds∧uR K (fun _ _ _=>False) e a.tmps.toList w') S z s.size (listed.setIfInBounds i true) ⟨l.toArray,ds⟩ w):
 wpOp P all.toArray (fun e a w'=>a.defers=ds∧uR K (fun _ _ _=>False) e a.tmps.toList w') i (fun a' w'=>(i≠z→S w')∧oL P all.toArray (fun e a w'=>a.defers=ds∧uR K (fun _ _ _=>False) e a.tmps.toList w') S z s.size (listed.setIfInBounds i true) a' w') ⟨l.toArray,ds⟩ w:=by
 obtain⟨o,ho,h⟩:=h
 unfold Ops wpList at h
 unfold wpOp
 rw[Gx,ho]
 simp only
 have hne:i≠z→s≠ .nil:=fun h1 h3=>by
  subst h3
  rcases hd with h2 | h2
  · cases h2
  exact h1 h2
 have ih:∀ (a:Act) w',(a.defers=ds∧(s≠ .nil→S w')∧pG P ds all S K s a.tmps.toList w')→((i≠z→S w')∧oL P all.toArray (fun e a w'=>a.defers=ds∧uR K (fun _ _ _=>False) e a.tmps.toList w') S z s.size (listed.setIfInBounds i true) a w'):=by
  rintro⟨t,d⟩ w' ⟨hd,hS',h2⟩
  simp only at hd
  subst hd
  exact⟨fun h1=>hS' (hne h1),IH _ _ hS' h2⟩
 have hq:∀ (e:Exit) (a:Act) w',e≠ .normal→Exit.then (fun(a:Act) w'=>a.defers=ds∧(s≠ .nil→S w')∧pG P ds all S K s a.tmps.toList w') (fun _ a _=>a.defers=ds∧False) e a w'→(a.defers=ds∧uR K (fun _ _ _=>False) e a.tmps.toList w'):=by
  intro e a w' he h
  cases e <;>first | exact absurd rfl he | exact h.2.elim
 split
 · rename_i hw
   rw[if_pos hw]at h
   rcases h with h | ⟨h1,a1,w1,h2⟩
   · exact .inl (Oper.wp_mono ih (lA hq h))
   exact .inr ⟨h1,a1,w1,hq _ _ _ (by simp) h2⟩
 rename_i hw
 rw[if_neg hw]at h
 exact ih _ _ h
theorem PD {z:Nat} (hsel:Region.noSelect all.toArray=true) (hs:Region.sinkB .any all.toArray z=true) (hz:z+1=all.toArray.size):∀ (s:Vo) (listed:Array Bool) (l:List Value) (w:World),(s≠ .nil→HeadInv .any all.toArray z listed)→Ro all.toArray z s listed=true→(s≠ .nil→S w)→pG P ds all S K s l w→
 oL P all.toArray (fun e a w'=>a.defers=ds∧uR K (fun _ _ _=>False) e a.tmps.toList w') S z s.size listed ⟨l.toArray,ds⟩ w:=by
 intro s
 induction s with
 | nil=>intro listed l w _ hB _ h;exact⟨by simpa[Ro]using hB,rfl,h⟩
 | o i s IH=>
  intro listed l w inv hB hS h
  simp only[Ro,Ce,Bool.or_eq_true,decide_eq_true_eq,Bool.not_eq_true']at hB
  obtain⟨⟨hiz,hr⟩,hB'⟩:=hB
  have Ho:i∈Region.ready .any all.toArray listed:=by rw[hr];simp
  have hlast:s≠ .nil→i < z:=fun h=>by
   rcases hiz with h1 | h1
   · exact h1.1
   exact absurd (Vo.nil_of h1.2) h
  refine⟨fun h0=>(by rw[hr]at h0;cases h0),fun k hk=>?_⟩
  have hki:k=i:=by rw[hr]at hk;simpa using hk
  rw[hki]
  exact eJ (by rcases hiz with h1 | h1;exact .inl h1.2;exact .inr h1.1) h fun l w hS' h2=>IH _ _ _ (fun h1=>(inv (by simp)).set Ho (hlast h1)) hB' hS' h2
 | two i s j t IH1 IH2=>
  intro listed l w inv hB hS h
  simp only[Ro,Ce,decide_eq_true_eq,Bool.not_eq_true']at hB
  obtain⟨⟨⟨⟨⟨⟨⟨hiz,hjz⟩,hsn⟩,htn⟩,hsz⟩,hr⟩,hB1⟩,hB2⟩:=hB
  have hri:i∈Region.ready .any all.toArray listed:=by rw[hr];simp
  have hrj:j∈Region.ready .any all.toArray listed:=by rw[hr];simp
  refine⟨fun h0=>(by rw[hr]at h0;cases h0),fun k hk=>?_⟩
  have hk2:k=i∨k=j:=by rw[hr]at hk;simpa using hk
  rcases hk2 with rfl | rfl
  · exact eJ (.inl hsn) h.1 fun l w hS' h2=>IH1 _ _ _ (fun _=>(inv (by simp)).set hri hiz) hB1 hS' h2
  rw[hsz]
  exact eJ (.inl htn) h.2 fun l w hS' h2=>IH2 _ _ _ (fun _=>(inv (by simp)).set hrj hjz) hB2 hS' h2
 | p i s IH=>
  rintro listed l w inv hB hS ⟨o,ho,v,hv,hK⟩
  simp only[Ro,Ce,decide_eq_true_eq]at hB
  obtain⟨⟨⟨hiz,hr⟩,hf⟩,hB'⟩:=hB
  have hi:all.toArray[i]? =some o:=by rw[Gx];exact ho
  have Ho:i∈Region.ready .any all.toArray listed:=by simpa using hr
  refine KH (oi:=o) (v:=v) hi (Om hsel) (fun _ _ _ h=>h.2.elim) hs hz hiz s.size listed _ w (inv (by simp)) (Ol hi hf) Ho ?_ (hS (by simp)) ?_
  · rcases hv with ⟨h1,h2⟩ | ⟨h1,h2⟩
    · exact .inl ⟨h1,by rw[sB];exact h2⟩
    exact .inr ⟨h1,h2⟩
  rw[nH]
  exact IH _ _ _ (fun _=>(inv (by simp)).set Ho hiz) hB' (fun _=>hS (by simp)) hK
theorem qJ {Q:vQ} {cs:List Code} {n:Nat} {w0:World} {SS:List Nat} {es:List Ent} (z:Nat) (s:Vo) (H:Hp w0 w SS es) (idx:List Nat) (hm:P.follows .mixedOrders=true) (hnd:idx.Nodup)
 (hB:(Region.noSelect all.toArray && decide (s.size=all.length) && decide (z+1=all.length) && Region.sinkB .any all.toArray z && Ro all.toArray z s (Array.replicate all.length false))=true)
 (h:∀ w',w'={ w with drawn:=w.drawn+1 }→pG P ds all (fun wz=>Hp w0 wz SS (idx.map fun i=>es.getD i (none,0,[]))) (Run P ds cs Q) s l w'):Run P ds (.region n all.toArray true::cs) Q l w:=by
 simp only[Ce,decide_eq_true_eq]at hB
 obtain⟨⟨⟨⟨hsel,hlen⟩,hz⟩,hs⟩,hB⟩:=hB
 show Cd P ds _ _ l w
 unfold Cd
 have inv0:HeadInv .any all.toArray z (Array.replicate all.toArray.size false):=
  ⟨by simp,fun j oj _ hl=>(by rw[getD_replicate_false]at hl;cases hl),fun t _ ht=>getD_in (by simpa using ht) (getD_replicate_false _ _)⟩
 refine Go.wp_mono (Q:=fun e a w'=>a.defers=ds∧uR (Run P ds cs Q) (fun _ _ _=>False) e a.tmps.toList w') (wp_region_any hm ?_) ?_
 · have:=PD (S:=fun wz=>Hp w0 wz SS (idx.map fun i=>es.getD i (none,0,[]))) (K:=Run P ds cs Q) (P:=P) (ds:=ds) hsel hs (by simpa using hz) s _ l { w with drawn:=w.drawn+1 } (fun _=>by simpa using inv0) hB (fun _=>H.drew.pick idx hnd) (h _ rfl)
   rw[hlen]at this
   have h2:=kK _ _ _ _ this
   simpa using h2
 rintro e a w' ⟨hd,h2⟩
 cases e <;>first | exact⟨hd,h2⟩ | exact h2.elim
end mix
inductive Scl 
 | nil
 | a (i:Nat) (s:Scl)
 | b (i:Nat) (s:Scl)
 | o (i:Nat) (s:Scl)
 | z (i:Nat) (s:Scl)
def Scl.size :Scl→Nat
 | .nil=>0
 | .a _ s=>s.size+1
 | .b _ s=>s.size+1
 | .o _ s=>s.size+1
 | .z _ s=>s.size+1
def ZM (Z:List Nat) (listed:Array Bool):Prop:=∀ z∈Z,listed.getD z false=false
structure Clo (ops:Array Oper) (listed:Array Bool):Prop where
 size:listed.size=ops.size
 closed:∀ j oj,ops[j]? =some oj→listed.getD j false=true→∀ e∈oj.after,Region.binds .any e=true→listed.getD e.on false=true
def VF (ops:Array Oper) (a b:Nat):Bool:=match ops[b]? with
 | some o=>o.after.any fun e=>Region.binds .any e && e.on==a
 | none=>false
def EJ (ops:Array Oper):Nat→List Nat→Nat→Bool
 | a,[],z=>a==z
 | a,b::p,z=>VF ops a b && EJ ops b p z
section mix
variable {P:Program} {ds:List Deferred} {ops:Array Oper} {all:List Oper} {S S':World→Prop} {K:List Value→World→Prop} {l:List Value} {w:World} {o:Oper} {i:Nat} {Z:List Nat} {listed:Array Bool}
theorem Clo.set (inv:Clo ops listed) (hi:i∈Region.ready .any ops listed):Clo ops (listed.setIfInBounds i true):=by
 obtain⟨_,oi,hoi,hall⟩:=mem_ready.1 hi
 refine⟨by simp[inv.size],fun j oj hj hl e he hb=>?_⟩
 by_cases hij:i=j
 · subst hij
   have:oj=oi:=Option.some.inj (hj.symm.trans hoi)
   subst this
   exact getD_set_true (hall e he hb)
 rw[getD_set_ne false hij]at hl
 exact getD_set_true (inv.closed j oj hj hl e he hb)
theorem I3 (inv:Clo ops listed):∀ (p:List Nat) (a z:Nat),EJ ops a p z=true→listed.getD a false=false→listed.getD z false=false
 | [],a,z,h,h0=>by
  have:a=z:=by simpa[EJ]using h
  rw[← this];exact h0
 | b::p,a,z,h,h0=>by
  simp only[EJ,Ce]at h
  refine I3 inv p b z h.2 ?_
  cases hb:listed.getD b false with
  | false=>rfl
  | true=>
   have h1:=h.1
   unfold VF at h1
   split at h1
   · rename_i o ho
     obtain⟨e,he,h2⟩:=Array.any_eq_true'.1 h1
     simp only[Ce,beq_iff_eq]at h2
     have h3:=inv.closed b o ho hb e he h2.1
     rw[h2.2,h0]at h3
     cases h3
   cases h1
theorem ZM.less (h:ZM Z (listed.setIfInBounds i true)):ZM Z listed:=fun z hz=>by
 cases hb:listed.getD z false with
 | false=>rfl
 | true=>have h1:=h z hz;rw[getD_set_true hb]at h1;cases h1
def wpAnyL (P:Program) (ops:Array Oper) (Q:Exit→Act→World→Prop) (S:World→Prop) (Z:List Nat):Nat→Array Bool→Act→World→Prop
 | 0,listed,a,w=>Region.ready .any ops listed=[]∧Q .normal a w
 | f+1,listed,a,w=>(Region.ready .any ops listed=[]→Q .normal a w)∧
  ∀ i∈Region.ready .any ops listed,wpOp P ops Q i (fun a' w'=>(ZM Z (listed.setIfInBounds i true)→S w')∧wpAnyL P ops Q S Z f (listed.setIfInBounds i true) a' w') a w
theorem F6 {Q:Exit→Act→World→Prop}:∀ (f:Nat) (listed:Array Bool) (a:Act) (w:World),wpAnyL P ops Q S Z f listed a w→wpAny P .any ops Q f listed a w
 | 0,_,_,_,h=>h
 | f+1,_,_,_,h=>⟨h.1,fun i hi=>wpOp_mono (fun a' w' h'=>F6 f _ a' w' h'.2) (h.2 i hi)⟩
theorem KM {Q:Exit→Act→World→Prop} {oi:Oper} {v:Value} (hi:ops[i]? =some oi) (hsel:∀ (j:Nat) (o:Oper) cs b,ops[j]? =some o→o.op≠ .select cs b)
 (hQ:∀ c a w,Q (.panic c) (a.put oi.dst v) w→Q (.panic c) a w) (hiZ:i∉Z) (hS':∀ listed w,Clo ops listed→listed.getD i true=false→(ZM Z listed→S w)→S' w):
 ∀ (f:Nat) (listed:Array Bool) (a:Act) (w:World),Clo ops listed→
  (∀ j oj,ops[j]? =some oj→j≠i→listed.getD j true=false→(∀ e∈oj.after,Region.binds .any e=true→e.on≠i)→oi.apart ops oj=true)→
  i∈Region.ready .any ops listed→tW P ops S' oi v a→(ZM Z listed→S w)→
  wpAnyL P ops Q S Z f (listed.setIfInBounds i true) (a.put oi.dst v) w→wpAnyL P ops Q S Z (f+1) listed a w:=by
 intro f
 induction f with
 | zero=>
  intro listed a w inv _ hr hy hS H
  refine⟨fun h=>(by rw[h]at hr;cases hr),fun j hj=>?_⟩
  by_cases hji:j=i
  · rw[hji];exact hy.wpOp hi (hS' _ _ inv (mem_ready.1 hr).1 hS) ⟨fun hz=>hS hz.less,H⟩
  have h1:=ready_mono hj hji
  rw[H.1]at h1
  cases h1
 | succ f ih=>
  intro listed a w inv hfree hr hy hS H
  refine⟨fun h=>(by rw[h]at hr;cases hr),fun j hj=>?_⟩
  by_cases hji:j=i
  · rw[hji];exact hy.wpOp hi (hS' _ _ inv (mem_ready.1 hr).1 hS) ⟨fun hz=>hS hz.less,H⟩
  have h1:=H.2 j (ready_mono hj hji)
  obtain⟨hjun,oj,hoj,hall⟩:=mem_ready.1 hj
  have Xb:=(mem_ready.1 hr).1
  have hnot:∀ e∈oj.after,Region.binds .any e=true→e.on≠i:=fun e he hb heq=>by
   have h2:=hall e he hb
   rw[heq,getD_both Xb]at h2
   cases h2
  have h2:=kN hoj (hfree j oj hoj hji hjun hnot) (fun cs b=>hsel i oi cs b hi) (fun cs b=>hsel j oj cs b hoj) hQ hy h1
  refine wpOp_mono (fun a' w' h3=>?_) h2
  have hz:ZM Z (listed.setIfInBounds j true)→S w':=fun hn=>h3.2.1 fun z hz=>by
   rw[Qb _ _ (Ne.symm hji),getD_set_ne false (fun e=>hiZ (by rw[e];exact hz))]
   exact hn z hz
  refine⟨hz,ih (listed.setIfInBounds j true) a' w' (inv.set hj) (fun k ok hk hki hun hno=>?_) (ready_mono hr (Ne.symm hji)) h3.1 hz ?_⟩
  · refine hfree k ok hk hki ?_ hno
    by_cases hjk:j=k
    · rw[← hjk];exact hjun
    rw[getD_set_ne true hjk]at hun;exact hun
  rw[Qb _ _ hji]
  exact h3.2.2
def oZ (P:Program) (ds:List Deferred) (all:List Oper) (S:World→Prop) (K:List Value→World→Prop):Scl→List Value→World→Prop
 | .nil,l,w=>K l w
 | .a i s,l,w=>∃ o,all[i]? =some o∧mZ P all S (oZ P ds all S K s) o l w
 | .b i s,l,w=>∃ o,all[i]? =some o∧mZ P all (fun _=>True) (oZ P ds all S K s) o l w
 | .o i s,l,w=>∃ o,all[i]? =some o∧Ops P ds all (fun l' w'=>S w'∧oZ P ds all S K s l' w') (fun _ _ _=>False) [o] l w
 | .z i s,l,w=>∃ o,all[i]? =some o∧Ops P ds all (fun l' w'=>oZ P ds all S K s l' w') (fun _ _ _=>False) [o] l w
theorem EY (h:K l w):oZ P ds all S K .nil l w:=h
theorem bS {s:Scl} (ho:all[i]? =some o) (h:mZ P all S (oZ P ds all S K s) o l w):oZ P ds all S K (.a i s) l w:=⟨o,ho,h⟩
theorem uG {s:Scl} (ho:all[i]? =some o) (h:mZ P all (fun _=>True) (oZ P ds all S K s) o l w):oZ P ds all S K (.b i s) l w:=⟨o,ho,h⟩
theorem bR {s:Scl} (ho:all[i]? =some o) (h:Ops P ds all (fun l' w'=>S w'∧oZ P ds all S K s l' w') (fun _ _ _=>False) [o] l w):oZ P ds all S K (.o i s) l w:=⟨o,ho,h⟩
theorem bQ {s:Scl} (ho:all[i]? =some o) (h:Ops P ds all (fun l' w'=>oZ P ds all S K s l' w') (fun _ _ _=>False) [o] l w):oZ P ds all S K (.z i s) l w:=⟨o,ho,h⟩
def lT (ops:Array Oper) (Z:List Nat) (ps:List (Nat×List Nat)):Scl→Array Bool→Bool
 | .nil,listed=>(Region.ready .any ops listed).isEmpty
 | .a i s,listed=>!Z.contains i && Z.all (fun z=>ps.any fun p=>p.1==i && EJ ops i p.2 z) && (Region.ready .any ops listed).contains i && Region.free .any ops listed i && lT ops Z ps s (listed.setIfInBounds i true)
 | .b i s,listed=>!Z.contains i && (Region.ready .any ops listed).contains i && Region.free .any ops listed i && lT ops Z ps s (listed.setIfInBounds i true)
 | .o i s,listed=>decide (Region.ready .any ops listed=[i]) && lT ops Z ps s (listed.setIfInBounds i true)
 | .z i s,listed=>(Z.contains i || Z.any fun z=>listed.getD z false) && decide (Region.ready .any ops listed=[i]) && lT ops Z ps s (listed.setIfInBounds i true)
theorem BD {s:Scl} {T:World→Prop} (ho:all[i]? =some o) (h:Ops P ds all (fun l' w'=>T w'∧oZ P ds all S K s l' w') (fun _ _ _=>False) [o] l w)
 (IH:∀ (l:List Value) (w:World),T w→oZ P ds all S K s l w→(ZM Z (listed.setIfInBounds i true)→S w)∧wpAnyL P all.toArray (fun e a w'=>a.defers=ds∧uR K (fun _ _ _=>False) e a.tmps.toList w') S Z s.size (listed.setIfInBounds i true) ⟨l.toArray,ds⟩ w):
 wpOp P all.toArray (fun e a w'=>a.defers=ds∧uR K (fun _ _ _=>False) e a.tmps.toList w') i (fun a' w'=>(ZM Z (listed.setIfInBounds i true)→S w')∧wpAnyL P all.toArray (fun e a w'=>a.defers=ds∧uR K (fun _ _ _=>False) e a.tmps.toList w') S Z s.size (listed.setIfInBounds i true) a' w') ⟨l.toArray,ds⟩ w:=by
 unfold Ops wpList at h
 unfold wpOp
 rw[Gx,ho]
 simp only
 have ih:∀ (a:Act) w',(a.defers=ds∧T w'∧oZ P ds all S K s a.tmps.toList w')→((ZM Z (listed.setIfInBounds i true)→S w')∧wpAnyL P all.toArray (fun e a w'=>a.defers=ds∧uR K (fun _ _ _=>False) e a.tmps.toList w') S Z s.size (listed.setIfInBounds i true) a w'):=by
  rintro⟨t,d⟩ w' ⟨hd,hT,h2⟩
  simp only at hd
  subst hd
  exact IH _ _ hT h2
 have hq:∀ (e:Exit) (a:Act) w',e≠ .normal→Exit.then (fun(a:Act) w'=>a.defers=ds∧T w'∧oZ P ds all S K s a.tmps.toList w') (fun _ a _=>a.defers=ds∧False) e a w'→(a.defers=ds∧uR K (fun _ _ _=>False) e a.tmps.toList w'):=by
  intro e a w' he h
  cases e <;>first | exact absurd rfl he | exact h.2.elim
 split
 · rename_i hw
   rw[if_pos hw]at h
   rcases h with h | ⟨h1,a1,w1,h2⟩
   · exact .inl (Oper.wp_mono ih (lA hq h))
   exact .inr ⟨h1,a1,w1,hq _ _ _ (by simp) h2⟩
 rename_i hw
 rw[if_neg hw]at h
 exact ih _ _ h
theorem lS {ps:List (Nat×List Nat)} (hsel:Region.noSelect all.toArray=true):∀ (s:Scl) (listed:Array Bool) (l:List Value) (w:World),Clo all.toArray listed→lT all.toArray Z ps s listed=true→(ZM Z listed→S w)→oZ P ds all S K s l w→
 wpAnyL P all.toArray (fun e a w'=>a.defers=ds∧uR K (fun _ _ _=>False) e a.tmps.toList w') S Z s.size listed ⟨l.toArray,ds⟩ w
 | .nil,listed,l,w,_,hB,_,h=>⟨by simpa[lT]using hB,rfl,h⟩
 | .a i s,listed,l,w,inv,hB,hS,⟨o,ho,v,hv,hK⟩=>by
  simp only[lT,Ce,Bool.not_eq_true']at hB
  obtain⟨⟨⟨⟨h1,h2⟩,hr⟩,hf⟩,hB'⟩:=hB
  have hi:all.toArray[i]? =some o:=by rw[Gx];exact ho
  have Ho:i∈Region.ready .any all.toArray listed:=by simpa using hr
  refine KM (S':=S) (oi:=o) (v:=v) hi (Om hsel) (fun _ _ _ h=>h.2.elim) (by simpa using h1) (fun listed w inv hun hS=>hS fun z hz=>?_) s.size listed _ w inv (Ol hi hf) Ho ?_ hS ?_
  · obtain⟨p,_,hp⟩:=List.any_eq_true.1 (Ew.1 h2 z hz)
    simp only[Ce,beq_iff_eq]at hp
    exact I3 inv _ _ _ hp.2 (getD_both hun)
  · rcases hv with ⟨h1,h2⟩ | ⟨h1,h2⟩
    · exact .inl ⟨h1,by rw[sB];exact h2⟩
    exact .inr ⟨h1,h2⟩
  rw[nH]
  exact lS hsel s _ _ _ (inv.set Ho) hB' (fun hz=>hS hz.less) hK
 | .b i s,listed,l,w,inv,hB,hS,⟨o,ho,v,hv,hK⟩=>by
  simp only[lT,Ce,Bool.not_eq_true']at hB
  obtain⟨⟨⟨h1,hr⟩,hf⟩,hB'⟩:=hB
  have hi:all.toArray[i]? =some o:=by rw[Gx];exact ho
  have Ho:i∈Region.ready .any all.toArray listed:=by simpa using hr
  refine KM (S':=fun _=>True) (oi:=o) (v:=v) hi (Om hsel) (fun _ _ _ h=>h.2.elim) (by simpa using h1) (fun _ _ _ _ _=>trivial) s.size listed _ w inv (Ol hi hf) Ho ?_ hS ?_
  · rcases hv with ⟨h1,h2⟩ | ⟨h1,h2⟩
    · exact .inl ⟨h1,by rw[sB];exact h2⟩
    exact .inr ⟨h1,h2⟩
  rw[nH]
  exact lS hsel s _ _ _ (inv.set Ho) hB' (fun hz=>hS hz.less) hK
 | .o i s,listed,l,w,inv,hB,hS,⟨o,ho,h⟩=>by
  simp only[lT,Ce,decide_eq_true_eq]at hB
  have Ho:i∈Region.ready .any all.toArray listed:=by rw[hB.1];simp
  refine⟨fun h0=>(by rw[hB.1]at h0;cases h0),fun k hk=>?_⟩
  have hki:k=i:=by rw[hB.1]at hk;simpa using hk
  rw[hki]
  exact BD (T:=S) ho h fun l w hT h2=>⟨fun _=>hT,lS hsel s _ _ _ (inv.set Ho) hB.2 (fun _=>hT) h2⟩
 | .z i s,listed,l,w,inv,hB,hS,⟨o,ho,h⟩=>by
  simp only[lT,Ce,Bool.or_eq_true,decide_eq_true_eq]at hB
  obtain⟨⟨hz,hr⟩,hB'⟩:=hB
  have Ho:i∈Region.ready .any all.toArray listed:=by rw[hr];simp
  refine⟨fun h0=>(by rw[hr]at h0;cases h0),fun k hk=>?_⟩
  have hki:k=i:=by rw[hr]at hk;simpa using hk
  rw[hki]
  have hno:¬ZM Z (listed.setIfInBounds i true):=fun hn=>by
   rcases hz with h1 | h1
   · have h2:=hn i (by simpa using h1)
     have h3:i < listed.size:=by
      rw[inv.size]
      obtain⟨_,o',ho',_⟩:=mem_ready.1 Ho
      exact(Dw.1 ho').1
     simp[h3]at h2
   obtain⟨z,hz,h2⟩:=List.any_eq_true.1 h1
   have h3:=hn z hz
   rw[getD_set_true h2]at h3
   cases h3
  refine BD (T:=fun _=>True) ho ?_ fun l w _ h2=>⟨fun hn=>absurd hn hno,lS hsel s _ _ _ (inv.set Ho) hB' (fun hn=>absurd hn hno) h2⟩
  simpa using h
theorem DV {Q:vQ} {cs:List Code} {n:Nat} {w0:World} {SS:List Nat} {es:List Ent} (Z:List Nat) (ps:List (Nat×List Nat)) (s:Scl) (H:Hp w0 w SS es) (idx:List Nat) (hm:P.follows .mixedOrders=true) (hnd:idx.Nodup)
 (hB:(Region.noSelect all.toArray && decide (s.size=all.length) && lT all.toArray Z ps s (Array.replicate all.length false))=true)
 (h:∀ w',w'={ w with drawn:=w.drawn+1 }→oZ P ds all (fun wz=>Hp w0 wz SS (idx.map fun i=>es.getD i (none,0,[]))) (Run P ds cs Q) s l w'):Run P ds (.region n all.toArray true::cs) Q l w:=by
 simp only[Ce,decide_eq_true_eq]at hB
 obtain⟨⟨hsel,hlen⟩,hB⟩:=hB
 show Cd P ds _ _ l w
 unfold Cd
 have inv0:Clo all.toArray (Array.replicate all.length false):=
  ⟨by simp,fun j oj _ hl=>(by rw[getD_replicate_false]at hl;cases hl)⟩
 refine Go.wp_mono (Q:=fun e a w'=>a.defers=ds∧uR (Run P ds cs Q) (fun _ _ _=>False) e a.tmps.toList w') (wp_region_any hm ?_) ?_
 · have:=lS (S:=fun wz=>Hp w0 wz SS (idx.map fun i=>es.getD i (none,0,[]))) (K:=Run P ds cs Q) (P:=P) (ds:=ds) hsel s _ l { w with drawn:=w.drawn+1 } inv0 hB (fun _=>H.drew.pick idx hnd) (h _ rfl)
   rw[hlen]at this
   have h2:=F6 _ _ _ _ this
   simpa using h2
 rintro e a w' ⟨hd,h2⟩
 cases e <;>first | exact⟨hd,h2⟩ | exact h2.elim
end mix
section
variable {P:Program} {ds:List Deferred} {Q:vQ} {K:List Value→World→Prop} {KS:List Value→Prop} {all os:List Oper} {l l':List Value} {w w0:World} {ty t:TypeId} {pos:String} {af:Array Edge} {d:Tmp} {v:Value} {S:World→Prop} {x y z:Operand} {i n:Nat} {s:List (Bool×Nat)} {cs:List Code} {c1 c2:Code} {a:Addr} {f off:Nat} {ft:TypeId} {bk o:Nat}
abbrev Jw (l:List Value):Prop:=l=l
def FLk :List (Nat×Value)→Nat→Option Value
 | [],_=>none
 | (i,v)::r,k=>match Nat.beq i k with
  | true=>some v
  | false=>FLk r k
def Ik (kv:List (Nat×Value)):Nat→Nat→List (Option Value)
 | _,0=>[]
 | k,n+1=>FLk kv k::Ik kv (k+1) n
theorem cR (e:l=l') (h:Run P ds cs Q l' w):Run P ds cs Q l w:=by rw[e];exact h
theorem Ae (e:l=l') (h:Ops P ds all K Q os l' w):Ops P ds all K Q os l w:=by rw[e];exact h
theorem vN (e:l=l') (h:yT P ds all w KS os l'):yT P ds all w KS os l:=by rw[e];exact h
theorem cZ (e:l=l') (h:oY P ds all S K s l' w):oY P ds all S K s l w:=by rw[e];exact h
theorem cM (e:l=l') (h:rT P ds all S K s l' w):rT P ds all S K s l w:=by rw[e];exact h
theorem Xr (e:l=l') (h:K l' w):Ops P ds all K Q [] l w:=yD (by rw[e];exact h)
theorem Rq {os:List Oper} (h:Ops P ds os (Run P ds (c2::cs) Q) Q os l w):Run P ds (.seq (.region n os.toArray false) c2::cs) Q l w:=zN (zI h)
theorem Xm (h:ev l x=some v) (k:Ops P ds all K Q os (l.set d v) w):Ops P ds all K Q (⟨some d,.move x,ty,pos,af,none⟩::os) l w:=zB (zK h) k
theorem Xa (h:ev l x=some v) (k:Ops P ds all K Q os (l.set d v) w):Ops P ds all K Q (⟨some d,.assign x,ty,pos,af,none⟩::os) l w:=zB (zP h) k
theorem Xt (hc:ev l x=some (.bool true)) (h:ev l y=some v) (k:Ops P ds all K Q os (l.set d v) w):Ops P ds all K Q (⟨some d,.pick x y z,ty,pos,af,none⟩::os) l w:=zB (xS hc h) k
theorem Xu (hc:ev l x=some (.bool false)) (h:ev l z=some v) (k:Ops P ds all K Q os (l.set d v) w):Ops P ds all K Q (⟨some d,.pick x y z,ty,pos,af,none⟩::os) l w:=zB (vL hc h) k
theorem Xe {vs:List Value} {i:Nat} (hx:ev l x=some (.tuple vs.toArray)) (hi:vs[i]? =some v) (k:Ops P ds all K Q os (l.set d v) w):Ops P ds all K Q (⟨some d,.extract x i,ty,pos,af,none⟩::os) l w:=zB (xA hx hi) k
theorem Xn {b:Bool} (h:ev l x=some (.bool b)) (k:Ops P ds all K Q os (l.set d (.bool (!b))) w):Ops P ds all K Q (⟨some d,.unOp .not t x,ty,pos,af,none⟩::os) l w:=zB (aF h) k
theorem Xc (h:ev l x=some (.pointer (some a))) (k:Ops P ds all K Q os (l.set d (.pointer (some a))) w):Ops P ds all K Q (⟨some d,.nilCheck x,ty,pos,af,none⟩::os) l w:=zB (yH h) k
theorem Xf (hf:yC P t f=some (off,ft)) (hx:ev l x=some (.pointer (some ⟨bk,o,none⟩))) (k:Ops P ds all K Q os (l.set d (.pointer (some ⟨bk,o+off,none⟩))) w):Ops P ds all K Q (⟨some d,.fieldAddr t x f,ty,pos,af,none⟩::os) l w:=zB (rR hf hx) k
theorem Zm (ho:all[i]? =some ⟨some d,.move x,ty,pos,af,none⟩) (h:ev l x=some v) (k:oY P ds all S K s (l.set d v) w):oY P ds all S K ((true,i)::s) l w:=bO ho (rN (fun _ _=>zK h) k)
theorem Zc (ho:all[i]? =some ⟨some d,.nilCheck x,ty,pos,af,none⟩) (h:ev l x=some (.pointer (some a))) (k:oY P ds all S K s (l.set d (.pointer (some a))) w):oY P ds all S K ((true,i)::s) l w:=bO ho (rN (fun _ _=>yH h) k)
theorem Zf (ho:all[i]? =some ⟨some d,.fieldAddr t x f,ty,pos,af,none⟩) (hf:yC P t f=some (off,ft)) (hx:ev l x=some (.pointer (some ⟨bk,o,none⟩))) (k:oY P ds all S K s (l.set d (.pointer (some ⟨bk,o+off,none⟩))) w):oY P ds all S K ((true,i)::s) l w:=bO ho (rN (fun _ _=>rR hf hx) k)
theorem QH :∀ (kv:List (Nat×Value)) (n k:Nat) (l pre:List Value),pre.length=k→l.length=n→(∀ i v,FLk kv i=some v→nth (pre++l) i=some v)→xO (Ik kv k n) l
 | kv,0,k,l,pre,hk,hl,h=>Ec hl
 | kv,n+1,k,[],pre,hk,hl,h=>by cases hl
 | kv,n+1,k,x::l,pre,hk,hl,h=>by
  have ih:=QH kv n (k+1) l (pre++[x]) (by simp[hk]) (by simpa using hl) (fun i v hv=>by rw[Bf];exact h i v hv)
  show xO (FLk kv k::Ik kv (k+1) n) (x::l)
  have hx:=h k
  rw[pQ,Ef (by omega),hk,Le]at hx
  cases hc:FLk kv k with
  | none=>exact fn ih
  | some v=>have:=hx v hc;cases this;exact fs ih
theorem FG {kv:List (Nat×Value)} {n:Nat} {l:List Value} (hl:l.length=n) (h:∀ i v,FLk kv i=some v→nth l i=some v):xO (Ik kv 0 n) l:=QH kv n 0 l [] rfl hl h
theorem xB {a:Nat} {b:Value} {r:List (Nat×Value)} {l:List Value} (h1:nth l a=some b) (h:∀ i v,FLk r i=some v→nth l i=some v):∀ i v,FLk ((a,b)::r) i=some v→nth l i=some v:=fun i v hv=>by
 unfold FLk at hv
 cases hb:Nat.beq a i with
 | true=>rw[hb]at hv;cases hv;rw[← Nat.eq_of_beq_eq_true hb];exact h1
 | false=>rw[hb]at hv;exact h i v hv
theorem lU {l:List Value}:∀ i v,FLk [] i=some v→nth l i=some v:=fun i v h=>by cases h
theorem ft2 {n:Nat} {l:List Value} {i0:Nat} {v0:Value} {i1:Nat} {v1:Value} (hl:l.length=n) (h0:nth l i0=some v0) (h1:nth l i1=some v1):xO (Ik [(i0,v0),(i1,v1)] 0 n) l:=FG hl (xB h0 (xB h1 lU))
theorem Uy {n:Nat} {l:List Value} {i0:Nat} {v0:Value} {i1:Nat} {v1:Value} {i2:Nat} {v2:Value} (hl:l.length=n) (h0:nth l i0=some v0) (h1:nth l i1=some v1) (h2:nth l i2=some v2):xO (Ik [(i0,v0),(i1,v1),(i2,v2)] 0 n) l:=FG hl (xB h0 (xB h1 (xB h2 lU)))
theorem Ja {n:Nat} {l:List Value} {i0:Nat} {v0:Value} {i1:Nat} {v1:Value} {i2:Nat} {v2:Value} {i3:Nat} {v3:Value} (hl:l.length=n) (h0:nth l i0=some v0) (h1:nth l i1=some v1) (h2:nth l i2=some v2) (h3:nth l i3=some v3):xO (Ik [(i0,v0),(i1,v1),(i2,v2),(i3,v3)] 0 n) l:=FG hl (xB h0 (xB h1 (xB h2 (xB h3 lU))))
theorem Qr {n:Nat} {l:List Value} {i0:Nat} {v0:Value} {i1:Nat} {v1:Value} {i2:Nat} {v2:Value} {i3:Nat} {v3:Value} {i4:Nat} {v4:Value} (hl:l.length=n) (h0:nth l i0=some v0) (h1:nth l i1=some v1) (h2:nth l i2=some v2) (h3:nth l i3=some v3) (h4:nth l i4=some v4):xO (Ik [(i0,v0),(i1,v1),(i2,v2),(i3,v3),(i4,v4)] 0 n) l:=FG hl (xB h0 (xB h1 (xB h2 (xB h3 (xB h4 lU)))))
theorem Ye {n:Nat} {l:List Value} {i0:Nat} {v0:Value} {i1:Nat} {v1:Value} {i2:Nat} {v2:Value} {i3:Nat} {v3:Value} {i4:Nat} {v4:Value} {i5:Nat} {v5:Value} (hl:l.length=n) (h0:nth l i0=some v0) (h1:nth l i1=some v1) (h2:nth l i2=some v2) (h3:nth l i3=some v3) (h4:nth l i4=some v4) (h5:nth l i5=some v5):xO (Ik [(i0,v0),(i1,v1),(i2,v2),(i3,v3),(i4,v4),(i5,v5)] 0 n) l:=FG hl (xB h0 (xB h1 (xB h2 (xB h3 (xB h4 (xB h5 lU))))))
theorem ft7 {n:Nat} {l:List Value} {i0:Nat} {v0:Value} {i1:Nat} {v1:Value} {i2:Nat} {v2:Value} {i3:Nat} {v3:Value} {i4:Nat} {v4:Value} {i5:Nat} {v5:Value} {i6:Nat} {v6:Value} (hl:l.length=n) (h0:nth l i0=some v0) (h1:nth l i1=some v1) (h2:nth l i2=some v2) (h3:nth l i3=some v3) (h4:nth l i4=some v4) (h5:nth l i5=some v5) (h6:nth l i6=some v6):xO (Ik [(i0,v0),(i1,v1),(i2,v2),(i3,v3),(i4,v4),(i5,v5),(i6,v6)] 0 n) l:=FG hl (xB h0 (xB h1 (xB h2 (xB h3 (xB h4 (xB h5 (xB h6 lU)))))))
theorem ft8 {n:Nat} {l:List Value} {i0:Nat} {v0:Value} {i1:Nat} {v1:Value} {i2:Nat} {v2:Value} {i3:Nat} {v3:Value} {i4:Nat} {v4:Value} {i5:Nat} {v5:Value} {i6:Nat} {v6:Value} {i7:Nat} {v7:Value} (hl:l.length=n) (h0:nth l i0=some v0) (h1:nth l i1=some v1) (h2:nth l i2=some v2) (h3:nth l i3=some v3) (h4:nth l i4=some v4) (h5:nth l i5=some v5) (h6:nth l i6=some v6) (h7:nth l i7=some v7):xO (Ik [(i0,v0),(i1,v1),(i2,v2),(i3,v3),(i4,v4),(i5,v5),(i6,v6),(i7,v7)] 0 n) l:=FG hl (xB h0 (xB h1 (xB h2 (xB h3 (xB h4 (xB h5 (xB h6 (xB h7 lU))))))))
theorem aW {n:Nat} {l:List Value} {i0:Nat} {v0:Value} {i1:Nat} {v1:Value} {i2:Nat} {v2:Value} {i3:Nat} {v3:Value} {i4:Nat} {v4:Value} {i5:Nat} {v5:Value} {i6:Nat} {v6:Value} {i7:Nat} {v7:Value} {i8:Nat} {v8:Value} {i9:Nat} {v9:Value} (hl:l.length=n) (h0:nth l i0=some v0) (h1:nth l i1=some v1) (h2:nth l i2=some v2) (h3:nth l i3=some v3) (h4:nth l i4=some v4) (h5:nth l i5=some v5) (h6:nth l i6=some v6) (h7:nth l i7=some v7) (h8:nth l i8=some v8) (h9:nth l i9=some v9):xO (Ik [(i0,v0),(i1,v1),(i2,v2),(i3,v3),(i4,v4),(i5,v5),(i6,v6),(i7,v7),(i8,v8),(i9,v9)] 0 n) l:=FG hl (xB h0 (xB h1 (xB h2 (xB h3 (xB h4 (xB h5 (xB h6 (xB h7 (xB h8 (xB h9 lU))))))))))
theorem NL {a b:Nat} (h:Nat.ble a b=true):a≤b:=Og h
def cS (all:List Oper):Nat→List Oper→List Value→Option (List Oper×List Value)
 | 0,os,l=>some (os,l)
 | k+1,⟨some d,_,_,_,_,some (j,b)⟩::os,l=>match yes all l j==some b with
  | false=>cS all k os (l.set d undef)
  | true=>none
 | _,_,_=>none
theorem Oz :∀ (k:Nat) {os os':List Oper} {l l':List Value},cS all k os l=some (os',l')→Ops P ds all K Q os' l' w→Ops P ds all K Q os l w
 | 0,_,_,_,_,h,k=>by simp only[cS,Option.some.injEq,Prod.mk.injEq]at h;obtain⟨rfl,rfl⟩:=h;exact k
 | n+1,[],_,_,_,h,k=>by simp[cS]at h
 | n+1,⟨some d,op,ty,pos,af,some (j,b)⟩::os,os',l,l',h,k=>by
  unfold cS at h
  split at h
  · rename_i hb;exact ops_no hb (Oz n h k)
  cases h
 | n+1,⟨none,op,ty,pos,af,g⟩::os,_,_,_,h,k=>by simp[cS]at h
 | n+1,⟨some d,op,ty,pos,af,none⟩::os,_,_,_,h,k=>by simp[cS]at h
theorem cT {s:Vo} (e:l=l') (h:pG P ds all S K s l' w):pG P ds all S K s l w:=by rw[e];exact h
theorem Tm {s:Vo} (ho:all[i]? =some ⟨some d,.move x,ty,pos,af,none⟩) (h:ev l x=some v) (k:pG P ds all S K s (l.set d v) w):pG P ds all S K (.p i s) l w:=CN ho (rN (fun _ _=>zK h) k)
theorem Tf {s:Vo} (ho:all[i]? =some ⟨some d,.fieldAddr t x f,ty,pos,af,none⟩) (hf:yC P t f=some (off,ft)) (hx:ev l x=some (.pointer (some ⟨bk,o,none⟩))) (k:pG P ds all S K s (l.set d (.pointer (some ⟨bk,o+off,none⟩))) w):pG P ds all S K (.p i s) l w:=CN ho (rN (fun _ _=>rR hf hx) k)
theorem cL {s:Scl} (e:l=l') (h:oZ P ds all S K s l' w):oZ P ds all S K s l w:=by rw[e];exact h
end
theorem J1 :type_of% @zN:=@zN
theorem J2 :type_of% @zI:=@zI
theorem J3 :type_of% @yL:=@yL
theorem J4 :type_of% @zX:=@zX
theorem J5 :type_of% @wD:=@wD
theorem J6 :type_of% @xI:=@xI
theorem J7 :type_of% @wF:=@wF
theorem J8 :type_of% @tE:=@tE
theorem OV :type_of% @zB:=@zB
theorem OY :type_of% @sL:=@sL
theorem OZ :type_of% @ops_no:=@ops_no
theorem OE :type_of% @yD:=@yD
theorem OT :type_of% @vP:=@vP
theorem OC :type_of% @pC:=@pC
theorem OX :type_of% @oS:=@oS
theorem OQ :type_of% @tF:=@tF
theorem Qg :type_of% @lM:=@lM
theorem Jt :type_of% @jD:=@jD
theorem MV :type_of% @rN:=@rN
theorem MP :type_of% @bO:=@bO
theorem MO :type_of% @PB:=@PB
theorem ME :type_of% @EX:=@EX
theorem MY :type_of% @EZ:=@EZ
theorem MZ :type_of% @JA:=@JA
theorem BR :type_of% @vJ:=@vJ
theorem SV :type_of% @uJ:=@uJ
theorem Cj :type_of% @tH:=@tH
theorem Kw :type_of% @FH:=@FH
theorem EL :type_of% @gZ:=@gZ
theorem EN :type_of% @FJ:=@FJ
theorem EI :type_of% @eR:=@eR
theorem EF :type_of% @rR:=@rR
theorem ES :type_of% @tB:=@tB
theorem EC :type_of% @mS:=@mS
theorem OS :type_of% @eD:=@eD
theorem OW :type_of% @bJ:=@bJ
theorem OA :type_of% @BB:=@BB
theorem EB :type_of% @FL:=@FL
theorem TP :type_of% @CN:=@CN
theorem TQ :type_of% @PC:=@PC
end Go.Proofs.YtjoeklkmnfaabaaGreat
namespace Go.Proofs.YtjoeklkmnfaabaaGreat
open Go
variable {a0 a1 a2 a3 a4 a5 a6 a7 a8 a9 a10 a11 a12 Iw Jb Jh a16 a17 Js Jy a20 a21 a22 a23 a24 a25 a26 a27 a28 a29 a30 a31 a32 a33 a34 a35 a36 a37 a38 a39 a40 a41 a42 a43 a44 a45 a46 a47 a48 a49 a50 a51 a52 a53 a54 a55 a56 a57 a58 a59 a60 a61 a62 a63 a64 a65 a66 a67 a68 a69 a70 a71 a72 a73 a74 a75 a76 a77 a78 a79 a80 Yq a82 a83 a84 a85 a86 a87 ZQ a89 a90 a91 a92 a93 a94 a95 a96 a97 a98 a99 YQ YP YO YN YM a105 Yf a107 ZG a109 a110 a111 a112 a113 a114 a115 a116 a117 a118 a119 a120 a121 a122 a123 a124 a125 a126 a127 a128 a129 a130 a131 a132 a133 a134 a135 a136 a137 a138 a139:Value}
theorem e3:Jw [a0,a1,a2]:=rfl
theorem e4:Jw [a0,a1,a2,a3]:=rfl
theorem e5:Jw [a0,a1,a2,a3,a4]:=rfl
theorem e6:Jw [a0,a1,a2,a3,a4,a5]:=rfl
theorem e7:Jw [a0,a1,a2,a3,a4,a5,a6]:=rfl
theorem e8:Jw [a0,a1,a2,a3,a4,a5,a6,a7]:=rfl
theorem e9:Jw [a0,a1,a2,a3,a4,a5,a6,a7,a8]:=rfl
theorem e10:Jw [a0,a1,a2,a3,a4,a5,a6,a7,a8,a9]:=rfl
theorem e11:Jw [a0,a1,a2,a3,a4,a5,a6,a7,a8,a9,a10]:=rfl
theorem e12:Jw [a0,a1,a2,a3,a4,a5,a6,a7,a8,a9,a10,a11]:=rfl
theorem e13:Jw [a0,a1,a2,a3,a4,a5,a6,a7,a8,a9,a10,a11,a12]:=rfl
theorem e14:Jw [a0,a1,a2,a3,a4,a5,a6,a7,a8,a9,a10,a11,a12,Iw]:=rfl
theorem e15:Jw [a0,a1,a2,a3,a4,a5,a6,a7,a8,a9,a10,a11,a12,Iw,Jb]:=rfl
theorem e16:Jw [a0,a1,a2,a3,a4,a5,a6,a7,a8,a9,a10,a11,a12,Iw,Jb,Jh]:=rfl
theorem e17:Jw [a0,a1,a2,a3,a4,a5,a6,a7,a8,a9,a10,a11,a12,Iw,Jb,Jh,a16]:=rfl
theorem e18:Jw [a0,a1,a2,a3,a4,a5,a6,a7,a8,a9,a10,a11,a12,Iw,Jb,Jh,a16,a17]:=rfl
theorem e19:Jw [a0,a1,a2,a3,a4,a5,a6,a7,a8,a9,a10,a11,a12,Iw,Jb,Jh,a16,a17,Js]:=rfl
theorem e20:Jw [a0,a1,a2,a3,a4,a5,a6,a7,a8,a9,a10,a11,a12,Iw,Jb,Jh,a16,a17,Js,Jy]:=rfl
theorem e21:Jw [a0,a1,a2,a3,a4,a5,a6,a7,a8,a9,a10,a11,a12,Iw,Jb,Jh,a16,a17,Js,Jy,a20]:=rfl
theorem e23:Jw [a0,a1,a2,a3,a4,a5,a6,a7,a8,a9,a10,a11,a12,Iw,Jb,Jh,a16,a17,Js,Jy,a20,a21,a22]:=rfl
theorem e24:Jw [a0,a1,a2,a3,a4,a5,a6,a7,a8,a9,a10,a11,a12,Iw,Jb,Jh,a16,a17,Js,Jy,a20,a21,a22,a23]:=rfl
theorem e25:Jw [a0,a1,a2,a3,a4,a5,a6,a7,a8,a9,a10,a11,a12,Iw,Jb,Jh,a16,a17,Js,Jy,a20,a21,a22,a23,a24]:=rfl
theorem e26:Jw [a0,a1,a2,a3,a4,a5,a6,a7,a8,a9,a10,a11,a12,Iw,Jb,Jh,a16,a17,Js,Jy,a20,a21,a22,a23,a24,a25]:=rfl
theorem e27:Jw [a0,a1,a2,a3,a4,a5,a6,a7,a8,a9,a10,a11,a12,Iw,Jb,Jh,a16,a17,Js,Jy,a20,a21,a22,a23,a24,a25,a26]:=rfl
theorem e28:Jw [a0,a1,a2,a3,a4,a5,a6,a7,a8,a9,a10,a11,a12,Iw,Jb,Jh,a16,a17,Js,Jy,a20,a21,a22,a23,a24,a25,a26,a27]:=rfl
theorem e29:Jw [a0,a1,a2,a3,a4,a5,a6,a7,a8,a9,a10,a11,a12,Iw,Jb,Jh,a16,a17,Js,Jy,a20,a21,a22,a23,a24,a25,a26,a27,a28]:=rfl
theorem e30:Jw [a0,a1,a2,a3,a4,a5,a6,a7,a8,a9,a10,a11,a12,Iw,Jb,Jh,a16,a17,Js,Jy,a20,a21,a22,a23,a24,a25,a26,a27,a28,a29]:=rfl
theorem e31:Jw [a0,a1,a2,a3,a4,a5,a6,a7,a8,a9,a10,a11,a12,Iw,Jb,Jh,a16,a17,Js,Jy,a20,a21,a22,a23,a24,a25,a26,a27,a28,a29,a30]:=rfl
theorem e32:Jw [a0,a1,a2,a3,a4,a5,a6,a7,a8,a9,a10,a11,a12,Iw,Jb,Jh,a16,a17,Js,Jy,a20,a21,a22,a23,a24,a25,a26,a27,a28,a29,a30,a31]:=rfl
theorem e33:Jw [a0,a1,a2,a3,a4,a5,a6,a7,a8,a9,a10,a11,a12,Iw,Jb,Jh,a16,a17,Js,Jy,a20,a21,a22,a23,a24,a25,a26,a27,a28,a29,a30,a31,a32]:=rfl
theorem e34:Jw [a0,a1,a2,a3,a4,a5,a6,a7,a8,a9,a10,a11,a12,Iw,Jb,Jh,a16,a17,Js,Jy,a20,a21,a22,a23,a24,a25,a26,a27,a28,a29,a30,a31,a32,a33]:=rfl
theorem e35:Jw [a0,a1,a2,a3,a4,a5,a6,a7,a8,a9,a10,a11,a12,Iw,Jb,Jh,a16,a17,Js,Jy,a20,a21,a22,a23,a24,a25,a26,a27,a28,a29,a30,a31,a32,a33,a34]:=rfl
theorem e37:Jw [a0,a1,a2,a3,a4,a5,a6,a7,a8,a9,a10,a11,a12,Iw,Jb,Jh,a16,a17,Js,Jy,a20,a21,a22,a23,a24,a25,a26,a27,a28,a29,a30,a31,a32,a33,a34,a35,a36]:=rfl
theorem e38:Jw [a0,a1,a2,a3,a4,a5,a6,a7,a8,a9,a10,a11,a12,Iw,Jb,Jh,a16,a17,Js,Jy,a20,a21,a22,a23,a24,a25,a26,a27,a28,a29,a30,a31,a32,a33,a34,a35,a36,a37]:=rfl
theorem e40:Jw [a0,a1,a2,a3,a4,a5,a6,a7,a8,a9,a10,a11,a12,Iw,Jb,Jh,a16,a17,Js,Jy,a20,a21,a22,a23,a24,a25,a26,a27,a28,a29,a30,a31,a32,a33,a34,a35,a36,a37,a38,a39]:=rfl
theorem e42:Jw [a0,a1,a2,a3,a4,a5,a6,a7,a8,a9,a10,a11,a12,Iw,Jb,Jh,a16,a17,Js,Jy,a20,a21,a22,a23,a24,a25,a26,a27,a28,a29,a30,a31,a32,a33,a34,a35,a36,a37,a38,a39,a40,a41]:=rfl
theorem e43:Jw [a0,a1,a2,a3,a4,a5,a6,a7,a8,a9,a10,a11,a12,Iw,Jb,Jh,a16,a17,Js,Jy,a20,a21,a22,a23,a24,a25,a26,a27,a28,a29,a30,a31,a32,a33,a34,a35,a36,a37,a38,a39,a40,a41,a42]:=rfl
theorem e44:Jw [a0,a1,a2,a3,a4,a5,a6,a7,a8,a9,a10,a11,a12,Iw,Jb,Jh,a16,a17,Js,Jy,a20,a21,a22,a23,a24,a25,a26,a27,a28,a29,a30,a31,a32,a33,a34,a35,a36,a37,a38,a39,a40,a41,a42,a43]:=rfl
theorem e46:Jw [a0,a1,a2,a3,a4,a5,a6,a7,a8,a9,a10,a11,a12,Iw,Jb,Jh,a16,a17,Js,Jy,a20,a21,a22,a23,a24,a25,a26,a27,a28,a29,a30,a31,a32,a33,a34,a35,a36,a37,a38,a39,a40,a41,a42,a43,a44,a45]:=rfl
theorem e47:Jw [a0,a1,a2,a3,a4,a5,a6,a7,a8,a9,a10,a11,a12,Iw,Jb,Jh,a16,a17,Js,Jy,a20,a21,a22,a23,a24,a25,a26,a27,a28,a29,a30,a31,a32,a33,a34,a35,a36,a37,a38,a39,a40,a41,a42,a43,a44,a45,a46]:=rfl
theorem e49:Jw [a0,a1,a2,a3,a4,a5,a6,a7,a8,a9,a10,a11,a12,Iw,Jb,Jh,a16,a17,Js,Jy,a20,a21,a22,a23,a24,a25,a26,a27,a28,a29,a30,a31,a32,a33,a34,a35,a36,a37,a38,a39,a40,a41,a42,a43,a44,a45,a46,a47,a48]:=rfl
theorem e50:Jw [a0,a1,a2,a3,a4,a5,a6,a7,a8,a9,a10,a11,a12,Iw,Jb,Jh,a16,a17,Js,Jy,a20,a21,a22,a23,a24,a25,a26,a27,a28,a29,a30,a31,a32,a33,a34,a35,a36,a37,a38,a39,a40,a41,a42,a43,a44,a45,a46,a47,a48,a49]:=rfl
theorem e52:Jw [a0,a1,a2,a3,a4,a5,a6,a7,a8,a9,a10,a11,a12,Iw,Jb,Jh,a16,a17,Js,Jy,a20,a21,a22,a23,a24,a25,a26,a27,a28,a29,a30,a31,a32,a33,a34,a35,a36,a37,a38,a39,a40,a41,a42,a43,a44,a45,a46,a47,a48,a49,a50,a51]:=rfl
theorem e53:Jw [a0,a1,a2,a3,a4,a5,a6,a7,a8,a9,a10,a11,a12,Iw,Jb,Jh,a16,a17,Js,Jy,a20,a21,a22,a23,a24,a25,a26,a27,a28,a29,a30,a31,a32,a33,a34,a35,a36,a37,a38,a39,a40,a41,a42,a43,a44,a45,a46,a47,a48,a49,a50,a51,a52]:=rfl
theorem e54:Jw [a0,a1,a2,a3,a4,a5,a6,a7,a8,a9,a10,a11,a12,Iw,Jb,Jh,a16,a17,Js,Jy,a20,a21,a22,a23,a24,a25,a26,a27,a28,a29,a30,a31,a32,a33,a34,a35,a36,a37,a38,a39,a40,a41,a42,a43,a44,a45,a46,a47,a48,a49,a50,a51,a52,a53]:=rfl
theorem e56:Jw [a0,a1,a2,a3,a4,a5,a6,a7,a8,a9,a10,a11,a12,Iw,Jb,Jh,a16,a17,Js,Jy,a20,a21,a22,a23,a24,a25,a26,a27,a28,a29,a30,a31,a32,a33,a34,a35,a36,a37,a38,a39,a40,a41,a42,a43,a44,a45,a46,a47,a48,a49,a50,a51,a52,a53,a54,a55]:=rfl
theorem e58:Jw [a0,a1,a2,a3,a4,a5,a6,a7,a8,a9,a10,a11,a12,Iw,Jb,Jh,a16,a17,Js,Jy,a20,a21,a22,a23,a24,a25,a26,a27,a28,a29,a30,a31,a32,a33,a34,a35,a36,a37,a38,a39,a40,a41,a42,a43,a44,a45,a46,a47,a48,a49,a50,a51,a52,a53,a54,a55,a56,a57]:=rfl
theorem e59:Jw [a0,a1,a2,a3,a4,a5,a6,a7,a8,a9,a10,a11,a12,Iw,Jb,Jh,a16,a17,Js,Jy,a20,a21,a22,a23,a24,a25,a26,a27,a28,a29,a30,a31,a32,a33,a34,a35,a36,a37,a38,a39,a40,a41,a42,a43,a44,a45,a46,a47,a48,a49,a50,a51,a52,a53,a54,a55,a56,a57,a58]:=rfl
theorem e62:Jw [a0,a1,a2,a3,a4,a5,a6,a7,a8,a9,a10,a11,a12,Iw,Jb,Jh,a16,a17,Js,Jy,a20,a21,a22,a23,a24,a25,a26,a27,a28,a29,a30,a31,a32,a33,a34,a35,a36,a37,a38,a39,a40,a41,a42,a43,a44,a45,a46,a47,a48,a49,a50,a51,a52,a53,a54,a55,a56,a57,a58,a59,a60,a61]:=rfl
theorem Nq:Jw [a0,a1,a2,a3,a4,a5,a6,a7,a8,a9,a10,a11,a12,Iw,Jb,Jh,a16,a17,Js,Jy,a20,a21,a22,a23,a24,a25,a26,a27,a28,a29,a30,a31,a32,a33,a34,a35,a36,a37,a38,a39,a40,a41,a42,a43,a44,a45,a46,a47,a48,a49,a50,a51,a52,a53,a54,a55,a56,a57,a58,a59,a60,a61,a62,a63,a64,a65,a66]:=rfl
theorem YT:Jw [a0,a1,a2,a3,a4,a5,a6,a7,a8,a9,a10,a11,a12,Iw,Jb,Jh,a16,a17,Js,Jy,a20,a21,a22,a23,a24,a25,a26,a27,a28,a29,a30,a31,a32,a33,a34,a35,a36,a37,a38,a39,a40,a41,a42,a43,a44,a45,a46,a47,a48,a49,a50,a51,a52,a53,a54,a55,a56,a57,a58,a59,a60,a61,a62,a63,a64,a65,a66,a67,a68]:=rfl
theorem Qm:Jw [a0,a1,a2,a3,a4,a5,a6,a7,a8,a9,a10,a11,a12,Iw,Jb,Jh,a16,a17,Js,Jy,a20,a21,a22,a23,a24,a25,a26,a27,a28,a29,a30,a31,a32,a33,a34,a35,a36,a37,a38,a39,a40,a41,a42,a43,a44,a45,a46,a47,a48,a49,a50,a51,a52,a53,a54,a55,a56,a57,a58,a59,a60,a61,a62,a63,a64,a65,a66,a67,a68,a69,a70,a71,a72,a73]:=rfl
theorem Gz:Jw [a0,a1,a2,a3,a4,a5,a6,a7,a8,a9,a10,a11,a12,Iw,Jb,Jh,a16,a17,Js,Jy,a20,a21,a22,a23,a24,a25,a26,a27,a28,a29,a30,a31,a32,a33,a34,a35,a36,a37,a38,a39,a40,a41,a42,a43,a44,a45,a46,a47,a48,a49,a50,a51,a52,a53,a54,a55,a56,a57,a58,a59,a60,a61,a62,a63,a64,a65,a66,a67,a68,a69,a70,a71,a72,a73,a74]:=rfl
theorem Qs:Jw [a0,a1,a2,a3,a4,a5,a6,a7,a8,a9,a10,a11,a12,Iw,Jb,Jh,a16,a17,Js,Jy,a20,a21,a22,a23,a24,a25,a26,a27,a28,a29,a30,a31,a32,a33,a34,a35,a36,a37,a38,a39,a40,a41,a42,a43,a44,a45,a46,a47,a48,a49,a50,a51,a52,a53,a54,a55,a56,a57,a58,a59,a60,a61,a62,a63,a64,a65,a66,a67,a68,a69,a70,a71,a72,a73,a74,a75]:=rfl
theorem Gs:Jw [a0,a1,a2,a3,a4,a5,a6,a7,a8,a9,a10,a11,a12,Iw,Jb,Jh,a16,a17,Js,Jy,a20,a21,a22,a23,a24,a25,a26,a27,a28,a29,a30,a31,a32,a33,a34,a35,a36,a37,a38,a39,a40,a41,a42,a43,a44,a45,a46,a47,a48,a49,a50,a51,a52,a53,a54,a55,a56,a57,a58,a59,a60,a61,a62,a63,a64,a65,a66,a67,a68,a69,a70,a71,a72,a73,a74,a75,a76,a77,a78,a79,a80,Yq]:=rfl
theorem Ia:Jw [a0,a1,a2,a3,a4,a5,a6,a7,a8,a9,a10,a11,a12,Iw,Jb,Jh,a16,a17,Js,Jy,a20,a21,a22,a23,a24,a25,a26,a27,a28,a29,a30,a31,a32,a33,a34,a35,a36,a37,a38,a39,a40,a41,a42,a43,a44,a45,a46,a47,a48,a49,a50,a51,a52,a53,a54,a55,a56,a57,a58,a59,a60,a61,a62,a63,a64,a65,a66,a67,a68,a69,a70,a71,a72,a73,a74,a75,a76,a77,a78,a79,a80,Yq,a82,a83,a84]:=rfl
theorem Jf:Jw [a0,a1,a2,a3,a4,a5,a6,a7,a8,a9,a10,a11,a12,Iw,Jb,Jh,a16,a17,Js,Jy,a20,a21,a22,a23,a24,a25,a26,a27,a28,a29,a30,a31,a32,a33,a34,a35,a36,a37,a38,a39,a40,a41,a42,a43,a44,a45,a46,a47,a48,a49,a50,a51,a52,a53,a54,a55,a56,a57,a58,a59,a60,a61,a62,a63,a64,a65,a66,a67,a68,a69,a70,a71,a72,a73,a74,a75,a76,a77,a78,a79,a80,Yq,a82,a83,a84,a85,a86,a87,ZQ]:=rfl
theorem Kz:Jw [a0,a1,a2,a3,a4,a5,a6,a7,a8,a9,a10,a11,a12,Iw,Jb,Jh,a16,a17,Js,Jy,a20,a21,a22,a23,a24,a25,a26,a27,a28,a29,a30,a31,a32,a33,a34,a35,a36,a37,a38,a39,a40,a41,a42,a43,a44,a45,a46,a47,a48,a49,a50,a51,a52,a53,a54,a55,a56,a57,a58,a59,a60,a61,a62,a63,a64,a65,a66,a67,a68,a69,a70,a71,a72,a73,a74,a75,a76,a77,a78,a79,a80,Yq,a82,a83,a84,a85,a86,a87,ZQ,a89,a90,a91,a92]:=rfl
theorem Hr:Jw [a0,a1,a2,a3,a4,a5,a6,a7,a8,a9,a10,a11,a12,Iw,Jb,Jh,a16,a17,Js,Jy,a20,a21,a22,a23,a24,a25,a26,a27,a28,a29,a30,a31,a32,a33,a34,a35,a36,a37,a38,a39,a40,a41,a42,a43,a44,a45,a46,a47,a48,a49,a50,a51,a52,a53,a54,a55,a56,a57,a58,a59,a60,a61,a62,a63,a64,a65,a66,a67,a68,a69,a70,a71,a72,a73,a74,a75,a76,a77,a78,a79,a80,Yq,a82,a83,a84,a85,a86,a87,ZQ,a89,a90,a91,a92,a93,a94]:=rfl
theorem Hl:Jw [a0,a1,a2,a3,a4,a5,a6,a7,a8,a9,a10,a11,a12,Iw,Jb,Jh,a16,a17,Js,Jy,a20,a21,a22,a23,a24,a25,a26,a27,a28,a29,a30,a31,a32,a33,a34,a35,a36,a37,a38,a39,a40,a41,a42,a43,a44,a45,a46,a47,a48,a49,a50,a51,a52,a53,a54,a55,a56,a57,a58,a59,a60,a61,a62,a63,a64,a65,a66,a67,a68,a69,a70,a71,a72,a73,a74,a75,a76,a77,a78,a79,a80,Yq,a82,a83,a84,a85,a86,a87,ZQ,a89,a90,a91,a92,a93,a94,a95,a96,a97]:=rfl
theorem Gp:Jw [a0,a1,a2,a3,a4,a5,a6,a7,a8,a9,a10,a11,a12,Iw,Jb,Jh,a16,a17,Js,Jy,a20,a21,a22,a23,a24,a25,a26,a27,a28,a29,a30,a31,a32,a33,a34,a35,a36,a37,a38,a39,a40,a41,a42,a43,a44,a45,a46,a47,a48,a49,a50,a51,a52,a53,a54,a55,a56,a57,a58,a59,a60,a61,a62,a63,a64,a65,a66,a67,a68,a69,a70,a71,a72,a73,a74,a75,a76,a77,a78,a79,a80,Yq,a82,a83,a84,a85,a86,a87,ZQ,a89,a90,a91,a92,a93,a94,a95,a96,a97,a98,a99,YQ,YP,YO,YN,YM]:=rfl
theorem Ee:Jw [a0,a1,a2,a3,a4,a5,a6,a7,a8,a9,a10,a11,a12,Iw,Jb,Jh,a16,a17,Js,Jy,a20,a21,a22,a23,a24,a25,a26,a27,a28,a29,a30,a31,a32,a33,a34,a35,a36,a37,a38,a39,a40,a41,a42,a43,a44,a45,a46,a47,a48,a49,a50,a51,a52,a53,a54,a55,a56,a57,a58,a59,a60,a61,a62,a63,a64,a65,a66,a67,a68,a69,a70,a71,a72,a73,a74,a75,a76,a77,a78,a79,a80,Yq,a82,a83,a84,a85,a86,a87,ZQ,a89,a90,a91,a92,a93,a94,a95,a96,a97,a98,a99,YQ,YP,YO,YN,YM,a105,Yf]:=rfl
theorem e109:Jw [a0,a1,a2,a3,a4,a5,a6,a7,a8,a9,a10,a11,a12,Iw,Jb,Jh,a16,a17,Js,Jy,a20,a21,a22,a23,a24,a25,a26,a27,a28,a29,a30,a31,a32,a33,a34,a35,a36,a37,a38,a39,a40,a41,a42,a43,a44,a45,a46,a47,a48,a49,a50,a51,a52,a53,a54,a55,a56,a57,a58,a59,a60,a61,a62,a63,a64,a65,a66,a67,a68,a69,a70,a71,a72,a73,a74,a75,a76,a77,a78,a79,a80,Yq,a82,a83,a84,a85,a86,a87,ZQ,a89,a90,a91,a92,a93,a94,a95,a96,a97,a98,a99,YQ,YP,YO,YN,YM,a105,Yf,a107,ZG]:=rfl
theorem e115:Jw [a0,a1,a2,a3,a4,a5,a6,a7,a8,a9,a10,a11,a12,Iw,Jb,Jh,a16,a17,Js,Jy,a20,a21,a22,a23,a24,a25,a26,a27,a28,a29,a30,a31,a32,a33,a34,a35,a36,a37,a38,a39,a40,a41,a42,a43,a44,a45,a46,a47,a48,a49,a50,a51,a52,a53,a54,a55,a56,a57,a58,a59,a60,a61,a62,a63,a64,a65,a66,a67,a68,a69,a70,a71,a72,a73,a74,a75,a76,a77,a78,a79,a80,Yq,a82,a83,a84,a85,a86,a87,ZQ,a89,a90,a91,a92,a93,a94,a95,a96,a97,a98,a99,YQ,YP,YO,YN,YM,a105,Yf,a107,ZG,a109,a110,a111,a112,a113,a114]:=rfl
theorem Dx:Jw [a0,a1,a2,a3,a4,a5,a6,a7,a8,a9,a10,a11,a12,Iw,Jb,Jh,a16,a17,Js,Jy,a20,a21,a22,a23,a24,a25,a26,a27,a28,a29,a30,a31,a32,a33,a34,a35,a36,a37,a38,a39,a40,a41,a42,a43,a44,a45,a46,a47,a48,a49,a50,a51,a52,a53,a54,a55,a56,a57,a58,a59,a60,a61,a62,a63,a64,a65,a66,a67,a68,a69,a70,a71,a72,a73,a74,a75,a76,a77,a78,a79,a80,Yq,a82,a83,a84,a85,a86,a87,ZQ,a89,a90,a91,a92,a93,a94,a95,a96,a97,a98,a99,YQ,YP,YO,YN,YM,a105,Yf,a107,ZG,a109,a110,a111,a112,a113,a114,a115,a116,a117,a118,a119,a120,a121]:=rfl
theorem e128:Jw [a0,a1,a2,a3,a4,a5,a6,a7,a8,a9,a10,a11,a12,Iw,Jb,Jh,a16,a17,Js,Jy,a20,a21,a22,a23,a24,a25,a26,a27,a28,a29,a30,a31,a32,a33,a34,a35,a36,a37,a38,a39,a40,a41,a42,a43,a44,a45,a46,a47,a48,a49,a50,a51,a52,a53,a54,a55,a56,a57,a58,a59,a60,a61,a62,a63,a64,a65,a66,a67,a68,a69,a70,a71,a72,a73,a74,a75,a76,a77,a78,a79,a80,Yq,a82,a83,a84,a85,a86,a87,ZQ,a89,a90,a91,a92,a93,a94,a95,a96,a97,a98,a99,YQ,YP,YO,YN,YM,a105,Yf,a107,ZG,a109,a110,a111,a112,a113,a114,a115,a116,a117,a118,a119,a120,a121,a122,a123,a124,a125,a126,a127]:=rfl
theorem Fq:Jw [a0,a1,a2,a3,a4,a5,a6,a7,a8,a9,a10,a11,a12,Iw,Jb,Jh,a16,a17,Js,Jy,a20,a21,a22,a23,a24,a25,a26,a27,a28,a29,a30,a31,a32,a33,a34,a35,a36,a37,a38,a39,a40,a41,a42,a43,a44,a45,a46,a47,a48,a49,a50,a51,a52,a53,a54,a55,a56,a57,a58,a59,a60,a61,a62,a63,a64,a65,a66,a67,a68,a69,a70,a71,a72,a73,a74,a75,a76,a77,a78,a79,a80,Yq,a82,a83,a84,a85,a86,a87,ZQ,a89,a90,a91,a92,a93,a94,a95,a96,a97,a98,a99,YQ,YP,YO,YN,YM,a105,Yf,a107,ZG,a109,a110,a111,a112,a113,a114,a115,a116,a117,a118,a119,a120,a121,a122,a123,a124,a125,a126,a127,a128,a129,a130,a131,a132,a133,a134,a135,a136,a137,a138,a139]:=rfl
theorem Fe {a140 a141 a142 a143 a144 a145 a146:Value}:Jw [a0,a1,a2,a3,a4,a5,a6,a7,a8,a9,a10,a11,a12,Iw,Jb,Jh,a16,a17,Js,Jy,a20,a21,a22,a23,a24,a25,a26,a27,a28,a29,a30,a31,a32,a33,a34,a35,a36,a37,a38,a39,a40,a41,a42,a43,a44,a45,a46,a47,a48,a49,a50,a51,a52,a53,a54,a55,a56,a57,a58,a59,a60,a61,a62,a63,a64,a65,a66,a67,a68,a69,a70,a71,a72,a73,a74,a75,a76,a77,a78,a79,a80,Yq,a82,a83,a84,a85,a86,a87,ZQ,a89,a90,a91,a92,a93,a94,a95,a96,a97,a98,a99,YQ,YP,YO,YN,YM,a105,Yf,a107,ZG,a109,a110,a111,a112,a113,a114,a115,a116,a117,a118,a119,a120,a121,a122,a123,a124,a125,a126,a127,a128,a129,a130,a131,a132,a133,a134,a135,a136,a137,a138,a139,a140,a141,a142,a143,a144,a145,a146]:=rfl
end Go.Proofs.YtjoeklkmnfaabaaGreat
namespace Go.Proofs.YtjoeklkmnfaabaaGreat
open Go Go.RowKit
set_option linter.unusedVariables false
set_option linter.unusedSimpArgs false
abbrev rI :=List PanicEntry
def rV (P:Program) (f:FuncId) (args:Array Value) (w:World) (R:Value→World→Prop) (RP:rI→World→Prop):Prop:=
 Calls P f args w fun e w'=>match e with | .returned v=>R v w' | .panicked ch=>RP ch w' | .outgrown=>False
theorem rV.d {P:Program} {f:FuncId} {args:Array Value} {w:World} {R:Value→World→Prop} {RP:rI→World→Prop} (h:rV P f args w R RP) (hp:∀ ch w',¬RP ch w'):zO P f args w R:=by
 refine Calls.mono h fun e w' hh=>?_
 cases e with
 | returned v=>exact⟨v,rfl,hh⟩
 | panicked ch=>exact absurd hh (hp _ _)
 | outgrown=>exact hh.elim
theorem rV.mono {P:Program} {f:FuncId} {args:Array Value} {w:World} {R R':Value→World→Prop} {RP RP':rI→World→Prop} (h:rV P f args w R RP) (hr:∀ v w',R v w'→R' v w') (hp:∀ ch w',RP ch w'→RP' ch w'):rV P f args w R' RP':=by
 refine Calls.mono h fun e w' hh=>?_
 cases e with
 | returned v=>exact hr _ _ hh
 | panicked ch=>exact hp _ _ hh
 | outgrown=>exact hh
section ops
variable {P:Program} {ds:List Deferred} {Q:vQ} {K:List Value→World→Prop} {all os:List Oper} {l:List Value} {w w':World} {op:Op} {ty:TypeId} {pos:String} {af:Array Edge} {d:Tmp} {v:Value}
theorem rD {f:FuncId} {args:Array Value} {R:Value→World→Prop} {RP:rI→World→Prop} (hx:Ex P l op ty w (.enter f args) w) (hc:rV P f args w R RP) (hp:∀ ch w',RP ch w'→Q (.panic ch) l w')
 (h:∀ v w',R v w'→Ops P ds all K Q os (l.set d v) w'):Ops P ds all K Q (⟨some d,op,ty,pos,af,none⟩::os) l w:=by
 refine wpList_plain Y fun K' hK=>?_
 unfold Oper.wp
 rw[sB,hx,Oper.upon_enter]
 refine Calls.mono hc ?_
 intro e w2 hR
 cases e with
 | returned v=>refine hK _ _ ?_;rw[tG];exact h v w2 hR
 | panicked ch=>exact⟨rfl,hp ch w2 hR⟩
 | outgrown=>exact hR.elim
end ops
def FR (ro:Option Nat):Fence:={ fn:=fun _=>True,depth:=none,alive:=false,round:=ro }
section conv
variable {ro:Option Nat} {n:Nat} {P:Program}
theorem YB {f:FuncId} {args:Array Value} {w:World} {R:Ending→World→Prop} (h:Calls P f args w R):CallsIn (FR ro) n P f args w R:=(callsIn_wide (n:=n)).2 h
theorem rowsR {row:String} {args:Array Value} {w:World} {R:Value→World→Prop} (h:Rows P row args w R):RowsIn (FR ro) n P row args w R:=
 fun c cs _=>let ⟨v,w',r,s⟩:=h c cs;⟨v,w',r,(stepsIn_wide.2 s:StepsIn (Machine.fenced P Fence.wide) P _ _)⟩
def sS (o:Oper):Bool:=match o.op with | .defer _=>false | _=>true
theorem GX {o:Oper} (h:sS o=true):∀ c,o.op≠ .defer c:=by
 intro c hc
 simp[sS,hc]at h
theorem uponR {o:Oper} {a:Act} {next:Act→World→Prop} {Q:Exit→Act→World→Prop} {r:Result Next} (h:o.upon P a next Q r):o.uponIn (FR ro) n P a next Q r:=by
 cases r with
 | ok x w'=>
  cases x <;>first
   | exact h
   | exact h.elim
   | exact⟨fun hd=>(by cases hd),YB h⟩
   | exact⟨fun hd=>(by cases hd),rowsR h⟩
 | halt x w'=>cases x <;>first | exact h | exact h.elim
theorem wpR {o:Oper} {a:Act} {w:World} {next:Act→World→Prop} {Q:Exit→Act→World→Prop} (hd:sS o=true) (h:o.wp P a w next Q):o.wpIn (FR ro) n P a w next Q:=by
 refine⟨fun _ _=>trivial,?_⟩
 rw[Oper.semAt_eq _ _ _ (GX hd)]
 exact uponR h
theorem dL {ops:Array Oper} {Q Q':Exit→Act→World→Prop} (hq:∀ a w,¬Q .outgrown a w) (hqq:∀ e a w,e≠ .normal→Q e a w→Q' e a w):∀ (os rest:List Oper) (a:Act) (w:World),os.all sS=true→
 wpList P ops (Exit.then (wpListIn (FR ro) n P ops Q' rest) Q) os a w→wpListIn (FR ro) n P ops Q' (os++rest) a w
 | [],rest,a,w,_,h=>h
 | o::os,rest,a,w,hd,h=>by
  rw[List.all_cons,Ce]at hd
  have ih:=dL (ops:=ops) hq hqq os rest
  unfold wpList at h
  show wpListIn (FR ro) n P ops Q' (o::(os++rest)) a w
  unfold wpListIn
  split
  · rename_i hw
    rw[if_pos hw]at h
    rcases h with h | ⟨_,a1,w1,h2⟩
    · have h3:=wpR (ro:=ro) (n:=n) hd.1 h
      refine⟨h3.1,?_⟩
      have h4:=h3.2
      generalize (o.semAt (FR ro).round a.eval).run P w=r at h4 ⊢
      cases r with
      | ok x w'=>
       cases x <;>first
        | exact ih _ _ hd.2 h4
        | exact h4
        | exact⟨h4.1,CallsIn.mono h4.2 (fun e w'' he=>by
         cases e with
         | returned v=>exact ih _ _ hd.2 he
         | panicked ch=>exact hqq _ _ _ (by simp) he
         | outgrown=>exact absurd he.choose_spec.choose_spec (hq _ _))⟩
        | exact⟨h4.1,RowsIn.mono h4.2 (fun v w'' he=>ih _ _ hd.2 he)⟩
        | exact⟨h4.1,RoundIn.mono h4.2 (fun e w'' he=>by
         cases e with
         | returned v=>exact ih _ _ hd.2 he
         | panicked ch=>exact hqq _ _ _ (by simp) he
         | outgrown=>exact absurd he.choose_spec.choose_spec (hq _ _))⟩
      | halt x w'=>cases x <;>first | exact hqq _ _ _ (by simp) h4 | exact h4
    exact absurd h2 (hq _ _)
  rename_i hw
  rw[if_neg hw]at h
  exact⟨fun _ _=>trivial,ih _ _ hd.2 h⟩
end conv
theorem rK {P:Program} {ops:Array Oper} {K1 K2:Act→World→Prop} {Q:Exit→Act→World→Prop} (hK:∀ a w,K1 a w→K2 a w):∀ (os:List Oper) (a:Act) (w:World),wpList P ops (Exit.then K1 Q) os a w→wpList P ops (Exit.then K2 Q) os a w
 | [],a,w,h=>hK _ _ h
 | o::os,a,w,h=>by
  unfold wpList at h ⊢
  split
  · rename_i hw
    rw[if_pos hw]at h
    rcases h with h | ⟨h1,a1,w1,h2⟩
    · exact .inl (Oper.wp_mono (fun a w h=>rK hK os a w h) (lA (fun e a w he h=>by cases e <;>first | exact absurd Y he | exact h) h))
    exact .inr ⟨h1,a1,w1,h2⟩
  rename_i hw
  rw[if_neg hw]at h
  exact rK hK os _ _ h
abbrev rS :=Exit→List Deferred→List Value→World→Prop
def Us (f:FuncId) (ro:Option Nat) (P:Program) (c:Code) (Q:Exit→Act→World→Prop) (a:Act) (w:World):Prop:=
 ∀ (b:Frame) (k:List Item) (cs:List Frame),b.roundOf=ro→b.fn=f→
  ∃ e a' w',Q e a' w'∧ArrivesIn (Machine.fenced P Fence.wide) P (lone (b.atR a (.code c::k)) cs w) b k cs e a' w'
section rules
variable {f:FuncId} {ro:Option Nat} {P:Program} {Q:Exit→Act→World→Prop} {a:Act} {w:World}
theorem IW (ro:Option Nat) (n:Nat):(FR ro).room n:=fun _ h=>(by cases h)
theorem lB {c:Code} (h:c.wpIn (FR ro) 0 P Q a w):Us f ro P c Q a w:=fun b k cs hro _=>h b k cs hro trivial (IW _ _)
theorem qH {c:Code} {Q':Exit→Act→World→Prop} (h:Us f ro P c Q a w) (hq:∀ e a w,Q e a w→Q' e a w):Us f ro P c Q' a w:=
 fun b k cs hro hb=>let ⟨e,a',w',q,r⟩:=h b k cs hro hb;⟨e,a',w',hq _ _ _ q,r⟩
theorem M4 (h:Q .normal a w):Us f ro P .skip Q a w:=lB (wpIn_skip h)
theorem M6 {id:Nat} (h:Q (.exit id) a w):Us f ro P (.exit id) Q a w:=lB (wpIn_exit h)
theorem RY (h:Q .ret a w):Us f ro P .ret Q a w:=lB (wpIn_ret h)
theorem RX {x y:Code} (h:Us f ro P x (Exit.then (Us f ro P y Q) Q) a w):Us f ro P (.seq x y) Q a w:=by
 intro b k cs hro hb
 have h0:∀ m,Machine.fenced P Fence.wide m:=fenced_wide P
 obtain⟨e,a₁,w₁,hq,harr⟩:=h b (.code y::k) cs hro hb
 cases e with
 | normal=>
  obtain⟨e₂,a₂,w₂,hq₂,harr₂⟩:=hq b k cs hro hb
  exact⟨e₂,a₂,w₂,hq₂,.of_steps (.head (h0 _) stepR_seq harr) harr₂⟩
 | exit id=>exact⟨_,a₁,w₁,hq,.of_steps (.one (h0 _) stepR_seq) (.pass (x:=.code y) rfl (fun _ _=> .inl (by simp)) harr)⟩
 | goto l=>exact⟨_,a₁,w₁,hq,.of_steps (.one (h0 _) stepR_seq) (.pass (x:=.code y) rfl (fun _ _=> .inl (by simp)) harr)⟩
 | ret=>exact⟨_,a₁,w₁,hq,.of_steps (.one (h0 _) stepR_seq) (.pass (x:=.code y) rfl (fun _ _=> .inl (by simp)) harr)⟩
 | panic ch=>exact⟨_,a₁,w₁,hq,.of_steps (.one (h0 _) stepR_seq) (.pass (x:=.code y) rfl (fun _ _=> .inl (by simp)) harr)⟩
 | outgrown=>exact⟨_,a₁,w₁,hq,.of_steps (.one (h0 _) stepR_seq) (.pass (x:=.code y) rfl (fun _ _=> .inl (by simp)) harr)⟩
theorem DD {c:Operand} {x y:Code} {t:Bool} (hc:a.eval c=.bool t) (h:Us f ro P (if t then x else y) Q a w):Us f ro P (.cond c x y) Q a w:=
 fun b k cs hro hb=>let ⟨e,a',w',q,r⟩:=h b k cs hro hb;⟨e,a',w',q,.of_steps (.one (fenced_wide P _) (stepR_cond hc)) r⟩
theorem aS {c:Operand} {x y:Code} (hc:a.eval c=.bool true) (h:Us f ro P x Q a w):Us f ro P (.cond c x y) Q a w:=DD hc h
theorem cH {c:Operand} {x y:Code} (hc:a.eval c=.bool false) (h:Us f ro P y Q a w):Us f ro P (.cond c x y) Q a w:=DD hc h
theorem KO {id:Nat} {c:Code} (h:Us f ro P c (Exit.inBlock id Q) a w):Us f ro P (.block id c) Q a w:=by
 intro b k cs hro hb
 have h0:∀ m,Machine.fenced P Fence.wide m:=fenced_wide P
 obtain⟨e,a₁,w₁,hq,harr⟩:=h b (.inBlock id::k) cs hro hb
 cases e with
 | normal=>exact⟨.normal,a₁,w₁,hq,.head (h0 _) stepR_block (StepsIn.trans harr (.one (h0 _) stepR_inBlock))⟩
 | exit id'=>
  by_cases hid:id'=id
  · simp only[Exit.inBlock,hid,if_true]at hq
    exact⟨.normal,a₁,w₁,hq,.head (h0 _) stepR_block (harr.1 k (by simp[exitTo,hid]))⟩
  simp only[Exit.inBlock,hid,if_false]at hq
  have this:(id==id')=false:=by simp;exact fun h=>hid h.symm
  have hx:exitTo id' (.inBlock id::k)=exitTo id' k:=by simp[exitTo,this]
  exact⟨.exit id',a₁,w₁,hq,fun k' hk=> .head (h0 _) stepR_block (harr.1 k' (by rw[hx];exact hk)),
   fun hr' hk=>let ⟨k₁,h1,h2⟩:=harr.2 hr' (by rw[hx];exact hk);⟨k₁,h1,.head (h0 _) stepR_block h2⟩⟩
 | goto l=>
  have hx:gotoIn l (.inBlock id::k)=gotoIn l k:=by simp[gotoIn]
  exact⟨_,a₁,w₁,hq,fun k' hk=> .head (h0 _) stepR_block (harr.1 k' (by rw[hx];exact hk)),
   fun hr' hk=>let ⟨k₁,h1,h2⟩:=harr.2 hr' (by rw[hx];exact hk);⟨k₁,h1,.head (h0 _) stepR_block h2⟩⟩
 | ret=>exact⟨_,a₁,w₁,hq,.of_steps (.one (h0 _) stepR_block) harr⟩
 | panic ch=>exact⟨_,a₁,w₁,hq,.of_steps (.one (h0 _) stepR_block) harr⟩
 | outgrown=>exact⟨_,a₁,w₁,hq,.of_steps (.one (h0 _) stepR_block) harr⟩
theorem M5 {c:Code} (I:Act→World→Prop) (μ:Act→World→Nat) (h₀:I a w)
 (round:∀ a w,I a w→Us f ro P c (Exit.then (fun a' w'=>I a' w'∧μ a' w' < μ a w) Q) a w):Us f ro P (.loop c) Q a w:=by
 intro b k cs hro hb
 have hw:∀ m,Machine.fenced P Fence.wide m:=fenced_wide P
 have key:∀ j a w,μ a w=j→I a w→
  ∃ e a' w',Q e a' w'∧ArrivesIn (Machine.fenced P Fence.wide) P (lone (b.atR a (.code c:: .inLoop c::k)) cs w) b k cs e a' w':=by
  intro j
  induction j using Nat.strongRecOn with
  | _ j ih=>
   intro a w hn hI
   obtain⟨e,a₁,w₁,hq,harr⟩:=round a w hI b (.inLoop c::k) cs hro hb
   cases e with
   | normal=>
    obtain⟨hI₁,hlt⟩:=hq
    obtain⟨e₂,a₂,w₂,hq₂,harr₂⟩:=ih (μ a₁ w₁) (hn▸hlt) a₁ w₁ rfl hI₁
    exact⟨e₂,a₂,w₂,hq₂,.of_steps (StepsIn.trans harr (.one (hw _) stepR_inLoop)) harr₂⟩
   | exit id=>exact⟨_,a₁,w₁,hq,.pass (x:=.inLoop c) rfl (fun _ _=> .inl (by simp)) harr⟩
   | goto l=>exact⟨_,a₁,w₁,hq,.pass (x:=.inLoop c) rfl (fun _ _=> .inl (by simp)) harr⟩
   | ret=>exact⟨_,a₁,w₁,hq,.pass (x:=.inLoop c) rfl (fun _ _=> .inl (by simp)) harr⟩
   | panic ch=>exact⟨_,a₁,w₁,hq,.pass (x:=.inLoop c) rfl (fun _ _=> .inl (by simp)) harr⟩
   | outgrown=>exact⟨_,a₁,w₁,hq,.pass (x:=.inLoop c) rfl (fun _ _=> .inl (by simp)) harr⟩
 obtain⟨e,a',w',hq,harr⟩:=key _ a w rfl h₀
 exact⟨e,a',w',hq,.of_steps (.one (hw _) stepR_loop) harr⟩
end rules
namespace Rn
def Cd {f:FuncId} {ro:Option Nat} (P:Program) (ds:List Deferred) (c:Code) (Q:rS) (l:List Value) (w:World):Prop:=
 Us f ro P c (fun e a w'=>Q e a.defers a.tmps.toList w') ⟨l.toArray,ds⟩ w
def uR (K:List Deferred→List Value→World→Prop) (Q:rS):rS
 | .normal,ds,l,w=>K ds l w
 | e,ds,l,w=>Q e ds l w
def jT (f:FuncId) (ro:Option Nat) (P:Program):List Code→rS→List Deferred→List Value→World→Prop
 | [],Q=>Q .normal
 | c::cs,Q=>fun ds l w=>Cd (f:=f) (ro:=ro) P ds c (uR (jT f ro P cs Q) Q) l w
def Run {f:FuncId} {ro:Option Nat} (P:Program) (ds:List Deferred) (cs:List Code) (Q:rS) (l:List Value) (w:World):Prop:=jT f ro P cs Q ds l w
section code
variable {f:FuncId} {ro:Option Nat} {P:Program} {ds:List Deferred} {Q:rS} {l:List Value} {w:World} {x y:Code} {cs:List Code}
theorem zA (h:Q .normal ds l w):Run (f:=f) (ro:=ro) P ds [] Q l w:=h
theorem zN (h:Run (f:=f) (ro:=ro) P ds (x::y::cs) Q l w):Run (f:=f) (ro:=ro) P ds (.seq x y::cs) Q l w:=by
 refine RX (qH h ?_)
 rintro e ⟨t,d⟩ w' h2
 cases e with
 | normal=>exact qH h2 (fun e a w h=>by cases e <;>exact h)
 | _=>exact h2
theorem xI (h:Run (f:=f) (ro:=ro) P ds cs Q l w):Run (f:=f) (ro:=ro) P ds (.skip::cs) Q l w:=M4 h
theorem wD (h:Q .ret ds l w):Run (f:=f) (ro:=ro) P ds (.ret::cs) Q l w:=RY h
theorem tE {n:Nat} (h:Q (.exit n) ds l w):Run (f:=f) (ro:=ro) P ds (.exit n::cs) Q l w:=M6 h
theorem yL {c:Operand} (hc:ev l c=some (.bool true)) (h:Run (f:=f) (ro:=ro) P ds (x::cs) Q l w):Run (f:=f) (ro:=ro) P ds (.cond c x y::cs) Q l w:=
 aS (jO hc) h
theorem zX {c:Operand} (hc:ev l c=some (.bool false)) (h:Run (f:=f) (ro:=ro) P ds (y::cs) Q l w):Run (f:=f) (ro:=ro) P ds (.cond c x y::cs) Q l w:=
 cH (jO hc) h
theorem wP {c:Operand} {b:Bool} (hc:ev l c=some (.bool b)) (h1:b=true→Run (f:=f) (ro:=ro) P ds (x::cs) Q l w) (h2:b=false→Run (f:=f) (ro:=ro) P ds (y::cs) Q l w):Run (f:=f) (ro:=ro) P ds (.cond c x y::cs) Q l w:=by
 cases b
 · exact zX hc (h2 Y)
 exact yL hc (h1 Y)
def iV (n:Nat) (K:List Deferred→List Value→World→Prop) (Q:rS):rS
 | .normal,ds,l,w=>K ds l w
 | .exit i,ds,l,w=>if i=n then K ds l w else Q (.exit i) ds l w
 | e,ds,l,w=>Q e ds l w
theorem wF {n:Nat} (h:Run (f:=f) (ro:=ro) P ds [x] (iV n (fun ds l w=>Run (f:=f) (ro:=ro) P ds cs Q l w) Q) l w):Run (f:=f) (ro:=ro) P ds (.block n x::cs) Q l w:=by
 refine KO (qH h ?_)
 rintro e a w' h2
 cases e with
 | exit i=>
  simp only[Exit.inBlock]
  simp only[uR,iV]at h2
  split
  · rename_i hi;rw[if_pos hi]at h2;exact h2
  rename_i hi;rw[if_neg hi]at h2;exact h2
 | _=>exact h2
theorem zD {n:Nat} {K:List Deferred→List Value→World→Prop} (h:K ds l w):iV n K Q .normal ds l w:=h
theorem zS {n:Nat} {K:List Deferred→List Value→World→Prop} (h:K ds l w):iV n K Q (.exit n) ds l w:=by simpa[iV]using h
theorem vJ {n:Nat} {K:List Deferred→List Value→World→Prop} (h:Q .ret ds l w):iV n K Q .ret ds l w:=h
def aU (K:List Deferred→List Value→World→Prop) (Q:rS):rS
 | .normal,ds,l,w=>K ds l w
 | e,ds,l,w=>Q e ds l w
theorem zH {K:List Deferred→List Value→World→Prop} (h:K ds l w):aU K Q .normal ds l w:=h
theorem zT {n:Nat} {K:List Deferred→List Value→World→Prop} (h:Q (.exit n) ds l w):aU K Q (.exit n) ds l w:=h
theorem yN {K:List Deferred→List Value→World→Prop} (h:Q .ret ds l w):aU K Q .ret ds l w:=h
theorem zU (I:Nat→List Value→World→Prop) (n₀:Nat) (h₀:I n₀ l w)
 (round:∀ n l w,I n l w→Run (f:=f) (ro:=ro) P ds [x] (aU (fun d' l' w'=>d'=ds∧∃ n',n' < n∧I n' l' w') Q) l w):Run (f:=f) (ro:=ro) P ds (.loop x::cs) Q l w:=by
 show Us _ _ _ _ _ _ _
 have hi:∀ (a:Act) w,(∃ n,a.defers=ds∧I n a.tmps.toList w)→a.defers=ds∧I (leastOf fun n=>a.defers=ds∧I n a.tmps.toList w) a.tmps.toList w:=fun a w h=>(leastOf_spec h).1
 refine M5 (fun a w=>∃ n,a.defers=ds∧I n a.tmps.toList w) (fun a w=>leastOf fun n=>a.defers=ds∧I n a.tmps.toList w) ⟨n₀,Y,h₀⟩ ?_
 rintro⟨t,d⟩ w' hI
 obtain⟨hd,h1⟩:=hi _ _ hI
 simp only at hd
 subst hd
 refine qH (round _ _ _ h1) ?_
 rintro e a w2 h2
 cases e with
 | normal=>
  obtain⟨hd,n',hn,hI'⟩:=h2
  exact⟨⟨n',hd,hI'⟩,Nat.lt_of_le_of_lt ((leastOf_spec (p:=fun n=>a.defers=d∧I n a.tmps.toList w2) ⟨n',hd,hI'⟩).2 n' ⟨hd,hI'⟩) hn⟩
 | _=>exact h2
abbrev QO (Q:rS) (ds:List Deferred):vQ:=fun e l w=>Q e ds l w
theorem zI {n:Nat} {os:List Oper} (hd:os.all sS=true) (hq:∀ l w,¬Q .outgrown ds l w) (h:Ops P ds os (fun l w=>Run (f:=f) (ro:=ro) P ds cs Q l w) (QO Q ds) os l w):Run (f:=f) (ro:=ro) P ds (.region n os.toArray false::cs) Q l w:=by
 refine lB (wpIn_region_lit ?_)
 have:=dL (ro:=ro) (n:=0) (P:=P) (ops:=os.toArray) (Q:=fun e a w'=>a.defers=ds∧QO Q ds e a.tmps.toList w') (Q':=fun e a w'=>uR (jT f ro P cs Q) Q e a.defers a.tmps.toList w')
  (fun a w h=>hq _ _ h.2) (fun e a w he h=>by cases e <;>first | exact absurd rfl he | (obtain⟨h1,h2⟩:=h;rw[h1];exact h2)) os [] ⟨l.toArray,ds⟩ w hd ?_
 · simpa using this
 unfold Ops at h
 refine(show ∀ (os':List Oper) (a:Act) (w:World),wpList P os.toArray (Exit.then (fun a w'=>a.defers=ds∧Run (f:=f) (ro:=ro) P ds cs Q a.tmps.toList w') (fun e a w'=>a.defers=ds∧QO Q ds e a.tmps.toList w')) os' a w→wpList P os.toArray (Exit.then (wpListIn (FR ro) 0 P os.toArray (fun e a w'=>uR (jT f ro P cs Q) Q e a.defers a.tmps.toList w') []) (fun e a w'=>a.defers=ds∧QO Q ds e a.tmps.toList w')) os' a w from ?_) os _ _ h
 intro os' a w h
 refine rK ?_ _ _ _ h
 rintro a w ⟨hd,h2⟩
 show jT f ro P cs Q a.defers a.tmps.toList w
 rw[hd]
 exact h2
end code
end Rn
section conv
variable {ro:Option Nat} {n:Nat} {P:Program} {ops:Array Oper} {md:Region.Mode} {Q Q':Exit→Act→World→Prop}
theorem wpRR {o:Oper} {a:Act} {w:World} {next next':Act→World→Prop} (hn:∀ a w,next a w→next' a w) (hq:∀ a w,¬Q .outgrown a w) (hqq:∀ e a w,e≠ .normal→Q e a w→Q' e a w) (hd:sS o=true)
 (h:o.wp P a w next Q∨(o.asks P a w∧LetsOut Q)):o.wpIn (FR ro) n P a w next' Q':=by
 rcases h with h | ⟨_,a1,w1,h2⟩
 · have h3:=wpR (ro:=ro) (n:=n) hd h
   refine⟨h3.1,?_⟩
   have h4:=h3.2
   generalize (o.semAt (FR ro).round a.eval).run P w=r at h4 ⊢
   cases r with
   | ok x w'=>
    cases x <;>first
     | exact hn _ _ h4
     | exact h4
     | exact⟨h4.1,CallsIn.mono h4.2 (fun e w'' he=>by
      cases e with
      | returned v=>exact hn _ _ he
      | panicked ch=>exact hqq _ _ _ (by simp) he
      | outgrown=>exact absurd he.choose_spec.choose_spec (hq _ _))⟩
     | exact⟨h4.1,RowsIn.mono h4.2 (fun v w'' he=>hn _ _ he)⟩
     | exact⟨h4.1,RoundIn.mono h4.2 (fun e w'' he=>by
      cases e with
      | returned v=>exact hn _ _ he
      | panicked ch=>exact hqq _ _ _ (by simp) he
      | outgrown=>exact absurd he.choose_spec.choose_spec (hq _ _))⟩
   | halt x w'=>cases x <;>first | exact hqq _ _ _ (by simp) h4 | exact h4
 exact absurd h2 (hq _ _)
theorem U9 {i:Nat} {a:Act} {w:World} {next next':Act→World→Prop} (hn:∀ a w,next a w→next' a w) (hq:∀ a w,¬Q .outgrown a w) (hqq:∀ e a w,e≠ .normal→Q e a w→Q' e a w) (hd:∀ o,ops[i]? =some o→sS o=true)
 (h:wpOp P ops Q i next a w):wpOpIn (FR ro) n P ops Q' i next' a w:=by
 unfold wpOp at h
 unfold wpOpIn
 split
 · rename_i hi;rw[hi]at h;exact hn _ _ h
 rename_i o hi
 rw[hi]at h
 simp only at h
 split
 · rename_i hw;rw[if_pos hw]at h;exact wpRR hn hq hqq (hd o hi) h
 rename_i hw;rw[if_neg hw]at h;exact⟨fun _ _=>trivial,hn _ _ h⟩
theorem M7 (hq:∀ a w,¬Q .outgrown a w) (hqq:∀ e a w,Q e a w→Q' e a w) (hd:∀ (i:Nat) (o:Oper),ops[i]? =some o→sS o=true):∀ (f:Nat) (listed:Array Bool) (a:Act) (w:World),wpAny P md ops Q f listed a w→wpAnyIn (FR ro) n P md ops Q' f listed a w
 | 0,_,_,_,h=>⟨h.1,hqq _ _ _ h.2⟩
 | f+1,_,_,_,h=>⟨fun hr=>hqq _ _ _ (h.1 hr),fun i hi=>U9 (fun a w h=>M7 hq hqq hd f _ a w h) hq (fun e a w _ h=>hqq e a w h) (hd i) (h.2 i hi)⟩
theorem eG {os:List Oper} (hd:os.all sS=true):∀ (i:Nat) (o:Oper),os.toArray[i]? =some o→sS o=true:=by
 intro i o h
 rw[Gx]at h
 exact Ew.1 hd o (Fh h)
theorem fO {a:Act} {w:World} {l:List Oper} (n:Nat) (hB:Region.lexTailB .any l.toArray n=true)
 (h:wpStill P l.toArray w (fun a'=>wpList P l.toArray Q (l.drop n) a' w) (l.take n) a):wpAny P .any l.toArray Q l.toArray.size (Array.replicate l.toArray.size false) a w:=by
 simp only[Region.lexTailB,Ce,decide_eq_true_eq]at hB
 obtain⟨⟨⟨⟨hsel,hn⟩,hs⟩,hc⟩,hlex⟩:=hB
 have hn':n < l.length:=by simpa using hn
 have htl:(l.take n).length=n:=by simp;omega
 have hdl:(l.drop n).length=l.toArray.size - n:=by simp
 have inv0:HeadInv .any l.toArray n (Array.replicate l.toArray.size false):=
  ⟨by simp,fun j oj _ hl=>(by rw[getD_replicate_false]at hl;cases hl),fun t _ ht=>getD_in (by simpa using ht) (getD_replicate_false _ _)⟩
 have H:=wpAnyL_lex (md:=.any) (g:=l.toArray.size - n) hsel hs hc hn (l.take n) 0 _ a (fun j hj=>by
  have hj':j < n:=by rw[htl]at hj;exact hj
  simp[hj']) (by simpa using htl) inv0 (by rw[htl];exact hlex) h
 have:=wpAny_of_head (Q':=Q) (g:=l.toArray.size - n) (fun listed a' hL=>by
  have:=wpAny_of_seq (md:=.any) (Q':=Q) (l.drop n) n listed a' w (fun j=>by simp[Em]) (by rw[hdl];exact hL.1) hL.2
  rwa [hdl]at this) _ _ _ H
 rw[htl,show n+(l.toArray.size - n)=l.toArray.size by omega]at this
 exact this
end conv
namespace Rn
section code
variable {f:FuncId} {ro:Option Nat} {P:Program} {ds:List Deferred} {Q:rS} {l:List Value} {w:World} {cs:List Code}
theorem C9 {n:Nat} {os:List Oper} (hm:P.follows .mixedOrders=true) (hd:os.all sS=true) {Q1:Exit→Act→World→Prop} (hq:∀ a w,¬Q1 .outgrown a w) (hqq:∀ e a w,Q1 e a w→uR (jT f ro P cs Q) Q e a.defers a.tmps.toList w)
 (h:wpAny P .any os.toArray Q1 os.toArray.size (Array.replicate os.toArray.size false) ⟨l.toArray,ds⟩ { w with drawn:=w.drawn+1 }):Run (f:=f) (ro:=ro) P ds (.region n os.toArray true::cs) Q l w:=
 lB (wpIn_region_any hm (M7 hq hqq (eG hd) _ _ _ _ h))
theorem NV {n:Nat} {os:List Oper} (k:Nat) (hm:P.follows .mixedOrders=true) (hB:Region.lexTailB .any os.toArray k=true) (hd:os.all sS=true) (hq:∀ l w,¬Q .outgrown ds l w)
 (h:∀ w',w'={ w with drawn:=w.drawn+1 }→yT P ds os w' (fun l'=>Ops P ds os (fun l w=>Run (f:=f) (ro:=ro) P ds cs Q l w) (QO Q ds) (os.drop k) l' w') (os.take k) l):Run (f:=f) (ro:=ro) P ds (.region n os.toArray true::cs) Q l w:=by
 refine C9 (Q1:=Exit.then (fun a w'=>a.defers=ds∧Run (f:=f) (ro:=ro) P ds cs Q a.tmps.toList w') (fun e a w'=>a.defers=ds∧QO Q ds e a.tmps.toList w')) hm hd (fun a w h=>hq _ _ h.2) ?_ (fO k hB ?_)
 · intro e a w h
   cases e with
   | normal=>show jT f ro P cs Q a.defers a.tmps.toList w;rw[h.1];exact h.2
   | _=>obtain⟨h1,h2⟩:=h;show Q _ a.defers a.tmps.toList w;rw[h1];exact h2
 have h':=h _ rfl
 unfold yT at h'
 refine still_mono ?_ _ _ h'
 rintro⟨t,d⟩ ⟨hd,h2⟩
 simp only at hd
 subst hd
 exact h2
theorem sY {n:Nat} {all:List Oper} {w0:World} {SS:List Nat} {es:List Ent} (s:List (Bool×Nat)) (H:Hp w0 w SS es) (idx:List Nat) (hm:P.follows .mixedOrders=true) (hnd:idx.Nodup)
 (hB:(Region.noSelect all.toArray && decide (s.length=all.length) && Ws all.toArray s (Array.replicate all.length false))=true) (hd:all.all sS=true)
 (h:∀ w',w'={ w with drawn:=w.drawn+1 }→rT P ds all (fun wz=>Hp w0 wz SS (idx.map fun i=>es.getD i (none,0,[]))) (fun l w=>Run (f:=f) (ro:=ro) P ds cs Q l w) s l w'):Run (f:=f) (ro:=ro) P ds (.region n all.toArray true::cs) Q l w:=by
 simp only[Ce,decide_eq_true_eq]at hB
 obtain⟨⟨hsel,hlen⟩,hB⟩:=hB
 refine C9 (Q1:=fun e a w'=>a.defers=ds∧Go.Proofs.YtjoeklkmnfaabaaGreat.uR (fun l w=>Run (f:=f) (ro:=ro) P ds cs Q l w) (fun _ _ _=>False) e a.tmps.toList w') hm hd (fun a w h=>h.2) ?_ ?_
 · intro e a w h
   cases e with
   | normal=>show jT f ro P cs Q a.defers a.tmps.toList w;rw[h.1];exact h.2
   | _=>exact h.2.elim
 have:=I9 hsel s _ l _ hB (H.drew.pick idx hnd) (h _ rfl)
 rw[hlen]at this
 exact wpAny_of_held _ _ _ _ (by simpa using this)
theorem zQ {n:Nat} {all:List Oper} {w0:World} {SS:List Nat} {es:List Ent} (z:Nat) (s:List (Bool×Nat)) (H:Hp w0 w SS es) (idx:List Nat) (hm:P.follows .mixedOrders=true) (hnd:idx.Nodup)
 (hB:(Region.noSelect all.toArray && decide (s.length=all.length) && decide (z+1=all.length) && Region.sinkB .any all.toArray z && Td all.toArray z s (Array.replicate all.length false))=true) (hd:all.all sS=true)
 (h:∀ w',w'={ w with drawn:=w.drawn+1 }→oY P ds all (fun wz=>Hp w0 wz SS (idx.map fun i=>es.getD i (none,0,[]))) (fun l w=>Run (f:=f) (ro:=ro) P ds cs Q l w) s l w'):Run (f:=f) (ro:=ro) P ds (.region n all.toArray true::cs) Q l w:=by
 simp only[Ce,decide_eq_true_eq]at hB
 obtain⟨⟨⟨⟨hsel,hlen⟩,hz⟩,hs⟩,hB⟩:=hB
 have inv0:HeadInv .any all.toArray z (Array.replicate all.toArray.size false):=
  ⟨by simp,fun j oj _ hl=>(by rw[getD_replicate_false]at hl;cases hl),fun t _ ht=>getD_in (by simpa using ht) (getD_replicate_false _ _)⟩
 refine C9 (Q1:=fun e a w'=>a.defers=ds∧Go.Proofs.YtjoeklkmnfaabaaGreat.uR (fun l w=>Run (f:=f) (ro:=ro) P ds cs Q l w) (fun _ _ _=>False) e a.tmps.toList w') hm hd (fun a w h=>h.2) ?_ ?_
 · intro e a w h
   cases e with
   | normal=>show jT f ro P cs Q a.defers a.tmps.toList w;rw[h.1];exact h.2
   | _=>exact h.2.elim
 have:=bP (S:=fun wz=>Hp w0 wz SS (idx.map fun i=>es.getD i (none,0,[]))) (K:=fun l w=>Run (f:=f) (ro:=ro) P ds cs Q l w) (P:=P) (ds:=ds) hsel hs (by simpa using hz) s _ l { w with drawn:=w.drawn+1 } (fun _=>by simpa using inv0) hB (fun _=>H.drew.pick idx hnd) (h _ rfl)
 rw[hlen]at this
 have h2:=kK _ _ _ _ this
 simpa using h2
def DR (P:Program):List Deferred→World→(World→Prop)→Prop
 | [],w,K=>K w
 | d::ds,w,K=>∃ r w',d.target=.collected r∧(Instr.takeDeferred r).run P w=.ok [] w'∧DR P ds w' K
def fin (P:Program) (fn:Func) (R:Value→World→Prop) (RP:rI→World→Prop):rS
 | .normal,ds,l,w=>DR P ds w fun w=>∃ v,(results fn l.toArray).run P w=.ok v w∧R v w
 | .ret,ds,l,w=>DR P ds w fun w=>∃ v,(results fn l.toArray).run P w=.ok v w∧R v w
 | .panic ch,ds,_,w=>DR P ds w (RP ch)
 | _,_,_,_=>False
theorem jG {P:Program} {fn:Func} {tmps:Array Value} {R:Ending→World→Prop} {u:FrameMode} (hu:u≠ .run) {K:World→Prop} (hK:∀ w,K w→LeavesIn (FR none) 0 P fn tmps R [] u w):∀ (ds:List Deferred) (w:World),DR P ds w K→LeavesInM (FR none) 0 P fn tmps R ds u w
 | [],w,h=>hK w h
 | _::ds,_,⟨r,w',h1,h2,h3⟩=>⟨hu,.inl ⟨r,w',h1,h2,jG hu hK ds w' h3⟩⟩
theorem FX {fn:Func} {c:Code} {args:Array Value} {R:Ending→World→Prop} (hf:P.funcs[f]? =some fn) (hb:fn.body=some c)
 (h:Us f none P c (bodyPostM (FR none) 0 P fn R) { tmps:=args++Array.replicate (fn.ntmps - args.size) undef,defers:=[] } w):Calls P f args w R:=by
 refine(callsIn_wide (n:=0)).1 ⟨trivial,fun cs _=>?_⟩
 let b:Frame:={ (default:Frame)with fn:=f,kind:=.normal,roundOf:=none }
 have henter:Frame.enter P f args .normal=
  b.atR { tmps:=args++Array.replicate (fn.ntmps - args.size) undef,defers:=[] } [.code c]:=by
  simp[Frame.enter,Frame.atR,hf,hb,b]
 have hw:∀ m,Machine.fenced P Fence.wide m:=fenced_wide P
 have hst:∀ (ds:List Deferred) (u:FrameMode) (w:World) (fr:Frame),fr.mode=u→fr.defers=ds→fr.tmps=fr.tmps→fr.fn=f→fr.kind=.normal→LeavesInM (FR none) 0 P fn fr.tmps R ds u w→
  ∃ e w' fr',R e w'∧ComesIn (Machine.fenced P Fence.wide) P (lone fr cs w) (lone fr' cs w') e∧fr'.fn=fr.fn∧fr'.leaving P w' e:=by
  intro ds u w fr hu hd _ hff hk h
  exact leaves_stepsInM (F:=FR none) (n:=0) ds u w fr cs hu hd Y (by rw[hff];exact hf) hk trivial (IW _ _) h
 obtain⟨e,a',w',hq,harr⟩:=h b [] cs rfl rfl
 rw[← henter]at harr
 cases e with
 | normal=>
  obtain⟨e',w'',fr',hR,hs,hfn,hl⟩:=hst a'.defers .returning w' { b.atR a' []with mode:=.returning } rfl rfl rfl rfl rfl hq
  exact⟨e',w'',fr',hR,ComesIn.of_steps (StepsIn.trans harr (.one (hw _) (stepR_end Y))) hs,hfn,hl⟩
 | ret=>
  obtain⟨todo,hs₀⟩:=harr.1 rfl
  obtain⟨e',w'',fr',hR,hs,hfn,hl⟩:=hst a'.defers .returning w' { b.atR a' todo with mode:=.returning } rfl rfl rfl rfl rfl hq
  exact⟨e',w'',fr',hR,ComesIn.of_steps hs₀ hs,hfn,hl⟩
 | panic chain=>
  obtain⟨todo,hs₀⟩:=harr
  obtain⟨e',w'',fr',hR,hs,hfn,hl⟩:=hst a'.defers (.panicking chain) w' { b.atR a' todo with mode:=.panicking chain } rfl rfl rfl rfl rfl hq
  exact⟨e',w'',fr',hR,ComesIn.of_steps hs₀ hs,hfn,hl⟩
 | exit id=>exact hq.elim
 | goto l=>exact hq.elim
 | outgrown=>exact⟨.outgrown,w',b,hq,harr.resolve_left (by simp[b]),rfl,trivial⟩
theorem zE {fn:Func} {c:Code} {args:List Value} {R:Value→World→Prop} {RP:rI→World→Prop} {n:Nat} (hf:P.funcs[f]? =some fn) (hn:fn.ntmps=n) (hb:fn.body=some c)
 (h:Run (f:=f) (ro:=none) P [] [c] (fin P fn R RP) (args++List.replicate (n - args.length) undef) w):rV P f args.toArray w R RP:=by
 refine FX hf hb ?_
 have e:(args.toArray++Array.replicate (fn.ntmps - args.toArray.size) undef)=(args++List.replicate (n - args.length) undef).toArray:=by
  rw[hn];simp
 rw[e]
 refine qH h ?_
 intro e a w' hq
 have e2:a.tmps.toList.toArray=a.tmps:=by simp
 cases e with
 | normal=>
  refine jG (by simp) (fun w hw=>?_) _ _ hq
  obtain⟨v,h1,h2⟩:=hw
  rw[e2]at h1
  exact⟨v,h1,h2⟩
 | ret=>
  refine jG (by simp) (fun w hw=>?_) _ _ hq
  obtain⟨v,h1,h2⟩:=hw
  rw[e2]at h1
  exact⟨v,h1,h2⟩
 | panic ch=>exact jG (by simp) (fun w hw=>hw) _ _ hq
 | exit id=>exact hq.elim
 | goto l=>exact hq.elim
 | outgrown=>exact hq.elim
end code
end Rn
section
variable {P:Program} {k:FuncId} {w:World}
abbrev dfr (k:FuncId) (vs:List Value):Deferred:={ target:=.fn (.func k) vs.toArray,args:=#[] }
def Rec (u:FrameMode) (v:Value) (u':FrameMode):Prop:=
 (u=.returning∧v=.nilIface∧u'=.returning)∨(∃ x,u=.panicking [{ v:=x,recovered:=false }]∧v=x∧u'=.panicking [{ v:=x,recovered:=true }])
theorem Rec.settle {u:FrameMode} {v:Value} {u':FrameMode} (h:Rec u v u'):settle u'=.returning:=by
 rcases h with ⟨_,_,rfl⟩ | ⟨x,_,_,rfl⟩ <;>rfl
theorem Rec.run {u:FrameMode} {v:Value} {u':FrameMode} (h:Rec u v u'):u≠ .run:=by
 rcases h with ⟨rfl,_,_⟩ | ⟨x,rfl,_,_⟩ <;>simp
theorem aE (ρ:Operand→Value) (d:Option Tmp) (ty:TypeId) (pos:String) (af:Array Edge) (ats:Array TypeId):(execOp ρ ⟨d,.call { callee:=.builtin .recover,args:=#[],argTypes:=ats },ty,pos,af,none⟩).run P w=.ok .recover w:=by
 simp[execOp,resolve,invoke,builtin]
theorem cY {fn:Func} {n m:Nat} {rest:Code} {d1 d2:Tmp} {t1 t2:TypeId} {p1 p2:String} {a1 a2:Array Edge} {args:List Value} {u u':FrameMode} {v:Value} {R:Value→World→Prop} (hf:P.funcs[k]? =some fn) (hn:fn.ntmps=m)
 (hb:fn.body=some (.seq (.region n #[⟨some d1,.call { callee:=.builtin .recover,args:=#[],argTypes:=#[] },t1,p1,a1,none⟩,⟨some d2,.assign (.tmp d1),t2,p2,a2,none⟩] false) rest))
 (hrec:Rec u v u') (hv:nth ((args++List.replicate (m - args.length) undef).set d1 v) d1=some v) (h:Run P [] [rest] (fin P fn R) (((args++List.replicate (m - args.length) undef).set d1 v).set d2 v) w):
 CallsDIn (FR none) 0 P k args.toArray u w fun e u1 w'=>∃ r,e=.returned r∧u1=u'∧R r w':=by
 refine⟨trivial,fun c₀ cs hu _=>?_⟩
 show ∃ e u1 w' fr,_∧ComesIn (Machine.fenced P Fence.wide) P _ _ e∧_∧_∧_
 let b:Frame:={ (default:Frame)with fn:=k,kind:=.deferred }
 have e1:(args.toArray++Array.replicate (fn.ntmps - args.toArray.size) undef)=(args++List.replicate (m - args.length) undef).toArray:=by
  rw[hn];simp
 have henter:Frame.enter P k args.toArray .deferred=
  b.at ⟨(args++List.replicate (m - args.length) undef).toArray,[]⟩ [.code (.seq (.region n #[⟨some d1,.call { callee:=.builtin .recover,args:=#[],argTypes:=#[] },t1,p1,a1,none⟩,⟨some d2,.assign (.tmp d1),t2,p2,a2,none⟩] false) rest)]:=by
  have e1':(args.toArray++Array.replicate (m - args.toArray.size) undef)=(args++List.replicate (m - args.length) undef).toArray:=by simp
  simp[Frame.enter,Frame.at,hf,hb,hn,b]
 have hS:(Code.seq (.region n #[⟨some d1,.call { callee:=.builtin .recover,args:=#[],argTypes:=#[] },t1,p1,a1,none⟩,⟨some d2,.assign (.tmp d1),t2,p2,a2,none⟩] false) rest).wpS P
  (fun e a cs' w'=>(e=.normal∨e=.ret)∧a.defers=[]∧cs'={ c₀ with mode:=u' }::cs∧∃ r,(results fn a.tmps).run P w'=.ok r w'∧R r w') ⟨(args++List.replicate (m - args.length) undef).toArray,[]⟩ (c₀::cs) w:=by
  refine wpS_seq (wpS_region ?_)
  generalize hl:args++List.replicate (m - args.length) undef=l at hv h ⊢
  have hrest:∀ cs',cs'={ c₀ with mode:=u' }::cs→wpOpsS P #[⟨some d1,.call { callee:=.builtin .recover,args:=#[],argTypes:=#[] },t1,p1,a1,none⟩,⟨some d2,.assign (.tmp d1),t2,p2,a2,none⟩]
   (Exit.thenS (rest.wpS P (fun e a cs' w'=>(e=.normal∨e=.ret)∧a.defers=[]∧cs'={ c₀ with mode:=u' }::cs∧∃ r,(results fn a.tmps).run P w'=.ok r w'∧R r w')) (fun e a cs' w'=>(e=.normal∨e=.ret)∧a.defers=[]∧cs'={ c₀ with mode:=u' }::cs∧∃ r,(results fn a.tmps).run P w'=.ok r w'∧R r w')) [1] ((⟨l.toArray,[]⟩:Act).put (some d1) v) cs' w:=by
   intro cs' hcs
   have hx:(execOp ((⟨l.toArray,[]⟩:Act).put (some d1) v).eval ⟨some d2,.assign (.tmp d1),t2,p2,a2,none⟩).run P w=.ok (.value v) w:=by
    rw[tG]
    have:(⟨(l.set d1 v).toArray,[]⟩:Act).eval (.tmp d1)=v:=jO (x:=.tmp d1) (by simpa[ev]using hv)
    simp[execOp,this]
   simp only[wpOpsS,Gx,Jp,Jc,Region.wanted,if_true,hx]
   rw[Oper.upon_value,tG,tG]
   refine wpS_of_wp (Go.wp_mono h ?_)
   rintro e ⟨t,d⟩ w' ⟨hd,hq⟩
   simp only at hd
   subst hd
   have fin':∀ {e:Exit},(e=.normal∨e=.ret)→(∃ r,(results fn t).run P w'=.ok r w'∧R r w')→(e=.normal∨e=.ret)∧(⟨t,[]⟩:Act).defers=[]∧cs'={ c₀ with mode:=u' }::cs∧∃ r,(results fn (⟨t,[]⟩:Act).tmps).run P w'=.ok r w'∧R r w':=fun h1 h2=>⟨h1,rfl,hcs,h2⟩
   cases e with
   | normal=>exact fin' (.inl rfl) (by simpa[uR,Run,fin]using hq)
   | ret=>exact fin' (.inr rfl) (by simpa[uR,Run,fin]using hq)
   | exit i=>exact hq.elim
   | goto t=>exact hq.elim
   | panic ch=>exact hq.elim
   | outgrown=>exact hq.elim
  show wpOpsS P _ _ [0,1] _ _ _
  unfold wpOpsS
  simp only[Gx,Jc,Region.wanted,if_true,aE]
  rcases hrec with ⟨h1,h2,h3⟩ | ⟨x,h1,h2,h3⟩
  · have:recoverD (c₀::cs)=none:=by simp[recoverD,hu,h1]
    rw[this]
    subst h2
    refine hrest _ ?_
    rw[h3,← h1,← hu]
  have:recoverD (c₀::cs)=some (x,{ c₀ with mode:=u' }::cs):=by simp[recoverD,hu,h1,h3]
  rw[this]
  subst h2
  exact hrest _ Y
 obtain⟨e,a',cs',w',hq,harr⟩:=hS b [] rfl rfl
 rw[← henter]at harr
 obtain⟨hcase,hd,rfl,v',hr,hR⟩:=hq
 rcases hcase with rfl | rfl
 · exact⟨.returned v',u',w',_,⟨v',Y,Y,hR⟩,comesIn_wide.2 (Steps.trans harr (.one step_end)),Y,Y,Y,hd,fn,hf,hr⟩
 obtain⟨todo,hs⟩:=harr
 exact⟨.returned v',u',w',_,⟨v',Y,Y,hR⟩,comesIn_wide.2 hs,Y,Y,Y,hd,fn,hf,hr⟩
end
namespace Rn
section
variable {f:FuncId} {P:Program} {ds:List Deferred} {Q:rS} {l:List Value} {w:World} {cs:List Code}
theorem AP {n:Nat} {d:Tmp} {k:FuncId} {caps:List Operand} {vs:List Value} {t1 t2:TypeId} {p1 p2:String} {a1 a2:Array Edge} (h1:evs l caps=some vs) (hn:nth (l.set d (.func (.func k) #[] vs.toArray)) d=some (.func (.func k) #[] vs.toArray))
 (h:Run (f:=f) (ro:=none) P (dfr k vs::ds) cs Q (l.set d (.func (.func k) #[] vs.toArray)) w):
 Run (f:=f) (ro:=none) P ds (.region n #[⟨some d,.makeFunc (.func k) #[] caps.toArray,t1,p1,a1,none⟩,⟨none,.defer { callee:=.value (.tmp d),args:=#[],argTypes:=#[] },t2,p2,a2,none⟩] false::cs) Q l w:=by
 refine lB (wpIn_region_lit (l:=[⟨some d,.makeFunc (.func k) #[] caps.toArray,t1,p1,a1,none⟩,⟨none,.defer { callee:=.value (.tmp d),args:=#[],argTypes:=#[] },t2,p2,a2,none⟩]) ?_)
 have e1:=wH (P:=P) (ty:=t1) (w:=w) (fn:=.func k) (ys:=caps) (xs:=[]) (us:=[]) rfl h1 (some d) p1 a1 none
 have e2:(execOp (rho (l.set d (.func (.func k) #[] vs.toArray))) ⟨none,.defer { callee:=.value (.tmp d),args:=#[],argTypes:=#[] },t2,p2,a2,none⟩).run P w=.ok (.defer (dfr k vs)) w:=by
  have:rho (l.set d (.func (.func k) #[] vs.toArray)) (.tmp d)=.func (.func k) #[] vs.toArray:=zV (by simpa[ev]using hn)
  simp[execOp,resolve,Deferred.ofValue,this]
 refine wpListIn_plain Y fun K hK=>⟨fun _ _=>trivial,?_⟩
 rw[Oper.semAt_eq _ _ _ (fun c hc=>(by cases hc)),sB,e1]
 refine hK _ _ ?_
 rw[tG]
 refine wpListIn_plain Y fun K2 hK2=>⟨fun _ _=>trivial,?_⟩
 rw[show ∀ (ρ:Operand→Value) (o:Oper),Oper.semAt (FR none).round ρ o=execOp ρ o from fun ρ o=>Oper.semAt_none ρ o,sB,e2]
 refine hK2 _ _ ?_
 exact h
def QY (R:Value→World→Prop) (RP:rI→World→Prop):Ending→World→Prop
 | .returned v,w=>R v w
 | .panicked ch,w=>RP ch w
 | .outgrown,_=>False
def QP (P:Program) (fn:Func) (R:Value→World→Prop) (RP:rI→World→Prop):rS
 | .normal,ds,l,w=>LeavesInM (FR none) 0 P fn l.toArray (QY R RP) ds .returning w
 | .ret,ds,l,w=>LeavesInM (FR none) 0 P fn l.toArray (QY R RP) ds .returning w
 | .panic ch,ds,l,w=>LeavesInM (FR none) 0 P fn l.toArray (QY R RP) ds (.panicking ch) w
 | _,_,_,_=>False
theorem FN {fn:Func} {c:Code} {args:List Value} {R:Value→World→Prop} {RP:rI→World→Prop} {n:Nat} (hf:P.funcs[f]? =some fn) (hn:fn.ntmps=n) (hb:fn.body=some c)
 (h:Run (f:=f) (ro:=none) P [] [c] (QP P fn R RP) (args++List.replicate (n - args.length) undef) w):rV P f args.toArray w R RP:=by
 refine Calls.mono (R:=QY R RP) (FX hf hb ?_) (fun e w h=>by cases e <;>exact h)
 have e:(args.toArray++Array.replicate (fn.ntmps - args.toArray.size) undef)=(args++List.replicate (n - args.length) undef).toArray:=by
  rw[hn];simp
 rw[e]
 refine qH h ?_
 intro e a w' hq
 have e2:a.tmps.toList.toArray=a.tmps:=by simp
 cases e with
 | normal=>unfold uR jT QP at hq;simp only[e2]at hq;exact hq
 | ret=>unfold uR QP at hq;simp only[e2]at hq;exact hq
 | panic ch=>unfold uR QP at hq;simp only[e2]at hq;exact hq
 | exit id=>exact hq.elim
 | goto l=>exact hq.elim
 | outgrown=>exact hq.elim
theorem QN {fn:Func} {R:Value→World→Prop} {RP:rI→World→Prop} {v:Value} (h:(results fn l.toArray).run P w=.ok v w) (hR:R v w):QP P fn R RP .ret [] l w:=⟨v,h,hR⟩
theorem iN {fn:Func} {k:FuncId} {vs:List Value} {R:Value→World→Prop} {RP:rI→World→Prop} {u u':FrameMode} {v:Value} (hgo:yB P k=true) (hrec:Rec u v u')
 (h:CallsDIn (FR none) 0 P k vs.toArray u w fun e u1 w'=>∃ r,e=.returned r∧u1=u'∧∃ v,(results fn l.toArray).run P w'=.ok v w'∧R v w'):LeavesInM (FR none) 0 P fn l.toArray (QY R RP) [dfr k vs] u w:=by
 refine⟨hrec.run,.inr ⟨fun hd=>(by cases hd),.func k,vs.toArray,k,vs.toArray,Y,?_,fun _ _=>trivial,?_⟩⟩
 · simp[invoke,gC hgo]
 refine⟨trivial,fun c cs hu hr=>?_⟩
 obtain⟨e,u1,w',fr,⟨r,he,hu1,v',h1,h2⟩,h3⟩:=h.2 c cs hu (IW _ _)
 refine⟨e,u1,w',fr,?_,h3⟩
 rw[he,hu1]
 show LeavesInM _ _ _ _ _ _ [] (Go.settle u') w'
 rw[hrec.settle]
 exact⟨v',h1,h2⟩
end
end Rn
end Go.Proofs.YtjoeklkmnfaabaaGreat
