/-
  Parts of the walk, one behind the other.
-/
import Derived.Test.YtjoeklkmnfaabaaGreatRows
import Derived.WalkKit
import Derived.Deep.LoopGhost
import Derived.Deep.WholeRow
import Derived.StillTail
import Derived.OrdersHeld
import Derived.Laws.CopyRow
import Derived.Laws.StructEq
import Derived.Laws.ResultCell
import Derived.Lib.AppendZerosOnto
import Derived.Lib.Overlaps
import Derived.Lib.Bytealg
import Derived.MapKept
import Derived.Laws.Externs
import Derived.RangeFuncRecord
import Derived.OrdersIn
import Derived.TacticsIn
import Derived.Recover
namespace Go.Proofs.YtjoeklkmnfaabaaGreat
open Go Go.RowKit
set_option linter.unusedVariables false
set_option linter.unusedSimpArgs false
theorem Y {α : Sort _} {a : α} : a = a := rfl
theorem Ak:type_of% @Nat.le_refl:=@Nat.le_refl
theorem Dw:type_of% @Array.getElem?_eq_some_iff:=@Array.getElem?_eq_some_iff
theorem Ec:type_of% @List.getElem?_eq_some_iff:=@List.getElem?_eq_some_iff
theorem Jj:type_of% @Nat.lt_or_ge:=@Nat.lt_or_ge
theorem Di:type_of% @List.getElem?_append_left:=@List.getElem?_append_left
theorem Eb:type_of% @List.getElem?_append_right:=@List.getElem?_append_right
theorem Nb:type_of% @List.getElem?_map:=@List.getElem?_map
theorem Ig:type_of% @Option.map_some:=@Option.map_some
theorem Ea:type_of% @List.getD_eq_getElem?_getD:=@List.getD_eq_getElem?_getD
theorem Qj:type_of% @List.pairwise_iff_getElem:=@List.pairwise_iff_getElem
theorem Ky:type_of% @List.getElem?_set:=@List.getElem?_set
theorem Ce:type_of% @Nat.le_trans:=@Nat.le_trans
theorem Iy:type_of% @World.block_lt_of_cell?:=@World.block_lt_of_cell?
theorem Dq:type_of% @List.length_nil:=@List.length_nil
theorem Lm:type_of% @Addr.add_lit:=@Addr.add_lit
theorem Ba:type_of% @Nat.zero_add:=@Nat.zero_add
theorem Fz:type_of% @Nat.add_assoc:=@Nat.add_assoc
theorem Aw:type_of% @List.length_take:=@List.length_take
theorem Bl:type_of% @List.length_drop:=@List.length_drop
theorem Ll:type_of% @Nat.sub_mul:=@Nat.sub_mul
theorem Io:type_of% @Nat.min_eq_left:=@Nat.min_eq_left
theorem Dp:type_of% @Nat.mul_le_mul_right:=@Nat.mul_le_mul_right
theorem Ic:type_of% @List.getElem?_take:=@List.getElem?_take
theorem Em:type_of% @List.getElem?_drop:=@List.getElem?_drop
theorem Gv:type_of% @List.getElem?_toArray:=@List.getElem?_toArray
theorem Ci:type_of% @Bool.and_eq_true:=@Bool.and_eq_true
theorem Kw:type_of% @Int.eq_ofNat_of_zero_le:=@Int.eq_ofNat_of_zero_le
theorem Iw:type_of% @Addr.add_zero':=@Addr.add_zero'
theorem Et:type_of% @List.all_eq_true:=@List.all_eq_true
theorem Qe:type_of% @Array.setIfInBounds_comm:=@Array.setIfInBounds_comm
theorem Bj:type_of% @List.length_cons:=@List.length_cons
theorem Ot:type_of% @Region.noSelect_spec:=@Region.noSelect_spec
theorem Oq:type_of% @Region.free_spec:=@Region.free_spec
theorem Kv:type_of% @Nat.add_comm:=@Nat.add_comm
theorem Gp:type_of% @List.nil_append:=@List.nil_append
theorem Jf:type_of% @List.cons_append:=@List.cons_append
theorem Ib:type_of% @List.size_toArray:=@List.size_toArray
theorem Ae:type_of% @List.length_append:=@List.length_append
theorem Hr:type_of% @Nat.add_sub_cancel_left:=@Nat.add_sub_cancel_left
theorem Fg:type_of% @List.take_append_drop:=@List.take_append_drop
theorem Oo:type_of% @List.take_append:=@List.take_append
theorem Ej:type_of% @List.take_of_length_le:=@List.take_of_length_le
theorem Gn:type_of% @List.drop_of_length_le:=@List.drop_of_length_le
theorem Fq:type_of% @List.drop_drop:=@List.drop_drop
theorem Ia:type_of% @Nat.add_zero:=@Nat.add_zero
theorem Il:type_of% @Nat.mod_eq_of_lt:=@Nat.mod_eq_of_lt
theorem Ku:type_of% @Nat.eq_zero_or_pos:=@Nat.eq_zero_or_pos
theorem Hq:type_of% @Nat.mod_lt:=@Nat.mod_lt
theorem Cb:type_of% @List.getElem?_eq_getElem:=@List.getElem?_eq_getElem
theorem Cc:type_of% @Nat.mul_one:=@Nat.mul_one
theorem Dv:type_of% @Nat.add_mul:=@Nat.add_mul
theorem Ee:type_of% @List.eq_nil_of_length_eq_zero:=@List.eq_nil_of_length_eq_zero
theorem Dt:type_of% @List.append_nil:=@List.append_nil
theorem Om:type_of% @List.ext_getElem?:=@List.ext_getElem?
theorem Kt:type_of% @List.length_set:=@List.length_set
theorem Lj:type_of% @List.getElem?_eq_none:=@List.getElem?_eq_none
theorem Ey:type_of% @IntWalk.u64_in:=@IntWalk.u64_in
theorem Am:type_of% @Nat.zero_le:=@Nat.zero_le
theorem Ad:type_of% @IntWalk.i64_in:=@IntWalk.i64_in
theorem Ol:type_of% @List.drop_eq_getElem_cons:=@List.drop_eq_getElem_cons
theorem Bq:type_of% @List.mem_append:=@List.mem_append
theorem Qd:type_of% @List.mem_append_right:=@List.mem_append_right
theorem Ew:type_of% @List.mem_filterMap:=@List.mem_filterMap
theorem Fe:type_of% @List.mem_of_getElem?:=@List.mem_of_getElem?
theorem Ik:type_of% @List.mem_map:=@List.mem_map
theorem Eu:type_of% @List.mem_cons_of_mem:=@List.mem_cons_of_mem
theorem Dh:type_of% @List.getElem?_of_mem:=@List.getElem?_of_mem
theorem Oj:type_of% @List.mem_append_left:=@List.mem_append_left
theorem Jr:type_of% @Nat.zero_mul:=@Nat.zero_mul
theorem Az:type_of% @List.mem_singleton:=@List.mem_singleton
theorem Ij:type_of% @List.flatten_cons:=@List.flatten_cons
theorem Kr:type_of% @List.flatten_append:=@List.flatten_append
theorem Bh:type_of% @List.append_assoc:=@List.append_assoc
theorem Jq:type_of% @List.getElem?_cons_zero:=@List.getElem?_cons_zero
theorem Gu:type_of% @List.filter_cons:=@List.filter_cons
theorem Lh:type_of% @Nat.sub_self:=@Nat.sub_self
theorem Oi:type_of% @Nat.le_of_ble_eq_true:=@Nat.le_of_ble_eq_true
theorem Kq:type_of% @List.getElem?_cons_succ:=@List.getElem?_cons_succ
theorem Cj:type_of% @List.mem_cons:=@List.mem_cons
theorem Es:type_of% @List.mem_of_mem_drop:=@List.mem_of_mem_drop
theorem Jp:type_of% @List.flatMap_cons:=@List.flatMap_cons
theorem Qc:type_of% @List.take_append_of_le_length:=@List.take_append_of_le_length
theorem Jo:type_of% @List.take_add_one:=@List.take_add_one
theorem Ep:type_of% @List.drop_zero:=@List.drop_zero
theorem Ii:type_of% @List.take_left':=@List.take_left'
theorem Gh:type_of% @List.drop_left':=@List.drop_left'
theorem Jm:type_of% @List.getElem_mem:=@List.getElem_mem
theorem Qr:type_of% @List.drop_append_of_le_length:=@List.drop_append_of_le_length
theorem Oh:type_of% @Bool.false_ne_true:=@Bool.false_ne_true
theorem Gg:type_of% @List.mem_of_mem_take:=@List.mem_of_mem_take
theorem Bz:type_of% @List.take_length:=@List.take_length
theorem Je:type_of% @List.map_cons:=@List.map_cons
theorem Nl:type_of% @Nat.mod_add_mod:=@Nat.mod_add_mod
theorem Dx:type_of% @List.map_append:=@List.map_append
theorem Qb:type_of% @List.getElem?_take_of_lt:=@List.getElem?_take_of_lt
theorem Le:type_of% @List.filter_append:=@List.filter_append
theorem Ld:type_of% @List.filter_congr:=@List.filter_congr
theorem Dz:type_of% @List.mem_filter:=@List.mem_filter
theorem Nk:type_of% @List.length_filter_le:=@List.length_filter_le
theorem Bg:type_of% @List.length_map:=@List.length_map
theorem Gm:type_of% @List.mem_cons_self:=@List.mem_cons_self
theorem Jh:type_of% @List.not_mem_nil:=@List.not_mem_nil
theorem Gl:type_of% @Nat.add_le_add:=@Nat.add_le_add
@[reducible] def Aa (n:Int):Value:=.int .i64 n
@[reducible] def Ac (a:Option Addr) (n c:Nat):Value:=.slice a n c
@[reducible] def Dn:Value:=.slice none 0 0
@[reducible] def Ah (g:Nat):Value:=.pointer (some ⟨g,0,none⟩)
@[reducible] def Td:List Value:=[Aa 0,Aa 0,Dn,Aa 0,Dn,Dn]
@[reducible] def Qh:=fun a=>([Ac a 8 8,Dn,Dn]:List Value)
@[reducible] def Ti:List Value:=[Aa 0,Aa 0,.bool false,Aa 0,Aa 0,Aa 0,Aa 0]
abbrev Lc:=@Tryz.underlying22
abbrev U23:=@Tryz.underlying23
abbrev U27:=@Tryz.underlying27
abbrev Ue:=@Tryz.underlying37
abbrev Ht:=@Tryz.underlying38
abbrev Lp:=@Tryz.underlying39
abbrev Yw:=@Tryz.underlying50
abbrev U65:=@Tryz.underlying65
abbrev Gz:=@Tryz.underlying73
abbrev U86:=@Tryz.underlying86
abbrev U87:=@Tryz.underlying87
abbrev U91:=@Tryz.underlying91
abbrev Jd:=@Tryz.underlying94
abbrev Lr:=@Tryz.underlying95
abbrev Ve:=@Tryz.underlying98
abbrev Lu:=@Tryz.underlying118
abbrev U136:=@Tryz.underlying136
abbrev Yp:=@Tryz.underlying144
abbrev Tn:=@Tryz.underlying175
abbrev U192:=@Tryz.underlying192
abbrev Nz:=@Tryz.underlying220
abbrev Yo:=@Tryz.underlying252
def nth :List Value→Nat→Option Value
 | [],_=>none
 | a::_,0=>some a
 | _::l,n+1=>nth l n
theorem pP :∀ (l:List Value) (n:Nat),nth l n=l[n]?
 | [],n=>by simp[nth]
 | _::_,0=>by simp[nth]
 | _::l,n+1=>by simpa[nth]using pP l n
def ev (l:List Value):Operand→Option Value
 | .tmp t=>nth l t
 | .const v=>some v
 | .global g=>some (.pointer (some ⟨g,0,none⟩))
 | .func f=>some (.func (.func f) #[] #[])
def evs (l:List Value):List Operand→Option (List Value)
 | []=>some []
 | x::xs=>match ev l x,evs l xs with
  | some v,some vs=>some (v::vs)
  | _,_=>none
def rho (l:List Value):Operand→Value:=Act.eval ⟨l.toArray,[]⟩
theorem sA (l:List Value) (ds:List Deferred):Act.eval ⟨l.toArray,ds⟩=rho l:=by
 funext x;cases x <;>rfl
theorem zW {l:List Value} {x:Operand} {v:Value} (h:ev l x=some v):rho l x=v:=by
 cases x with
 | tmp t=>
  simp only[ev,pP]at h
  simp[rho,Act.eval,h]
 | const c=>simpa[ev,rho,Act.eval]using h
 | global g=>simpa[ev,rho,Act.eval]using h
 | func f=>simpa[ev,rho,Act.eval]using h
theorem mA {l:List Value}:∀ {xs:List Operand} {vs:List Value},evs l xs=some vs→xs.map (rho l)=vs
 | [],vs,h=>by simp[evs]at h;simp[h]
 | x::xs,vs,h=>by
  simp only[evs]at h
  cases hx:ev l x with
  | none=>rw[hx]at h;simp at h
  | some v=>
   cases hxs:evs l xs with
   | none=>rw[hx,hxs]at h;simp at h
   | some us=>
    rw[hx,hxs]at h
    simp only[Option.some.injEq]at h
    subst h
    simp[zW hx,mA hxs]
def xM :List (Option Value)→List Value→Prop
 | [],l=>l=[]
 | some v::ps,l=>∃ l',l=v::l'∧xM ps l'
 | none::ps,l=>∃ x l',l=x::l'∧xM ps l'
theorem f0 :xM [] []:=rfl
theorem fs {v:Value} {ps:List (Option Value)} {l:List Value} (h:xM ps l):xM (some v::ps) (v::l):=⟨l,rfl,h⟩
theorem fn {x:Value} {ps:List (Option Value)} {l:List Value} (h:xM ps l):xM (none::ps) (x::l):=⟨x,l,rfl,h⟩
def told (j:Nat→Value):List (Option Value)→Nat→List Value
 | [],_=>[]
 | some v::ps,k=>v::told j ps (k+1)
 | none::ps,k=>j k::told j ps (k+1)
theorem xM.ZA :∀ {ps:List (Option Value)} {l:List Value} (k:Nat),xM ps l→∃ j,l=told j ps k
 | [],l,k,h=>⟨fun _=>undef,h⟩
 | some v::ps,l,k,h=>by
  obtain⟨l',rfl,h'⟩:=h
  obtain⟨j,rfl⟩:=xM.ZA (k+1) h'
  exact⟨j,rfl⟩
 | none::ps,l,k,h=>by
  obtain⟨x,l',rfl,h'⟩:=h
  obtain⟨j,rfl⟩:=xM.ZA (k+1) h'
  have key:∀ (qs:List (Option Value)) (m:Nat),k < m→told (fun i=>if i=k then x else j i) qs m=told j qs m:=by
   intro qs
   induction qs with
   | nil=>intro m _;rfl
   | cons q qs ih=>
    intro m hm
    cases q with
    | none=>simp only[told];rw[if_neg (by omega),ih (m+1) (by omega)]
    | some v=>simp only[told];rw[ih (m+1) (by omega)]
  refine⟨fun i=>if i=k then x else j i,?_⟩
  simp only[told,if_true]
  rw[key ps (k+1) (by omega)]
theorem xM.open {ps:List (Option Value)} {l:List Value} (h:xM ps l):∃ j,l=told j ps 0:=h.ZA 0
def zP (P:Program) (f:FuncId) (args:Array Value) (w:World) (R:Value→World→Prop):Prop:=
 Calls P f args w fun e w'=>∃ v,e=.returned v∧R v w'
@[reducible] def Aj (f:FuncId) (args:Array Value) (w:World) (R:Value→World→Prop):Prop:=zP Tryz.prog f args w R
theorem zP.mono {P:Program} {f:FuncId} {args:Array Value} {w:World} {R R':Value→World→Prop} (h:zP P f args w R) (hr:∀ v w',R v w'→R' v w'):zP P f args w R':=
 Calls.mono h fun _ _ ⟨v,he,hv⟩=>⟨v,he,hr v _ hv⟩
abbrev vQ :=Exit→List Value→World→Prop
def Cd (P:Program) (ds:List Deferred) (c:Code) (Q:vQ) (l:List Value) (w:World):Prop:=
 Code.wp P c (fun e a w'=>a.defers=ds∧Q e a.tmps.toList w') ⟨l.toArray,ds⟩ w
def Ops (P:Program) (ds:List Deferred) (all:List Oper) (K:List Value→World→Prop) (Q:vQ) (os:List Oper) (l:List Value) (w:World):Prop:=
 wpList P all.toArray (Exit.then (fun a w'=>a.defers=ds∧K a.tmps.toList w') (fun e a w'=>a.defers=ds∧Q e a.tmps.toList w')) os ⟨l.toArray,ds⟩ w
def yW (P:Program) (ds:List Deferred) (all:List Oper) (w:World) (K:List Value→Prop) (os:List Oper) (l:List Value):Prop:=
 wpStill P all.toArray w (fun a=>a.defers=ds∧K a.tmps.toList) os ⟨l.toArray,ds⟩
section code
variable {P:Program} {ds:List Deferred} {Q:vQ} {l:List Value} {w:World} {x y z:Code} {cs:List Code}
def uQ (K:List Value→World→Prop) (Q:vQ):vQ
 | .normal,l,w=>K l w
 | e,l,w=>Q e l w
def Run (P:Program) (ds:List Deferred):List Code→vQ→List Value→World→Prop
 | [],Q=>Q .normal
 | c::cs,Q=>Cd P ds c (uQ (Run P ds cs Q) Q)
theorem JX {c:Code} {Q':vQ} (h:Cd P ds c Q l w) (hq:∀ e l w,Q e l w→Q' e l w):Cd P ds c Q' l w:=
 Go.wp_mono h fun e _ w h=>⟨h.1,hq e _ w h.2⟩
theorem zA (h:Q .normal l w):Run P ds [] Q l w:=h
theorem zN (h:Run P ds (x::y::cs) Q l w):Run P ds (.seq x y::cs) Q l w:=by
 refine wp_seq (Go.wp_mono h ?_)
 rintro e ⟨t,d⟩ w' ⟨hd,h2⟩
 cases e with
 | normal=>
  simp only at hd
  subst hd
  exact Go.wp_mono h2 (fun e a w h=>by cases e <;>exact h)
 | _=>exact⟨hd,h2⟩
theorem xK (h:Run P ds cs Q l w):Run P ds (.skip::cs) Q l w:=wp_skip ⟨rfl,h⟩
theorem wG (h:Q .ret l w):Run P ds (.ret::cs) Q l w:=wp_ret ⟨rfl,h⟩
theorem tF {n:Nat} (h:Q (.exit n) l w):Run P ds (.exit n::cs) Q l w:=wp_exit ⟨rfl,h⟩
theorem jN {x:Operand} {v:Value} (h:ev l x=some v):(⟨l.toArray,ds⟩:Act).eval x=v:=by
 rw[sA];exact zW h
theorem yP {c:Operand} (hc:ev l c=some (.bool true)) (h:Run P ds (x::cs) Q l w):Run P ds (.cond c x y::cs) Q l w:=
 wp_cond_true (jN hc) h
theorem zX {c:Operand} (hc:ev l c=some (.bool false)) (h:Run P ds (y::cs) Q l w):Run P ds (.cond c x y::cs) Q l w:=
 wp_cond_false (jN hc) h
theorem wU {c:Operand} {b:Bool} (hc:ev l c=some (.bool b)) (h1:b=true→Run P ds (x::cs) Q l w) (h2:b=false→Run P ds (y::cs) Q l w):Run P ds (.cond c x y::cs) Q l w:=by
 cases b
 · exact zX hc (h2 rfl)
 exact yP hc (h1 rfl)
def iT (n:Nat) (K:List Value→World→Prop) (Q:vQ):vQ
 | .normal,l,w=>K l w
 | .exit i,l,w=>if i=n then K l w else Q (.exit i) l w
 | e,l,w=>Q e l w
theorem wJ {n:Nat} (h:Run P ds [x] (iT n (Run P ds cs Q) Q) l w):Run P ds (.block n x::cs) Q l w:=by
 refine wp_block (Go.wp_mono h ?_)
 rintro e a w' ⟨hd,h2⟩
 cases e with
 | exit i=>
  simp only[Exit.inBlock]
  simp only[uQ,iT]at h2
  split
  · rename_i hi;rw[if_pos hi]at h2;exact⟨hd,h2⟩
  rename_i hi;rw[if_neg hi]at h2;exact⟨hd,h2⟩
 | _=>exact⟨hd,h2⟩
theorem zB {n:Nat} {K:List Value→World→Prop} (h:K l w):iT n K Q .normal l w:=h
theorem zS {n:Nat} {K:List Value→World→Prop} (h:K l w):iT n K Q (.exit n) l w:=by simpa[iT]using h
theorem L7 {n i:Nat} {K:List Value→World→Prop} (hi:(i==n)=false) (h:Q (.exit i) l w):iT n K Q (.exit i) l w:=by
 have:¬i=n:=by simpa using hi
 simpa[iT,this]using h
theorem vM {n:Nat} {K:List Value→World→Prop} (h:Q .ret l w):iT n K Q .ret l w:=h
def aQ (K:List Value→World→Prop) (Q:vQ):vQ
 | .normal,l,w=>K l w
 | e,l,w=>Q e l w
theorem zH {K:List Value→World→Prop} (h:K l w):aQ K Q .normal l w:=h
theorem zU {n:Nat} {K:List Value→World→Prop} (h:Q (.exit n) l w):aQ K Q (.exit n) l w:=h
theorem yN {K:List Value→World→Prop} (h:Q .ret l w):aQ K Q .ret l w:=h
theorem zV (I:Nat→List Value→World→Prop) (n₀:Nat) (h₀:I n₀ l w)
 (round:∀ n l w,I n l w→Run P ds [x] (aQ (fun l' w'=>∃ n',n' < n∧I n' l' w') Q) l w):Run P ds (.loop x::cs) Q l w:=by
 refine wp_loop_ghost (fun n a w=>a.defers=ds∧I n a.tmps.toList w) n₀ ⟨rfl,h₀⟩ ?_
 rintro n ⟨t,d⟩ w' ⟨hd,hI⟩
 simp only at hd
 subst hd
 refine Go.wp_mono (round n _ _ hI) ?_
 rintro e a w2 ⟨hd,h2⟩
 cases e with
 | normal=>exact(let ⟨n',hn,hI'⟩:=h2;⟨n',hn,hd,hI'⟩)
 | _=>exact⟨hd,h2⟩
theorem zK {n:Nat} {os:List Oper} (h:Ops P ds os (Run P ds cs Q) Q os l w):Run P ds (.region n os.toArray false::cs) Q l w:=by
 refine wp_region_lit ?_
 have e:(Exit.then (fun(a:Act) w'=>a.defers=ds∧Run P ds cs Q a.tmps.toList w') (fun e a w'=>a.defers=ds∧Q e a.tmps.toList w'))=
  fun e (a:Act) w'=>a.defers=ds∧uQ (Run P ds cs Q) Q e a.tmps.toList w':=by
  funext e a w';cases e <;>rfl
 rw[← e]
 exact h
theorem yD {all:List Oper} {K:List Value→World→Prop} (h:K l w):Ops P ds all K Q [] l w:=wpList_nil ⟨rfl,h⟩
theorem still_mono {all:List Oper} {K K':Act→Prop} (hk:∀ a,K a→K' a):∀ (os:List Oper) (a:Act),wpStill P all.toArray w K os a→wpStill P all.toArray w K' os a
 | [],_,h=>hk _ h
 | o::os,a,h=>by
  unfold wpStill at h ⊢
  split
  · rename_i hw;rw[if_pos hw]at h;exact Oper.still_mono (fun a h=>still_mono hk os a h) h
  rename_i hw;rw[if_neg hw]at h;exact still_mono hk os _ h
theorem vW {n:Nat} {os:List Oper} (hm:P.follows .mixedOrders=true) (hB:Region.lexB .any os.toArray=true)
 (h:∀ w',w'={ w with drawn:=w.drawn+1 }→yW P ds os w' (fun l'=>Run P ds cs Q l' w') os l):Run P ds (.region n os.toArray true::cs) Q l w:=by
 refine wp_region_still_lit hm hB ?_
 exact h _ rfl
end code
abbrev Ent :=Option Nat×TypeId×List Value
def qX (w0 w:World) (S:List Nat) (e:Ent):Prop:=
 match e.1 with
 | none=>e.2.2=[]
 | some g=>w.heap[g]? =some (.cells e.2.2.toArray e.2.1 (0,0))∧(g∈S∨w0.heap.size≤g)
structure Hp (w0 w:World) (S:List Nat) (es:List Ent):Prop where
 os:w.os=w0.os
 tape:w.tape=w0.tape
 output:w.output=w0.output
 size:w0.heap.size≤w.heap.size
 frame:∀ k,k < w0.heap.size→k∉S→w.heap[k]? =w0.heap[k]?
 ent:∀ (i:Nat) (e:Ent),es[i]? =some e→qX w0 w S e
 apart:∀ (i j:Nat) (e f:Ent) (g:Nat),es[i]? =some e→es[j]? =some f→e.1=some g→f.1=some g→i=j
abbrev hd (g:Option Nat):Option Addr:=g.map fun b=>⟨b,0,none⟩
section mem
variable {w0 w w':World} {S S':List Nat} {es es':List Ent} {i:Nat} {g:Nat} {T:TypeId} {cs:List Value}
theorem Hp.refl (w:World):Hp w w [] []:=⟨rfl,rfl,rfl,Ak _,fun _ _ _=>rfl,by simp,by simp⟩
theorem Hp.at (H:Hp w0 w S es) (he:es[i]? =some (some g,T,cs)):w.heap[g]? =some (.cells cs.toArray T (0,0)):=(H.ent i _ he).1
theorem Hp.lt (H:Hp w0 w S es) (he:es[i]? =some (some g,T,cs)):g < w.heap.size:=(Dw.1 (H.at he)).1
theorem Hp.place (H:Hp w0 w S es) (he:es[i]? =some (some g,T,cs)):g∈S∨w0.heap.size≤g:=(H.ent i _ he).2
theorem Hp.none_ (H:Hp w0 w S es) (he:es[i]? =some (none,T,cs)):cs=[]:=H.ent i _ he
theorem Hp.cell (H:Hp w0 w S es) (he:es[i]? =some (some g,T,cs)) {o:Nat} {v:Value} (hv:cs[o]? =some v):w.cell? ⟨g,o,none⟩=some v:=by
 simp[World.cell?,H.at he,hv]
theorem Hp.drew (H:Hp w0 w S es):Hp w0 { w with drawn:=w.drawn+1 } S es:=⟨H.os,H.tape,H.output,H.size,H.frame,H.ent,H.apart⟩
theorem lt_of_get {α:Type} {l:List α} {i:Nat} {x:α} (h:l[i]? =some x):i < l.length:=(Ec.1 h).1
theorem Hp.Wu (H:Hp w0 w S es) {e:Ent} (he:es[i]? =some e) {g:Nat} (hg:e.1=some g):g < w.heap.size:=by
 obtain⟨a,b,c⟩:=e
 simp only at hg
 subst hg
 exact H.lt he
theorem Hp.alloc (H:Hp w0 w S es) (T:TypeId) (cs:List Value):Hp w0 (w.alloc (.cells cs.toArray T)) S (es++[(some w.heap.size,T,cs)]):=by
 refine⟨H.os,H.tape,H.output,?_,?_,?_,?_⟩
 · have:=H.size;simp;omega
 · intro k hk hS
   rw[heap_alloc_old w _ (by have:=H.size;omega)]
   exact H.frame k hk hS
 · intro i e he
   rcases Jj i es.length with hi | hi
   · rw[Di hi]at he
     have h:=H.ent i e he
     unfold qX at h ⊢
     split
     · rename_i hn;rw[hn]at h;exact h
     rename_i g hg
     rw[hg]at h
     exact⟨by rw[heap_alloc_old w _ (H.Wu he hg)];exact h.1,h.2⟩
   rw[Eb hi]at he
   cases hj:i - es.length with
   | zero=>
    rw[hj]at he
    simp at he
    subst he
    exact⟨heap_alloc_new w _,.inr H.size⟩
   | succ n=>rw[hj]at he;simp at he
 intro i j e f g hi hj hge hgf
 have key:∀ (i:Nat) (e:Ent),(es++[(some w.heap.size,T,cs)])[i]? =some e→e.1=some g→(i < es.length∧es[i]? =some e∧g < w.heap.size)∨(i=es.length∧g=w.heap.size):=by
  intro i e hi hg
  rcases Jj i es.length with h | h
  · rw[Di h]at hi
    exact .inl ⟨h,hi,H.Wu hi hg⟩
  rw[Eb h]at hi
  cases hk:i - es.length with
  | zero=>
   rw[hk]at hi
   simp at hi
   subst hi
   simp only[Option.some.injEq]at hg
   exact .inr ⟨by omega,hg.symm⟩
  | succ n=>rw[hk]at hi;simp at hi
 rcases key i e hi hge with ⟨h1,h2,h3⟩ | ⟨h1,h2⟩ <;>rcases key j f hj hgf with ⟨h4,h5,h6⟩ | ⟨h4,h5⟩
 · exact H.apart i j e f g h2 h5 hge hgf
 · omega
 · omega
 omega
theorem Hp.nil (H:Hp w0 w S es) (T:TypeId):Hp w0 w S (es++[(none,T,[])]):=by
 have key:∀ (i:Nat) (e:Ent),(es++[((none:Option Nat),T,([]:List Value))])[i]? =some e→es[i]? =some e∨e=(none,T,[]):=by
  intro i e hi
  rcases Jj i es.length with h | h
  · rw[Di h]at hi;exact .inl hi
  rw[Eb h]at hi
  cases hk:i - es.length with
  | zero=>rw[hk]at hi;simp at hi;exact .inr hi.symm
  | succ n=>rw[hk]at hi;simp at hi
 refine⟨H.os,H.tape,H.output,H.size,H.frame,?_,?_⟩
 · intro i e he
   rcases key i e he with h | rfl
   · exact H.ent i e h
   rfl
 intro i j e f g hi hj hge hgf
 rcases key i e hi with h | rfl
 · rcases key j f hj with h' | rfl
   · exact H.apart i j e f g h h' hge hgf
   simp at hgf
 simp at hge
theorem Hp.pick (H:Hp w0 w S es) (idx:List Nat) (hnd:idx.Nodup):Hp w0 w S (idx.map fun i=>es.getD i (none,0,[])):=by
 have key:∀ (k:Nat) (e:Ent),(idx.map fun i=>es.getD i (none,0,[]))[k]? =some e→∃ i,idx[k]? =some i∧(es[i]? =some e∨e=(none,0,[])):=by
  intro k e hk
  rw[Nb]at hk
  cases hi:idx[k]? with
  | none=>rw[hi]at hk;simp at hk
  | some i=>
   rw[hi]at hk
   simp only[Ig,Option.some.injEq]at hk
   refine⟨i,Y,?_⟩
   cases he:es[i]? with
   | none=>rw[Ea,he]at hk;exact .inr hk.symm
   | some x=>rw[Ea,he]at hk;simp only[Option.getD_some]at hk;subst hk;exact .inl rfl
 refine⟨H.os,H.tape,H.output,H.size,H.frame,?_,?_⟩
 · intro k e he
   obtain⟨i,_,h | rfl⟩:=key k e he
   · exact H.ent i e h
   rfl
 intro a b e f g ha hb hge hgf
 obtain⟨i,hi,h | rfl⟩:=key a e ha
 · obtain⟨j,hj,h' | rfl⟩:=key b f hb
   · have:=H.apart i j e f g h h' hge hgf
     subst this
     have h1:=Ec.1 hi
     have h2:=Ec.1 hj
     obtain⟨x1,x2⟩:=h1
     obtain⟨y1,y2⟩:=h2
     have hp:=Qj.1 hnd
     rcases Nat.lt_trichotomy a b with hab | hab | hab
     · exact absurd (x2.trans y2.symm) (hp a b x1 y1 hab)
     · exact hab
     exact absurd (y2.trans x2.symm) (hp b a y1 x1 hab)
   simp at hgf
 simp at hge
theorem Hp.setRow (H:Hp w0 w S es) (he:es[i]? =some (some g,T,cs)) (cs':List Value):Hp w0 (w.setRow g cs'.toArray) S (es.set i (some g,T,cs')):=by
 have hne:∀ (j:Nat) (e:Ent) (h:Nat),es[j]? =some e→e.1=some h→j≠i→h≠g:=by
  intro j e h hj hh hji heq
  subst heq
  exact hji (H.apart j i _ _ h hj he hh Y)
 refine⟨H.os,H.tape,H.output,by simpa using H.size,?_,?_,?_⟩
 · intro k hk hS
   have hkg:k≠g:=by
    rintro rfl
    rcases H.place he with h | h
    · exact hS h
    omega
   rw[setRow_other _ _ _ _ hkg]
   exact H.frame k hk hS
 · intro j e hj
   rw[Ky]at hj
   split at hj
   · rename_i hij
     split at hj
     · simp only[Option.some.injEq]at hj
       subst hj
       exact⟨setRow_heap _ _ _ _ _ _ (H.at he),H.place he⟩
     simp at hj
   rename_i hij
   have h:=H.ent j e hj
   unfold qX at h ⊢
   split
   · rename_i hn;rw[hn]at h;exact h
   rename_i k hk
   rw[hk]at h
   exact⟨by rw[setRow_other _ _ _ _ (hne j e k hj hk (Ne.symm hij))];exact h.1,h.2⟩
 have key:∀ (j:Nat) (e:Ent),(es.set i (some g,T,cs'))[j]? =some e→∃ e':Ent,es[j]? =some e'∧e'.1=e.1:=by
  intro j e hj
  rw[Ky]at hj
  split at hj
  · rename_i hij
    split at hj
    · simp only[Option.some.injEq]at hj;subst hj;exact⟨(some g,T,cs),by rw[← hij];exact he,rfl⟩
    simp at hj
  exact⟨e,hj,Y⟩
 intro a b e f k ha hb hge hgf
 obtain⟨e',he',h1⟩:=key a e ha
 obtain⟨f',hf',h2⟩:=key b f hb
 exact H.apart a b e' f' k he' hf' (h1.trans hge) (h2.trans hgf)
def kill (es:List Ent):List Nat→List Ent
 | []=>es
 | i::is=>(kill es is).set i (none,0,[])
theorem Un :∀ (is:List Nat) (j:Nat) (e:Ent),(kill es is)[j]? =some e→(es[j]? =some e∧j∉is)∨e=(none,0,[])
 | [],j,e,h=> .inl ⟨h,by simp⟩
 | i::is,j,e,h=>by
  simp only[kill]at h
  rw[Ky]at h
  split at h
  · split at h
    · simp only[Option.some.injEq]at h;exact .inr h.symm
    simp at h
  rename_i hij
  rcases Un is j e h with ⟨h1,h2⟩ | h1
  · exact .inl ⟨h1,by simp[h2,Ne.symm hij]⟩
  exact .inr h1
theorem Hp.call (H:Hp w0 w S es) (H':Hp w w' S' es') (is:List Nat) (hS:∀ b∈S',∃ i∈is,∃ T cs,es[i]? =some (some b,T,cs)):Hp w0 w' S (kill es is++es'):=by
 have hold:∀ b,b∈S'→b∈S∨w0.heap.size≤b:=by
  intro b hb
  obtain⟨i,_,T,cs,he⟩:=hS b hb
  exact H.place he
 have hk:∀ (j:Nat) (e:Ent) (h:Nat),(kill es is)[j]? =some e→e.1=some h→es[j]? =some e∧h∉S'∧h < w.heap.size:=by
  intro j e h hj hh
  rcases Un is j e hj with ⟨h1,h2⟩ | rfl
  · refine⟨h1,?_,H.Wu h1 hh⟩
    intro hb
    obtain⟨i,hi,T,cs,he⟩:=hS h hb
    have:=H.apart j i e _ h h1 he hh rfl
    subst this
    exact h2 hi
  simp at hh
 have hlen:(kill es is).length=es.length:=by
  clear hk hS
  induction is with
  | nil=>rfl
  | cons i is ih=>simp[kill,ih]
 refine⟨H'.os.trans H.os,H'.tape.trans H.tape,H'.output.trans H.output,Ce H.size H'.size,?_,?_,?_⟩
 · intro k hk0 Ug
   rw[H'.frame k (by have:=H.size;omega) (fun hb=>by rcases hold k hb with h | h;exact Ug h;omega)]
   exact H.frame k hk0 Ug
 · intro j e hj
   rcases Jj j (kill es is).length with h | h
   · rw[Di h]at hj
     unfold qX
     split
     · rename_i hn
       rcases Un is j e hj with ⟨h1,_⟩ | rfl
       · have:=H.ent j e h1;unfold qX at this;rw[hn]at this;exact this
       rfl
     rename_i k hk'
     obtain⟨h1,h2,h3⟩:=hk j e k hj hk'
     have:=H.ent j e h1
     unfold qX at this
     rw[hk']at this
     exact⟨by rw[H'.frame k h3 h2];exact this.1,this.2⟩
   rw[Eb h]at hj
   have:=H'.ent _ e hj
   unfold qX at this ⊢
   split
   · rename_i hn;rw[hn]at this;exact this
   rename_i k hk'
   rw[hk']at this
   refine⟨this.1,?_⟩
   rcases this.2 with h1 | h1
   · exact hold k h1
   exact .inr (Ce H.size h1)
 have key:∀ (j:Nat) (e:Ent) (g:Nat),(kill es is++es')[j]? =some e→e.1=some g→(j < es.length∧es[j]? =some e∧g∉S'∧g < w.heap.size)∨(es.length≤j∧es'[j - es.length]? =some e∧(g∈S'∨w.heap.size≤g)):=by
  intro j e g hj hg
  rcases Jj j (kill es is).length with h | h
  · rw[Di h]at hj
    exact .inl ⟨by omega,hk j e g hj hg⟩
  rw[Eb h,hlen]at hj
  have:=H'.ent _ e hj
  unfold qX at this
  rw[hg]at this
  exact .inr ⟨by omega,hj,this.2⟩
 intro a b e f g ha hb hge hgf
 rcases key a e g ha hge with ⟨_,h2,h3,h4⟩ | ⟨h1,h2,h3⟩ <;>rcases key b f g hb hgf with ⟨_,h6,h7,h8⟩ | ⟨h5,h6,h7⟩
 · exact H.apart a b e f g h2 h6 hge hgf
 · rcases h7 with h | h
   · exact absurd h h3
   omega
 · rcases h3 with h | h
   · exact absurd h h7
   omega
 have:=H'.apart _ _ e f g h2 h6 hge hgf
 omega
theorem Hp.call0 (H:Hp w0 w S es) (H':Hp w w' [] es'):Hp w0 w' S (es++es'):=H.call H' [] (by simp)
theorem Hp.call1 (H:Hp w0 w S es) (he:es[i]? =some (some g,T,cs)) (H':Hp w w' [g] es'):Hp w0 w' S (es.set i (none,0,[])++es'):=
 H.call H' [i] (by intro b hb;simp at hb;subst hb;exact⟨i,by simp,T,cs,he⟩)
theorem Hp.old (hg:w.heap[g]? =some (.cells cs.toArray T (0,0))):Hp w w [g] [(some g,T,cs)]:=by
 refine⟨Y,Y,Y,Ak _,fun _ _ _=>Y,?_,?_⟩
 · intro i e he
   cases i with
   | zero=>simp at he;subst he;exact⟨hg,.inl (by simp)⟩
   | succ n=>simp at he
 intro i j e f _ hi hj _ _
 cases i with
 | zero=>cases j with
  | zero=>rfl
  | succ n=>simp at hj
 | succ n=>simp at hi
theorem Hp.below (H:Hp w0 w [] es):Below w0.heap.size w0 w:=⟨H.os,H.tape,H.output,H.size,fun k hk=>H.frame k hk (by simp)⟩
structure Rd (w:World) (A:Option Addr) (n sz:Nat) (xs:List Value):Prop where
 len:xs.length=n*sz
 cells:∀ a,A=some a→∀ j u,xs[j]? =some u→w.cell? (a.add j)=some u
 nil:A=none→n=0
theorem Rd.to {A:Option Addr} {n sz:Nat} {xs:List Value} (h:Rd w0 A n sz xs) (H:Hp w0 w S es) (hS:∀ a,A=some a→a.block∉S):Rd w A n sz xs:=by
 refine⟨h.len,fun a ha j u hu=>?_,h.nil⟩
 have hc:=h.cells a ha j u hu
 have hb:(a.add j).block=a.block:=by unfold Addr.add;split <;>rfl
 have hlt:=Iy w0 _ hc
 rw[World.cell?_of_block (w:=w0)]
 · exact hc
 exact H.frame _ hlt (by rw[hb];exact hS a ha)
theorem Rd.to0 {A:Option Addr} {n sz:Nat} {xs:List Value} (h:Rd w0 A n sz xs) (H:Hp w0 w [] es):Rd w A n sz xs:=h.to H (by simp)
theorem Hp.rd (H:Hp w0 w S es) {o:Option Nat} {xs sp:List Value} (he:es[i]? =some (o,T,xs++sp)) {n sz:Nat} (hn:xs.length=n*sz) (hz:0 < sz):Rd w (hd o) n sz xs:=by
 cases o with
 | none=>
  have:=H.none_ he
  have hx:xs=[]:=(List.append_eq_nil_iff.1 this).1
  subst hx
  refine⟨hn,by simp[hd],fun _=>?_⟩
  simp only[Dq]at hn
  rcases Nat.mul_eq_zero.1 hn.symm with h | h
  · exact h
  omega
 | some g=>
  refine⟨hn,fun a ha j u hu=>?_,by simp[hd]⟩
  simp only[hd,Ig,Option.some.injEq]at ha
  subst ha
  rw[Lm,Ba]
  refine H.cell he ?_
  rw[Di (lt_of_get hu)]
  exact hu
theorem tW (a:Addr) (i j:Nat):(a.add i).add j=a.add (i+j):=by
 unfold Addr.add
 by_cases hi:i=0 <;>by_cases hj:j=0 <;>simp[hi,hj,Fz]
theorem Rd.cut {A:Option Addr} {n sz:Nat} {xs:List Value} (h:Rd w A n sz xs) (lo hi mx:Nat) (h1:lo≤hi) (h2:hi≤n) (h3:hi≤mx):
 Rd w (if mx=lo then A else A.map (·.add (lo*sz))) (hi - lo) sz ((xs.drop (lo*sz)).take ((hi - lo)*sz)):=by
 refine⟨?_,?_,?_⟩
 · rw[Aw,Bl,h.len,← Ll]
   exact Io (Dp _ (by omega))
 · intro a ha j u hu
   by_cases hm:mx=lo
   · have:hi - lo=0:=by omega
     rw[this]at hu
     simp at hu
   rw[if_neg hm]at ha
   cases A with
   | none=>simp at ha
   | some b=>
    simp only[Ig,Option.some.injEq]at ha
    subst ha
    rw[tW]
    refine h.cells b Y _ u ?_
    rw[Ic]at hu
    split at hu
    · rwa [Em]at hu
    cases hu
 intro hA
 by_cases hm:mx=lo
 · omega
 rw[if_neg hm]at hA
 cases A with
 | none=>have:=h.nil rfl;omega
 | some b=>simp at hA
theorem Rd.none_ (w:World) (sz:Nat):Rd w none 0 sz []:=⟨by simp,by simp,fun _=>rfl⟩
theorem Rd.some_ {A:Option Addr} {n sz:Nat} {xs:List Value} (h:Rd w A n sz xs) (hn:0 < n):∃ a,A=some a:=by
 cases A with
 | none=>have:=h.nil rfl;omega
 | some a=>exact⟨a,rfl⟩
end mem
def Ex (P:Program) (l:List Value) (op:Op) (ty:TypeId) (w:World) (nx:Next) (w':World):Prop:=
 ∀ d pos af g,(execOp (rho l) ⟨d,op,ty,pos,af,g⟩).run P w=.ok nx w'
section steps
variable {P:Program} {ds:List Deferred} {Q:vQ} {K:List Value→World→Prop} {all os:List Oper} {l:List Value} {w w':World} {op:Op} {ty:TypeId} {pos:String} {af:Array Edge} {d:Tmp} {v:Value}
theorem tI (l:List Value) (ds:List Deferred) (d:Tmp) (v:Value):(⟨l.toArray,ds⟩:Act).put (some d) v=⟨(l.set d v).toArray,ds⟩:=by
 simp[Act.put]
theorem zD (hx:Ex P l op ty w (.value v) w') (h:Ops P ds all K Q os (l.set d v) w'):Ops P ds all K Q (⟨some d,op,ty,pos,af,none⟩::os) l w:=by
 refine wpList_plain Y fun K' hK=>?_
 unfold Oper.wp
 rw[sA,hx,Oper.upon_value]
 refine hK _ _ ?_
 rw[tI]
 exact h
theorem ER (hx:Ex P l op ty w .skip w') (h:Ops P ds all K Q os l w'):Ops P ds all K Q (⟨none,op,ty,pos,af,none⟩::os) l w:=by
 refine wpList_plain Y fun K' hK=>?_
 unfold Oper.wp
 rw[sA,hx,Oper.upon_skip]
 exact hK _ _ h
theorem tG {f:FuncId} {args:Array Value} {R:Value→World→Prop} (hx:Ex P l op ty w (.enter f args) w) (hc:zP P f args w R)
 (h:∀ v w',R v w'→Ops P ds all K Q os (l.set d v) w'):Ops P ds all K Q (⟨some d,op,ty,pos,af,none⟩::os) l w:=by
 refine wpList_plain Y fun K' hK=>?_
 unfold Oper.wp
 rw[sA,hx,Oper.upon_enter]
 refine Calls.mono hc ?_
 rintro e w2 ⟨v,rfl,hR⟩
 refine hK _ _ ?_
 rw[tI]
 exact h v w2 hR
theorem wR {f:FuncId} {args:Array Value} (hx:Ex P l op ty w (.enter f args) w) (hc:zP P f args w fun r w'=>r=v∧w'=w)
 (h:Ops P ds all K Q os (l.set d v) w):Ops P ds all K Q (⟨some d,op,ty,pos,af,none⟩::os) l w:=
 tG hx hc fun r w' ⟨h1,h2⟩=>by rw[h1,h2];exact h
theorem pC {f:FuncId} {args:Array Value} {R:World→Prop} (hx:Ex P l op ty w (.enter f args) w) (hc:zP P f args w fun r w'=>r=v∧R w')
 (h:∀ w',R w'→Ops P ds all K Q os (l.set d v) w'):Ops P ds all K Q (⟨some d,op,ty,pos,af,none⟩::os) l w:=
 tG hx hc fun r w' ⟨h1,h2⟩=>by rw[h1];exact h w' h2
theorem lO {p:Prop} {_:Decidable p} (hx:Ex P l op ty w (.value (.bool (decide p))) w) (hp:p) (h:Ops P ds all K Q os (l.set d (.bool true)) w):Ops P ds all K Q (⟨some d,op,ty,pos,af,none⟩::os) l w:=
 zD hx (by rw[decide_eq_true hp];exact h)
theorem jC {p:Prop} {_:Decidable p} (hx:Ex P l op ty w (.value (.bool (decide p))) w) (hp:¬p) (h:Ops P ds all K Q os (l.set d (.bool false)) w):Ops P ds all K Q (⟨some d,op,ty,pos,af,none⟩::os) l w:=
 zD hx (by rw[decide_eq_false hp];exact h)
theorem vP {p:Prop} {_:Decidable p} (hx:Ex P l op ty w (.value (.bool (decide p))) w) (h1:p→Ops P ds all K Q os (l.set d (.bool true)) w) (h2:¬p→Ops P ds all K Q os (l.set d (.bool false)) w):
 Ops P ds all K Q (⟨some d,op,ty,pos,af,none⟩::os) l w:=by
 by_cases hp:p
 · exact lO hx hp (h1 hp)
 exact jC hx hp (h2 hp)
def yes (all:List Oper) (l:List Value) (j:Nat):Option Bool:=
 match all[j]? with
 | some o=>match o.dst with
  | some t=>match nth l t with
   | some (.bool b)=>some b
   | _=>none
  | none=>none
 | none=>none
theorem qC (all:List Oper) (l:List Value) (j:Nat):yielded all.toArray l.toArray j=yes all l j:=by
 simp only[yielded,yes,pP,Gv]
 cases all[j]? with
 | none=>rfl
 | some o=>
  simp only[Option.bind_some]
  cases o.dst with
  | none=>rfl
  | some t=>simp only[Option.bind_some];cases l[t]? <;>rfl
theorem sS {dst:Option Tmp} {j:Nat} {b:Bool} (hg:yes all l j=some b) (h:Ops P ds all K Q (⟨dst,op,ty,pos,af,none⟩::os) l w):Ops P ds all K Q (⟨dst,op,ty,pos,af,some (j,b)⟩::os) l w:=by
 unfold Ops wpList at h ⊢
 have e1:Region.wanted ⟨dst,op,ty,pos,af,some (j,b)⟩ (yielded all.toArray l.toArray)=true:=by simp[Region.wanted,qC,hg]
 have e2:Region.wanted ⟨dst,op,ty,pos,af,none⟩ (yielded all.toArray l.toArray)=true:=rfl
 rw[if_pos e1]
 rw[if_pos e2]at h
 exact h
theorem ops_no {j:Nat} {b:Bool} (hg:(yes all l j==some b)=false) (h:Ops P ds all K Q os (l.set d undef) w):Ops P ds all K Q (⟨some d,op,ty,pos,af,some (j,b)⟩::os) l w:=by
 refine wpList_skip ?_ ?_
 · simpa[Region.wanted,qC]using hg
 rw[tI];exact h
variable {KS:List Value→Prop}
theorem xJ (h:KS l):yW P ds all w KS [] l:=wpStill_nil ⟨rfl,h⟩
theorem M8 (h:Oper.still P ⟨some d,op,ty,pos,af,none⟩ ⟨l.toArray,ds⟩ w (wpStill P all.toArray w (fun a=>a.defers=ds∧KS a.tmps.toList) os)):yW P ds all w KS (⟨some d,op,ty,pos,af,none⟩::os) l:=h
theorem uG (hx:Ex P l op ty w (.value v) w) (h:yW P ds all w KS os (l.set d v)):yW P ds all w KS (⟨some d,op,ty,pos,af,none⟩::os) l:=by
 refine M8 ?_
 unfold Oper.still
 rw[sA,hx,Oper.stillUpon_value,tI]
 exact h
theorem GM {p:Prop} {_:Decidable p} (hx:Ex P l op ty w (.value (.bool (decide p))) w) (hp:p) (h:yW P ds all w KS os (l.set d (.bool true))):yW P ds all w KS (⟨some d,op,ty,pos,af,none⟩::os) l:=
 uG hx (by rw[decide_eq_true hp];exact h)
theorem DS {p:Prop} {_:Decidable p} (hx:Ex P l op ty w (.value (.bool (decide p))) w) (hp:¬p) (h:yW P ds all w KS os (l.set d (.bool false))):yW P ds all w KS (⟨some d,op,ty,pos,af,none⟩::os) l:=
 uG hx (by rw[decide_eq_false hp];exact h)
theorem vB {p:Prop} {_:Decidable p} (hx:Ex P l op ty w (.value (.bool (decide p))) w) (h1:p→yW P ds all w KS os (l.set d (.bool true))) (h2:¬p→yW P ds all w KS os (l.set d (.bool false))):
 yW P ds all w KS (⟨some d,op,ty,pos,af,none⟩::os) l:=by
 by_cases hp:p
 · exact GM hx hp (h1 hp)
 exact DS hx hp (h2 hp)
theorem yI {dst:Option Tmp} {j:Nat} {b:Bool} (hg:yes all l j=some b) (h:yW P ds all w KS (⟨dst,op,ty,pos,af,none⟩::os) l):yW P ds all w KS (⟨dst,op,ty,pos,af,some (j,b)⟩::os) l:=by
 have e1:Region.wanted ⟨dst,op,ty,pos,af,some (j,b)⟩ (yielded all.toArray l.toArray)=true:=by simp[Region.wanted,qC,hg]
 show(if _ then _ else _)
 rw[if_pos e1]
 exact h
theorem yU {j:Nat} {b:Bool} (hg:(yes all l j==some b)=false) (h:yW P ds all w KS os (l.set d undef)):yW P ds all w KS (⟨some d,op,ty,pos,af,some (j,b)⟩::os) l:=by
 have e1:¬Region.wanted ⟨some d,op,ty,pos,af,some (j,b)⟩ (yielded all.toArray l.toArray)=true:=by simpa[Region.wanted,qC]using hg
 show(if _ then _ else _)
 rw[if_neg e1,tI]
 exact h
end steps
section ex
variable {P:Program} {l:List Value} {w:World} {ty t t':TypeId} {x y z:Operand} {k k':IntKind} {m n r:Int} {b:Bool} {u v:Value}
theorem zI (hx:ev l x=some v):Ex P l (.move x) ty w (.value v) w:=fun _ _ _ _=>by simp[execOp,zW hx]
theorem zO (hx:ev l x=some v):Ex P l (.assign x) ty w (.value v) w:=fun _ _ _ _=>by simp[execOp,zW hx]
theorem xG (hc:ev l x=some (.bool true)) (hx:ev l y=some v):Ex P l (.pick x y z) ty w (.value v) w:=fun _ _ _ _=>by simp[execOp,zW hc,zW hx,asBool]
theorem xV (hc:ev l x=some (.bool false)) (hx:ev l z=some v):Ex P l (.pick x y z) ty w (.value v) w:=fun _ _ _ _=>by simp[execOp,zW hc,zW hx,asBool]
theorem pX (hx:ev l x=some (.bool b)):Ex P l (.unOp .not t x) ty w (.value (.bool (!b))) w:=fun _ _ _ _=>by simp[execOp,zW hx,Op.unary]
theorem zL (hx:ev l x=some (.int k m)) (hy:ev l y=some (.int k n)) (hr:k.wrap (m+n)=r):Ex P l (.binOp .add t x y t') ty w (.value (.int k r)) w:=fun _ _ _ _=>by
 simp[execOp,zW hx,zW hy,binOp,Op.intArith,eqGuard,hr]
theorem tA (hx:ev l x=some (.int k m)) (hy:ev l y=some (.int k n)) (hr:k.wrap (m - n)=r):Ex P l (.binOp .sub t x y t') ty w (.value (.int k r)) w:=fun _ _ _ _=>by
 simp[execOp,zW hx,zW hy,binOp,Op.intArith,eqGuard,hr]
theorem aB (hx:ev l x=some (.int k m)) (hy:ev l y=some (.int k n)) (hr:k.wrap (m*n)=r):Ex P l (.binOp .mul t x y t') ty w (.value (.int k r)) w:=fun _ _ _ _=>by
 simp[execOp,zW hx,zW hy,binOp,Op.intArith,eqGuard,hr]
theorem aA (hx:ev l x=some (.int k m)) (hy:ev l y=some (.int k n)) (h0:n≠0) (hr:k.wrap (m.tdiv n)=r):Ex P l (.binOp .quo t x y t') ty w (.value (.int k r)) w:=fun _ _ _ _=>by
 simp[execOp,zW hx,zW hy,binOp,Op.intDiv,eqGuard,h0,hr]
theorem eK (hx:ev l x=some (.int k m)) (hy:ev l y=some (.int k n)) (h0:n≠0) (hr:m.tmod n=r):Ex P l (.binOp .rem t x y t') ty w (.value (.int k r)) w:=fun _ _ _ _=>by
 simp[execOp,zW hx,zW hy,binOp,Op.intDiv,eqGuard,h0,hr]
theorem C4 (hx:ev l x=some (.int k m)) (hy:ev l y=some (.int k n)) (hr:bits .and k m n=r):Ex P l (.binOp .and t x y t') ty w (.value (.int k r)) w:=fun _ _ _ _=>by
 simp[execOp,zW hx,zW hy,binOp,Op.intBits,eqGuard,← hr,bits]
theorem dC (hx:ev l x=some (.int k m)) (hy:ev l y=some (.int k n)) (hr:bits .or k m n=r):Ex P l (.binOp .or t x y t') ty w (.value (.int k r)) w:=fun _ _ _ _=>by
 simp[execOp,zW hx,zW hy,binOp,Op.intBits,eqGuard,← hr,bits]
theorem FM (hx:ev l x=some (.int k m)) (hr:bits .xor k (if k.signed then -1 else k.max) m=r):Ex P l (.unOp .xor t x) ty w (.value (.int k r)) w:=fun _ _ _ _=>by
 simp[execOp,zW hx,Op.unary,Op.intBits,← hr,bits]
theorem XH (hx:ev l x=some (.int k m)) (hr:k.wrap (0 - m)=r):Ex P l (.unOp .neg t x) ty w (.value (.int k r)) w:=fun _ _ _ _=>by
 simp[execOp,zW hx,Op.unary,Op.intArith,← hr]
theorem kB (hx:ev l x=some (.int k m)) (hy:ev l y=some (.int k' n)) (h0:0≤n) (hr:k.wrap (m*2^(min n.toNat k.bits))=r):Ex P l (.binOp .shl t x y t') ty w (.value (.int k r)) w:=fun _ _ _ _=>by
 have h0':¬n < 0:=by omega
 simp[execOp,zW hx,zW hy,binOp,Op.shift,eqGuard,h0',← hr]
theorem pW (hx:ev l x=some (.int k m)) (hy:ev l y=some (.int k' n)) (h0:0≤n) (hr:m.fdiv (2^(min n.toNat k.bits))=r):Ex P l (.binOp .shr t x y t') ty w (.value (.int k r)) w:=fun _ _ _ _=>by
 have h0':¬n < 0:=by omega
 simp[execOp,zW hx,zW hy,binOp,Op.shift,eqGuard,h0',← hr]
theorem zQ (hx:ev l x=some (.int k m)) (hy:ev l y=some (.int k n)):Ex P l (.binOp .lss t x y t') ty w (.value (.bool (decide (m < n)))) w:=fun _ _ _ _=>by
 simp[execOp,zW hx,zW hy,binOp,Op.intCmp,eqGuard]
theorem tB (hx:ev l x=some (.int k m)) (hy:ev l y=some (.int k n)):Ex P l (.binOp .leq t x y t') ty w (.value (.bool (decide (m≤n)))) w:=fun _ _ _ _=>by
 simp[execOp,zW hx,zW hy,binOp,Op.intCmp,eqGuard]
theorem yS (hx:ev l x=some (.int k m)) (hy:ev l y=some (.int k n)):Ex P l (.binOp .gtr t x y t') ty w (.value (.bool (decide (n < m)))) w:=fun _ _ _ _=>by
 simp[execOp,zW hx,zW hy,binOp,Op.intCmp,eqGuard]
theorem wM (hx:ev l x=some (.int k m)) (hy:ev l y=some (.int k n)):Ex P l (.binOp .geq t x y t') ty w (.value (.bool (decide (n≤m)))) w:=fun _ _ _ _=>by
 simp[execOp,zW hx,zW hy,binOp,Op.intCmp,eqGuard]
theorem xR (hx:ev l x=some (.int k m)) (hy:ev l y=some (.int k n)):Ex P l (.binOp .eql t x y t') ty w (.value (.bool (decide (m=n)))) w:=fun _ _ _ _=>by
 simp[execOp,zW hx,zW hy,binOp,Op.intCmp,eqGuard]
 rfl
theorem yR (hx:ev l x=some (.int k m)) (hy:ev l y=some (.int k n)):Ex P l (.binOp .neq t x y t') ty w (.value (.bool (decide (m≠n)))) w:=fun _ _ _ _=>by
 simp[execOp,zW hx,zW hy,binOp,Op.intCmp,eqGuard,bne]
 rfl
theorem xN (hd:P.underlying t'=some (.int k)) (hs:P.underlying t=some (.int k')) {k2:IntKind} (hx:ev l x=some (.int k2 m)) (hr:k.wrap m=r):Ex P l (.convert t t' x) ty w (.value (.int k r)) w:=fun _ _ _ _=>by
 simp[execOp,zW hx,convert,run_underlying hd,run_underlying hs,Conv.intToInt,hr]
theorem yJ {a:Addr} (hx:ev l x=some (.pointer (some a))):Ex P l (.nilCheck x) ty w (.value (.pointer (some a))) w:=fun _ _ _ _=>by
 simp[execOp,zW hx]
theorem xF {vs:List Value} {i:Nat} (hx:ev l x=some (.tuple vs.toArray)) (hi:vs[i]? =some v):Ex P l (.extract x i) ty w (.value v) w:=fun _ _ _ _=>by
 simp[execOp,zW hx,Instr.extract,hi]
theorem wL {fn:Fn} {xs ys:List Operand} {us vs:List Value} (h1:evs l xs=some us) (h2:evs l ys=some vs):Ex P l (.makeFunc fn xs.toArray ys.toArray) ty w (.value (.func fn us.toArray vs.toArray)) w:=fun _ _ _ _=>by
 simp[execOp,Instr.makeFunc,mA h1,mA h2]
theorem tC {e:TypeId} {A:Option Addr} {n c:Nat} {ats:Array TypeId} (ht:(ats[0]?).bind P.underlying=some (.slice e)) (hx:ev l x=some (.slice A n c)):
 Ex P l (.call { callee:=.builtin .len,args:=#[x],argTypes:=ats }) ty w (.value (.int .i64 n)) w:=fun _ _ _ _=>by
 cases ha:ats[0]? with
 | none=>rw[ha]at ht;simp at ht
 | some s=>
  rw[ha]at ht
  simp only[Option.bind_some]at ht
  simp[execOp,resolve,invoke,builtin,zW hx,Builtin.len_,ha,run_underlying ht,goInt]
theorem pG {e:TypeId} {A:Option Addr} {n c:Nat} {ats:Array TypeId} (ht:(ats[0]?).bind P.underlying=some (.slice e)) (hx:ev l x=some (.slice A n c)):
 Ex P l (.call { callee:=.builtin .cap,args:=#[x],argTypes:=ats }) ty w (.value (.int .i64 c)) w:=fun _ _ _ _=>by
 cases ha:ats[0]? with
 | none=>rw[ha]at ht;simp at ht
 | some s=>
  rw[ha]at ht
  simp only[Option.bind_some]at ht
  simp[execOp,resolve,invoke,builtin,zW hx,Builtin.cap_,ha,run_underlying ht,goInt]
theorem nA {s:ByteArray} {ats:Array TypeId} (ht:(ats[0]?).bind P.underlying=some .string) (hx:ev l x=some (.string s)):
 Ex P l (.call { callee:=.builtin .len,args:=#[x],argTypes:=ats }) ty w (.value (.int .i64 s.size)) w:=fun _ _ _ _=>by
 cases ha:ats[0]? with
 | none=>rw[ha]at ht;simp at ht
 | some u=>
  rw[ha]at ht
  simp only[Option.bind_some]at ht
  simp[execOp,resolve,invoke,builtin,zW hx,Builtin.len_,ha,run_underlying ht,goInt]
theorem HK {ats:Array TypeId} (hx:ev l x=some (.int k m)) (hy:ev l y=some (.int k n)):
 Ex P l (.call { callee:=.builtin .max,args:=#[x,y],argTypes:=ats }) ty w (.value (.int k (max m n))) w:=fun _ _ _ _=>by
 simp[execOp,resolve,invoke,builtin,zW hx,zW hy,Builtin.max_,Builtin.max2]
 by_cases h:m < n
 · rw[if_pos h];omega
 rw[if_neg h];omega
theorem QF {ats:Array TypeId} (hx:ev l x=some (.int k m)) (hy:ev l y=some (.int k n)):
 Ex P l (.call { callee:=.builtin .min,args:=#[x,y],argTypes:=ats }) ty w (.value (.int k (min m n))) w:=fun _ _ _ _=>by
 simp[execOp,resolve,invoke,builtin,zW hx,zW hy,Builtin.min_,Builtin.min2]
 by_cases h:n < m
 · rw[if_pos h];omega
 rw[if_neg h];omega
theorem B6 {f:FuncId} {fn:Func} {c:Code} (hf:P.funcs[f]? =some fn) (hb:fn.body=some c) (hn:(fn.name== "runtime.NumGoroutine")=false) (args:Array Value):(callFunc f args).run P w=.ok (.enter f args) w:=by
 have hn':¬fn.name= "runtime.NumGoroutine":=by simpa using hn
 simp[callFunc,hf,hb,program,Sem.run,hn']
def yC (P:Program) (f:FuncId):Bool:=match P.funcs[f]? with
 | some fn=>fn.body.isSome && !(fn.name== "runtime.NumGoroutine")
 | none=>false
theorem hU {f:FuncId} (h:yC P f=true) (args:Array Value):(callFunc f args).run P w=.ok (.enter f args) w:=by
 unfold yC at h
 split at h
 · rename_i fn hf
   simp only[Ci,Bool.not_eq_true',Option.isSome_iff_exists]at h
   obtain⟨⟨c,hc⟩,hn⟩:=h
   exact B6 hf hc hn args
 cases h
theorem mT {f:FuncId} (hf:yC P f=true) {xs:List Operand} {vs:List Value} {ats:Array TypeId} (hx:evs l xs=some vs):
 Ex P l (.call { callee:=.value (.func f),args:=xs.toArray,argTypes:=ats }) ty w (.enter f vs.toArray) w:=fun _ _ _ _=>by
 have hr:rho l (.func f)=.func (.func f) #[] #[]:=rfl
 simp[execOp,resolve,Deferred.ofValue,invoke,mA hx,hU hf,hr]
theorem xL {f:FuncId} (hf:yC P f=true) {xs:List Operand} {vs cap:List Value} {ats:Array TypeId} (hc:ev l x=some (.func (.func f) #[] cap.toArray)) (hx:evs l xs=some vs):
 Ex P l (.call { callee:=.value x,args:=xs.toArray,argTypes:=ats }) ty w (.enter f (vs++cap).toArray) w:=fun _ _ _ _=>by
 simp[execOp,resolve,Deferred.ofValue,invoke,mA hx,hU hf,zW hc]
def tyOf (P:Program) (t:TypeId):Option (List Value×Nat×Nat×Bool):=
 match P.info? t,P.underlying t with
 | some i,some d=>match i.zero with
  | some z=>if z.cells.toList.length=i.size then some (z.cells.toList,i.size,i.bytes,match d with | .struct _ | .array _ _=>true | _=>false) else none
  | none=>none
 | _,_=>none
structure xU (P:Program) (t:TypeId) (zs:List Value) (sz bytes:Nat) (agg:Bool):Prop where
 len:zs.length=sz
 ex:∃ i z d,P.info? t=some i∧i.zero=some z∧z.cells.toList=zs∧i.size=sz∧i.bytes=bytes∧P.underlying t=some d∧agg=(match d with | .struct _ | .array _ _=>true | _=>false)
theorem uC {t:TypeId} {zs:List Value} {sz bytes:Nat} {agg:Bool} (h:tyOf P t=some (zs,sz,bytes,agg)):xU P t zs sz bytes agg:=by
 unfold tyOf at h
 split at h
 · rename_i i d hi hd
   split at h
   · rename_i z hz
     split at h
     · rename_i hl
       simp only[Option.some.injEq,Prod.mk.injEq]at h
       exact⟨by rw[← h.1,← h.2.1];exact hl,i,z,d,hi,hz,h.1,h.2.1,h.2.2.1,hd,h.2.2.2.symm⟩
     cases h
   cases h
 cases h
def yH (P:Program) (t:TypeId) (f:Nat):Option (Nat×TypeId):=
 match P.underlying t with
 | some (.struct fs)=>match fs[f]? with
  | some fd=>match P.info? fd.type with
   | some i=>if i.size=0 then none else some (fd.offset,fd.type)
   | none=>none
  | none=>none
 | _=>none
variable {zs:List Value} {sz bytes:Nat} {agg:Bool}
theorem fT (h:xU P t zs sz bytes agg):(isAgg t).run P w=.ok agg w:=by
 obtain⟨i,z,d,hi,hz,_,_,_,hd,rfl⟩:=h.ex
 simp only[isAgg,Sem.run_bind,run_underlying hd,Result.andThen_ok]
 cases d <;>rfl
theorem vJ (h:xU P t zs sz bytes agg):(sizeOf t).run P w=.ok sz w:=by
 obtain⟨i,z,d,hi,hz,_,rfl,_,hd,rfl⟩:=h.ex
 simp[sizeOf,typeInfo,hi]
theorem pB (h:xU P t zs sz bytes false) {p:Addr} (hc:w.cell? p=some v):(loadVar t p).run P w=.ok v w:=by
 simp only[loadVar,Sem.run_bind,fT h,Result.andThen_ok]
 simp[load,Sem.run,hc]
theorem pA (h:xU P t zs sz bytes true) {p:Addr} {vs:List Value} (hl:vs.length=sz) (hc:∀ j u,vs[j]? =some u→w.cell? (p.add j)=some u):(loadVar t p).run P w=.ok (.agg vs.toArray) w:=by
 have hr:=run_loadCells_list (P:=P) w p vs hc
 simp[loadVar,fT h,vJ h,← hl,hr]
theorem gW (h:xU P t zs sz bytes false) {p:Addr} (hx:ev l x=some (.pointer (some p))) (hc:w.cell? p=some v):Ex P l (.load t x) ty w (.value v) w:=fun _ _ _ _=>by
 simp[execOp,zW hx,Instr.loadAt,Instr.sureAddr,pB h hc]
theorem FL (h:xU P t zs sz bytes true) {p:Addr} (hx:ev l x=some (.pointer (some p))) {vs:List Value} (hl:vs.length=sz) (hc:∀ j u,vs[j]? =some u→w.cell? (p.add j)=some u):Ex P l (.load t x) ty w (.value (.agg vs.toArray)) w:=fun _ _ _ _=>by
 simp[execOp,zW hx,Instr.loadAt,Instr.sureAddr,pA h hl hc]
theorem rX {f off:Nat} {ft:TypeId} (h:yH P t f=some (off,ft)) {b o:Nat} (hx:ev l x=some (.pointer (some ⟨b,o,none⟩))):Ex P l (.fieldAddr t x f) ty w (.value (.pointer (some ⟨b,o+off,none⟩))) w:=fun _ _ _ _=>by
 unfold yH at h
 split at h
 · rename_i fs hu
   split at h
   · rename_i fd hfd
     split at h
     · rename_i i hi
       split at h
       · cases h
       rename_i hsz
       simp only[Option.some.injEq,Prod.mk.injEq]at h
       obtain⟨rfl,rfl⟩:=h
       simp[execOp,zW hx,Instr.fieldAt,run_underlying hu,hfd,Instr.sureAddr,fieldPlace,sizeOf,typeInfo,hi,hsz,Lm]
     cases h
   cases h
 cases h
theorem QG {e:TypeId} (ht:P.underlying t=some (.slice e)) (he:xU P e zs sz bytes agg) {a:Addr} {len c:Nat} (hx:ev l x=some (.slice (some a) len c)) (hy:ev l y=some (.int k n)) (h0:0≤n) (h1:n < len):
 Ex P l (.indexAddr t x y) ty w (.value (.pointer (some (a.add (n.toNat*sz))))) w:=fun _ _ _ _=>by
 have h2:0≤n∧n < len:=⟨h0,h1⟩
 simp[execOp,zW hx,zW hy,Instr.indexAt,asIntOf,run_underlying ht,vJ he,h2]
theorem eN {e:TypeId} (ht:P.underlying t=some (.slice e)) (he:xU P e zs sz bytes agg) {a:Addr} {len c i o:Nat} (hx:ev l x=some (.slice (some a) len c)) (hy:ev l y=some (.int k n)) (hn:n=(i:Int)) (hi:i < len) (ho:i*sz=o):
 Ex P l (.indexAddr t x y) ty w (.value (.pointer (some (a.add o)))) w:=by
 subst hn
 have h:=QG (ty:=ty) (w:=w) ht he hx hy (by omega) (by omega)
 rw[Int.toNat_natCast,ho]at h
 exact h
def wH (A:Option Addr) (lo mx sz:Nat):Option Addr:=if mx=lo then A else A.map (·.add (lo*sz))
theorem T3 {e:TypeId} (ht:P.underlying t=some (.slice e)) (he:xU P e zs sz bytes agg) {A:Option Addr} {len c:Nat} {lo hi mx:Int} {kl kh km:IntKind} {xl xh xm:Operand}
 (hx:ev l x=some (.slice A len c)) (hl:ev l xl=some (.int kl lo)) (hh:ev l xh=some (.int kh hi)) (hm:ev l xm=some (.int km mx)) (h:0≤lo∧lo≤hi∧hi≤mx∧mx≤c):
 Ex P l (.slice t x (some xl) (some xh) (some xm)) ty w (.value (.slice (wH A lo.toNat mx.toNat sz) (hi.toNat - lo.toNat) (mx.toNat - lo.toNat))) w:=fun _ _ _ _=>by
 obtain⟨a,rfl⟩:=Kw (show 0≤lo by omega)
 obtain⟨b,rfl⟩:=Kw (show 0≤hi by omega)
 obtain⟨d,rfl⟩:=Kw (show 0≤mx by omega)
 have h1:d≤c:=by omega
 have h2:b≤d:=by omega
 have h3:a≤b:=by omega
 simp[execOp,zW hx,zW hl,zW hh,zW hm,Instr.sliceAt,Instr.slice,run_underlying ht,vJ he,Instr.sliceBounds,Instr.sliceBound,asIntOf,h1,h2,h3,wH]
theorem nS {e:TypeId} (ht:P.underlying t=some (.slice e)) (he:xU P e zs sz bytes agg) {A:Option Addr} {len c:Nat} {hi:Int} {kh:IntKind} {xh:Operand}
 (hx:ev l x=some (.slice A len c)) (hh:ev l xh=some (.int kh hi)) (h:0≤hi∧hi≤c):
 Ex P l (.slice t x none (some xh) none) ty w (.value (.slice A hi.toNat c)) w:=fun _ _ _ _=>by
 obtain⟨b,rfl⟩:=Kw (show 0≤hi by omega)
 have h2:b≤c:=by omega
 simp[execOp,zW hx,zW hh,Instr.sliceAt,Instr.slice,run_underlying ht,vJ he,Instr.sliceBounds,Instr.sliceBound,asIntOf,h2,Iw]
theorem vD {e:TypeId} (ht:P.underlying t=some (.slice e)) (he:xU P e zs sz bytes agg) {A:Option Addr} {len c:Nat} {lo:Int} {kl:IntKind} {xl:Operand}
 (hx:ev l x=some (.slice A len c)) (hl:ev l xl=some (.int kl lo)) (h:0≤lo∧lo≤len):
 Ex P l (.slice t x (some xl) none none) ty w (.value (.slice (wH A lo.toNat c sz) (len - lo.toNat) (c - lo.toNat))) w:=fun _ _ _ _=>by
 obtain⟨a,rfl⟩:=Kw (show 0≤lo by omega)
 have h3:a≤len:=by omega
 simp[execOp,zW hx,zW hl,Instr.sliceAt,Instr.slice,run_underlying ht,vJ he,Instr.sliceBounds,Instr.sliceBound,asIntOf,h3,wH]
theorem jM {u v:Value} {b:Bool} (hx:ev l x=some u) (hy:ev l y=some v) (hg:eqGuard .eql t x y u v=pure ()) (hb:binOp .eql t u v=(do pure (.bool (← Op.equal t u v)))) (h:∀ d,(Op.equalIn (d+1) t u v).run P w=.ok b w):
 Ex P l (.binOp .eql t x y t') ty w (.value (.bool b)) w:=fun _ _ _ _=>by
 have he:(Op.equal t u v).run P w=.ok b w:=h 9999
 simp only[execOp,zW hx,zW hy,hb,hg]
 simp[he]
theorem eL {u v:Value} {b:Bool} (hx:ev l x=some u) (hy:ev l y=some v) (hg:eqGuard .neq t x y u v=pure ()) (hb:binOp .neq t u v=(do pure (.bool (!(← Op.equal t u v))))) (h:∀ d,(Op.equalIn (d+1) t u v).run P w=.ok b w):
 Ex P l (.binOp .neq t x y t') ty w (.value (.bool (!b))) w:=fun _ _ _ _=>by
 have he:(Op.equal t u v).run P w=.ok b w:=h 9999
 simp only[execOp,zW hx,zW hy,hb,hg]
 simp[he]
theorem aF {e:TypeId} (ht:P.underlying t=some (.slice e)) (A:Option Addr) (n c:Nat) (d:Nat):(Op.equalIn (d+1) t (.slice A n c) (.slice none 0 0)).run P w=.ok (decide (A=none)) w:=by
 cases A <;>simp[Op.equalIn,run_underlying ht]
theorem gZ {e:TypeId} (ht:P.underlying t=some (.pointer e)) (A:Option Addr) (d:Nat):(Op.equalIn (d+1) t (.pointer A) (.pointer none)).run P w=.ok (decide (A=none)) w:=by
 cases A <;>simp[Op.equalIn,run_underlying ht]
theorem vC {e:TypeId} (ht:P.underlying t=some (.slice e)) {A:Option Addr} {len c:Nat} (hx:ev l x=some (.slice A len c)):
 Ex P l (.binOp .eql t x (.const (.slice none 0 0)) t') ty w (.value (.bool (decide (A=none)))) w:=
 jM hx rfl rfl rfl (aF ht A len c)
theorem yF {e:TypeId} (ht:P.underlying t=some (.pointer e)) {A:Option Addr} (hx:ev l x=some (.pointer A)):
 Ex P l (.binOp .eql t x (.const (.pointer none)) t') ty w (.value (.bool (decide (A=none)))) w:=
 jM hx rfl rfl rfl (gZ ht A)
theorem uV {e:TypeId} (ht:P.underlying t=some (.pointer e)) {A:Option Addr} (hx:ev l x=some (.pointer A)):
 Ex P l (.binOp .neq t x (.const (.pointer none)) t') ty w (.value (.bool (decide (¬A=none)))) w:=by
 rw[decide_not];exact eL hx rfl rfl rfl (gZ ht A)
end ex
section
variable {P:Program} {ops:Array Oper} {md:Region.Mode} {w:World} {n m:Nat} {listed:Array Bool}
theorem gH {t j:Nat} (hw:Region.waitsFor md ops t j=true) (hj:listed.getD j true=false):t∉Region.ready md ops listed:=by
 intro hr
 obtain⟨_,ot,hot,hall⟩:=mem_ready.1 hr
 obtain⟨o',ho',e,he,hb,hon⟩:=Region.waitsFor_spec hw
 have:o'=ot:=Option.some.inj (ho'.symm.trans hot)
 subst this
 have h2:=hall e he hb
 rw[hon,getD_both hj]at h2
 cases h2
theorem lI (hs:Region.sinkB md ops n=true) (inv:HeadInv md ops n listed) (hn:n < ops.size):∀ (d i:Nat),n - i≤d→i < n→listed.getD i true=false→n∉Region.ready md ops listed
 | 0,i,h,hi,_=>by omega
 | d+1,i,h,hi,hun=>by
  obtain⟨j,hj,hj2⟩:=List.any_eq_true.1 (Et.1 hs i (List.mem_range.2 hi))
  simp only[Ci,decide_eq_true_eq]at hj2
  have hjle:j < n+1:=List.mem_range.1 hj
  by_cases hjn:j=n
  · subst hjn;exact gH hj2.2 hun
  refine lI hs inv hn d j (by omega) (by omega) ?_
  cases hl:listed.getD j false with
  | false=>exact getD_in (by rw[inv.size];omega) hl
  | true=>
   obtain⟨oj,hoj,e,he,hb,hon⟩:=Region.waitsFor_spec hj2.2
   have h2:=inv.closed j oj hoj hl e he hb
   rw[hon,getD_both hun]at h2
   cases h2
def fF (md:Region.Mode) (ops:Array Oper) (n:Nat):Bool:=
 (List.range ops.size).all fun t=>decide (t≤n) || (List.range t).any fun j=>decide (n≤j) && Region.waitsFor md ops t j
theorem bQ (hs:Region.sinkB md ops n=true) (hc:fF md ops n=true) (hn:n < ops.size) (inv:HeadInv md ops n listed) {i:Nat} (hi:i < n) (hun:listed.getD i true=false):∀ t,n≤t→t∉Region.ready md ops listed:=by
 intro t ht
 by_cases htn:t=n
 · subst htn;exact lI hs inv hn (t - i) i (Ak _) hi hun
 by_cases htl:t < ops.size
 · have h1:=Et.1 hc t (List.mem_range.2 htl)
   simp only[Bool.or_eq_true,decide_eq_true_eq]at h1
   rcases h1 with h1 | h1
   · omega
   obtain⟨j,hj,hj2⟩:=List.any_eq_true.1 h1
   simp only[Ci,decide_eq_true_eq]at hj2
   have:=List.mem_range.1 hj
   exact gH hj2.2 (inv.tail j hj2.1 (by omega))
 intro hr
 obtain⟨_,ot,hot,_⟩:=mem_ready.1 hr
 exact htl (Dw.1 hot).1
theorem BC {i:Nat} {oi:Oper} {v:Value} {L:Array Bool→Act→Prop} (hi:ops[i]? =some oi) (hsel:∀ (j:Nat) (o:Oper) cs b,ops[j]? =some o→o.op≠ .select cs b) (hin:i < n)
 (hw:∀ listed,HeadInv md ops n listed→listed.getD i true=false→∀ t,n≤t→t∉Region.ready md ops listed) (hdone:∀ listed a,L listed a→∀ j∈Region.ready md ops listed,n≤j):
 ∀ (f:Nat) (listed:Array Bool) (a:Act),HeadInv md ops n listed→
  (∀ j oj,ops[j]? =some oj→j≠i→listed.getD j true=false→(∀ e∈oj.after,Region.binds md e=true→e.on≠i)→oi.apart ops oj=true)→
  i∈Region.ready md ops listed→YieldsAt P ops w oi v a→
  wpAnyL P md ops w n L f (listed.setIfInBounds i true) (a.put oi.dst v)→wpAnyL P md ops w n L (f+1) listed a
 | f,listed,a,inv,hfree,hr,hy,H=>by
  have hun:=(mem_ready.1 hr).1
  refine⟨fun h=>(by rw[h]at hr;cases hr),fun j hj=>?_⟩
  have hjn:j < n:=Nat.lt_of_not_le fun h=>hw listed inv hun j h hj
  refine⟨hjn,?_⟩
  by_cases hji:j=i
  · subst hji;exact hy.stOp hi H
  cases f with
  | zero=>have:=hdone _ _ H j (ready_mono hj hji);omega
  | succ f=>
   obtain⟨hjun,oj,hoj,hall⟩:=mem_ready.1 hj
   have h2:=stOp_put hoj (hfree j oj hoj hji hjun fun e he hb heq=>by
    have h1:=hall e he hb
    rw[heq,getD_both hun]at h1
    cases h1) (fun cs b=>hsel i oi cs b hi) (fun cs b=>hsel j oj cs b hoj) hy (H.2 j (ready_mono hj hji)).2
   refine stOp_mono (fun a' h3=>BC hi hsel hin hw hdone f (listed.setIfInBounds j true) a' (inv.set hj hjn) (fun k ok hk hki hu hno=>?_) (ready_mono hr (Ne.symm hji)) h3.1 ?_) h2
   · refine hfree k ok hk hki ?_ hno
     by_cases hjk:j=k
     · subst hjk;exact hjun
     rw[getD_set_ne true hjk]at hu;exact hu
   rw[Qe _ _ hji]
   exact h3.2
def GZ (md:Region.Mode) (ops:Array Oper):Nat→Nat→Array Bool→Bool
 | 0,k,listed=>Region.lexFrom md ops (ops.size - k) k listed
 | g+1,k,listed=>decide (Region.ready md ops listed=[k]) && GZ md ops g (k+1) (listed.setIfInBounds k true)
def FA (md:Region.Mode) (ops:Array Oper) (g:Nat):Nat→Nat→Array Bool→Bool
 | 0,k,listed=>GZ md ops (g+1) k listed
 | f+1,k,listed=>(Region.ready md ops listed).contains k && Region.free md ops listed k && FA md ops g f (k+1) (listed.setIfInBounds k true)
def CP (md:Region.Mode) (ops:Array Oper) (n g:Nat):Bool:=
 Region.noSelect ops && decide (n+g < ops.size) && Region.sinkB md ops n && fF md ops n && FA md ops g n 0 (Array.replicate ops.size false)
theorem E9 {g:Nat} {Lq:Act→Prop} (hsel:Region.noSelect ops=true) (hs:Region.sinkB md ops n=true) (hc:fF md ops n=true) (hn:n < ops.size):
 ∀ (l:List Oper) (k:Nat) (listed:Array Bool) (a:Act),(∀ j,j < l.length→l[j]? =ops[k+j]?)→k+l.length=n→HeadInv md ops n listed→
 FA md ops g l.length k listed=true→wpStill P ops w Lq l a→
 wpAnyL P md ops w n (fun listed' a'=>GZ md ops (g+1) n listed'=true∧Lq a') l.length listed a
 | [],k,listed,a,_,hk,_,hB,h=>by
  have:k=n:=by simpa using hk
  subst this
  exact⟨by simpa[FA]using hB,h⟩
 | o::l,k,listed,a,hl,hk,inv,hB,h=>by
  have h0:ops[k]? =some o:=by simpa using(hl 0 (by simp)).symm
  simp only[Bj,FA,Ci]at hB
  obtain⟨⟨hr,hf⟩,hB'⟩:=hB
  have hkn:k < n:=by simp only[Bj]at hk;omega
  have hr':k∈Region.ready md ops listed:=by simpa using hr
  have hst:stOp P ops w k (wpStill P ops w Lq l) a:=by unfold stOp;simp only[h0];exact h
  obtain⟨v,hy,hK⟩:=yieldsAt_of_stOp h0 hst
  refine BC h0 (Ot hsel) hkn (fun listed inv hu=>bQ hs hc hn inv hkn hu) (fun listed' a' hL j hj=>?_) l.length listed a inv (Oq h0 hf) hr' hy
   (E9 hsel hs hc hn l (k+1) _ _ (fun j hj=>by have:=hl (j+1) (by simp;omega);simpa[Fz,Kv 1 j]using this) (by simp only[Bj]at hk;omega) (inv.set hr' hkn) hB' hK)
  have h1:=hL.1
  simp only[GZ,Ci,decide_eq_true_eq]at h1
  rw[h1.1]at hj
  have:j=n:=by simpa using hj
  omega
theorem lB {o:Oper} {a:Act} {K:Act→World→Prop} {Q1 Q2:Exit→Act→World→Prop} (hq:∀ e a w,e≠ .normal→Q1 e a w→Q2 e a w) (hh:o.wp P a w K Q1):o.wp P a w K Q2:=by
 unfold Oper.wp at*
 generalize (execOp a.eval o).run P w=r at*
 cases r with
 | ok n w'=>
  cases n <;>simp only[Oper.upon]at hh ⊢ <;>
   first
    | exact hh
    | exact Calls.mono hh (fun e w'' he=>by
     cases e with
     | returned v=>exact he
     | panicked c=>exact hq _ _ _ (by simp) he
     | outgrown=>exact(let ⟨a,w,h⟩:=he;⟨a,w,hq _ _ _ (by simp) h⟩))
 | halt x w'=>
  cases x <;>simp only[Oper.upon]at hh ⊢ <;>first | exact hq _ _ _ (by simp) hh | exact hh
theorem I7 {Q' : Exit → Act → World → Prop} (hsel : Region.noSelect ops = true) : ∀ (l1 l2 : List Oper) (k : Nat) (listed : Array Bool) (a : Act) (w : World), (∀ j, (l1 ++ l2)[j]? = ops[k + j]?) → ops.size - k = (l1 ++ l2).length →
    GZ md ops l1.length k listed = true → wpList P ops (Exit.then (fun a' w' => wpStill P ops w' (fun a'' => Q' .normal a'' w') l2 a') Q') l1 a w →
    wpAny P md ops Q' (l1 ++ l2).length listed a w
  | [], l2, k, listed, a, w, hl, hsz, hB, h => by
    simp only [Gp, Dq, GZ] at hl hB hsz ⊢
    rw [hsz] at hB
    exact wpAny_of_still (fun _ h => h) _ _ _ (wpAnyS_lex hsel l2 k listed a hl hB h)
  | o :: l1, l2, k, listed, a, w, hl, hsz, hB, h => by
    have h0 : ops[k]? = some o := by simpa using (hl 0).symm
    simp only [Bj, GZ, Ci, decide_eq_true_eq] at hB
    refine ⟨fun h1 => (by rw [hB.1] at h1; cases h1), fun i hi => ?_⟩
    rw [hB.1] at hi
    have hik : i = k := by simpa using hi
    subst hik
    have ih := fun a' w' h' => I7 (Q' := Q') hsel l1 l2 (i + 1) (listed.setIfInBounds i true) a' w' (fun j => by have := hl (j + 1); simpa [Fz, Kv 1 j] using this)
      (by simp only [Jf, Bj] at hsz; omega) hB.2 h'
    unfold wpOp
    simp only [h0]
    unfold wpList at h
    split
    · rename_i hw
      rw [if_pos hw] at h
      rcases h with h | ⟨h1, a1, w1, h2⟩
      · exact .inl (Oper.wp_mono ih (lB (fun e a w he h => by cases e <;> first | exact absurd Y he | exact h) h))
      exact .inr ⟨h1, a1, w1, h2⟩
    rename_i hw
    rw [if_neg hw] at h
    exact ih _ _ h
theorem aM {id:Nat} {Q:Exit→Act→World→Prop} {a:Act} {l l1 l2 l3:List Oper} (hl:l=l1++(l2++l3)) (n g:Nat) (hn:l1.length=n) (hg:l2.length=g+1) (hm:P.follows .mixedOrders=true) (hB:CP .any l.toArray n g=true)
 (h:wpStill P l.toArray { w with drawn:=w.drawn+1 } (fun a'=>wpList P l.toArray (Exit.then (fun a' w'=>wpStill P l.toArray w' (fun a''=>Q .normal a'' w') l3 a') Q) l2 a' { w with drawn:=w.drawn+1 }) l1 a):(Code.region id l.toArray true).wp P Q a w:=by
 simp only[CP,Ci,decide_eq_true_eq]at hB
 obtain⟨⟨⟨⟨hsel,hlt⟩,hs⟩,hc⟩,hlex⟩:=hB
 subst hn
 have hlen:l.length=l1.length+(l2.length+l3.length):=by rw[hl];simp
 have hn':l1.length < l.toArray.size:=by simp only[Ib]at hlt ⊢;omega
 have inv0:HeadInv .any l.toArray l1.length (Array.replicate l.toArray.size false):=
  ⟨by simp,fun j oj _ hl=>(by rw[getD_replicate_false]at hl;cases hl),fun t _ ht=>getD_in (by simpa using ht) (getD_replicate_false _ _)⟩
 have H:=E9 (md:=.any) (g:=g) hsel hs hc hn' l1 0 _ a (fun j hj=>by subst hl;rw[Ba,Gv,Di hj]) (by simp) inv0 hlex h
 refine wp_region_any hm ?_
 have:=wpAny_of_head (Q':=Q) (g:=l.toArray.size - l1.length) (fun listed a' hL=>by
  have hsz:l.toArray.size - l1.length=(l2++l3).length:=by simp only[Ib,Ae];omega
  rw[hsz]
  refine I7 hsel l2 l3 l1.length listed a' _ ?_ hsz (by rw[hg];exact hL.1) hL.2
  intro j
  subst hl
  rw[Gv]
  exact((Eb (l₁:=l1) (l₂:=l2++l3) (by omega)).trans (by rw[Hr])).symm) l1.length (Array.replicate l.toArray.size false) a H
 have he:l1.length+(l.toArray.size - l1.length)=l.toArray.size:=by simp only[Ib]at hn' ⊢;omega
 rw[he]at this
 exact this
end
theorem R5 {P:Program} {ds:List Deferred} {Q:vQ} {l:List Value} {w:World} {cs:List Code} {n:Nat} {os:List Oper} (k g:Nat) (hm:P.follows .mixedOrders=true) (hB:CP .any os.toArray k g=true) (hk:(os.take k).length=k) (hg:((os.drop k).take (g+1)).length=g+1)
 (h:∀ w',w'={ w with drawn:=w.drawn+1 }→yW P ds os w' (fun l'=>Ops P ds os (fun l2 w2=>yW P ds os w2 (fun l3=>Run P ds cs Q l3 w2) ((os.drop k).drop (g+1)) l2) Q ((os.drop k).take (g+1)) l' w') (os.take k) l):Run P ds (.region n os.toArray true::cs) Q l w:=by
 refine aM (l1:=os.take k) (l2:=(os.drop k).take (g+1)) (l3:=(os.drop k).drop (g+1)) (by rw[Fg,Fg]) k g hk hg hm hB ?_
 have h':=h _ rfl
 unfold yW at h'
 refine still_mono ?_ _ _ h'
 rintro⟨t,d⟩ ⟨hd,h2⟩
 simp only at hd
 subst hd
 unfold Ops at h2
 have mono:∀ (os':List Oper) (a:Act) (w:World) (K1 K2:Act→World→Prop) (Q1 Q2:Exit→Act→World→Prop),(∀ a w,K1 a w→K2 a w)→(∀ e a w,e≠ .normal→Q1 e a w→Q2 e a w)→wpList P os.toArray (Exit.then K1 Q1) os' a w→wpList P os.toArray (Exit.then K2 Q2) os' a w:=by
  intro os'
  induction os' with
  | nil=>intro a w K1 K2 Q1 Q2 hK hq h;exact hK _ _ h
  | cons o os' ih=>
   intro a w K1 K2 Q1 Q2 hK hq h
   unfold wpList at h ⊢
   split
   · rename_i hw
     rw[if_pos hw]at h
     rcases h with h | ⟨h1,a1,w1,h2⟩
     · exact .inl (Oper.wp_mono (fun a w h=>ih a w K1 K2 Q1 Q2 hK hq h) (lB (fun e a w he h=>by cases e <;>first | exact absurd Y he | exact hq _ _ _ he h) h))
     exact .inr ⟨h1,a1,w1,hq _ _ _ (by simp) h2⟩
   rename_i hw
   rw[if_neg hw]at h
   exact ih _ _ _ _ _ _ hK hq h
 refine mono _ _ _ _ _ _ _ ?_ (fun e a w he h=>?_) h2
 · rintro⟨t,d'⟩ w' ⟨hd,h3⟩
   simp only at hd
   subst hd
   exact h3
 cases e <;>first | exact absurd rfl he | exact h
def RE (P:Program) (ρ:Operand→Value) (o:Oper) (w:World) (v:Value):Prop:=
 (execOp ρ o).run P w=.ok (.value v) w∨∃ f args,(execOp ρ o).run P w=.ok (.enter f args) w∧Calls P f args w fun e w'=>e=.returned v∧w'=w
def tX (P:Program) (ops:Array Oper) (S:World→Prop) (o:Oper) (v:Value) (a:Act):Prop:=
 (Region.wanted o (yielded ops a.tmps)=true∧∀ w,S w→RE P a.eval o w v)∨(Region.wanted o (yielded ops a.tmps)=false∧v=undef)
section gives
variable {P:Program} {ops:Array Oper} {Q:Exit→Act→World→Prop} {md:Region.Mode} {S:World→Prop}
theorem tX.wpOp {i:Nat} {o:Oper} {v:Value} {a:Act} (hi:ops[i]? =some o) (hy:tX P ops S o v a) {K:Act→World→Prop} {w:World} (hS:S w) (h:K (a.put o.dst v) w):wpOp P ops Q i K a w:=by
 unfold Go.wpOp
 simp only[hi]
 rcases hy with ⟨hw,hv⟩ | ⟨hw,rfl⟩
 · simp only[hw,if_true]
   refine .inl ?_
   unfold Oper.wp
   rcases hv w hS with h1 | ⟨f,args,h1,h2⟩
   · rw[h1];exact h
   rw[h1]
   refine Calls.mono h2 ?_
   rintro e w' ⟨rfl,rfl⟩
   exact h
 simp only[hw,Bool.false_eq_true,if_false];exact h
theorem tX.of_same {o:Oper} {v:Value} {a a':Act} (hy:tX P ops S o v a) (he:execOp a'.eval o=execOp a.eval o)
 (hw:Region.wanted o (yielded ops a'.tmps)=Region.wanted o (yielded ops a.tmps)):tX P ops S o v a':=by
 unfold tX RE at*
 rw[he,hw]
 exact hy
theorem kJ {j:Nat} {oi oj:Oper} {v:Value} (hj:ops[j]? =some oj) (hap:oi.apart ops oj=true)
 (hsi:∀ cs b,oi.op≠ .select cs b) (hsj:∀ cs b,oj.op≠ .select cs b)
 (hQ:∀ c a w,Q (.panic c) (a.put oi.dst v) w→Q (.panic c) a w) {K:Act→World→Prop} {a:Act} {w:World}
 (hy:tX P ops S oi v a) (h:wpOp P ops Q j K (a.put oi.dst v) w):
 wpOp P ops Q j (fun a' w'=>tX P ops S oi v a'∧K (a'.put oi.dst v) w') a w:=by
 obtain⟨h1,h2,h3⟩:=Oper.apart_spec hap
 have keep:∀ (a:Act),tX P ops S oi v a→∀ u,tX P ops S oi v (a.put oj.dst u):=fun a hy u=>
  hy.of_same (execOp_put oi hsi a oj.dst u h3) (wanted_put oi a oj.dst u h3)
 have keepD:∀ d,tX P ops S oi v { a with defers:=d::a.defers }:=fun d=>hy.of_same rfl rfl
 unfold wpOp at*
 simp only[hj]at*
 rw[wanted_put oj a oi.dst v h1]at h
 split
 · rename_i hw
   simp only[hw,if_true]at h
   rcases h with h | ⟨hasks,hlets⟩
   case inr=>exact .inr ⟨by unfold Oper.asks at*;rw[execOp_put oj hsj a oi.dst v h1]at hasks;exact hasks,hlets⟩
   refine .inl ?_
   unfold Oper.wp at*
   rw[execOp_put oj hsj a oi.dst v h1]at h
   generalize (execOp a.eval oj).run P w=r at*
   cases r with
   | ok n w'=>
    cases n <;>simp only[Oper.upon]at h ⊢
    case value u=>exact⟨keep a hy u,by rw[← Act.put_comm a v u h2];exact h⟩
    case skip=>exact⟨keep a hy _,by rw[← Act.put_comm a v undef h2];exact h⟩
    case defer d=>
     refine⟨keep _ (keepD d) _,?_⟩
     rw[← Act.put_comm _ v undef h2,← Act.put_defers]
     exact h
    case enter f args=>
     refine Calls.mono h fun e w'' he=>?_
     cases e with
     | returned u=>exact⟨keep a hy u,by rw[← Act.put_comm a v u h2];exact he⟩
     | panicked c=>exact hQ _ _ _ he
     | outgrown=>exact he
    case row row args=>exact Rows.mono h fun u w'' he=>⟨keep a hy u,by rw[← Act.put_comm a v u h2];exact he⟩
   | halt x w'=>
    cases x <;>simp only[Oper.upon]at h ⊢
    case panic u=>exact hQ _ _ _ h
 rename_i hw
 simp only[hw]at h
 exact⟨keep a hy _,by rw[← Act.put_comm a v undef h2];exact h⟩
theorem BP {i:Nat} {oi:Oper} {v:Value} (hi:ops[i]? =some oi) (hsel:∀ (j:Nat) (o:Oper) cs b,ops[j]? =some o→o.op≠ .select cs b)
 (hQ:∀ c a w,Q (.panic c) (a.put oi.dst v) w→Q (.panic c) a w):
 ∀ (fuel:Nat) (listed:Array Bool) (a:Act) (w:World),
  (∀ j oj,ops[j]? =some oj→j≠i→listed.getD j true=false→(∀ e∈oj.after,Region.binds md e=true→e.on≠i)→oi.apart ops oj=true)→
  i∈Region.ready md ops listed→tX P ops S oi v a→S w→
  wpAnyH P md ops Q S fuel (listed.setIfInBounds i true) (a.put oi.dst v) w→wpAnyH P md ops Q S (fuel+1) listed a w:=by
 intro fuel
 induction fuel with
 | zero=>
  intro listed a w _ hr hy hS H
  refine⟨fun h=>(by rw[h]at hr;cases hr),fun j hj=>?_⟩
  by_cases hji:j=i
  · subst hji;exact hy.wpOp hi hS ⟨hS,H⟩
  have:=ready_mono hj hji
  rw[H.1]at this
  cases this
 | succ fuel ih=>
  intro listed a w hfree hr hy hS H
  refine⟨fun h=>(by rw[h]at hr;cases hr),fun j hj=>?_⟩
  by_cases hji:j=i
  · subst hji;exact hy.wpOp hi hS ⟨hS,H⟩
  have h1:=H.2 j (ready_mono hj hji)
  obtain⟨hjun,oj,hoj,hall⟩:=mem_ready.1 hj
  have Wp:=(mem_ready.1 hr).1
  have hnot:∀ e∈oj.after,Region.binds md e=true→e.on≠i:=fun e he hb heq=>by
   have h2:=hall e he hb
   rw[heq,getD_both Wp]at h2
   cases h2
  have h2:=kJ hoj (hfree j oj hoj hji hjun hnot) (fun cs b=>hsel i oi cs b hi) (fun cs b=>hsel j oj cs b hoj) hQ hy h1
  have hfree':∀ k ok,ops[k]? =some ok→k≠i→(listed.setIfInBounds j true).getD k true=false→
   (∀ e∈ok.after,Region.binds md e=true→e.on≠i)→oi.apart ops ok=true:=fun k ok hk hki hun hno=>by
   refine hfree k ok hk hki ?_ hno
   by_cases hjk:j=k
   · subst hjk;exact hjun
   rw[getD_set_ne true hjk]at hun;exact hun
  refine wpOp_mono (fun a' w' h3=>⟨h3.2.1,ih (listed.setIfInBounds j true) a' w' hfree' (ready_mono hr (Ne.symm hji)) h3.1 h3.2.1 ?_⟩) h2
  rw[Qe _ _ hji]
  exact h3.2.2
theorem DF {i:Nat} {oi:Oper} {v:Value} {fuel:Nat} {listed:Array Bool} {a:Act} {w:World} (hi:ops[i]? =some oi)
 (hs:Region.noSelect ops=true) (hf:Region.free md ops listed i=true) (hr:(Region.ready md ops listed).contains i=true)
 (hQ:∀ c a w,Q (.panic c) (a.put oi.dst v) w→Q (.panic c) a w) (hy:tX P ops S oi v a) (hS:S w)
 (h:wpAnyH P md ops Q S fuel (listed.setIfInBounds i true) (a.put oi.dst v) w):wpAnyH P md ops Q S (fuel+1) listed a w:=
 BP hi (Ot hs) hQ fuel listed a w (Oq hi hf) (by simpa using hr) hy hS h
end gives
def Vx (ops:Array Oper):List (Bool×Nat)→Array Bool→Bool
 | [],listed=>(Region.ready .any ops listed).isEmpty
 | (true,i)::s,listed=>(Region.ready .any ops listed).contains i && Region.free .any ops listed i && Vx ops s (listed.setIfInBounds i true)
 | (false,i)::s,listed=>decide (Region.ready .any ops listed=[i]) && Vx ops s (listed.setIfInBounds i true)
def Vw (l:List Value):Option Tmp→Value→List Value
 | some d,v=>l.set d v
 | none,_=>l
section mix
variable {P:Program} {ds:List Deferred} {all:List Oper} {S:World→Prop} {K:List Value→World→Prop} {l:List Value} {w:World} {op:Op} {ty:TypeId} {pos:String} {af:Array Edge} {d:Tmp} {v:Value} {o:Oper} {i:Nat} {s:List (Bool×Nat)}
def lA (P:Program) (all:List Oper) (S:World→Prop) (K:List Value→World→Prop) (o:Oper) (l:List Value) (w:World):Prop:=
 ∃ v,((Region.wanted o (yielded all.toArray l.toArray)=true∧∀ w',S w'→RE P (rho l) o w' v)∨(Region.wanted o (yielded all.toArray l.toArray)=false∧v=undef))∧K (Vw l o.dst v) w
def rZ (P:Program) (ds:List Deferred) (all:List Oper) (S:World→Prop) (K:List Value→World→Prop):List (Bool×Nat)→List Value→World→Prop
 | [],l,w=>K l w
 | (true,i)::s,l,w=>∃ o,all[i]? =some o∧lA P all S (rZ P ds all S K s) o l w
 | (false,i)::s,l,w=>∃ o,all[i]? =some o∧Ops P ds all (fun l' w'=>S w'∧rZ P ds all S K s l' w') (fun _ _ _=>False) [o] l w
theorem tS (h:K l w):rZ P ds all S K [] l w:=h
theorem zY (ho:all[i]? =some o) (h:lA P all S (rZ P ds all S K s) o l w):rZ P ds all S K ((true,i)::s) l w:=⟨o,ho,h⟩
theorem I4 (ho:all[i]? =some o) (h:Ops P ds all (fun l' w'=>S w'∧rZ P ds all S K s l' w') (fun _ _ _=>False) [o] l w):rZ P ds all S K ((false,i)::s) l w:=⟨o,ho,h⟩
theorem rU (hx:∀ w,S w→Ex P l op ty w (.value v) w) (h:K (l.set d v) w):lA P all S K ⟨some d,op,ty,pos,af,none⟩ l w:=⟨v,.inl ⟨rfl,fun w' hw=> .inl (hx w' hw _ _ _ _)⟩,h⟩
theorem qI {f:FuncId} {args:Array Value} (hx:∀ w,S w→Ex P l op ty w (.enter f args) w) (hc:∀ w,S w→zP P f args w fun r w'=>r=v∧w'=w) (h:K (l.set d v) w):lA P all S K ⟨some d,op,ty,pos,af,none⟩ l w:=
 ⟨v,.inl ⟨rfl,fun w' hw=> .inr ⟨f,args,hx w' hw _ _ _ _,Calls.mono (hc w' hw) fun e w2 ⟨r,h1,h2,h3⟩=>⟨by rw[h1,h2],h3⟩⟩⟩,h⟩
theorem E4 {dst:Option Tmp} {j:Nat} {b:Bool} (hg:yes all l j=some b) (h:lA P all S K ⟨dst,op,ty,pos,af,none⟩ l w):lA P all S K ⟨dst,op,ty,pos,af,some (j,b)⟩ l w:=by
 have e1:Region.wanted ⟨dst,op,ty,pos,af,some (j,b)⟩ (yielded all.toArray l.toArray)=true:=by simp[Region.wanted,qC,hg]
 obtain⟨v,⟨_,hv⟩ | ⟨h1,_⟩,h2⟩:=h
 · exact⟨v,.inl ⟨e1,hv⟩,h2⟩
 cases h1
theorem I6 {j:Nat} {b:Bool} (hg:(yes all l j==some b)=false) (h:K (l.set d undef) w):lA P all S K ⟨some d,op,ty,pos,af,some (j,b)⟩ l w:=
 ⟨undef,.inr ⟨by simpa[Region.wanted,qC]using hg,rfl⟩,h⟩
theorem qH {p:Prop} {_:Decidable p} (hx:∀ w,S w→Ex P l op ty w (.value (.bool (decide p))) w) (hp:p) (h:K (l.set d (.bool true)) w):lA P all S K ⟨some d,op,ty,pos,af,none⟩ l w:=
 rU hx (by rw[decide_eq_true hp];exact h)
theorem sE {p:Prop} {_:Decidable p} (hx:∀ w,S w→Ex P l op ty w (.value (.bool (decide p))) w) (hp:¬p) (h:K (l.set d (.bool false)) w):lA P all S K ⟨some d,op,ty,pos,af,none⟩ l w:=
 rU hx (by rw[decide_eq_false hp];exact h)
theorem vS {p:Prop} {_:Decidable p} (hx:∀ w,S w→Ex P l op ty w (.value (.bool (decide p))) w) (h1:p→K (l.set d (.bool true)) w) (h2:¬p→K (l.set d (.bool false)) w):lA P all S K ⟨some d,op,ty,pos,af,none⟩ l w:=by
 by_cases hp:p
 · exact qH hx hp (h1 hp)
 exact sE hx hp (h2 hp)
theorem nL (l:List Value) (ds:List Deferred) (dst:Option Tmp) (v:Value):(⟨l.toArray,ds⟩:Act).put dst v=⟨(Vw l dst v).toArray,ds⟩:=by
 cases dst with
 | none=>rfl
 | some d=>exact tI l ds d v
theorem I5 (hsel:Region.noSelect all.toArray=true):∀ (s:List (Bool×Nat)) (listed:Array Bool) (l:List Value) (w:World),Vx all.toArray s listed=true→S w→rZ P ds all S K s l w→
 wpAnyH P .any all.toArray (fun e a w'=>a.defers=ds∧uQ K (fun _ _ _=>False) e a.tmps.toList w') S s.length listed ⟨l.toArray,ds⟩ w:=by
 intro s
 induction s with
 | nil=>intro listed l w hB _ h;exact wpAnyH_done (by simpa[Vx]using hB) ⟨rfl,h⟩ 0
 | cons x s IH=>
  obtain⟨b,i⟩:=x
  cases b
  · rintro listed l w hB hS ⟨o,ho,h⟩
    simp only[Vx,Ci,decide_eq_true_eq]at hB
    refine wpAnyH_all hB.1 (by simp) fun k hk=>?_
    have hki:k=i:=by simpa using hk
    rw[hki]
    unfold Ops wpList at h
    unfold wpOp
    rw[Gv,ho]
    simp only
    have ih:∀ (a:Act) w',(a.defers=ds∧S w'∧rZ P ds all S K s a.tmps.toList w')→(S w'∧wpAnyH P .any all.toArray (fun e a w'=>a.defers=ds∧uQ K (fun _ _ _=>False) e a.tmps.toList w') S s.length (listed.setIfInBounds i true) a w'):=by
     rintro⟨t,d⟩ w' ⟨hd,hS',h2⟩
     simp only at hd
     subst hd
     exact⟨hS',IH _ _ _ hB.2 hS' h2⟩
    have hq:∀ (e:Exit) (a:Act) w',e≠ .normal→Exit.then (fun(a:Act) w'=>a.defers=ds∧S w'∧rZ P ds all S K s a.tmps.toList w') (fun _ a _=>a.defers=ds∧False) e a w'→(a.defers=ds∧uQ K (fun _ _ _=>False) e a.tmps.toList w'):=by
     intro e a w' he h
     cases e <;>first | exact absurd rfl he | exact h.2.elim
    split
    · rename_i hw
      rw[if_pos hw]at h
      rcases h with h | ⟨h1,a1,w1,h2⟩
      · exact .inl (Oper.wp_mono ih (lB hq h))
      exact .inr ⟨h1,a1,w1,hq _ _ _ (by simp) h2⟩
    rename_i hw
    rw[if_neg hw]at h
    exact ih _ _ h
  rintro listed l w hB hS ⟨o,ho,v,hv,hK⟩
  simp only[Vx,Ci]at hB
  refine DF (oi:=o) (v:=v) (by rw[Gv];exact ho) hsel hB.1.2 hB.1.1 (fun _ _ _ h=>h.2.elim) ?_ hS ?_
  · rcases hv with ⟨h1,h2⟩ | ⟨h1,h2⟩
    · exact .inl ⟨h1,by rw[sA];exact h2⟩
    exact .inr ⟨h1,h2⟩
  rw[nL]
  exact IH _ _ _ hB.2 hS hK
theorem R4 {Q:vQ} {cs:List Code} {n:Nat} (s:List (Bool×Nat)) (S:World→Prop) (hm:P.follows .mixedOrders=true) (hB:(Region.noSelect all.toArray && decide (s.length=all.length) && Vx all.toArray s (Array.replicate all.length false))=true)
 (h:∀ w',w'={ w with drawn:=w.drawn+1 }→S w'∧rZ P ds all S (Run P ds cs Q) s l w'):Run P ds (.region n all.toArray true::cs) Q l w:=by
 simp only[Ci,decide_eq_true_eq]at hB
 obtain⟨⟨hsel,hlen⟩,hB⟩:=hB
 show Cd P ds _ _ l w
 unfold Cd
 refine Go.wp_mono (Q:=fun e a w'=>a.defers=ds∧uQ (Run P ds cs Q) (fun _ _ _=>False) e a.tmps.toList w') (wp_region_held (S:=S) hm ?_) ?_
 · have:=I5 hsel s _ l _ hB (h _ rfl).1 (h _ rfl).2
   rw[hlen]at this
   simpa using this
 rintro e a w' ⟨hd,h2⟩
 cases e <;>first | exact⟨hd,h2⟩ | exact h2.elim
theorem rG {Q:vQ} {cs:List Code} {n:Nat} {w0:World} {SS:List Nat} {es:List Ent} (s:List (Bool×Nat)) (H:Hp w0 w SS es) (idx:List Nat) (hm:P.follows .mixedOrders=true) (hnd:idx.Nodup)
 (hB:(Region.noSelect all.toArray && decide (s.length=all.length) && Vx all.toArray s (Array.replicate all.length false))=true)
 (h:∀ w',w'={ w with drawn:=w.drawn+1 }→rZ P ds all (fun wz=>Hp w0 wz SS (idx.map fun i=>es.getD i (none,0,[]))) (Run P ds cs Q) s l w'):Run P ds (.region n all.toArray true::cs) Q l w:=
 R4 s _ hm hB fun w' hw'=>⟨by rw[hw'];exact H.drew.pick idx hnd,h w' hw'⟩
def oN (P:Program) (ops:Array Oper) (Q:Exit→Act→World→Prop) (S:World→Prop) (z:Nat):Nat→Array Bool→Act→World→Prop
 | 0,listed,a,w=>Region.ready .any ops listed=[]∧Q .normal a w
 | f+1,listed,a,w=>(Region.ready .any ops listed=[]→Q .normal a w)∧
  ∀ i∈Region.ready .any ops listed,wpOp P ops Q i (fun a' w'=>(i≠z→S w')∧oN P ops Q S z f (listed.setIfInBounds i true) a' w') a w
theorem kH {ops:Array Oper} {Q:Exit→Act→World→Prop} {z:Nat}:∀ (f:Nat) (listed:Array Bool) (a:Act) (w:World),oN P ops Q S z f listed a w→wpAny P .any ops Q f listed a w
 | 0,_,_,_,h=>h
 | f+1,_,_,_,h=>⟨h.1,fun i hi=>wpOp_mono (fun a' w' h'=>kH f _ a' w' h'.2) (h.2 i hi)⟩
theorem KC {ops:Array Oper} {Q:Exit→Act→World→Prop} {z i:Nat} {oi:Oper} {v:Value} (hi:ops[i]? =some oi) (hsel:∀ (j:Nat) (o:Oper) cs b,ops[j]? =some o→o.op≠ .select cs b)
 (hQ:∀ c a w,Q (.panic c) (a.put oi.dst v) w→Q (.panic c) a w) (hs:Region.sinkB .any ops z=true) (hz:z+1=ops.size) (hiz:i < z):
 ∀ (f:Nat) (listed:Array Bool) (a:Act) (w:World),HeadInv .any ops z listed→
  (∀ j oj,ops[j]? =some oj→j≠i→listed.getD j true=false→(∀ e∈oj.after,Region.binds .any e=true→e.on≠i)→oi.apart ops oj=true)→
  i∈Region.ready .any ops listed→tX P ops S oi v a→S w→
  oN P ops Q S z f (listed.setIfInBounds i true) (a.put oi.dst v) w→oN P ops Q S z (f+1) listed a w:=by
 intro f
 induction f with
 | zero=>
  intro listed a w _ _ hr hy hS H
  refine⟨fun h=>(by rw[h]at hr;cases hr),fun j hj=>?_⟩
  by_cases hji:j=i
  · rw[hji];exact hy.wpOp hi hS ⟨fun _=>hS,H⟩
  have h1:=ready_mono hj hji
  rw[H.1]at h1
  cases h1
 | succ f ih=>
  intro listed a w inv hfree hr hy hS H
  refine⟨fun h=>(by rw[h]at hr;cases hr),fun j hj=>?_⟩
  by_cases hji:j=i
  · rw[hji];exact hy.wpOp hi hS ⟨fun _=>hS,H⟩
  have h1:=H.2 j (ready_mono hj hji)
  obtain⟨hjun,oj,hoj,hall⟩:=mem_ready.1 hj
  have Wp:=(mem_ready.1 hr).1
  have hjz:j≠z:=by
   intro e
   rw[e]at hj
   exact lI hs inv (by omega) (z - i) i (Ak _) hiz Wp hj
  have hjs:=(Dw.1 hoj).1
  have hnot:∀ e∈oj.after,Region.binds .any e=true→e.on≠i:=fun e he hb heq=>by
   have h2:=hall e he hb
   rw[heq,getD_both Wp]at h2
   cases h2
  have h2:=kJ hoj (hfree j oj hoj hji hjun hnot) (fun cs b=>hsel i oi cs b hi) (fun cs b=>hsel j oj cs b hoj) hQ hy h1
  refine wpOp_mono (fun a' w' h3=>⟨h3.2.1,ih (listed.setIfInBounds j true) a' w' (inv.set hj (by omega)) (fun k ok hk hki hun hno=>?_) (ready_mono hr (Ne.symm hji)) h3.1 (h3.2.1 hjz) ?_⟩) h2
  · refine hfree k ok hk hki ?_ hno
    by_cases hjk:j=k
    · rw[← hjk];exact hjun
    rw[getD_set_ne true hjk]at hun;exact hun
  rw[Qe _ _ hji]
  exact h3.2.2
def nB (P:Program) (ds:List Deferred) (all:List Oper) (S:World→Prop) (K:List Value→World→Prop):List (Bool×Nat)→List Value→World→Prop
 | [],l,w=>K l w
 | (true,i)::s,l,w=>∃ o,all[i]? =some o∧lA P all S (nB P ds all S K s) o l w
 | (false,i)::s,l,w=>∃ o,all[i]? =some o∧Ops P ds all (fun l' w'=>(s≠[]→S w')∧nB P ds all S K s l' w') (fun _ _ _=>False) [o] l w
theorem EZ (h:K l w):nB P ds all S K [] l w:=h
theorem bJ (ho:all[i]? =some o) (h:lA P all S (nB P ds all S K s) o l w):nB P ds all S K ((true,i)::s) l w:=⟨o,ho,h⟩
theorem ON (ho:all[i]? =some o) (h:Ops P ds all (fun l' w'=>(s≠[]→S w')∧nB P ds all S K s l' w') (fun _ _ _=>False) [o] l w):nB P ds all S K ((false,i)::s) l w:=⟨o,ho,h⟩
def Rx (ops:Array Oper) (z:Nat):List (Bool×Nat)→Array Bool→Bool
 | [],listed=>(Region.ready .any ops listed).isEmpty
 | (true,i)::s,listed=>decide (i < z) && (Region.ready .any ops listed).contains i && Region.free .any ops listed i && Rx ops z s (listed.setIfInBounds i true)
 | (false,i)::s,listed=>((decide (i < z) && !s.isEmpty) || (decide (i=z) && s.isEmpty)) && decide (Region.ready .any ops listed=[i]) && Rx ops z s (listed.setIfInBounds i true)
theorem bK {z:Nat} (hsel:Region.noSelect all.toArray=true) (hs:Region.sinkB .any all.toArray z=true) (hz:z+1=all.toArray.size):∀ (s:List (Bool×Nat)) (listed:Array Bool) (l:List Value) (w:World),(s≠[]→HeadInv .any all.toArray z listed)→Rx all.toArray z s listed=true→(s≠[]→S w)→nB P ds all S K s l w→
 oN P all.toArray (fun e a w'=>a.defers=ds∧uQ K (fun _ _ _=>False) e a.tmps.toList w') S z s.length listed ⟨l.toArray,ds⟩ w:=by
 intro s
 induction s with
 | nil=>intro listed l w _ hB _ h;exact⟨by simpa[Rx]using hB,rfl,h⟩
 | cons x s IH=>
  obtain⟨b,i⟩:=x
  cases b
  · rintro listed l w inv hB hS ⟨o,ho,h⟩
    simp only[Rx,Ci,Bool.or_eq_true,decide_eq_true_eq]at hB
    obtain⟨⟨hiz,hr⟩,hB'⟩:=hB
    have Ho:i∈Region.ready .any all.toArray listed:=by rw[hr];simp
    have hlast:s≠[]→i < z:=fun h=>by
     rcases hiz with h1 | h1
     · exact h1.1
     exact absurd (by simpa using h1.2) h
    refine⟨fun h0=>(by rw[hr]at h0;cases h0),fun k hk=>?_⟩
    have hki:k=i:=by rw[hr]at hk;simpa using hk
    rw[hki]
    unfold Ops wpList at h
    unfold wpOp
    rw[Gv,ho]
    simp only
    have hne:i≠z→s≠[]:=fun h1=>by
     rcases hiz with h2 | h2
     · intro h3;rw[h3]at h2;simp at h2
     exact absurd h2.1 h1
    have ih:∀ (a:Act) w',(a.defers=ds∧(s≠[]→S w')∧nB P ds all S K s a.tmps.toList w')→((i≠z→S w')∧oN P all.toArray (fun e a w'=>a.defers=ds∧uQ K (fun _ _ _=>False) e a.tmps.toList w') S z s.length (listed.setIfInBounds i true) a w'):=by
     rintro⟨t,d⟩ w' ⟨hd,hS',h2⟩
     simp only at hd
     subst hd
     exact⟨fun h1=>hS' (hne h1),IH _ _ _ (fun h1=>(inv (by simp)).set Ho (hlast h1)) hB' hS' h2⟩
    have hq:∀ (e:Exit) (a:Act) w',e≠ .normal→Exit.then (fun(a:Act) w'=>a.defers=ds∧(s≠[]→S w')∧nB P ds all S K s a.tmps.toList w') (fun _ a _=>a.defers=ds∧False) e a w'→(a.defers=ds∧uQ K (fun _ _ _=>False) e a.tmps.toList w'):=by
     intro e a w' he h
     cases e <;>first | exact absurd rfl he | exact h.2.elim
    split
    · rename_i hw
      rw[if_pos hw]at h
      rcases h with h | ⟨h1,a1,w1,h2⟩
      · exact .inl (Oper.wp_mono ih (lB hq h))
      exact .inr ⟨h1,a1,w1,hq _ _ _ (by simp) h2⟩
    rename_i hw
    rw[if_neg hw]at h
    exact ih _ _ h
  rintro listed l w inv hB hS ⟨o,ho,v,hv,hK⟩
  simp only[Rx,Ci,decide_eq_true_eq]at hB
  obtain⟨⟨⟨hiz,hr⟩,hf⟩,hB'⟩:=hB
  have hi:all.toArray[i]? =some o:=by rw[Gv];exact ho
  have Ho:i∈Region.ready .any all.toArray listed:=by simpa using hr
  refine KC (oi:=o) (v:=v) hi (Ot hsel) (fun _ _ _ h=>h.2.elim) hs hz hiz s.length listed _ w (inv (by simp)) (Oq hi hf) Ho ?_ (hS (by simp)) ?_
  · rcases hv with ⟨h1,h2⟩ | ⟨h1,h2⟩
    · exact .inl ⟨h1,by rw[sA];exact h2⟩
    exact .inr ⟨h1,h2⟩
  rw[nL]
  exact IH _ _ _ (fun _=>(inv (by simp)).set Ho hiz) hB' (fun _=>hS (by simp)) hK
theorem NF {Q:vQ} {cs:List Code} {n:Nat} (z:Nat) (s:List (Bool×Nat)) (S:World→Prop) (hm:P.follows .mixedOrders=true)
 (hB:(Region.noSelect all.toArray && decide (s.length=all.length) && decide (z+1=all.length) && Region.sinkB .any all.toArray z && Rx all.toArray z s (Array.replicate all.length false))=true)
 (h:∀ w',w'={ w with drawn:=w.drawn+1 }→S w'∧nB P ds all S (Run P ds cs Q) s l w'):Run P ds (.region n all.toArray true::cs) Q l w:=by
 simp only[Ci,decide_eq_true_eq]at hB
 obtain⟨⟨⟨⟨hsel,hlen⟩,hz⟩,hs⟩,hB⟩:=hB
 show Cd P ds _ _ l w
 unfold Cd
 have inv0:HeadInv .any all.toArray z (Array.replicate all.toArray.size false):=
  ⟨by simp,fun j oj _ hl=>(by rw[getD_replicate_false]at hl;cases hl),fun t _ ht=>getD_in (by simpa using ht) (getD_replicate_false _ _)⟩
 refine Go.wp_mono (Q:=fun e a w'=>a.defers=ds∧uQ (Run P ds cs Q) (fun _ _ _=>False) e a.tmps.toList w') (wp_region_any hm ?_) ?_
 · have:=bK (S:=S) (K:=Run P ds cs Q) (P:=P) (ds:=ds) hsel hs (by simpa using hz) s _ l { w with drawn:=w.drawn+1 } (fun _=>by simpa using inv0) hB (fun _=>(h _ rfl).1) (h _ rfl).2
   rw[hlen]at this
   have h2:=kH _ _ _ _ this
   simpa using h2
 rintro e a w' ⟨hd,h2⟩
 cases e <;>first | exact⟨hd,h2⟩ | exact h2.elim
theorem zR {Q:vQ} {cs:List Code} {n:Nat} {w0:World} {SS:List Nat} {es:List Ent} (z:Nat) (s:List (Bool×Nat)) (H:Hp w0 w SS es) (idx:List Nat) (hm:P.follows .mixedOrders=true) (hnd:idx.Nodup)
 (hB:(Region.noSelect all.toArray && decide (s.length=all.length) && decide (z+1=all.length) && Region.sinkB .any all.toArray z && Rx all.toArray z s (Array.replicate all.length false))=true)
 (h:∀ w',w'={ w with drawn:=w.drawn+1 }→nB P ds all (fun wz=>Hp w0 wz SS (idx.map fun i=>es.getD i (none,0,[]))) (Run P ds cs Q) s l w'):Run P ds (.region n all.toArray true::cs) Q l w:=by
 simp only[Ci,decide_eq_true_eq]at hB
 obtain⟨⟨⟨⟨hsel,hlen⟩,hz⟩,hs⟩,hB⟩:=hB
 show Cd P ds _ _ l w
 unfold Cd
 have inv0:HeadInv .any all.toArray z (Array.replicate all.toArray.size false):=
  ⟨by simp,fun j oj _ hl=>(by rw[getD_replicate_false]at hl;cases hl),fun t _ ht=>getD_in (by simpa using ht) (getD_replicate_false _ _)⟩
 refine Go.wp_mono (Q:=fun e a w'=>a.defers=ds∧uQ (Run P ds cs Q) (fun _ _ _=>False) e a.tmps.toList w') (wp_region_any hm ?_) ?_
 · have:=bK (S:=fun wz=>Hp w0 wz SS (idx.map fun i=>es.getD i (none,0,[]))) (K:=Run P ds cs Q) (P:=P) (ds:=ds) hsel hs (by simpa using hz) s _ l { w with drawn:=w.drawn+1 } (fun _=>by simpa using inv0) hB (fun _=>H.drew.pick idx hnd) (h _ rfl)
   rw[hlen]at this
   have h2:=kH _ _ _ _ this
   simpa using h2
 rintro e a w' ⟨hd,h2⟩
 cases e <;>first | exact⟨hd,h2⟩ | exact h2.elim
end mix
def zJ (cs:List Value) (o:Nat) (vs:List Value):List Value:=cs.take o++vs++cs.drop (o+vs.length)
theorem fW {cs:List Value} {o:Nat} {v:Value} (h:o < cs.length):zJ cs o [v]=cs.set o v:=by
 rw[zJ,List.set_eq_take_append_cons_drop,if_pos h]
 simp
theorem FG (off:Nat):∀ (vs:List Value) (k:Nat) (cs:List Value),off+k+vs.length≤cs.length→
 (vs.zipIdx k).foldl (fun(cs:Array Value) (x:Value×Nat)=>cs.setIfInBounds (off+x.2) x.1) cs.toArray=(zJ cs (off+k) vs).toArray
 | [],k,cs,_=>by simp[zJ]
 | v::vs,k,cs,h=>by
  simp only[Bj]at h
  simp only[List.zipIdx_cons,List.foldl_cons,List.setIfInBounds_toArray]
  rw[FG off vs (k+1) (cs.set (off+k) v) (by simp;omega)]
  congr 1
  unfold zJ
  rw[List.set_eq_take_append_cons_drop,if_pos (by omega)]
  have e1:(List.take (off+k) cs++v::List.drop (off+k+1) cs).take (off+(k+1))=cs.take (off+k)++[v]:=by
   rw[Oo,Aw,Io (by omega),Ej (by simp;omega),show off+(k+1) - (off+k)=1 by omega]
   simp
  have e2:(List.take (off+k) cs++v::List.drop (off+k+1) cs).drop (off+(k+1)+vs.length)=cs.drop (off+k+(vs.length+1)):=by
   rw[List.drop_append,Aw,Io (by omega),Gn (by simp;omega),show off+(k+1)+vs.length - (off+k)=vs.length+1 by omega]
   simp only[List.drop_succ_cons,Gp,Fq]
   congr 1
   omega
  rw[e1,e2]
  simp[Fz]
def kA (place:Nat→Option (Nat×Nat)):List Value→List (Nat×Value)→Option (List Value)
 | cells,[]=>some cells
 | cells,(i,v)::rest=>match place i with
  | none=>none
  | some (off,size)=>match decide (v.cells.toList.length=size),decide (off+v.cells.toList.length≤cells.length)with
   | true,true=>kA place (zJ cells off v.cells.toList) rest
   | _,_=>none
theorem dX (place:Nat→Option (Nat×Nat)):∀ (vs:List (Nat×Value)) (cells cs:List Value),kA place cells vs=some cs→Instr.fill place cells.toArray vs=some cs.toArray
 | [],cells,cs,h=>by simp[kA]at h;simp[Instr.fill,h]
 | (i,v)::rest,cells,cs,h=>by
  unfold kA at h
  unfold Instr.fill
  cases hp:place i with
  | none=>rw[hp]at h;simp at h
  | some x=>
   obtain⟨off,size⟩:=x
   rw[hp]at h
   simp only at h ⊢
   split at h
   · rename_i h1 h2
     simp only[decide_eq_true_eq,Array.length_toList]at h1 h2
     rw[if_neg (by simp;omega)]
     have hz:v.cells.zipIdx.foldl (fun(cs:Array Value) (x:Value×Nat)=>cs.setIfInBounds (off+x.2) x.1) cells.toArray=(zJ cells off v.cells.toList).toArray:=by
      have:=FG off v.cells.toList 0 cells (by simpa using h2)
      rw[Ia]at this
      rw[← this,← Array.foldl_toList]
      congr 1
      simp
     have ih:=dX place rest _ _ h
     rw[← hz]at ih
     exact ih
   cases h
def initL (zs:List Value) (n:Nat):List Value:=(List.replicate n zs).flatten
theorem wO (zs:List Value) (n:Nat):(initL zs n).length=n*zs.length:=by simp[initL]
theorem BB (zs:List Value):∀ (n i:Nat),i < n*zs.length→(initL zs n)[i]? =zs[i % zs.length]?
 | 0,i,h=>by simp at h
 | n+1,i,h=>by
  have e:initL zs (n+1)=zs++initL zs n:=by simp[initL,List.replicate_succ]
  rw[e]
  by_cases hi:i < zs.length
  · rw[Di hi,Il hi]
  have h2:i - zs.length < n*zs.length:=by rw[Nat.succ_mul]at h;omega
  rw[Eb (by omega),BB zs n _ h2]
  congr 1
  rw[Nat.mod_eq_sub_mod (a:=i) (by omega)]
theorem dS (zs:List Value) (n:Nat):(Array.range (n*zs.length)).map (zs.toArray[· % zs.toArray.size]!)=(initL zs n).toArray:=by
 apply Array.ext
 · simp[wO]
 intro i h1 h2
 simp only[Array.size_map,Array.size_range]at h1
 have hg:=BB zs n i h1
 have hpos:0 < zs.length:=by
  rcases Ku zs.length with h0 | h0
  · rw[h0]at h1;omega
  exact h0
 have hlt:=Hq i hpos
 have h3:i < (initL zs n).length:=by simpa using h2
 rw[Cb h3,Cb hlt]at hg
 simp only[Option.some.injEq]at hg
 simp only[Array.getElem_map,Array.getElem_range,List.getElem_toArray,hg,Ib]
 rw[getElem!_pos zs.toArray _ (by simpa using hlt)]
 simp
section mk
variable {P:Program} {ds:List Deferred} {Q:vQ} {K:List Value→World→Prop} {all os:List Oper} {l:List Value} {w0 w:World} {S:List Nat} {es:List Ent} {ty t:TypeId} {pos:String} {af:Array Edge} {d:Tmp} {v:Value}
 {x y z:Operand} {zs:List Value} {sz bytes:Nat} {agg:Bool}
theorem oR (h:xU P t zs sz bytes agg):∃ z,z.cells.toList=zs∧∀ w,(zeroValue t).run P w=.ok z w:=by
 obtain⟨i,z,d,hi,hz,hzs,_,_,hd,_⟩:=h.ex
 exact⟨z,hzs,fun w=>by simp[zeroValue,typeInfo,hi,hz]⟩
theorem AZ (h:xU P t zs sz bytes agg) (H:Hp w0 w S es)
 (k:∀ w' g,Hp w0 w' S (es++[(some g,t,zs)])→g=w.heap.size→Ops P ds all K Q os (l.set d (.pointer (some ⟨g,0,none⟩))) w'):Ops P ds all K Q (⟨some d,.alloc t,ty,pos,af,none⟩::os) l w:=by
 obtain⟨z,hz,hr⟩:=oR h
 have H':=H.alloc t zs
 refine zD (w':=w.alloc (.cells zs.toArray t)) ?_ (k _ _ H' Y)
 intro _ _ _ _
 simp[execOp,Instr.alloc,hr,newVar,newRow,newObj,Sem.run]
 rw[← hz]
theorem yA (hx:ev l x=some v) {vs:List Value} (hv:v.cells=vs.toArray) (H:Hp w0 w S es)
 (k:∀ w' g,Hp w0 w' S (es++[(some g,t,vs)])→g=w.heap.size→Ops P ds all K Q os (l.set d (.pointer (some ⟨g,0,none⟩))) w'):Ops P ds all K Q (⟨some d,.box t x,ty,pos,af,none⟩::os) l w:=by
 have H':=H.alloc t vs
 refine zD (w':=w.alloc (.cells vs.toArray t)) ?_ (k _ _ H' Y)
 intro _ _ _ _
 simp[execOp,Instr.box,zW hx,newVar,newRow,newObj,Sem.run,hv]
theorem DU (ht:xU P t zs sz bytes agg) (H:Hp w0 w S es) {i g o:Nat} {T:TypeId} {cs vs:List Value} (hi:es[i]? =some (some g,T,cs)) (hv:v.cells=vs.toArray) (hl:vs.length=sz) (hfit:o+vs.length≤cs.length) (h1:vs.all (·.oneCell')=true):
 (Instr.storeAt t (.pointer (some ⟨g,o,none⟩)) v).run P w=.ok () (w.setRow g (zJ cs o vs).toArray):=by
 have hs:=run_storeCells_at (P:=P) g o T vs 0 cs.toArray w (H.at hi) (by simpa using hfit) (by simpa using h1)
 simp only[Ia]at hs
 simp[Instr.storeAt,Instr.sureAddr,storeVar,vJ ht,hv,hl,hs,zJ]
theorem fZ (ht:xU P t zs sz bytes agg) (H:Hp w0 w S es) (i:Nat) {g o:Nat} {T:TypeId} {cs vs:List Value} (hx:ev l x=some (.pointer (some ⟨g,o,none⟩))) (hy:ev l y=some v) (hi:es[i]? =some (some g,T,cs))
 (hv:v.cells=vs.toArray) (hl:vs.length=sz) (hfit:o+vs.length≤cs.length) (h1:vs.all (·.oneCell')=true)
 (k:∀ w',Hp w0 w' S (es.set i (some g,T,zJ cs o vs))→Ops P ds all K Q os l w'):Ops P ds all K Q (⟨none,.store t x y,ty,pos,af,none⟩::os) l w:=by
 refine ER (w':=w.setRow g (zJ cs o vs).toArray) ?_ (k _ (H.setRow hi _))
 intro _ _ _ _
 simp[execOp,zW hx,zW hy,DU ht H hi hv hl hfit h1]
theorem bE (ht:xU P t zs 1 bytes agg) (H:Hp w0 w S es) (i:Nat) {g o:Nat} {T:TypeId} {cs:List Value} (hx:ev l x=some (.pointer (some ⟨g,o,none⟩))) (hy:ev l y=some v) (hi:es[i]? =some (some g,T,cs))
 (hv:v.cells=[v].toArray) (hfit:o < cs.length) (h1:v.oneCell'=true)
 (k:∀ w',Hp w0 w' S (es.set i (some g,T,cs.set o v))→Ops P ds all K Q os l w'):Ops P ds all K Q (⟨none,.store t x y,ty,pos,af,none⟩::os) l w:=by
 refine fZ ht H i hx hy hi hv Y (by simpa using Nat.succ_le_of_lt hfit) (by simp[h1]) ?_
 rw[fW hfit]
 exact k
def pM (l:List Value):List (Nat×Operand)→Option (List (Nat×Value))
 | []=>some []
 | (i,x)::r=>match ev l x,pM l r with
  | some v,some vs=>some ((i,v)::vs)
  | _,_=>none
theorem oE :∀ {ps:List (Nat×Operand)} {vs:List (Nat×Value)},pM l ps=some vs→ps.map (fun(i,x)=>(i,rho l x))=vs
 | [],vs,h=>by simp[pM]at h;simp[h]
 | (i,x)::r,vs,h=>by
  simp only[pM]at h
  split at h
  · rename_i v us hv hus
    simp only[Option.some.injEq]at h
    subst h
    simp[zW hv,oE hus]
  cases h
theorem zE {e:TypeId} (ht:P.underlying t=some (.slice e)) (he:xU P e zs sz bytes agg) (H:Hp w0 w S es) {n:Nat} {ps:List (Nat×Operand)} {vs:List (Nat×Value)} {cs:List Value} (hp:pM l ps=some vs)
 (hn:n*sz≤16777216) (hf':kA (fun i=>some (i*sz,sz)) (initL zs n) vs=some cs)
 (k:∀ w' g,Hp w0 w' S (es++[(some g,e,cs)])→g=w.heap.size→Ops P ds all K Q os (l.set d (.slice (hd (some g)) n n)) w'):Ops P ds all K Q (⟨some d,.buildSlice t n ps.toArray,ty,pos,af,none⟩::os) l w:=by
 obtain⟨z,hz,hr⟩:=oR he
 have H':=H.alloc e cs
 refine zD (w':=w.alloc (.cells cs.toArray e)) ?_ (k _ _ H' Y)
 intro _ _ _ _
 have hps:=oE hp
 have hnn:¬(n*sz > 2^24):=by omega
 have hzz:z.cells=zs.toArray:=by rw[← hz]
 have hf:=dX _ _ _ _ hf'
 rw[← dS,he.len]at hf
 have h00:∀ f:Nat→Value,(Array.range 0).map f=#[]:=fun f=>by rw[Array.range_zero'];simp
 by_cases h0:n*sz=0
 · rw[h0,h00]at hf
   simp only[execOp,Instr.buildSlice,Sem.run_bind,run_underlying ht,vJ he,Result.andThen_ok,List.map_toArray,hps,h0,if_true]
   simp[hf,h00,newRow,newObj,Sem.run]
 have hcell:z.cells.size=zs.length:=by rw[hzz];simp
 simp only[Ib]at hf
 simp only[execOp,Instr.buildSlice,Sem.run_bind,run_underlying ht,vJ he,Result.andThen_ok,List.map_toArray,hps,hnn,h0,if_false,hr,hzz,Ib,Sem.run_pure,hf]
 simp[newRow,newObj,Sem.run]
theorem N4 {e:TypeId} {z:Value} (ht:P.underlying t=some (.slice e)) (he:xU P e [z] 1 bytes agg) (H:Hp w0 w S es) {k1 k2:IntKind} {n c:Nat} (hx:ev l x=some (.int k1 n)) (hy:ev l y=some (.int k2 c))
 (hnc:n≤c) (hb:bytes*c≤281474976710656) (h63:c≤9223372036854775807)
 (k:∀ w' g,Hp w0 w' S (es++[(some g,e,List.replicate c z)])→g=w.heap.size→Ops P ds all K Q os (l.set d (.slice (hd (some g)) n c)) w'):Ops P ds all K Q (⟨some d,.makeSlice t x y,ty,pos,af,none⟩::os) l w:=by
 obtain⟨i,z',d',hi,hz,hzs,hsz,hby,hd',_⟩:=he.ex
 have H':=H.alloc e (List.replicate c z)
 refine zD (w':=w.alloc (.cells (List.replicate c z).toArray e)) ?_ (k _ _ H' Y)
 intro _ _ _ _
 have hr:=run_make (P:=P) w t e i z' ht hi hz k1 k2 n c (by omega) (by omega) (by rw[hby];omega) (by omega)
 have hc:madeCells z'.cells (c*i.size)=(List.replicate c z).toArray:=by
  have hcl:z'.cells=#[z]:=by
   apply Array.ext'
   simpa using hzs
  rw[hsz,hcl,Cc]
  apply Array.ext
  · simp[madeCells]
  intro j h1 h2
  simp[madeCells,Nat.mod_one]
 simp only[Int.toNat_natCast]at hr
 simp[execOp,zW hx,zW hy,hr,hc]
theorem XG {need old bytes:Nat} (h:old < need) (hb:need*bytes≤211106232532992) (h2:bytes≤1048576):Builtin.nextslicecap need old*bytes≤281474976710656:=by
 have key:Builtin.nextslicecap need old≤need+(need+768) / 4+512:=by
  unfold Builtin.nextslicecap
  split
  · omega
  · split
    · omega
    · rw[growBy_four]
      repeat' split
      all_goals omega
 have h3:Builtin.nextslicecap need old*bytes≤(need+(need+768) / 4+512)*bytes:=Dp _ key
 have h4:(4*(need+(need+768) / 4+512))*bytes≤(5*need+2816)*bytes:=Dp _ (by omega)
 rw[Nat.mul_assoc,Dv (5*need),Nat.mul_assoc 5]at h4
 omega
theorem GP (H:Hp w0 w S es) {e:TypeId} (ht:P.underlying t=some (.slice e)) (he:xU P e zs sz bytes agg) (hsz:0 < sz)
 {g:Option Nat} {n cap i:Nat} {xs sp:List Value} (hi:es[i]? =some (g,e,xs++sp)) (hn:xs.length=n*sz) (hc:cap*sz≤(xs++sp).length) (hnc:n≤cap) (hcap:g=none→cap=0)
 {A:Option Addr} {m c:Nat} {ys:List Value} (hr:Rd w A m sz ys) (h1:ys.all (·.oneCell')=true) (h63:n+m≤9223372036854775807) (hb:(n+m)*bytes≤211106232532992) (hb2:bytes≤1048576):
 ∃ w' g' cap' sp',(Builtin.append_ #[t,t] ty #[.slice (hd g) n cap,.slice A m c]).run P w=.ok (.slice (hd g') (n+m) cap') w'∧
  Hp w0 w' S (es.set i (g',e,(xs++ys)++sp'))∧cap'*sz≤((xs++ys)++sp').length∧n+m≤cap'∧(g'=none→cap'=0):=by
 obtain⟨inf,z,dd,hinf,hz,hzs,rfl,rfl,_,_⟩:=he.ex
 have hzsz:z.cells.size=zs.length:=by rw[← hzs];simp
 by_cases hroom:n+m≤cap
 ·
  cases g with
  | none=>
   have h0:=hcap rfl
   obtain⟨rfl,rfl⟩:n=0∧m=0:=by omega
   subst h0
   have hys:ys=[]:=Ee (by simpa using hr.len)
   have hxs:=H.none_ hi
   subst hys
   refine⟨w,none,0,sp,?_,?_,by simp,by omega,fun _=>Y⟩
   · cases A with
     | none=>simp[hd,Builtin.append_,run_underlying ht,sizeOf,typeInfo,hinf,Builtin.lenOf,Builtin.firstCells]
     | some a=>
      simp[hd,Builtin.append_,run_underlying ht,sizeOf,typeInfo,hinf,Builtin.lenOf,Builtin.firstCells,loadCells,loadCellsFrom]
   rw[Dt]
   have:es.set i (none,e,xs++sp)=es:=by
    apply Om
    intro j
    rw[Ky]
    split
    · rename_i hij;subst hij;rw[if_pos (lt_of_get hi)];exact hi.symm
    rfl
   rw[this]
   exact H
  | some g=>
   have hrun:(Builtin.append_ #[t,t] ty #[.slice (hd (some g)) n cap,.slice A m c]).run P w=
    .ok (.slice (hd (some g)) (n+m) cap) (w.setRow g (zJ (xs++sp) (n*inf.size) ys).toArray):=by
    have hst:=run_storeCells_at (P:=P) g (n*inf.size) e ys 0 (xs++sp).toArray w (H.at hi) (by
     simp only[Ia,Ib]
     rw[hr.len,← Dv]
     exact Ce (Dp _ hroom) hc) (by simpa using h1)
    simp only[Ia]at hst
    have hfc:(Builtin.firstCells inf.size m (.slice A m c)).run P w=.ok ys.toArray w:=by
     cases A with
     | none=>
      have:=hr.nil rfl
      subst this
      have hys:ys=[]:=Ee (by simpa using hr.len)
      subst hys
      exact run_firstCells_none w _ _ _ _
     | some a=>exact run_firstCells_some w inf.size m a m c ys hr.len (hr.cells a rfl)
    simp[hd,Builtin.append_,run_underlying ht,sizeOf,typeInfo,hinf,Builtin.lenOf,hroom,hfc,Lm,hst,zJ]
   have hp:zJ (xs++sp) (n*inf.size) ys=(xs++ys)++sp.drop ys.length:=by
    rw[zJ,← hn]
    have e1:(xs++sp).take xs.length=xs:=List.take_left
    have e2:(xs++sp).drop (xs.length+ys.length)=sp.drop ys.length:=by
     rw[List.drop_append]
     simp
    rw[e1,e2]
   refine⟨_,some g,cap,sp.drop ys.length,hrun,?_,?_,hroom,by simp⟩
   · rw[← hp];exact H.setRow hi _
   rw[← hp,zJ]
   have hle:n*inf.size+ys.length≤(xs++sp).length:=by
    rw[hr.len,← Dv];exact Ce (Dp _ hroom) hc
   simp only[Ae,Aw,Bl]at hc hle ⊢
   omega
 ·
  have hold:cap < n+m:=by omega
  have hfit:=XG hold hb hb2
  have hfo:(Builtin.firstCells inf.size n (.slice (hd g) n cap)).run P w.drew=.ok xs.toArray w.drew:=by
   cases g with
   | none=>
    have h0:=hcap rfl
    have hn0:n=0:=by omega
    subst hn0
    have hxs:xs=[]:=Ee (by simpa using hn)
    subst hxs
    exact run_firstCells_none _ _ _ _ _
   | some g=>
    refine run_firstCells_some _ inf.size n ⟨g,0,none⟩ n cap xs hn ?_
    intro j u hu
    rw[Lm,Ba]
    exact H.cell hi (by rw[Di (lt_of_get hu)];exact hu)
  have hfc:(Builtin.firstCells inf.size m (.slice A m c)).run P w.drew=.ok ys.toArray w.drew:=by
   cases A with
   | none=>
    have:=hr.nil rfl
    subst this
    have hys:ys=[]:=Ee (by simpa using hr.len)
    subst hys
    exact run_firstCells_none _ _ _ _ _
   | some a=>exact run_firstCells_some _ inf.size m a m c ys hr.len (fun j u hu=>hr.cells a rfl j u hu)
  have hn':¬(n+m≤cap):=hroom
  have h63':¬(9223372036854775807 < ((n:Int)+(m:Int))):=by omega
  have h48':¬(281474976710656 < Builtin.nextslicecap (n+m) cap*inf.bytes):=by omega
  have hge:=grownCap_ge w (n+m) cap e
  have hrun:(Builtin.append_ #[t,t] ty #[.slice (hd g) n cap,.slice A m c]).run P w=
   .ok (.slice (some ⟨w.heap.size,0,none⟩) (n+m) (grownCap w (n+m) cap e))
    (w.drew.alloc (.cells ((xs++ys)++(Builtin.zeroCells z.cells (grownCap w (n+m) cap e - (n+m))).toList).toArray e)):=by
   simp[Builtin.append_,run_underlying ht,sizeOf,typeInfo,zeroValue,hinf,hz,Builtin.lenOf,hn',h63',h48',Question.forced,hfc,hfo,newRow,grownCap]
   congr 2
   apply Array.ext'
   simp
  have H1:Hp w0 w.drew S es:=H.drew
  have H2:=(H1.alloc e ((xs++ys)++(Builtin.zeroCells z.cells (grownCap w (n+m) cap e - (n+m))).toList)).pick
   ((List.range es.length).set i es.length) (by
    rw[List.nodup_iff_pairwise_ne,Qj]
    intro a b ha hb hab
    simp only[Kt,List.length_range]at ha hb
    rw[List.getElem_set,List.getElem_set]
    split <;>split <;>simp <;>omega)
  have hpick:(((List.range es.length).set i es.length).map fun j=>(es++[(some w.drew.heap.size,e,(xs++ys)++(Builtin.zeroCells z.cells (grownCap w (n+m) cap e - (n+m))).toList)]).getD j (none,0,[]))=
   es.set i (some w.heap.size,e,(xs++ys)++(Builtin.zeroCells z.cells (grownCap w (n+m) cap e - (n+m))).toList):=by
   apply Om
   intro j
   rw[Nb,Ky,Ky]
   by_cases hij:i=j
   · subst hij
     have hlt:=lt_of_get hi
     simp[hlt]
   simp only[hij,if_false]
   rcases Jj j es.length with hj | hj
   · rw[List.getElem?_range hj,Ig,Ea,Di hj,Cb hj]
     rfl
   rw[Lj (by simpa using hj),Lj hj]
   rfl
  rw[hpick]at H2
  refine⟨_,some w.heap.size,_,_,hrun,H2,?_,hge,by simp⟩
  simp only[Ae,hn,hr.len,Array.length_toList,Builtin.zeroCells,Array.size_map,Array.size_range]
  rw[hzsz,he.len,← Dv,← Dv]
  exact Dp _ (by omega)
theorem xC {e:TypeId} (ht:P.underlying t=some (.slice e)) (he:xU P e zs sz bytes agg) (hsz:0 < sz) (H:Hp w0 w S es) (i:Nat)
 {g:Option Nat} {n cap:Nat} {xs sp:List Value} (hx:ev l x=some (.slice (hd g) n cap)) (hi:es[i]? =some (g,e,xs++sp)) (hn:xs.length=n*sz) (hc:cap*sz≤(xs++sp).length) (hnc:n≤cap) (hcap:g=none→cap=0)
 {A:Option Addr} {m c:Nat} {ys:List Value} (hy:ev l y=some (.slice A m c)) (hr:Rd w A m sz ys) (h1:ys.all (·.oneCell')=true) (h63:n+m≤9223372036854775807) (hb:(n+m)*bytes≤211106232532992) (hb2:bytes≤1048576)
 (k:∀ w' g' cap' sp',Hp w0 w' S (es.set i (g',e,(xs++ys)++sp'))→cap'*sz≤((xs++ys)++sp').length→n+m≤cap'→(g'=none→cap'=0)→Ops P ds all K Q os (l.set d (.slice (hd g') (n+m) cap')) w'):
 Ops P ds all K Q (⟨some d,.call { callee:=.builtin .append,args:=#[x,y],argTypes:=#[t,t] },ty,pos,af,none⟩::os) l w:=by
 obtain⟨w',g',cap',sp',hrun,H',h2,h3,h4⟩:=GP (ty:=ty) (c:=c) H ht he hsz hi hn hc hnc hcap hr h1 h63 hb hb2
 refine zD (w':=w') ?_ (k w' g' cap' sp' H' h2 h3 h4)
 intro _ _ _ _
 simp[execOp,resolve,invoke,builtin,zW hx,zW hy,hrun]
def fin (P:Program) (fn:Func) (R:Value→World→Prop):vQ
 | .normal,l,w=>∃ v,(results fn l.toArray).run P w=.ok v w∧R v w
 | .ret,l,w=>∃ v,(results fn l.toArray).run P w=.ok v w∧R v w
 | _,_,_=>False
theorem zG {f:FuncId} {fn:Func} {c:Code} {args:List Value} {R:Value→World→Prop} {n:Nat} (hf:P.funcs[f]? =some fn) (hn:fn.ntmps=n) (hb:fn.body=some c)
 (h:Run P [] [c] (fin P fn R) (args++List.replicate (n - args.length) undef) w):zP P f args.toArray w R:=by
 refine calls_of_wp hf hb ?_
 rw[hn]
 have hl:args.toArray++Array.replicate (n - args.toArray.size) undef=(args++List.replicate (n - args.length) undef).toArray:=by simp
 rw[hl]
 refine Go.wp_mono h ?_
 rintro e ⟨t,d⟩ w' ⟨hd,h2⟩
 cases e with
 | normal=>exact(let ⟨v,h3,h4⟩:=h2;⟨hd,v,h3,v,rfl,h4⟩)
 | ret=>exact(let ⟨v,h3,h4⟩:=h2;⟨hd,v,h3,v,rfl,h4⟩)
 | _=>exact h2.elim
variable {fn:Func} {R:Value→World→Prop} {u v1 v2 v3:Value} {r1 r2 r3:Tmp}
theorem rW (hr:fn.results=#[]) (h:R (.tuple #[]) w):fin P fn R .ret l w:=⟨_,results_none hr _ _ _,h⟩
theorem yQ (hr:fn.results=#[]) (h:R (.tuple #[]) w):fin P fn R .normal l w:=⟨_,results_none hr _ _ _,h⟩
theorem gQ {l:List Value} {t:Nat} {v:Value} (h:nth l t=some v):l.toArray.getD t undef=v:=by
 rw[pP]at h
 simp[h]
theorem tJ (hr:fn.results=#[.tmp r1]) (h1:nth l r1=some v1) (h:R v1 w):fin P fn R .ret l w:=
 ⟨_,results_tmp hr _ _ _,by rw[gQ h1];exact h⟩
theorem FJ (hr:fn.results=#[.tmp r1,.tmp r2]) (h1:nth l r1=some v1) (h2:nth l r2=some v2) (h:R (.tuple #[v1,v2]) w):fin P fn R .ret l w:=
 ⟨_,results_tmp2 hr _ _ _,by rw[gQ h1,gQ h2];exact h⟩
theorem sJ (hr:fn.results=#[.tmp r1,.tmp r2,.tmp r3]) (h1:nth l r1=some v1) (h2:nth l r2=some v2) (h3:nth l r3=some v3) (h:R (.tuple #[v1,v2,v3]) w):fin P fn R .ret l w:=
 ⟨.tuple #[v1,v2,v3],by rw[pP]at h1 h2 h3;simp[results,hr,h1,h2,h3],h⟩
end mk
end Go.Proofs.YtjoeklkmnfaabaaGreat
namespace Go.Proofs.YtjoeklkmnfaabaaGreat
open Go
variable {P:Program} {ds:List Deferred} {o p:List Oper} {K:List Value→World→Prop} {Q:vQ} {w:World} {a0 a1 a2 a3 a4 a5 a6 a7 a8 a9 a10 a11 a12 Ja Jc Jk a16 a17 Ju Ko a20 a21 a22 a23 a24 a25 a26 a27 a28 a29 a30 a31 a32 a33 a34 a35 a36 a37 a38 a39 a40:Value} {c:List Code}
theorem nO15 (h:Ops P ds o K Q p [a0,a1,a2,a3,a4,a5,a6,a7,a8,a9,a10,a11,a12,Ja,Jc] w):Ops P ds o K Q p [a0,a1,a2,a3,a4,a5,a6,a7,a8,a9,a10,a11,a12,Ja,Jc] w:=h
theorem nO19 (h:Ops P ds o K Q p [a0,a1,a2,a3,a4,a5,a6,a7,a8,a9,a10,a11,a12,Ja,Jc,Jk,a16,a17,Ju] w):Ops P ds o K Q p [a0,a1,a2,a3,a4,a5,a6,a7,a8,a9,a10,a11,a12,Ja,Jc,Jk,a16,a17,Ju] w:=h
theorem nO26 (h:Ops P ds o K Q p [a0,a1,a2,a3,a4,a5,a6,a7,a8,a9,a10,a11,a12,Ja,Jc,Jk,a16,a17,Ju,Ko,a20,a21,a22,a23,a24,a25] w):Ops P ds o K Q p [a0,a1,a2,a3,a4,a5,a6,a7,a8,a9,a10,a11,a12,Ja,Jc,Jk,a16,a17,Ju,Ko,a20,a21,a22,a23,a24,a25] w:=h
theorem CK (h:Ops P ds o K Q p [a0,a1,a2,a3,a4,a5,a6,a7,a8,a9,a10,a11,a12,Ja,Jc,Jk,a16,a17,Ju,Ko,a20,a21,a22,a23,a24,a25,a26,a27,a28,a29,a30] w):Ops P ds o K Q p [a0,a1,a2,a3,a4,a5,a6,a7,a8,a9,a10,a11,a12,Ja,Jc,Jk,a16,a17,Ju,Ko,a20,a21,a22,a23,a24,a25,a26,a27,a28,a29,a30] w:=h
theorem iL (h:Ops P ds o K Q p [a0,a1,a2,a3,a4,a5,a6,a7,a8,a9,a10,a11,a12,Ja,Jc,Jk,a16,a17,Ju,Ko,a20,a21,a22,a23,a24,a25,a26,a27,a28,a29,a30,a31,a32,a33,a34,a35,a36,a37,a38,a39,a40] w):Ops P ds o K Q p [a0,a1,a2,a3,a4,a5,a6,a7,a8,a9,a10,a11,a12,Ja,Jc,Jk,a16,a17,Ju,Ko,a20,a21,a22,a23,a24,a25,a26,a27,a28,a29,a30,a31,a32,a33,a34,a35,a36,a37,a38,a39,a40] w:=h
theorem LJ (h:Run P ds c Q [a0,a1,a2,a3,a4,a5,a6,a7,a8,a9,a10,a11,a12,Ja,Jc] w):Run P ds c Q [a0,a1,a2,a3,a4,a5,a6,a7,a8,a9,a10,a11,a12,Ja,Jc] w:=h
theorem CJ (h:Run P ds c Q [a0,a1,a2,a3,a4,a5,a6,a7,a8,a9,a10,a11,a12,Ja,Jc,Jk,a16,a17,Ju] w):Run P ds c Q [a0,a1,a2,a3,a4,a5,a6,a7,a8,a9,a10,a11,a12,Ja,Jc,Jk,a16,a17,Ju] w:=h
theorem gK (h:Run P ds c Q [a0,a1,a2,a3,a4,a5,a6,a7,a8,a9,a10,a11,a12,Ja,Jc,Jk,a16,a17,Ju,Ko,a20,a21,a22,a23,a24,a25] w):Run P ds c Q [a0,a1,a2,a3,a4,a5,a6,a7,a8,a9,a10,a11,a12,Ja,Jc,Jk,a16,a17,Ju,Ko,a20,a21,a22,a23,a24,a25] w:=h
theorem eD (h:Run P ds c Q [a0,a1,a2,a3,a4,a5,a6,a7,a8,a9,a10,a11,a12,Ja,Jc,Jk,a16,a17,Ju,Ko,a20,a21,a22,a23,a24,a25,a26,a27,a28,a29,a30] w):Run P ds c Q [a0,a1,a2,a3,a4,a5,a6,a7,a8,a9,a10,a11,a12,Ja,Jc,Jk,a16,a17,Ju,Ko,a20,a21,a22,a23,a24,a25,a26,a27,a28,a29,a30] w:=h
theorem rA (h:Run P ds c Q [a0,a1,a2,a3,a4,a5,a6,a7,a8,a9,a10,a11,a12,Ja,Jc,Jk,a16,a17,Ju,Ko,a20,a21,a22,a23,a24,a25,a26,a27,a28,a29,a30,a31,a32,a33,a34,a35,a36,a37,a38,a39,a40] w):Run P ds c Q [a0,a1,a2,a3,a4,a5,a6,a7,a8,a9,a10,a11,a12,Ja,Jc,Jk,a16,a17,Ju,Ko,a20,a21,a22,a23,a24,a25,a26,a27,a28,a29,a30,a31,a32,a33,a34,a35,a36,a37,a38,a39,a40] w:=h
theorem nS26 {K:List Value→Prop} (h:yW P ds o w K p [a0,a1,a2,a3,a4,a5,a6,a7,a8,a9,a10,a11,a12,Ja,Jc,Jk,a16,a17,Ju,Ko,a20,a21,a22,a23,a24,a25]):yW P ds o w K p [a0,a1,a2,a3,a4,a5,a6,a7,a8,a9,a10,a11,a12,Ja,Jc,Jk,a16,a17,Ju,Ko,a20,a21,a22,a23,a24,a25]:=h
end Go.Proofs.YtjoeklkmnfaabaaGreat
namespace Go.Proofs.YtjoeklkmnfaabaaGreat
open Go
theorem ty3 :xU Tryz.prog 3 [.int .i64 0] 1 8 false:=uC (by kernel_rfl)
theorem ty4 :xU Tryz.prog 4 [.bool false] 1 1 false:=uC (by kernel_rfl)
theorem ty5 :xU Tryz.prog 5 [.int .u8 0] 1 1 false:=uC (by kernel_rfl)
theorem ty9 :xU Tryz.prog 9 [.string .empty] 1 16 false:=uC (by kernel_rfl)
theorem GH :xU Tryz.prog 23 [.pointer none] 1 8 false:=uC (by kernel_rfl)
theorem pZ :xU Tryz.prog 24 [.int .i64 0] 1 8 false:=uC (by kernel_rfl)
theorem B0 :xU Tryz.prog 27 [.pointer none] 1 8 false:=uC (by kernel_rfl)
theorem xA :xU Tryz.prog 35 [.int .i64 0,.string .empty,.int .i64 0,.int .i64 0] 4 40 true:=uC (by kernel_rfl)
theorem qK :yH Tryz.prog 35 0=some (0,3):=by kernel_rfl
theorem oZ :yH Tryz.prog 35 1=some (1,9):=by kernel_rfl
theorem bX :yH Tryz.prog 35 2=some (2,3):=by kernel_rfl
theorem G6 :yH Tryz.prog 35 3=some (3,3):=by kernel_rfl
theorem oO :xU Tryz.prog 37 [.slice none 0 0] 1 24 false:=uC (by kernel_rfl)
theorem lF :xU Tryz.prog 38 [.slice none 0 0] 1 24 false:=uC (by kernel_rfl)
theorem mY :xU Tryz.prog 39 [.slice none 0 0] 1 24 false:=uC (by kernel_rfl)
theorem xT :xU Tryz.prog 41 [.slice none 0 0,.slice none 0 0,.slice none 0 0] 3 72 true:=uC (by kernel_rfl)
theorem uO :yH Tryz.prog 41 0=some (0,37):=by kernel_rfl
theorem sI :yH Tryz.prog 41 1=some (1,38):=by kernel_rfl
theorem tQ :yH Tryz.prog 41 2=some (2,39):=by kernel_rfl
theorem KU :xU Tryz.prog 50 [.slice none 0 0] 1 24 false:=uC (by kernel_rfl)
theorem uN :xU Tryz.prog 65 [.pointer none] 1 8 false:=uC (by kernel_rfl)
theorem ty69 :xU Tryz.prog 69 [.pointer none,.slice none 0 0,.slice none 0 0,.slice none 0 0] 4 80 true:=uC (by kernel_rfl)
theorem bW :yH Tryz.prog 69 0=some (0,65):=by kernel_rfl
theorem iS :yH Tryz.prog 69 1=some (1,41):=by kernel_rfl
theorem xO :xU Tryz.prog 73 [.slice none 0 0] 1 24 false:=uC (by kernel_rfl)
theorem vA :xU Tryz.prog 75 [.int .i64 0,.int .i64 0] 2 16 true:=uC (by kernel_rfl)
theorem rD :yH Tryz.prog 75 0=some (0,3):=by kernel_rfl
theorem qJ :yH Tryz.prog 75 1=some (1,3):=by kernel_rfl
theorem xE :xU Tryz.prog 77 [.int .i64 0,.int .i64 0,.int .i64 0,.slice none 0 0] 4 48 true:=uC (by kernel_rfl)
theorem vF :yH Tryz.prog 77 0=some (0,3):=by kernel_rfl
theorem sH :yH Tryz.prog 77 1=some (1,75):=by kernel_rfl
theorem rC :yH Tryz.prog 77 2=some (3,73):=by kernel_rfl
theorem wE :xU Tryz.prog 79 [.int .i64 0,.slice none 0 0] 2 32 true:=uC (by kernel_rfl)
theorem wF :yH Tryz.prog 79 0=some (0,3):=by kernel_rfl
theorem uU :yH Tryz.prog 79 1=some (1,73):=by kernel_rfl
theorem xH :xU Tryz.prog 81 [.int .i64 0,.int .i64 0,.int .i64 0,.int .i64 0,.int .i64 0,.int .i64 0,.int .i64 0,.slice none 0 0,.int .i64 0,.slice none 0 0,.int .i64 0,.string .empty,.int .i64 0,.int .i64 0,.int .i64 0,.int .i64 0] 16 168 true:=uC (by kernel_rfl)
theorem oY :yH Tryz.prog 81 0=some (0,3):=by kernel_rfl
theorem fl81_1 :yH Tryz.prog 81 1=some (1,3):=by kernel_rfl
theorem iR :yH Tryz.prog 81 2=some (2,75):=by kernel_rfl
theorem oX :yH Tryz.prog 81 3=some (4,77):=by kernel_rfl
theorem uF :yH Tryz.prog 81 4=some (8,79):=by kernel_rfl
theorem eJ :yH Tryz.prog 81 5=some (10,35):=by kernel_rfl
theorem uZ :yH Tryz.prog 81 6=some (14,3):=by kernel_rfl
theorem rB :yH Tryz.prog 81 7=some (15,3):=by kernel_rfl
theorem GG :xU Tryz.prog 86 [.slice none 0 0] 1 24 false:=uC (by kernel_rfl)
theorem aP :xU Tryz.prog 87 [.slice none 0 0] 1 24 false:=uC (by kernel_rfl)
theorem ty89 :xU Tryz.prog 89 [.slice none 0 0,.slice none 0 0,.bool false,.int .i64 0] 4 64 true:=uC (by kernel_rfl)
theorem iQ :yH Tryz.prog 89 0=some (0,86):=by kernel_rfl
theorem oW :yH Tryz.prog 89 1=some (1,87):=by kernel_rfl
theorem iP :yH Tryz.prog 89 2=some (2,4):=by kernel_rfl
theorem eI :yH Tryz.prog 89 3=some (3,3):=by kernel_rfl
theorem fQ :xU Tryz.prog 91 [.int .u8 0,.int .u8 0,.int .u8 0,.int .u8 0,.int .u8 0,.int .u8 0,.int .u8 0,.int .u8 0,.int .u8 0,.int .u8 0,.int .u8 0,.int .u8 0,.int .u8 0,.int .u8 0,.int .u8 0,.int .u8 0,.int .u8 0,.int .u8 0,.int .u8 0,.int .u8 0,.int .u8 0,.int .u8 0,.int .u8 0,.int .u8 0,.int .u8 0,.int .u8 0,.int .u8 0,.int .u8 0,.int .u8 0,.int .u8 0,.int .u8 0,.int .u8 0,.int .u8 0,.int .u8 0,.int .u8 0,.int .u8 0,.int .u8 0,.int .u8 0,.int .u8 0,.int .u8 0,.int .u8 0,.int .u8 0,.int .u8 0,.int .u8 0,.int .u8 0,.int .u8 0,.int .u8 0,.int .u8 0,.int .u8 0,.int .u8 0,.int .u8 0,.int .u8 0,.int .u8 0,.int .u8 0,.int .u8 0,.int .u8 0,.int .u8 0,.int .u8 0,.int .u8 0,.int .u8 0,.int .u8 0,.int .u8 0,.int .u8 0,.int .u8 0] 64 64 true:=uC (by kernel_rfl)
theorem fP :xU Tryz.prog 93 [.int .i64 0,.int .u8 0,.int .u8 0,.int .u8 0,.int .u8 0,.int .u8 0,.int .u8 0,.int .u8 0,.int .u8 0,.int .u8 0,.int .u8 0,.int .u8 0,.int .u8 0,.int .u8 0,.int .u8 0,.int .u8 0,.int .u8 0,.int .u8 0,.int .u8 0,.int .u8 0,.int .u8 0,.int .u8 0,.int .u8 0,.int .u8 0,.int .u8 0,.int .u8 0,.int .u8 0,.int .u8 0,.int .u8 0,.int .u8 0,.int .u8 0,.int .u8 0,.int .u8 0,.int .u8 0,.int .u8 0,.int .u8 0,.int .u8 0,.int .u8 0,.int .u8 0,.int .u8 0,.int .u8 0,.int .u8 0,.int .u8 0,.int .u8 0,.int .u8 0,.int .u8 0,.int .u8 0,.int .u8 0,.int .u8 0,.int .u8 0,.int .u8 0,.int .u8 0,.int .u8 0,.int .u8 0,.int .u8 0,.int .u8 0,.int .u8 0,.int .u8 0,.int .u8 0,.int .u8 0,.int .u8 0,.int .u8 0,.int .u8 0,.int .u8 0,.int .u8 0] 65 72 true:=uC (by kernel_rfl)
theorem CT :yH Tryz.prog 93 0=some (0,3):=by kernel_rfl
theorem CS :yH Tryz.prog 93 1=some (1,91):=by kernel_rfl
theorem uP :xU Tryz.prog 94 [.slice none 0 0] 1 24 false:=uC (by kernel_rfl)
theorem uY :xU Tryz.prog 95 [.slice none 0 0] 1 24 false:=uC (by kernel_rfl)
theorem wD :xU Tryz.prog 97 [.int .i64 0,.int .i64 0,.slice none 0 0,.int .i64 0,.slice none 0 0,.slice none 0 0] 6 96 true:=uC (by kernel_rfl)
theorem vZ :yH Tryz.prog 97 0=some (0,75):=by kernel_rfl
theorem xW :yH Tryz.prog 97 1=some (2,94):=by kernel_rfl
theorem wT :yH Tryz.prog 97 2=some (3,3):=by kernel_rfl
theorem uT :yH Tryz.prog 97 3=some (4,73):=by kernel_rfl
theorem xZ :yH Tryz.prog 97 4=some (5,95):=by kernel_rfl
theorem fO :xU Tryz.prog 98 [.slice none 0 0] 1 24 false:=uC (by kernel_rfl)
theorem yT :xU Tryz.prog 110 [.int .i64 0,.int .i64 0,.bool false,.int .i64 0,.int .i64 0,.int .i64 0,.int .i64 0] 7 56 true:=uC (by kernel_rfl)
theorem tU :yH Tryz.prog 110 0=some (0,3):=by kernel_rfl
theorem jL :yH Tryz.prog 110 1=some (1,3):=by kernel_rfl
theorem JO :yH Tryz.prog 110 2=some (2,4):=by kernel_rfl
theorem ty116 :xU Tryz.prog 116 [] 0 0 true:=uC (by kernel_rfl)
theorem nG :xU Tryz.prog 118 [.int .u64 0] 1 8 false:=uC (by kernel_rfl)
theorem ty120 :xU Tryz.prog 120 [.pointer none,.bool false,.int .u64 0,.int .i64 0,.slice none 0 0,.slice none 0 0,.int .i64 0,.int .i64 0,.int .i64 0] 9 104 true:=uC (by kernel_rfl)
theorem pF :yH Tryz.prog 120 0=some (0,27):=by kernel_rfl
theorem mQ :yH Tryz.prog 120 1=some (1,4):=by kernel_rfl
theorem CX :yH Tryz.prog 120 2=some (2,118):=by kernel_rfl
theorem qM :yH Tryz.prog 120 3=some (3,3):=by kernel_rfl
theorem sU :yH Tryz.prog 120 4=some (4,98):=by kernel_rfl
theorem jK :yH Tryz.prog 120 5=some (5,50):=by kernel_rfl
theorem oI :yH Tryz.prog 120 6=some (6,3):=by kernel_rfl
theorem gU :yH Tryz.prog 120 7=some (7,3):=by kernel_rfl
theorem dW :yH Tryz.prog 120 8=some (8,3):=by kernel_rfl
theorem pL :xU Tryz.prog 122 [.int .u64 0,.int .i64 0,.int .i64 0,.int .i64 0] 4 32 true:=uC (by kernel_rfl)
theorem dV :yH Tryz.prog 122 0=some (0,118):=by kernel_rfl
theorem CW :yH Tryz.prog 122 1=some (1,3):=by kernel_rfl
theorem JN :yH Tryz.prog 122 2=some (2,3):=by kernel_rfl
theorem CV :yH Tryz.prog 122 3=some (3,3):=by kernel_rfl
theorem DM :xU Tryz.prog 136 [.nilFunc] 1 8 false:=uC (by kernel_rfl)
theorem M3 :xU Tryz.prog 165 [.pointer none] 1 8 false:=uC (by kernel_rfl)
theorem ty167 :xU Tryz.prog 167 [.slice none 0 0,.pointer none,.bool false] 3 40 true:=uC (by kernel_rfl)
theorem jJ :yH Tryz.prog 167 0=some (0,73):=by kernel_rfl
theorem CU :yH Tryz.prog 167 1=some (1,165):=by kernel_rfl
theorem uB :yH Tryz.prog 167 2=some (2,4):=by kernel_rfl
theorem oD :xU Tryz.prog 175 [.pointer none] 1 8 false:=uC (by kernel_rfl)
theorem UW :xU Tryz.prog 178 [.pointer none,.slice none 0 0,.bool false,.int .i64 0] 4 48 true:=uC (by kernel_rfl)
theorem tT :yH Tryz.prog 178 0=some (0,175):=by kernel_rfl
theorem dU :yH Tryz.prog 178 1=some (1,73):=by kernel_rfl
theorem oH :yH Tryz.prog 178 2=some (2,4):=by kernel_rfl
theorem JM :yH Tryz.prog 178 3=some (3,24):=by kernel_rfl
theorem tR :xU Tryz.prog 180 [.pointer none] 1 8 false:=uC (by kernel_rfl)
theorem ty192 :xU Tryz.prog 192 [.nilFunc,.nilFunc,.nilFunc,.nilFunc,.nilFunc] 5 40 true:=uC (by kernel_rfl)
theorem ty219 :xU Tryz.prog 219 [.slice none 0 0,.int .i64 0,.int .i64 0] 3 40 true:=uC (by kernel_rfl)
theorem dT :yH Tryz.prog 219 0=some (0,73):=by kernel_rfl
theorem gT :yH Tryz.prog 219 1=some (1,3):=by kernel_rfl
theorem mP :yH Tryz.prog 219 2=some (2,24):=by kernel_rfl
theorem AC :xU Tryz.prog 224 [.pointer none] 1 8 false:=uC (by kernel_rfl)
theorem UV :xU Tryz.prog 245 [.int .i64 0,.int .i64 0,.int .i64 0,.slice none 0 0] 4 48 true:=uC (by kernel_rfl)
theorem UU :xU Tryz.prog 261 [.map none] 1 8 false:=uC (by kernel_rfl)
theorem UT :xU Tryz.prog 263 [.int .i64 0,.int .i64 0,.int .i64 0,.map none] 4 32 true:=uC (by kernel_rfl)
theorem JL :yH Tryz.prog 263 2=some (3,261):=by kernel_rfl
theorem gf7 :yC Tryz.prog 7=true:=by kernel_rfl
theorem gf8 :yC Tryz.prog 8=true:=by kernel_rfl
theorem gf9 :yC Tryz.prog 9=true:=by kernel_rfl
theorem gf10 :yC Tryz.prog 10=true:=by kernel_rfl
theorem gf11 :yC Tryz.prog 11=true:=by kernel_rfl
theorem XC :yC Tryz.prog 12=true:=by kernel_rfl
theorem TW :yC Tryz.prog 13=true:=by kernel_rfl
theorem TV :yC Tryz.prog 14=true:=by kernel_rfl
theorem gf15 :yC Tryz.prog 15=true:=by kernel_rfl
theorem gf17 :yC Tryz.prog 17=true:=by kernel_rfl
theorem gf18 :yC Tryz.prog 18=true:=by kernel_rfl
theorem gf19 :yC Tryz.prog 19=true:=by kernel_rfl
theorem gf21 :yC Tryz.prog 21=true:=by kernel_rfl
theorem gf22 :yC Tryz.prog 22=true:=by kernel_rfl
theorem gf23 :yC Tryz.prog 23=true:=by kernel_rfl
theorem gf24 :yC Tryz.prog 24=true:=by kernel_rfl
theorem gf25 :yC Tryz.prog 25=true:=by kernel_rfl
theorem gf28 :yC Tryz.prog 28=true:=by kernel_rfl
theorem gf29 :yC Tryz.prog 29=true:=by kernel_rfl
theorem gf30 :yC Tryz.prog 30=true:=by kernel_rfl
theorem gf31 :yC Tryz.prog 31=true:=by kernel_rfl
theorem TU :yC Tryz.prog 32=true:=by kernel_rfl
theorem gf33 :yC Tryz.prog 33=true:=by kernel_rfl
theorem gf34 :yC Tryz.prog 34=true:=by kernel_rfl
theorem gf35 :yC Tryz.prog 35=true:=by kernel_rfl
theorem gf36 :yC Tryz.prog 36=true:=by kernel_rfl
theorem gf37 :yC Tryz.prog 37=true:=by kernel_rfl
theorem XB :yC Tryz.prog 38=true:=by kernel_rfl
theorem TT :yC Tryz.prog 39=true:=by kernel_rfl
theorem gf40 :yC Tryz.prog 40=true:=by kernel_rfl
theorem gf41 :yC Tryz.prog 41=true:=by kernel_rfl
theorem gf42 :yC Tryz.prog 42=true:=by kernel_rfl
theorem gf43 :yC Tryz.prog 43=true:=by kernel_rfl
theorem gf44 :yC Tryz.prog 44=true:=by kernel_rfl
theorem gf45 :yC Tryz.prog 45=true:=by kernel_rfl
theorem gf46 :yC Tryz.prog 46=true:=by kernel_rfl
theorem gf47 :yC Tryz.prog 47=true:=by kernel_rfl
theorem gf48 :yC Tryz.prog 48=true:=by kernel_rfl
theorem gf49 :yC Tryz.prog 49=true:=by kernel_rfl
theorem gf50 :yC Tryz.prog 50=true:=by kernel_rfl
theorem TS :yC Tryz.prog 51=true:=by kernel_rfl
theorem gf52 :yC Tryz.prog 52=true:=by kernel_rfl
theorem gf54 :yC Tryz.prog 54=true:=by kernel_rfl
theorem XA :yC Tryz.prog 55=true:=by kernel_rfl
theorem gf56 :yC Tryz.prog 56=true:=by kernel_rfl
theorem G5 :yC Tryz.prog 57=true:=by kernel_rfl
theorem gf58 :yC Tryz.prog 58=true:=by kernel_rfl
theorem gf59 :yC Tryz.prog 59=true:=by kernel_rfl
theorem gf60 :yC Tryz.prog 60=true:=by kernel_rfl
theorem gf61 :yC Tryz.prog 61=true:=by kernel_rfl
theorem jR :yC Tryz.prog 62=true:=by kernel_rfl
theorem gf63 :yC Tryz.prog 63=true:=by kernel_rfl
theorem gf64 :yC Tryz.prog 64=true:=by kernel_rfl
theorem gf65 :yC Tryz.prog 65=true:=by kernel_rfl
theorem gf66 :yC Tryz.prog 66=true:=by kernel_rfl
theorem gf67 :yC Tryz.prog 67=true:=by kernel_rfl
theorem gf68 :yC Tryz.prog 68=true:=by kernel_rfl
theorem gf69 :yC Tryz.prog 69=true:=by kernel_rfl
theorem gf70 :yC Tryz.prog 70=true:=by kernel_rfl
theorem gf71 :yC Tryz.prog 71=true:=by kernel_rfl
theorem gf72 :yC Tryz.prog 72=true:=by kernel_rfl
theorem W8 :yC Tryz.prog 73=true:=by kernel_rfl
theorem W7 :yC Tryz.prog 74=true:=by kernel_rfl
theorem gf75 :yC Tryz.prog 75=true:=by kernel_rfl
theorem gf76 :yC Tryz.prog 76=true:=by kernel_rfl
theorem gf77 :yC Tryz.prog 77=true:=by kernel_rfl
theorem WZ :yC Tryz.prog 78=true:=by kernel_rfl
theorem gf79 :yC Tryz.prog 79=true:=by kernel_rfl
theorem gf80 :yC Tryz.prog 80=true:=by kernel_rfl
theorem WY :yC Tryz.prog 81=true:=by kernel_rfl
theorem gf82 :yC Tryz.prog 82=true:=by kernel_rfl
theorem gf83 :yC Tryz.prog 83=true:=by kernel_rfl
theorem gf84 :yC Tryz.prog 84=true:=by kernel_rfl
theorem WX :yC Tryz.prog 85=true:=by kernel_rfl
theorem gf86 :yC Tryz.prog 86=true:=by kernel_rfl
theorem WW :yC Tryz.prog 87=true:=by kernel_rfl
theorem TR :yC Tryz.prog 88=true:=by kernel_rfl
theorem WV :yC Tryz.prog 89=true:=by kernel_rfl
theorem gf90 :yC Tryz.prog 90=true:=by kernel_rfl
theorem gf91 :yC Tryz.prog 91=true:=by kernel_rfl
theorem gf92 :yC Tryz.prog 92=true:=by kernel_rfl
theorem gf93 :yC Tryz.prog 93=true:=by kernel_rfl
theorem gf94 :yC Tryz.prog 94=true:=by kernel_rfl
theorem gf95 :yC Tryz.prog 95=true:=by kernel_rfl
theorem gf96 :yC Tryz.prog 96=true:=by kernel_rfl
theorem gf97 :yC Tryz.prog 97=true:=by kernel_rfl
theorem gf98 :yC Tryz.prog 98=true:=by kernel_rfl
theorem FF :yC Tryz.prog 102=true:=by kernel_rfl
theorem VP :yC Tryz.prog 103=true:=by kernel_rfl
theorem gf104 :yC Tryz.prog 104=true:=by kernel_rfl
theorem gf105 :yC Tryz.prog 105=true:=by kernel_rfl
theorem oF :yC Tryz.prog 106=true:=by kernel_rfl
theorem JK :yC Tryz.prog 107=true:=by kernel_rfl
theorem VO :yC Tryz.prog 108=true:=by kernel_rfl
theorem VN :yC Tryz.prog 109=true:=by kernel_rfl
theorem VM :yC Tryz.prog 110=true:=by kernel_rfl
theorem gf111 :yC Tryz.prog 111=true:=by kernel_rfl
theorem VL :yC Tryz.prog 112=true:=by kernel_rfl
theorem VK :yC Tryz.prog 113=true:=by kernel_rfl
theorem gf114 :yC Tryz.prog 114=true:=by kernel_rfl
theorem JJ :yC Tryz.prog 115=true:=by kernel_rfl
theorem PP :yC Tryz.prog 116=true:=by kernel_rfl
theorem gf117 :yC Tryz.prog 117=true:=by kernel_rfl
theorem gf118 :yC Tryz.prog 118=true:=by kernel_rfl
theorem gf119 :yC Tryz.prog 119=true:=by kernel_rfl
theorem gf120 :yC Tryz.prog 120=true:=by kernel_rfl
theorem VJ :yC Tryz.prog 121=true:=by kernel_rfl
theorem gf122 :yC Tryz.prog 122=true:=by kernel_rfl
theorem VI :yC Tryz.prog 123=true:=by kernel_rfl
theorem gP :yC Tryz.prog 124=true:=by kernel_rfl
theorem gf125 :yC Tryz.prog 125=true:=by kernel_rfl
theorem gf126 :yC Tryz.prog 126=true:=by kernel_rfl
theorem gf127 :yC Tryz.prog 127=true:=by kernel_rfl
theorem gf128 :yC Tryz.prog 128=true:=by kernel_rfl
theorem gf129 :yC Tryz.prog 129=true:=by kernel_rfl
theorem gf130 :yC Tryz.prog 130=true:=by kernel_rfl
theorem gf131 :yC Tryz.prog 131=true:=by kernel_rfl
theorem VH :yC Tryz.prog 132=true:=by kernel_rfl
theorem JI :yC Tryz.prog 133=true:=by kernel_rfl
theorem gf134 :yC Tryz.prog 134=true:=by kernel_rfl
theorem VG :yC Tryz.prog 135=true:=by kernel_rfl
theorem VF :yC Tryz.prog 136=true:=by kernel_rfl
theorem gf137 :yC Tryz.prog 137=true:=by kernel_rfl
theorem FE :yC Tryz.prog 138=true:=by kernel_rfl
theorem gf139 :yC Tryz.prog 139=true:=by kernel_rfl
theorem VE :yC Tryz.prog 140=true:=by kernel_rfl
theorem JH :yC Tryz.prog 141=true:=by kernel_rfl
theorem VD :yC Tryz.prog 142=true:=by kernel_rfl
theorem gf143 :yC Tryz.prog 143=true:=by kernel_rfl
theorem gf144 :yC Tryz.prog 144=true:=by kernel_rfl
theorem gf145 :yC Tryz.prog 145=true:=by kernel_rfl
theorem JG :yC Tryz.prog 146=true:=by kernel_rfl
theorem VC :yC Tryz.prog 147=true:=by kernel_rfl
theorem gf148 :yC Tryz.prog 148=true:=by kernel_rfl
theorem gf149 :yC Tryz.prog 149=true:=by kernel_rfl
theorem BE :yC Tryz.prog 150=true:=by kernel_rfl
theorem VB :yC Tryz.prog 151=true:=by kernel_rfl
theorem gf152 :yC Tryz.prog 152=true:=by kernel_rfl
theorem VA :yC Tryz.prog 153=true:=by kernel_rfl
theorem gf154 :yC Tryz.prog 154=true:=by kernel_rfl
theorem U9 :yC Tryz.prog 155=true:=by kernel_rfl
theorem gf156 :yC Tryz.prog 156=true:=by kernel_rfl
theorem gf157 :yC Tryz.prog 157=true:=by kernel_rfl
theorem gf158 :yC Tryz.prog 158=true:=by kernel_rfl
theorem gf159 :yC Tryz.prog 159=true:=by kernel_rfl
theorem PO :yC Tryz.prog 162=true:=by kernel_rfl
theorem U8 :yC Tryz.prog 163=true:=by kernel_rfl
theorem gf164 :yC Tryz.prog 164=true:=by kernel_rfl
theorem gf165 :yC Tryz.prog 165=true:=by kernel_rfl
theorem gf166 :yC Tryz.prog 166=true:=by kernel_rfl
theorem JF :yC Tryz.prog 167=true:=by kernel_rfl
theorem gf168 :yC Tryz.prog 168=true:=by kernel_rfl
theorem gf169 :yC Tryz.prog 169=true:=by kernel_rfl
theorem gf170 :yC Tryz.prog 170=true:=by kernel_rfl
theorem U7 :yC Tryz.prog 171=true:=by kernel_rfl
theorem gf172 :yC Tryz.prog 172=true:=by kernel_rfl
theorem gf173 :yC Tryz.prog 173=true:=by kernel_rfl
theorem PN :yC Tryz.prog 174=true:=by kernel_rfl
theorem gf175 :yC Tryz.prog 175=true:=by kernel_rfl
theorem PM :yC Tryz.prog 176=true:=by kernel_rfl
theorem JE :yC Tryz.prog 177=true:=by kernel_rfl
theorem PL :yC Tryz.prog 178=true:=by kernel_rfl
theorem gf179 :yC Tryz.prog 179=true:=by kernel_rfl
theorem gf180 :yC Tryz.prog 180=true:=by kernel_rfl
theorem PK :yC Tryz.prog 181=true:=by kernel_rfl
theorem gf182 :yC Tryz.prog 182=true:=by kernel_rfl
theorem gf183 :yC Tryz.prog 183=true:=by kernel_rfl
theorem gf184 :yC Tryz.prog 184=true:=by kernel_rfl
theorem gf185 :yC Tryz.prog 185=true:=by kernel_rfl
theorem gf186 :yC Tryz.prog 186=true:=by kernel_rfl
theorem gf189 :yC Tryz.prog 189=true:=by kernel_rfl
theorem gf190 :yC Tryz.prog 190=true:=by kernel_rfl
theorem gf194 :yC Tryz.prog 194=true:=by kernel_rfl
theorem gf195 :yC Tryz.prog 195=true:=by kernel_rfl
theorem gf196 :yC Tryz.prog 196=true:=by kernel_rfl
theorem gf197 :yC Tryz.prog 197=true:=by kernel_rfl
theorem PJ :yC Tryz.prog 198=true:=by kernel_rfl
theorem U6 :yC Tryz.prog 199=true:=by kernel_rfl
theorem gf200 :yC Tryz.prog 200=true:=by kernel_rfl
theorem gf203 :yC Tryz.prog 203=true:=by kernel_rfl
theorem JD :yC Tryz.prog 204=true:=by kernel_rfl
theorem gf205 :yC Tryz.prog 205=true:=by kernel_rfl
theorem U5 :yC Tryz.prog 206=true:=by kernel_rfl
theorem gf207 :yC Tryz.prog 207=true:=by kernel_rfl
theorem gf208 :yC Tryz.prog 208=true:=by kernel_rfl
theorem gf209 :yC Tryz.prog 209=true:=by kernel_rfl
theorem gf213 :yC Tryz.prog 213=true:=by kernel_rfl
theorem PI :yC Tryz.prog 214=true:=by kernel_rfl
theorem yE :Tryz.prog.follows .mixedOrders=true:=by kernel_rfl
end Go.Proofs.YtjoeklkmnfaabaaGreat
namespace Go.Proofs.YtjoeklkmnfaabaaGreat
open Go Go.RowKit
set_option linter.unusedVariables false
set_option linter.unusedSimpArgs false
section
def u8s (l:List UInt8):List Value:=l.map fun c=> .int .u8 (c.toNat:Int)
variable {i v c:Nat} {k:IntKind} {b:List UInt8} {most:Int}
theorem zZ (l:List UInt8):(u8s l).length=l.length:=by simp[u8s]
theorem yY (l:List UInt8):(u8s l).length=l.length*1:=by simp[u8s]
theorem vH (a b:List UInt8):u8s (a++b)=u8s a++u8s b:=by simp[u8s]
theorem dL (c:UInt8):u8s [c]=[.int .u8 (c.toNat:Int)]:=rfl
theorem uJ (l:List UInt8):(u8s l).all (·.oneCell')=true:=by simp[u8s,Value.oneCell']
theorem kL {l:List UInt8} (h:i < l.length):(u8s l)[i]? =some (.int .u8 (l[i].toNat:Int)):=by simp[u8s,h]
def enc (v:Nat):List UInt8:=if v < 128 then[UInt8.ofNat v] else UInt8.ofNat (v % 128+128)::enc (v / 128)
termination_by v
decreasing_by omega
theorem enc_lt (h:v < 128):enc v=[UInt8.ofNat v]:=by rw[enc,if_pos h]
theorem aG (h:128≤v):enc v=UInt8.ofNat (v % 128+128)::enc (v / 128):=by rw[enc,if_neg (by omega)]
theorem T8 (k:Nat):∀ v,v < 128^(k+1)→(enc v).length≤k+1:=by
 induction k with
 | zero=>intro v h;rw[enc_lt (by simpa using h)];simp
 | succ k ih=>
  intro v h
  by_cases hv:v < 128
  · rw[enc_lt hv];simp
  rw[aG (by omega),Bj]
  have:=ih (v / 128) (by rw[Nat.div_lt_iff_lt_mul (by omega)];rw[Nat.pow_succ]at h;exact h)
  omega
theorem uW (h:v < 2^64):(enc v).length≤10:=T8 9 v (Nat.lt_of_lt_of_le h (by decide))
theorem JT (v:Nat):0 < (enc v).length:=by
 by_cases h:v < 128
 · rw[enc_lt h];simp
 rw[aG (by omega)];simp
theorem u8n {n:Nat} (h:n < 256):(UInt8.ofNat n).toNat=n:=UInt8.toNat_ofNat_of_lt' h
theorem u8w (v:Nat):IntKind.u8.wrap (v:Int)=((v % 256:Nat):Int):=by rw[IntKind.wrap_u8];omega
theorem u64w (v:Nat):IntKind.u64.wrap (v:Int)=((v % 2^64:Nat):Int):=by rw[IntKind.wrap_u64];omega
theorem qZ (v k b:Nat):((v:Int)).fdiv (2^(min ((k:Int)).toNat b))=((v / 2^(min k b):Nat):Int):=by
 rw[Int.toNat_natCast]
 have h:(2:Int)^(min k b)=((2^(min k b):Nat):Int):=by simp
 rw[h]
 exact(Int.ofNat_fdiv v _).symm
theorem shr7 (v:Nat):((v:Int)).fdiv (2^(min (7:Int).toNat IntKind.u64.bits))=((v / 128:Nat):Int):=qZ v 7 64
theorem rL (k:IntKind) (a:Nat) (ha:a < 2^k.bits):(BitVec.ofInt k.bits (a:Int)).toNat=a:=by
 rw[BitVec.ofInt_natCast,BitVec.toNat_ofNat];exact Il ha
theorem MJ (hk:k.signed=false) (n:Nat) (h:n < 2^k.bits):k.wrap (n:Int)=n:=by
 simp only[IntKind.wrap,hk]
 have:((2:Int)^k.bits)=((2^k.bits:Nat):Int):=by simp
 simp only[Bool.false_and,Bool.false_eq_true,if_false,this]
 rw[← Int.natCast_emod,Il h]
theorem cA (hk:k.signed=false) (a b:Nat) (ha:a < 2^k.bits) (hb:b < 2^k.bits):bits .or k (a:Int) (b:Int)=((a ||| b:Nat):Int):=by
 simp only[bits,BitVec.toNat_or,rL k a ha,rL k b hb]
 exact MJ hk _ (Nat.or_lt_two_pow ha hb)
theorem F3 (hk:k.signed=false) (a b:Nat) (ha:a < 2^k.bits) (hb:b < 2^k.bits):bits .and k (a:Int) (b:Int)=((a &&& b:Nat):Int):=by
 simp only[bits,BitVec.toNat_and,rL k a ha,rL k b hb]
 exact MJ hk _ (Nat.and_lt_two_pow _ hb)
theorem or128 (v:Nat):bits .or .u8 ((v % 256:Nat):Int) 128=((v % 128+128:Nat):Int):=by
 have h:=cA (k:=.u8) rfl (v % 256) 128 (by show _ < 256;omega) (by decide)
 rw[show(128:Int)=((128:Nat):Int) from rfl,h]
 congr 1
 have e:v % 256 ||| 128=(v % 128) ||| 128:=by
  apply Nat.eq_of_testBit_eq
  intro i
  rw[Nat.testBit_or,Nat.testBit_or,show(256:Nat)=2^8 from rfl,show(128:Nat)=2^7 from rfl,Nat.testBit_mod_two_pow,Nat.testBit_mod_two_pow,Nat.testBit_two_pow]
  by_cases h7:i=7
  · subst h7;simp
  by_cases h:i < 7
  · simp[h,show i < 8 by omega]
  simp[h,show ¬i < 8 by omega]
 rw[e,show(128:Nat)=2^7 from rfl,Nat.or_comm]
 have:=Nat.two_pow_add_eq_or_of_lt (i:=7) (b:=v % 2^7) (Hq _ (by decide)) 1
 simp only[Cc]at this
 rw[← this,Kv]
theorem Q7 (c:Nat) (h:c < 256):bits .and .u8 (c:Int) 127=((c % 128:Nat):Int):=by
 have h1:=F3 (k:=.u8) rfl c 127 h (by decide)
 rw[show(127:Int)=((127:Nat):Int) from rfl,h1]
 congr 1
 rw[show(127:Nat)=2^7 - 1 from rfl,Nat.and_two_pow_sub_one_eq_mod]
theorem and1 (v:Nat) (h:v < 2^64):bits .and .u64 (v:Int) 1=((v % 2:Nat):Int):=by
 have h1:=F3 (k:=.u64) rfl v 1 h (by decide)
 rw[show(1:Int)=((1:Nat):Int) from rfl,h1]
 congr 1
 rw[show(1:Nat)=2^1 - 1 from rfl,Nat.and_two_pow_sub_one_eq_mod]
theorem AU {a b:Nat} (h:a≤b):2^a≤2^b:=Nat.pow_le_pow_right (by omega) h
theorem bD (hi:i≤9) (hc:c < 128) (h9:i=9→c≤1):c*2^(7*i)+2^(7*i)≤2^64:=by
 rcases Jj i 9 with h | h
 · have h1:(c+1)*2^(7*i)≤128*2^(7*i):=Dp _ (by omega)
   have h2:128*2^(7*i)=2^(7*i+7):=by rw[Nat.pow_add];omega
   have h3:2^(7*i+7)≤2^64:=AU (by omega)
   rw[Dv]at h1
   omega
 have h9':i=9:=by omega
 subst h9'
 have:=h9 rfl
 have h1:(c+1)*2^63≤2*2^63:=Dp _ (by omega)
 omega
theorem shl7 (hi:i≤9) (hc:c < 128) (h9:i=9→c≤1):IntKind.u64.wrap ((c:Int)*2^(min (7*(i:Int)).toNat IntKind.u64.bits))=((c*2^(7*i):Nat):Int):=by
 have e:min (7*(i:Int)).toNat IntKind.u64.bits=7*i:=by
  show min (7*(i:Int)).toNat 64=7*i
  omega
 rw[e]
 have e2:(c:Int)*2^(7*i)=((c*2^(7*i):Nat):Int):=by simp
 rw[e2,u64w,Il]
 have:=bD hi hc h9
 have:=Nat.two_pow_pos (7*i)
 omega
theorem EQ (hi:i≤9) (hc:c < 128) (h9:i=9→c≤1) (hv:v < 2^(7*i)):bits .or .u64 (v:Int) ((c*2^(7*i):Nat):Int)=((v+c*2^(7*i):Nat):Int):=by
 have hp:=bD hi hc h9
 have h0:=Nat.two_pow_pos (7*i)
 have h64:2^(7*i)≤2^64:=AU (by omega)
 rw[cA (k:=.u64) rfl _ _ (by show _ < 2^64;omega) (by show _ < 2^64;omega)]
 congr 1
 rw[Nat.mul_comm c,Nat.or_comm,← Nat.two_pow_add_eq_or_of_lt hv,Kv]
theorem bC (hc:c < 128) (hv:v < 2^(7*i)):v+c*2^(7*i) < 2^(7*(i+1)):=by
 have e:2^(7*(i+1))=128*2^(7*i):=by rw[Nat.mul_add,Nat.pow_add];omega
 have h3:(c+1)*2^(7*i)≤128*2^(7*i):=Dp _ (by omega)
 rw[Dv]at h3
 omega
def sX :List UInt8→Nat→Nat→Nat×Nat×Nat
 | [],_,_=>(0,0,20)
 | c::l,i,v=>
  if i=9∧1 < c.toNat then(0,0,21)
  else if 128≤c.toNat then sX l (i+1) (v+c.toNat % 128*2^(7*i))
  else if c.toNat=0∧0 < i then(0,0,21)
  else(v+c.toNat % 128*2^(7*i),i+1,0)
def xQ (b:List UInt8):Nat×Nat×Nat:=sX b 0 0
theorem EV (b:List UInt8):xQ b=sX b 0 0:=rfl
theorem EW :∀ (l:List UInt8) (i v:Nat),i≤9→v < 2^(7*i)→(sX l i v).1 < 2^64∧(sX l i v).2.1≤i+l.length∧(sX l i v).2.1≤10∧((sX l i v).2.2=0∨(sX l i v).2.2=20∨(sX l i v).2.2=21)∧((sX l i v).2.2≠0→(sX l i v).1=0∧(sX l i v).2.1=0)∧((sX l i v).2.2=0→i < (sX l i v).2.1)
 | [],i,v,_,_=>by simp[sX]
 | c::l,i,v,hi,hv=>by
  unfold sX
  split
  · simp
  rename_i h1
  have hp:=bD (c:=c.toNat % 128) hi (by omega) (by intro h9;omega)
  split
  · rename_i h2
    have h9:i≠9:=by rintro rfl;exact h1 ⟨rfl,by omega⟩
    have hv':v+c.toNat % 128*2^(7*i) < 2^(7*(i+1)):=by
     have e:2^(7*(i+1))=128*2^(7*i):=by rw[Nat.mul_add,Nat.pow_add];omega
     have h3:(c.toNat % 128+1)*2^(7*i)≤128*2^(7*i):=Dp _ (by omega)
     rw[Dv]at h3
     omega
    have ih:=EW l (i+1) _ (by omega) hv'
    simp only[Bj]
    refine⟨ih.1,by omega,ih.2.2.1,ih.2.2.2.1,ih.2.2.2.2.1,fun h=>by have:=ih.2.2.2.2.2 h;omega⟩
  split
  · simp
  simp only[Bj]
  refine⟨by omega,by omega,by omega,by simp,by simp,by omega⟩
theorem pO (b:List UInt8):(xQ b).1 < 2^64∧(xQ b).2.1≤b.length∧(xQ b).2.1≤10∧((xQ b).2.2=0∨(xQ b).2.2=20∨(xQ b).2.2=21)∧((xQ b).2.2≠0→(xQ b).1=0∧(xQ b).2.1=0)∧((xQ b).2.2=0→0 < (xQ b).2.1):=by
 have:=EW b 0 0 (by omega) (by decide)
 simpa[xQ]using this
def zig (n:Int):Nat:=if n < 0 then(-2*n - 1).toNat else(2*n).toNat
def uA (n:Int):List UInt8:=enc (zig n)
def xY (b:List UInt8):List UInt8:=enc b.length++b
def Own (w0 w':World) (r:Value) (l:List UInt8):Prop:=
 ∃ g cap sp,r=.slice (hd g) l.length cap∧l.length≤cap∧cap*1≤(u8s l++sp).length∧(g=none→cap=0)∧Hp w0 w' [] [(g,5,u8s l++sp)]
def yB (b:List UInt8) (most:Int):Nat×Nat×Nat:=
 if(xQ b).2.2≠0 then(0,0,(xQ b).2.2) else if max most 0 < (xQ b).1 then(0,0,22) else((xQ b).1,(xQ b).2.1,0)
theorem L4 (n:Int) (h0:-9223372036854775808≤n) (h:n < 0):bits .xor .i64 (-1) n=-n - 1:=by
 have e:n=-((((-n - 1).toNat:Nat):Int)+1):=by omega
 generalize hm:(-n - 1).toNat=m at e
 have hm2:m < 2^63:=by omega
 subst e
 simp only[bits]
 have e1:BitVec.ofInt 64 (-((m:Int)+1))= ~~~ (BitVec.ofNat 64 m):=by
  apply BitVec.eq_of_toNat_eq
  rw[BitVec.toNat_ofInt,BitVec.toNat_not,BitVec.toNat_ofNat,Il (by omega)]
  omega
 have e2:BitVec.ofInt 64 (-1)=BitVec.allOnes 64:=by decide
 show IntKind.i64.wrap ((BitVec.ofInt 64 (-1)^^^BitVec.ofInt 64 (-((m:Int)+1))).toNat:Int)=_
 rw[e1,e2,BitVec.allOnes_xor,BitVec.not_not,BitVec.toNat_ofNat,Il (by omega),IntKind.wrap_i64]
 omega
theorem shl1 (n:Nat) (h:n < 2^63):IntKind.u64.wrap ((n:Int)*2^(min (1:Int).toNat IntKind.u64.bits))=((2*n:Nat):Int):=by
 have e:min (1:Int).toNat IntKind.u64.bits=1:=rfl
 rw[e,show((n:Int)*2^1)=((2*n:Nat):Int) by omega,u64w,Il (by omega)]
theorem or1 (n:Nat) (h:n < 2^63):bits .or .u64 ((2*n:Nat):Int) 1=((2*n+1:Nat):Int):=by
 rw[show(1:Int)=((1:Nat):Int) from rfl,cA (k:=.u64) rfl _ _ (by show _ < 2^64;omega) (by decide)]
 congr 1
 have:=Nat.two_pow_add_eq_or_of_lt (i:=1) (b:=1) (by decide) n
 rw[this]
theorem kE (h:(xQ b).2.2≠0):yB b most=(0,0,(xQ b).2.2):=by unfold yB;rw[if_pos h]
theorem kD (h:(xQ b).2.2=0) (h2:max most 0 < (xQ b).1):yB b most=(0,0,22):=by unfold yB;rw[if_neg (by omega),if_pos h2]
theorem oL (h:(xQ b).2.2=0) (h2:¬max most 0 < (xQ b).1):yB b most=((xQ b).1,(xQ b).2.1,0):=by unfold yB;rw[if_neg (by omega),if_neg h2]
theorem rN (n:Int):uA n=enc (zig n):=rfl
theorem rI (b:List UInt8):xY b=enc b.length++b:=rfl
theorem yZ {P:Program} {ds:List Deferred} {Q:vQ} {K:List Value→World→Prop} {all os:List Oper} {l:List Value} {w:World} {op:Op} {ty:TypeId} {pos:String} {af:Array Edge} {d:Tmp}
 {f:FuncId} {args:Array Value} {bs:List UInt8} (hx:Ex P l op ty w (.enter f args) w) (hc:zP P f args w fun r w'=>Own w w' r bs)
 (h:∀ w' g cap sp,bs.length≤cap→cap*1≤(u8s bs++sp).length→(g=none→cap=0)→Hp w w' [] [(g,5,u8s bs++sp)]→Ops P ds all K Q os (l.set d (.slice (hd g) bs.length cap)) w'):
 Ops P ds all K Q (⟨some d,op,ty,pos,af,none⟩::os) l w:=
 tG hx hc fun r w' ⟨g,cap,sp,h1,h2,h3,h4,h5⟩=>by rw[h1];exact h w' g cap sp h2 h3 h4 h5
attribute [irreducible] xQ yB uA xY zig
end
end Go.Proofs.YtjoeklkmnfaabaaGreat
namespace Go.Proofs.YtjoeklkmnfaabaaGreat
open Go Go.RowKit
set_option linter.unusedVariables false
set_option linter.unusedSimpArgs false
attribute [local irreducible] yW Ops zP Cd
set_option maxRecDepth 100000 in
set_option maxHeartbeats 4000000 in
theorem CI (v:Nat) (w0:World) (hv:v < 2^64):
 Aj 181 #[.int .u64 v] w0 (fun r w'=>Own w0 w' r (enc v)):=by
 refine zG Tryz.func181 Tryz.ntmps181 Y ?_
 refine CJ ?_
 have H:=Hp.refl w0
 refine zN ?_
 refine zK ?_
 refine zD (zO Y) ?_
 refine yD ?_
 refine CJ ?_
 refine zN ?_
 refine zK ?_
 refine zD (zO Y) ?_
 refine yD ?_
 refine CJ ?_
 refine zN ?_
 refine wJ ?_
 refine zV (fun nQ lQ w=>∃ (v1:Nat) (pre:List UInt8) (x:Int) (g:Option Nat) (m cap:Nat) (xs sp:List Value),v1=nQ∧xM [some (.int .u64 x),none,some (Dn),some (Ac (hd g) m cap),none,none,none,none,none,none,none,none,none,none,none,none,none,none,none] lQ∧x=v1∧v1≤v∧m=pre.length∧xs=u8s pre∧enc v=pre++enc v1∧m≤cap∧cap*1≤(xs++sp).length∧(g=none→cap=0)∧Hp w0 w [] [(g,5,xs++sp)]) (v) ?_ ?_
 · exact⟨v,[],_,none,0,0,[],[],Y,(fs (fn (fs (fs (fn (fn (fn (fn (fn (fn (fn (fn (fn (fn (fn (fn (fn (fn (fn f0))))))))))))))))))),Y,Ak _,Y,Y,Y,Ak _,by simp,fun _=>Y,H.nil 5⟩
 rintro nQ lQ w1 ⟨v1,pre,x,g,m,cap,xs,sp,rfl,hfit,rfl,hle,rfl,rfl,henc,hmc,hcap,hg0,H1⟩
 obtain⟨j,rfl⟩:=hfit.open
 refine CJ ?_
 clear hfit
 have hl10:=uW hv
 have hlp:pre.length+(enc v1).length=(enc v).length:=by rw[henc];simp
 have hpos:=JT v1
 refine zN ?_
 refine zN ?_
 refine zK ?_
 refine zD (zI Y) ?_
 refine vP (wM Y Y) (fun hp5=>?_) (fun hp5=>?_)
 · skip
   refine yD ?_
   refine CJ ?_
   refine yP Y ?_
   refine xK ?_
   refine wJ ?_
   refine zN ?_
   refine zK ?_
   refine zD (zI Y) ?_
   refine zD (zI Y) ?_
   refine zD (xN Tryz.underlying5 Lu Y (u8w v1)) ?_
   refine zD (dC Y Y (or128 v1)) ?_
   refine nO19 ?_
   refine zE Gz ty5 H1 Y (by decide) Y ?_
   intro w2 g2 H2 hg2
   refine xC Gz ty5 (by decide) H2 0 Y Y (yY pre) hcap hmc hg0 Y (H2.rd (i:=1) (o:=some g2) (xs:=[Value.int .u8 ((v1 % 128+128:Nat):Int)]) (sp:=[]) Y Y (by decide)) Y (by omega) (by omega) (by decide) ?_
   intro w3 g3 cap3 sp3 H3 hcap3 hmc3 hg3
   refine zD (zO Y) ?_
   refine yD ?_
   refine CJ ?_
   refine zK ?_
   refine zD (zI Y) ?_
   refine zD (pW Y Y (by omega) (shr7 v1)) ?_
   refine zD (zO Y) ?_
   refine yD ?_
   refine CJ ?_
   refine zA (zB ?_)
   refine zA (zH ?_)
   exact⟨v1 / 128,by omega,v1 / 128,pre++[UInt8.ofNat (v1 % 128+128)],_,g3,_,cap3,u8s pre++[Value.int .u8 ((v1 % 128+128:Nat):Int)],sp3,Y,(fs (fn (fs (fs (fn (fn (fn (fn (fn (fn (fn (fn (fn (fn (fn (fn (fn (fn (fn f0))))))))))))))))))),Y,by omega,by simp,by rw[vH,dL,u8n (by omega)],by rw[henc,aG (by omega)];simp,hmc3,hcap3,hg3,H3.pick [0] (by decide)⟩
 refine yD ?_
 refine CJ ?_
 refine zX Y ?_
 refine tF ?_
 refine zU ?_
 refine zS ?_
 refine zN ?_
 refine zK ?_
 refine zD (zI Y) ?_
 refine zD (zI Y) ?_
 refine zD (xN Tryz.underlying5 Lu Y (u8w v1)) ?_
 refine zE Gz ty5 H1 Y (by decide) Y ?_
 intro w2 g2 H2 hg2
 refine nO19 ?_
 refine xC Gz ty5 (by decide) H2 0 Y Y (yY pre) hcap hmc hg0 Y (H2.rd (i:=1) (o:=some g2) (xs:=[Value.int .u8 ((v1 % 256:Nat):Int)]) (sp:=[]) Y Y (by decide)) Y (by omega) (by omega) (by decide) ?_
 intro w3 g3 cap3 sp3 H3 hcap3 hmc3 hg3
 refine zD (zO Y) ?_
 refine yD ?_
 refine CJ ?_
 refine wG ?_
 refine tJ Y Y ?_
 have e1:enc v=pre++[UInt8.ofNat v1]:=by rw[henc,enc_lt (by omega)]
 have e2:u8s (enc v)=u8s pre++[.int .u8 ((v1 % 256:Nat):Int)]:=by rw[e1,vH,dL,u8n (by omega),Il (by omega)]
 have e3:(enc v).length=pre.length+1:=by rw[e1];simp
 unfold Own
 rw[e2,e3]
 exact⟨g3,cap3,sp3,Y,hmc3,hcap3,hg3,H3.pick [0] (by decide)⟩
set_option maxRecDepth 100000 in
set_option maxHeartbeats 4000000 in
theorem TJ (n:Int) (w0:World) (hlo:-9223372036854775808≤n) (hhi:n≤9223372036854775807):
 Aj 148 #[Aa n] w0 (fun r w'=>Own w0 w' r (uA n)):=by
 refine zG Tryz.func148 Tryz.ntmps148 Y ?_
 refine LJ ?_
 have H:=Hp.refl w0
 refine zN ?_
 refine zK ?_
 refine zD (zO Y) ?_
 refine yD ?_
 refine LJ ?_
 refine zN ?_
 refine zN ?_
 refine zK ?_
 refine zD (zI Y) ?_
 refine vP (zQ Y Y) (fun hp4=>?_) (fun hp4=>?_)
 · skip
   refine yD ?_
   refine LJ ?_
   refine yP Y ?_
   refine zN ?_
   refine zK ?_
   refine zD (zI Y) ?_
   refine zD (FM Y ((L4 n hlo hp4).trans (show -n - 1=(((-n - 1).toNat:Nat):Int) by omega))) ?_
   refine zD (xN Lu Tryz.underlying3 Y (Ey _ (by omega))) ?_
   refine zD (kB Y Y (by omega) (shl1 _ (by omega))) ?_
   refine nO15 ?_
   refine zD (dC Y Y (or1 _ (by omega))) ?_
   refine yZ (mT PK Y) (CI (2*(-n - 1).toNat+1) _ (by omega)) ?_
   intro w1 g1 c1 sp1 hm1 hc1 hg1 H1
   refine zD (zO Y) ?_
   refine yD ?_
   refine LJ ?_
   refine wG ?_
   refine tJ Y Y ?_
   have e:uA n=enc (2*(-n - 1).toNat+1):=by rw[rN];unfold zig;rw[if_pos hp4];congr 1;omega
   rw[e]
   exact⟨g1,c1,sp1,Y,hm1,hc1,hg1,H1⟩
 obtain⟨m,rfl⟩:=Kw (show 0≤n by omega)
 refine yD ?_
 refine LJ ?_
 refine zX Y ?_
 refine xK ?_
 refine zN ?_
 refine zK ?_
 refine zD (zI Y) ?_
 refine zD (xN Lu Tryz.underlying3 Y (Ey _ (by omega))) ?_
 refine zD (kB Y Y (by omega) (shl1 _ (by omega))) ?_
 refine yZ (mT PK Y) (CI (2*m) _ (by omega)) ?_
 intro w1 g1 c1 sp1 hm1 hc1 hg1 H1
 refine nO15 ?_
 refine zD (zO Y) ?_
 refine yD ?_
 refine LJ ?_
 refine wG ?_
 refine tJ Y Y ?_
 have e:uA (m:Int)=enc (2*m):=by rw[rN];unfold zig;rw[if_neg (by omega)];congr 1
 rw[e]
 exact⟨g1,c1,sp1,Y,hm1,hc1,hg1,H1⟩
set_option maxRecDepth 100000 in
set_option maxHeartbeats 4000000 in
theorem vO (A:Option Addr) (b:List UInt8) (c:Nat) (w0:World) (hr:Rd w0 A b.length 1 (u8s b)) (hb:b.length≤211106232532992):
 Aj 62 #[Ac A b.length c] w0 (fun r w'=>Own w0 w' r (b)):=by
 refine zG Tryz.func62 Tryz.ntmps62 Y ?_
 change Run _ _ _ _ [Ac A b.length c,undef,undef,undef,undef,undef,undef,undef] _
 have H:=Hp.refl w0
 refine zN ?_
 refine zK ?_
 refine zD (zO Y) ?_
 refine yD ?_
 change Run _ _ _ _ [_,_,_,_,_,_,_,_] _
 refine zN ?_
 refine zN ?_
 refine zK ?_
 refine zD (zI Y) ?_
 refine vP (vC Gz Y) (fun hp4=>?_) (fun hp4=>?_)
 · skip
   refine yD ?_
   change Run _ _ _ _ [_,_,_,_,_,_,_,_] _
   refine yP Y ?_
   refine zN ?_
   refine zK ?_
   refine zD (zO Y) ?_
   refine yD ?_
   change Run _ _ _ _ [_,_,_,_,_,_,_,_] _
   refine wG ?_
   refine tJ Y Y ?_
   have hb:b=[]:=Ee (hr.nil hp4)
   subst hb
   exact⟨none,0,[],Y,Ak _,by simp,fun _=>Y,by have:=H.nil 5;exact this⟩
 refine yD ?_
 change Run _ _ _ _ [_,_,_,_,_,_,_,_] _
 refine zX Y ?_
 refine xK ?_
 refine zN ?_
 refine zK ?_
 refine zE Gz ty5 H Y (by decide) Y ?_
 intro w1 g1 H1 hg1
 refine zD (zI Y) ?_
 refine xC Gz ty5 (by decide) H1 0 (g:=some g1) (xs:=[]) (sp:=[]) Y Y Y (by decide) (by decide) (by simp) Y (hr.to0 H1) (uJ b) (by omega) (by omega) (by decide) ?_
 intro w2 g3 cap3 sp3 H2 hcap3 hmc3 hg3
 refine zD (zO Y) ?_
 refine yD ?_
 change Run _ _ _ _ [_,_,_,_,_,_,_,_] _
 refine wG ?_
 refine tJ Y Y ?_
 rw[Ba]at hmc3
 refine⟨g3,cap3,sp3,?_,hmc3,hcap3,hg3,H2.pick [0] (by decide)⟩
 rw[Ba]
set_option maxRecDepth 100000 in
set_option maxHeartbeats 4000000 in
theorem M5 (A:Option Addr) (b:List UInt8) (c:Nat) (w0:World) (hr:Rd w0 A b.length 1 (u8s b)) (hb:b.length≤211106232532900):
 Aj 184 #[Ac A b.length c] w0 (fun r w'=>Own w0 w' r (xY b)):=by
 have hl10:=uW (v:=b.length) (by omega)
 refine zG Tryz.func184 Tryz.ntmps184 Y ?_
 change Run _ _ _ _ [Ac A b.length c,undef,undef,undef,undef,undef,undef,undef,undef] _
 have H:=Hp.refl w0
 refine zN ?_
 refine zK ?_
 refine zD (zO Y) ?_
 refine yD ?_
 change Run _ _ _ _ [_,_,_,_,_,_,_,_,_] _
 refine zN ?_
 refine zK ?_
 refine zD (zI Y) ?_
 refine zD (tC Gz Y) ?_
 refine zD (xN Lu Tryz.underlying3 Y ((Ey _ (by omega)))) ?_
 refine yZ (mT PK Y) (CI b.length _ (by omega)) ?_
 intro w1 g1 c1 sp1 hm1 hc1 hg1 H1
 change Ops _ _ _ _ _ _ [_,_,_,_,_,_,_,_,_] _
 refine zD (zI Y) ?_
 refine xC Gz ty5 (by decide) H1 0 Y Y (yY _) hc1 hm1 hg1 Y (hr.to0 H1) (uJ b) (by omega) (by omega) (by decide) ?_
 intro w2 g3 cap3 sp3 H2 hcap3 hmc3 hg3
 refine zD (zO Y) ?_
 refine yD ?_
 change Run _ _ _ _ [_,_,_,_,_,_,_,_,_] _
 refine wG ?_
 refine tJ Y Y ?_
 unfold Own
 rw[rI,vH,Ae]
 exact⟨g3,cap3,sp3,Y,hmc3,hcap3,hg3,H2⟩
set_option maxRecDepth 100000 in
set_option maxHeartbeats 4000000 in
theorem LA (A B:Option Addr) (a b:List UInt8) (c d:Nat) (w0:World) (hra:Rd w0 A a.length 1 (u8s a)) (hrb:Rd w0 B b.length 1 (u8s b)) (ha:a.length≤211106232532992) (hb:b.length≤211106232532992):
 Aj 128 #[Ac A a.length c,Ac B b.length d] w0 (fun r w'=>r=.bool (decide (a=b))∧Hp w0 w' [] []):=by
 refine zG Tryz.func128 Tryz.ntmps128 Y ?_
 refine gK ?_
 have H:=Hp.refl w0
 refine zN ?_
 refine zK ?_
 refine zD (zO Y) ?_
 refine yD ?_
 refine gK ?_
 refine zN ?_
 refine zN ?_
 refine zK ?_
 refine zD (zI Y) ?_
 refine zD (tC Gz Y) ?_
 refine zD (zI Y) ?_
 refine zD (tC Gz Y) ?_
 refine nO26 ?_
 refine vP (yR Y Y) (fun hp10=>?_) (fun hp10=>?_)
 · skip
   refine yD ?_
   refine gK ?_
   refine yP Y ?_
   refine zN ?_
   refine zK ?_
   refine zD (zO Y) ?_
   refine yD ?_
   refine gK ?_
   refine wG ?_
   refine tJ Y Y ?_
   exact⟨by rw[decide_eq_false (by rintro rfl;omega)],H⟩
 have hlen:a.length=b.length:=by omega
 refine yD ?_
 refine gK ?_
 refine zX Y ?_
 refine xK ?_
 refine zN ?_
 refine zN ?_
 refine zK ?_
 refine zD (zO Y) ?_
 refine yD ?_
 refine gK ?_
 refine wJ ?_
 refine zV (fun nQ lQ w=>∃ (i:Nat) (y:Int),a.length - i=nQ∧xM [some (Ac A a.length c),some (Ac B b.length d),none,none,none,some (Aa y),some (Ac A a.length c),some (Aa a.length),some (Ac B b.length d),some (Aa b.length),some (.bool false),none,none,none,none,none,none,none,none,none,none,none,none,none,none,none] lQ∧y=i∧i≤a.length∧a.take i=b.take i∧Hp w0 w [] []) (a.length) ?_ ?_
 · exact⟨0,_,Y,(fs (fs (fn (fn (fn (fs (fs (fs (fs (fs (fs (fn (fn (fn (fn (fn (fn (fn (fn (fn (fn (fn (fn (fn (fn (fn f0)))))))))))))))))))))))))),Y,Am _,Y,H⟩
 rintro nQ lQ w1 ⟨i,y,rfl,hfit,rfl,hi,hpre,H1⟩
 obtain⟨j,rfl⟩:=hfit.open
 refine gK ?_
 clear hfit
 refine zN ?_
 refine zN ?_
 refine zK ?_
 refine zD (zI Y) ?_
 refine zD (zI Y) ?_
 refine zD (tC Gz Y) ?_
 refine vP (zQ Y Y) (fun hp14=>?_) (fun hp14=>?_)
 · obtain⟨x,rfl⟩:=hra.some_ (by omega)
   obtain⟨z,rfl⟩:=hrb.some_ (by omega)
   have hia:i < a.length:=by omega
   have hib:i < b.length:=by omega
   refine yD ?_
   refine gK ?_
   refine yP Y ?_
   refine xK ?_
   refine zN ?_
   refine wJ ?_
   refine zN ?_
   refine vW yE (by kernel_rfl) ?_
   rintro w2 hw2
   have H2:=Hp.drew H1;rw[← hw2]at H2
   refine uG (zI Y) ?_
   refine uG (zI Y) ?_
   refine uG (eN Gz ty5 Y Y Y hia (Cc _)) ?_
   refine uG (gW ty5 Y ((hra.to0 H2).cells x Y i _ (kL hia))) ?_
   refine nS26 ?_
   refine uG (zI Y) ?_
   refine uG (zI Y) ?_
   refine uG (eN Gz ty5 Y Y Y hib (Cc _)) ?_
   refine uG (gW ty5 Y ((hrb.to0 H2).cells z Y i _ (kL hib))) ?_
   refine nS26 ?_
   refine vB (yR Y Y) (fun hp25=>?_) (fun hp25=>?_)
   · skip
     refine xJ ?_
     refine gK ?_
     refine yP Y ?_
     refine zN ?_
     refine zK ?_
     refine zD (zO Y) ?_
     refine yD ?_
     refine gK ?_
     refine wG ?_
     refine vM ?_
     refine yN ?_
     refine vM ?_
     refine tJ Y Y ?_
     exact⟨by rw[decide_eq_false (by rintro rfl;omega)],H2⟩
   refine xJ ?_
   refine gK ?_
   refine zX Y ?_
   refine xK ?_
   refine zA (zB ?_)
   refine zK ?_
   refine zD (zI Y) ?_
   refine zD (zL Y Y (Ad _ (by omega))) ?_
   refine zD (zO Y) ?_
   refine yD ?_
   refine gK ?_
   refine zA (zH ?_)
   exact⟨a.length - (i+1),by omega,i+1,_,Y,(fs (fs (fn (fn (fn (fs (fs (fs (fs (fs (fs (fn (fn (fn (fn (fn (fn (fn (fn (fn (fn (fn (fn (fn (fn (fn f0)))))))))))))))))))))))))),by omega,by omega,by rw[← List.take_append_getElem hia,← List.take_append_getElem hib,hpre,UInt8.toNat_inj.1 (show a[i].toNat=b[i].toNat by omega)],H2⟩
 refine yD ?_
 refine gK ?_
 refine zX Y ?_
 refine tF ?_
 refine zU ?_
 refine zS ?_
 refine zN ?_
 refine zK ?_
 refine zD (zO Y) ?_
 refine yD ?_
 refine gK ?_
 refine wG ?_
 refine tJ Y Y ?_
 exact⟨by rw[decide_eq_true (by rw[← Ej (l:=a) (i:=i) (by omega),hpre,Ej (by omega)])],H1⟩
set_option maxRecDepth 100000 in
set_option maxHeartbeats 4000000 in
theorem eQ (A B:Option Addr) (a b:List UInt8) (c d:Nat) (w0:World) (hra:Rd w0 A a.length 1 (u8s a)) (hrb:Rd w0 B b.length 1 (u8s b)) (ha:a.length≤211106232532992) (hb:b.length≤211106232532992):
 Aj 85 #[Ac A a.length c,Ac B b.length d] w0 (fun r w'=>r=.bool (decide (a=b))∧Hp w0 w' [] []):=by
 refine zG Tryz.func85 Tryz.ntmps85 Y ?_
 change Run _ _ _ _ [Ac A a.length c,Ac B b.length d,undef,undef,undef,undef,undef,undef] _
 have H:=Hp.refl w0
 refine zN ?_
 refine zK ?_
 refine zD (zO Y) ?_
 refine yD ?_
 change Run _ _ _ _ [_,_,_,_,_,_,_,_] _
 refine zN ?_
 refine zK ?_
 refine zD (zI Y) ?_
 refine zD (zI Y) ?_
 refine pC (mT gf128 Y) (LA A B a b c d _ (hra.to0 H) (hrb.to0 H) ha hb) ?_
 intro w1 Hc
 have H1:=H.call0 Hc
 refine zD (zO Y) ?_
 refine yD ?_
 change Run _ _ _ _ [_,_,_,_,_,_,_,_] _
 refine wG ?_
 refine tJ Y Y ?_
 exact⟨Y,H1⟩
set_option maxRecDepth 100000 in
set_option maxHeartbeats 4000000 in
theorem bG (A:Option Addr) (b:List UInt8) (c:Nat) (w0:World) (hr:Rd w0 A b.length 1 (u8s b)) (hb:b.length≤211106232532992):
 Aj 206 #[Ac A b.length c] w0 (fun r w'=>r=.tuple #[.int .u64 (xQ b).1,Aa (xQ b).2.1,Aa (xQ b).2.2]∧w'=w0):=by
 refine zG Tryz.func206 Tryz.ntmps206 Y ?_
 refine rA ?_
 have H:=Hp.refl w0
 refine zN ?_
 refine zK ?_
 refine zD (zO Y) ?_
 refine zD (zO Y) ?_
 refine zD (zO Y) ?_
 refine yD ?_
 refine rA ?_
 refine zN ?_
 refine zK ?_
 refine zD (zO Y) ?_
 refine yD ?_
 refine rA ?_
 refine zN ?_
 refine zN ?_
 refine zK ?_
 refine zD (zI Y) ?_
 refine zD (tC Gz Y) ?_
 refine zD (zI Y) ?_
 refine yD ?_
 refine rA ?_
 refine wJ ?_
 refine zV (fun nQ lQ w=>∃ (i v:Nat) (x y:Int),b.length - i=nQ∧xM [some (Ac A b.length c),none,none,none,none,some (.int .u64 x),none,none,some (Ac A b.length c),some (Aa b.length),some (Aa y),none,none,none,none,none,none,none,none,none,none,none,none,none,none,none,none,none,none,none,none,none,none,none,none,none,none,none,none,none,none] lQ∧x=v∧y=i∧i≤b.length∧i≤9∧v < 2^(7*i)∧xQ b=sX (b.drop i) i v∧w=w0) (b.length) ?_ ?_
 · exact⟨0,0,_,_,Y,(fs (fn (fn (fn (fn (fs (fn (fn (fs (fs (fs (fn (fn (fn (fn (fn (fn (fn (fn (fn (fn (fn (fn (fn (fn (fn (fn (fn (fn (fn (fn (fn (fn (fn (fn (fn (fn (fn (fn (fn (fn f0))))))))))))))))))))))))))))))))))))))))),Y,Y,Am _,by omega,by decide,EV b,Y⟩
 rintro nQ lQ w1 ⟨i,v,x,y,rfl,hfit,rfl,rfl,hi,hi9,hv,hnum,rfl⟩
 obtain⟨j,rfl⟩:=hfit.open
 refine rA ?_
 clear hfit
 refine zN ?_
 refine zK ?_
 refine vP (zQ Y Y) (fun hp11=>?_) (fun hp11=>?_)
 · obtain⟨a,rfl⟩:=hr.some_ (by omega)
   have hib:i < b.length:=by omega
   rw[Ol hib,sX]at hnum
   have hc:=b[i].toNat_lt
   generalize hcb:b[i].toNat=cc at hc hnum
   refine yD ?_
   refine rA ?_
   refine zN ?_
   refine yP Y ?_
   refine xK ?_
   refine zN ?_
   refine wJ ?_
   refine zN ?_
   refine zK ?_
   refine zD (zI Y) ?_
   refine zD (eN Gz ty5 Y Y Y hib (Cc _)) ?_
   refine zD (gW ty5 Y (hr.cells a Y i (.int .u8 (cc:Int)) (by rw[← hcb];exact kL hib))) ?_
   refine zD (zO Y) ?_
   refine iL ?_
   refine zD (zO Y) ?_
   refine yD ?_
   refine rA ?_
   refine zN ?_
   refine zN ?_
   refine zK ?_
   refine zD (zI Y) ?_
   refine vP (xR Y Y) (fun hp16=>?_) (fun hp16=>?_)
   · have h9:i=9:=by omega
     refine zD (zI Y) ?_
     refine iL ?_
     refine sS Y ?_
     refine zD (zI Y) ?_
     refine sS Y ?_
     refine vP (yS Y Y) (fun hp19=>?_) (fun hp19=>?_)
     · rw[if_pos ⟨h9,by omega⟩]at hnum
       refine zD (xG Y Y) ?_
       refine yD ?_
       refine rA ?_
       refine yP Y ?_
       refine zN ?_
       refine zK ?_
       refine zD (zO Y) ?_
       refine zD (zO Y) ?_
       refine zD (zO Y) ?_
       refine yD ?_
       refine rA ?_
       refine wG ?_
       refine vM ?_
       refine yN ?_
       refine vM ?_
       refine sJ Y Y Y Y ?_
       rw[hnum]
       exact⟨Y,Y⟩
     rw[if_neg (by omega)]at hnum
     refine zD (xG Y Y) ?_
     refine yD ?_
     refine rA ?_
     refine zX Y ?_
     refine xK ?_
     refine zN ?_
     refine zK ?_
     refine zD (zI Y) ?_
     refine zD (zI Y) ?_
     refine zD (C4 Y Y (Q7 cc hc)) ?_
     refine zD (xN Lu Tryz.underlying5 Y (Ey _ (by omega))) ?_
     refine iL ?_
     refine zD (zI Y) ?_
     refine zD (aB Y Y (Ad _ (by omega))) ?_
     refine zD (kB Y Y (by omega) (shl7 (by omega) (by omega) (by omega))) ?_
     refine zD (dC Y Y (EQ (by omega) (by omega) (by omega) hv)) ?_
     refine iL ?_
     refine zD (zO Y) ?_
     refine yD ?_
     refine rA ?_
     refine zN ?_
     refine zN ?_
     refine zK ?_
     refine zD (zI Y) ?_
     refine vP (wM Y Y) (fun hp30=>?_) (fun hp30=>?_)
     · rw[if_pos (by omega)]at hnum
       refine yD ?_
       refine rA ?_
       refine yP Y ?_
       refine tF ?_
       refine zS ?_
       refine zK ?_
       refine zD (zL Y Y (Ad _ (by omega))) ?_
       refine zD (zI Y) ?_
       refine yD ?_
       refine rA ?_
       refine zA (zH ?_)
       exact⟨b.length - (i+1),by omega,i+1,v+cc % 128*2^(7*i),_,_,Y,(fs (fn (fn (fn (fn (fs (fn (fn (fs (fs (fs (fn (fn (fn (fn (fn (fn (fn (fn (fn (fn (fn (fn (fn (fn (fn (fn (fn (fn (fn (fn (fn (fn (fn (fn (fn (fn (fn (fn (fn (fn f0))))))))))))))))))))))))))))))))))))))))),Y,by omega,by omega,by omega,bC (by omega) hv,hnum,Y⟩
     rw[if_neg (by omega)]at hnum
     refine yD ?_
     refine rA ?_
     refine zX Y ?_
     refine xK ?_
     refine zN ?_
     refine zN ?_
     refine zK ?_
     refine zD (zI Y) ?_
     refine vP (xR Y Y) (fun hp32=>?_) (fun hp32=>?_)
     · skip
       refine zD (zI Y) ?_
       refine iL ?_
       refine sS Y ?_
       refine zD (zI Y) ?_
       refine sS Y ?_
       refine vP (yS Y Y) (fun hp35=>?_) (fun hp35=>?_)
       · rw[if_pos ⟨by omega,by omega⟩]at hnum
         refine zD (xG Y Y) ?_
         refine yD ?_
         refine rA ?_
         refine yP Y ?_
         refine zN ?_
         refine zK ?_
         refine zD (zO Y) ?_
         refine zD (zO Y) ?_
         refine zD (zO Y) ?_
         refine yD ?_
         refine rA ?_
         refine wG ?_
         refine vM ?_
         refine yN ?_
         refine vM ?_
         refine sJ Y Y Y Y ?_
         rw[hnum]
         exact⟨Y,Y⟩
       rw[if_neg (by omega)]at hnum
       refine zD (xG Y Y) ?_
       refine yD ?_
       refine rA ?_
       refine zX Y ?_
       refine xK ?_
       refine zN ?_
       refine zK ?_
       refine zD (zI Y) ?_
       refine zD (zI Y) ?_
       refine zD (zL Y Y (Ad _ (by omega))) ?_
       refine zD (zO Y) ?_
       refine iL ?_
       refine zD (zO Y) ?_
       refine zD (zO Y) ?_
       refine yD ?_
       refine rA ?_
       refine wG ?_
       refine vM ?_
       refine yN ?_
       refine vM ?_
       refine sJ Y Y Y Y ?_
       rw[hnum]
       exact⟨Y,Y⟩
     rw[if_neg (by omega)]at hnum
     refine zD (zI Y) ?_
     refine iL ?_
     refine ops_no Y ?_
     refine ops_no Y ?_
     refine zD (xV Y Y) ?_
     refine yD ?_
     refine rA ?_
     refine zX Y ?_
     refine xK ?_
     refine zN ?_
     refine zK ?_
     refine zD (zI Y) ?_
     refine zD (zI Y) ?_
     refine zD (zL Y Y (Ad _ (by omega))) ?_
     refine zD (zO Y) ?_
     refine iL ?_
     refine zD (zO Y) ?_
     refine zD (zO Y) ?_
     refine yD ?_
     refine rA ?_
     refine wG ?_
     refine vM ?_
     refine yN ?_
     refine vM ?_
     refine sJ Y Y Y Y ?_
     rw[hnum]
     exact⟨Y,Y⟩
   have h9:i≠9:=by omega
   rw[if_neg (by omega)]at hnum
   refine zD (zI Y) ?_
   refine iL ?_
   refine ops_no Y ?_
   refine ops_no Y ?_
   refine zD (xV Y Y) ?_
   refine yD ?_
   refine rA ?_
   refine zX Y ?_
   refine xK ?_
   refine zN ?_
   refine zK ?_
   refine zD (zI Y) ?_
   refine zD (zI Y) ?_
   refine zD (C4 Y Y (Q7 cc hc)) ?_
   refine zD (xN Lu Tryz.underlying5 Y (Ey _ (by omega))) ?_
   refine iL ?_
   refine zD (zI Y) ?_
   refine zD (aB Y Y (Ad _ (by omega))) ?_
   refine zD (kB Y Y (by omega) (shl7 (by omega) (by omega) (by omega))) ?_
   refine zD (dC Y Y (EQ (by omega) (by omega) (by omega) hv)) ?_
   refine iL ?_
   refine zD (zO Y) ?_
   refine yD ?_
   refine rA ?_
   refine zN ?_
   refine zN ?_
   refine zK ?_
   refine zD (zI Y) ?_
   refine vP (wM Y Y) (fun hp30=>?_) (fun hp30=>?_)
   · rw[if_pos (by omega)]at hnum
     refine yD ?_
     refine rA ?_
     refine yP Y ?_
     refine tF ?_
     refine zS ?_
     refine zK ?_
     refine zD (zL Y Y (Ad _ (by omega))) ?_
     refine zD (zI Y) ?_
     refine yD ?_
     refine rA ?_
     refine zA (zH ?_)
     exact⟨b.length - (i+1),by omega,i+1,v+cc % 128*2^(7*i),_,_,Y,(fs (fn (fn (fn (fn (fs (fn (fn (fs (fs (fs (fn (fn (fn (fn (fn (fn (fn (fn (fn (fn (fn (fn (fn (fn (fn (fn (fn (fn (fn (fn (fn (fn (fn (fn (fn (fn (fn (fn (fn (fn f0))))))))))))))))))))))))))))))))))))))))),Y,by omega,by omega,by omega,bC (by omega) hv,hnum,Y⟩
   rw[if_neg (by omega)]at hnum
   refine yD ?_
   refine rA ?_
   refine zX Y ?_
   refine xK ?_
   refine zN ?_
   refine zN ?_
   refine zK ?_
   refine zD (zI Y) ?_
   refine vP (xR Y Y) (fun hp32=>?_) (fun hp32=>?_)
   · skip
     refine zD (zI Y) ?_
     refine iL ?_
     refine sS Y ?_
     refine zD (zI Y) ?_
     refine sS Y ?_
     refine vP (yS Y Y) (fun hp35=>?_) (fun hp35=>?_)
     · rw[if_pos ⟨by omega,by omega⟩]at hnum
       refine zD (xG Y Y) ?_
       refine yD ?_
       refine rA ?_
       refine yP Y ?_
       refine zN ?_
       refine zK ?_
       refine zD (zO Y) ?_
       refine zD (zO Y) ?_
       refine zD (zO Y) ?_
       refine yD ?_
       refine rA ?_
       refine wG ?_
       refine vM ?_
       refine yN ?_
       refine vM ?_
       refine sJ Y Y Y Y ?_
       rw[hnum]
       exact⟨Y,Y⟩
     rw[if_neg (by omega)]at hnum
     refine zD (xG Y Y) ?_
     refine yD ?_
     refine rA ?_
     refine zX Y ?_
     refine xK ?_
     refine zN ?_
     refine zK ?_
     refine zD (zI Y) ?_
     refine zD (zI Y) ?_
     refine zD (zL Y Y (Ad _ (by omega))) ?_
     refine zD (zO Y) ?_
     refine iL ?_
     refine zD (zO Y) ?_
     refine zD (zO Y) ?_
     refine yD ?_
     refine rA ?_
     refine wG ?_
     refine vM ?_
     refine yN ?_
     refine vM ?_
     refine sJ Y Y Y Y ?_
     rw[hnum]
     exact⟨Y,Y⟩
   rw[if_neg (by omega)]at hnum
   refine zD (zI Y) ?_
   refine iL ?_
   refine ops_no Y ?_
   refine ops_no Y ?_
   refine zD (xV Y Y) ?_
   refine yD ?_
   refine rA ?_
   refine zX Y ?_
   refine xK ?_
   refine zN ?_
   refine zK ?_
   refine zD (zI Y) ?_
   refine zD (zI Y) ?_
   refine zD (zL Y Y (Ad _ (by omega))) ?_
   refine zD (zO Y) ?_
   refine iL ?_
   refine zD (zO Y) ?_
   refine zD (zO Y) ?_
   refine yD ?_
   refine rA ?_
   refine wG ?_
   refine vM ?_
   refine yN ?_
   refine vM ?_
   refine sJ Y Y Y Y ?_
   rw[hnum]
   exact⟨Y,Y⟩
 rw[Gn (by omega),sX]at hnum
 refine yD ?_
 refine rA ?_
 refine zN ?_
 refine zX Y ?_
 refine tF ?_
 refine zU ?_
 refine zS ?_
 refine zN ?_
 refine zK ?_
 refine zD (zO Y) ?_
 refine zD (zO Y) ?_
 refine zD (zO Y) ?_
 refine yD ?_
 refine rA ?_
 refine wG ?_
 refine sJ Y Y Y Y ?_
 rw[hnum]
 exact⟨Y,Y⟩
set_option maxRecDepth 100000 in
set_option maxHeartbeats 4000000 in
theorem FQ (A:Option Addr) (b:List UInt8) (c:Nat) (most:Int) (w0:World) (hr:Rd w0 A b.length 1 (u8s b)) (hb:b.length≤211106232532992) (hlo:-9223372036854775808≤most) (hhi:most≤9223372036854775807):
 Aj 208 #[Ac A b.length c,Aa most] w0 (fun r w'=>r=.tuple #[Aa (yB b most).1,Aa (yB b most).2.1,Aa (yB b most).2.2]∧w'=w0):=by
 have hbd:=pO b
 refine zG Tryz.func208 Tryz.ntmps208 Y ?_
 refine eD ?_
 have H:=Hp.refl w0
 refine zN ?_
 refine zK ?_
 refine zD (zO Y) ?_
 refine zD (zO Y) ?_
 refine zD (zO Y) ?_
 refine yD ?_
 refine eD ?_
 refine zN ?_
 refine zK ?_
 refine zD (zI Y) ?_
 refine wR (mT U5 Y) (bG A b c _ hr hb) ?_
 refine zD (zI Y) ?_
 refine zD (xF Y Y) ?_
 refine CK ?_
 refine zD (xF Y Y) ?_
 refine zD (xF Y Y) ?_
 refine zD (zO Y) ?_
 refine zD (zO Y) ?_
 refine CK ?_
 refine zD (zO Y) ?_
 refine yD ?_
 refine eD ?_
 refine zN ?_
 refine zN ?_
 refine zK ?_
 refine zD (zI Y) ?_
 refine vP (xR Y Y) (fun hp17=>?_) (fun hp17=>?_)
 · have h0:(xQ b).2.2=0:=by omega
   refine zD (zI Y) ?_
   refine CK ?_
   refine sS Y ?_
   refine zD (zI Y) ?_
   refine sS Y ?_
   refine zD (zI Y) ?_
   refine CK ?_
   refine sS Y ?_
   refine zD (HK Y Y) ?_
   refine sS Y ?_
   refine zD (xN Lu Tryz.underlying3 Y (Ey _ (by omega))) ?_
   refine CK ?_
   refine sS Y ?_
   refine vP (yS Y Y) (fun hp23=>?_) (fun hp23=>?_)
   · skip
     refine zD (xG Y Y) ?_
     refine yD ?_
     refine eD ?_
     refine yP Y ?_
     refine zK ?_
     refine zD (zO Y) ?_
     refine yD ?_
     refine eD ?_
     refine zN ?_
     refine zN ?_
     refine zK ?_
     refine zD (zI Y) ?_
     refine lO (yR Y Y) (by omega) ?_
     refine yD ?_
     refine eD ?_
     refine yP Y ?_
     refine zN ?_
     refine zK ?_
     refine zD (zI Y) ?_
     refine zD (zO Y) ?_
     refine zD (zO Y) ?_
     refine zD (zO Y) ?_
     refine yD ?_
     refine eD ?_
     refine wG ?_
     refine sJ Y Y Y Y ?_
     refine⟨?_,Y⟩
     rw[kD h0 hp23]
     rfl
   refine zD (xG Y Y) ?_
   refine yD ?_
   refine eD ?_
   refine zX Y ?_
   refine xK ?_
   refine zN ?_
   refine zN ?_
   refine zK ?_
   refine zD (zI Y) ?_
   refine jC (yR Y Y) (by omega) ?_
   refine yD ?_
   refine eD ?_
   refine zX Y ?_
   refine xK ?_
   refine zN ?_
   refine zK ?_
   refine zD (zI Y) ?_
   refine zD (xN Tryz.underlying3 Lu Y (Ad _ (by omega))) ?_
   refine zD (zI Y) ?_
   refine zD (zO Y) ?_
   refine CK ?_
   refine zD (zO Y) ?_
   refine zD (zO Y) ?_
   refine yD ?_
   refine eD ?_
   refine wG ?_
   refine sJ Y Y Y Y ?_
   refine⟨?_,Y⟩
   rw[oL h0 hp23]
   rfl
 have h0:(xQ b).2.2≠0:=by omega
 refine zD (zI Y) ?_
 refine CK ?_
 refine ops_no Y ?_
 refine ops_no Y ?_
 refine CK ?_
 refine ops_no Y ?_
 refine ops_no Y ?_
 refine CK ?_
 refine ops_no Y ?_
 refine zD (xV Y Y) ?_
 refine yD ?_
 refine eD ?_
 refine zX Y ?_
 refine xK ?_
 refine zN ?_
 refine zN ?_
 refine zK ?_
 refine zD (zI Y) ?_
 refine lO (yR Y Y) (by omega) ?_
 refine yD ?_
 refine eD ?_
 refine yP Y ?_
 refine zN ?_
 refine zK ?_
 refine zD (zI Y) ?_
 refine zD (zO Y) ?_
 refine zD (zO Y) ?_
 refine zD (zO Y) ?_
 refine yD ?_
 refine eD ?_
 refine wG ?_
 refine sJ Y Y Y Y ?_
 refine⟨?_,Y⟩
 rw[kE h0]
 rfl
end Go.Proofs.YtjoeklkmnfaabaaGreat
namespace Go.Proofs.YtjoeklkmnfaabaaGreat
open Go Go.RowKit
set_option linter.unusedVariables false
set_option linter.unusedSimpArgs false
section more
variable {P:Program} {ds:List Deferred} {Q:vQ} {K:List Value→World→Prop} {all os:List Oper} {l:List Value} {w0 w w':World} {S S':List Nat} {es es':List Ent} {ty t:TypeId} {pos:String} {af:Array Edge} {d:Tmp} {v:Value} {op:Op}
 {zs cs:List Value} {sz bytes:Nat} {agg:Bool}
def wY (P:Program) (t:TypeId):Option (List (Nat×Nat)):=
 match P.underlying t with
 | some (.struct fields)=>fields.toList.mapM (fun f=>(P.info? f.type).map fun i=>(f.offset,i.size))
 | _=>none
theorem FN (h:xU P t zs sz bytes agg) {ps:List (Nat×Nat)} (hp:wY P t=some ps) {xs:List (Nat×Operand)} {vs:List (Nat×Value)} (hv:pM l xs=some vs) (hf:kA (fun i=>ps[i]?) zs vs=some cs):
 Ex P l (.build t xs.toArray) ty w (.value (.agg cs.toArray)) w:=fun _ _ _ _=>by
 obtain⟨i,z,d,hi,hz,hzs,_,_,hd,_⟩:=h.ex
 have hb:P.built t (xs.toArray.map fun(i,x)=>(i,rho l x)).toList=some cs.toArray:=by
  have hvs:(xs.toArray.map fun(i,x)=>(i,rho l x)).toList=vs:=by simpa using oE hv
  rw[hvs]
  unfold wY at hp
  rw[hd]at hp
  cases d with
  | struct fields=>
   simp only at hp
   have hf':=dX (fun i=>ps[i]?) vs zs cs hf
   have e:z.cells=zs.toArray:=by rw[← hzs]
   unfold Program.built
   rw[hi,hd]
   simp only[hz,hp,e]
   simpa using hf'
  | _=>cases hp
 have hr:=run_build (P:=P) w t _ _ hb
 simp only[execOp,Sem.run_bind]
 rw[hr]
 rfl
theorem Hp.then (H:Hp w0 w S es) (H':Hp w w' S' es'):Hp w0 w' (S++S') es':=by
 refine⟨H'.os.trans H.os,H'.tape.trans H.tape,H'.output.trans H.output,Ce H.size H'.size,?_,?_,H'.apart⟩
 · intro k hk hS
   simp only[Bq,not_or]at hS
   rw[H'.frame k (Nat.lt_of_lt_of_le hk H.size) hS.2]
   exact H.frame k hk hS.1
 intro i e he
 have:=H'.ent i e he
 unfold qX at this ⊢
 split
 · rename_i hn;rw[hn]at this;exact this
 rename_i g hg
 rw[hg]at this
 refine⟨this.1,?_⟩
 rcases this.2 with h | h
 · exact .inl (Qd _ h)
 exact .inr (Ce H.size h)
theorem Hp.keep (H:Hp w0 w S es) {g:Nat} {o:Obj} (hg:w0.heap[g]? =some o) (hS:g∉S):w.heap[g]? =some o:=by
 rw[H.frame g (Dw.1 hg).1 hS];exact hg
theorem aR {f:FuncId} {args:Array Value} {R:Nat→Nat→World→Prop} (hx:Ex P l op ty w (.enter f args) w) (hc:zP P f args w fun r w'=>∃ k e:Nat,r=.tuple #[.int .i64 k,.int .i64 e]∧R k e w')
 (h:∀ (k e:Nat) w',R k e w'→Ops P ds all K Q os (l.set d (.tuple #[.int .i64 k,.int .i64 e])) w'):Ops P ds all K Q (⟨some d,op,ty,pos,af,none⟩::os) l w:=
 tG hx hc fun r w' ⟨k,e,h1,h2⟩=>by rw[h1];exact h k e w' h2
theorem AY {f:FuncId} {args:Array Value} {R:Nat→Nat→World→Prop} {M:Nat→Nat→World→World→Prop} (hx:Ex P l op ty w (.enter f args) w) (hc:zP P f args w fun r w'=>∃ k e w2,R k e w2∧r=.bool (decide (e=0))∧M k e w2 w')
 (h:∀ (k e:Nat) w2 w',R k e w2→M k e w2 w'→Ops P ds all K Q os (l.set d (.bool (decide (e=0)))) w'):Ops P ds all K Q (⟨some d,op,ty,pos,af,none⟩::os) l w:=
 tG hx hc fun r w' ⟨k,e,w2,h1,h2,h3⟩=>by rw[h2];exact h k e w2 w' h1 h3
theorem aD {e:TypeId} {x:Operand} (ht:P.underlying t=some (.slice e)) (he:xU P e zs sz bytes agg) {A:Option Addr} {len c lo hi mx n m:Nat} {kl kh km:IntKind} {xl xh xm:Operand}
 (hx:ev l x=some (.slice A len c)) (hl:ev l xl=some (.int kl lo)) (hh:ev l xh=some (.int kh hi)) (hm:ev l xm=some (.int km mx)) (h:lo≤hi∧hi≤mx∧mx≤c) (hn:n=hi - lo) (hm':m=mx - lo):
 Ex P l (.slice t x (some xl) (some xh) (some xm)) ty w (.value (.slice (wH A lo mx sz) n m)) w:=by
 subst hn hm'
 have:=T3 (ty:=ty) (w:=w) ht he hx hl hh hm (by omega)
 simpa only[Int.toNat_natCast]using this
end more
section rdr
variable {w w':World} {gr:Nat} {A:Option Addr} {c:Nat} {b:List UInt8} {i e:Nat}
theorem cH (b:List UInt8) (i:Nat):u8s (b.drop i)=(u8s b).drop i:=by simp[u8s,List.map_drop]
theorem cG (b:List UInt8) (i:Nat):u8s (b.take i)=(u8s b).take i:=by simp[u8s,List.map_take]
theorem Rd.tail (h:Rd w A b.length 1 (u8s b)) (hi:i≤b.length):Rd w (wH A i b.length 1) (b.drop i).length 1 (u8s (b.drop i)):=by
 have:=h.cut i b.length b.length hi (Ak _) (Ak _)
 rw[cH,Bl]
 simp only[Cc]at this
 rw[Ej (by rw[Bl,zZ];exact Ak _)]at this
 unfold wH
 simp only[Cc]
 exact this
theorem Rd.mid {n v:Nat} (h:Rd w A b.length 1 (u8s b)) (hi:n+v≤b.length):Rd w (wH A n (n+v) 1) ((b.drop n).take v).length 1 (u8s ((b.drop n).take v)):=by
 have:=h.cut n (n+v) (n+v) (by omega) hi (Ak _)
 rw[cG,cH,Aw,Bl,Io (by omega)]
 simp only[Cc,Hr]at this
 unfold wH
 simp only[Cc]
 exact this
end rdr
section app
variable {P:Program} {ds:List Deferred} {Q:vQ} {K:List Value→World→Prop} {all os:List Oper} {l:List Value} {w0 w w':World} {S S':List Nat} {es es':List Ent} {ty t:TypeId} {pos:String} {af:Array Edge} {d:Tmp} {v:Value} {op:Op}
 {zs cs:List Value} {agg:Bool} {x y:Operand}
theorem lS {e:TypeId} (ht:P.underlying t=some (.slice e)) (he:xU P e zs 1 1 agg) (H:Hp w0 w S es) (i:Nat)
 {g:Option Nat} {cap:Nat} {L M:List UInt8} {sp:List Value} (hx:ev l x=some (.slice (hd g) L.length cap)) (hi:es[i]? =some (g,e,u8s L++sp)) (hc:cap*1≤(u8s L++sp).length) (hnc:L.length≤cap) (hcap:g=none→cap=0)
 {A:Option Addr} {c:Nat} (hy:ev l y=some (.slice A M.length c)) (hr:Rd w A M.length 1 (u8s M)) (hb:L.length+M.length≤211106232532992)
 (k:∀ w' g' cap' sp',Hp w0 w' S (es.set i (g',e,u8s (L++M)++sp'))→(L++M).length≤cap'→cap'*1≤(u8s (L++M)++sp').length→(g'=none→cap'=0)→Ops P ds all K Q os (l.set d (.slice (hd g') (L++M).length cap')) w'):
 Ops P ds all K Q (⟨some d,.call { callee:=.builtin .append,args:=#[x,y],argTypes:=#[t,t] },ty,pos,af,none⟩::os) l w:=by
 refine xC ht he (by decide) H i hx hi (yY L) hc hnc hcap hy hr (uJ M) (by omega) (by omega) (by decide) ?_
 intro w' g' cap' sp' H' h1 h2 h3
 rw[← Ae]
 rw[← Ae]at h2
 rw[← vH]at H' h1
 exact k w' g' cap' sp' H' h2 h1 h3
end app
theorem Hp.ne {w0 w:World} {S:List Nat} {es:List Ent} (H:Hp w0 w S es) {i j g g':Nat} {T T':TypeId} {cs cs':List Value} (h1:es[i]? =some (some g,T,cs)) (h2:es[j]? =some (some g',T',cs')) (hij:i≠j):g≠g':=by
 rintro rfl
 exact hij (H.apart i j _ _ g h1 h2 Y Y)
theorem Rd.mid2 {w:World} {A:Option Addr} {b:List UInt8} {n v c:Nat} (h:Rd w A b.length 1 (u8s b)) (hi:n+v≤b.length) (hc:b.length≤c):Rd w (wH A n c 1) ((n+v) - n) 1 (u8s ((b.drop n).take v)):=by
 have:=h.cut n (n+v) c (by omega) hi (by omega)
 rw[cG,cH]
 simp only[Cc,Hr]at this ⊢
 unfold wH
 simp only[Cc]
 exact this
theorem Rd.Y0 {w:World} {A:Option Addr} {b:List UInt8} {i c:Nat} (h:Rd w A b.length 1 (u8s b)) (hi:i≤b.length) (hc:b.length≤c):Rd w (wH A i c 1) (b.length - i) 1 (u8s (b.drop i)):=by
 have:=h.mid2 (n:=i) (v:=b.length - i) (c:=c) (by omega) hc
 rw[Hr,Ej (by rw[Bl];exact Ak _)]at this
 exact this
theorem eR (g o:Nat):(⟨g,0,none⟩:Addr).add o=⟨g,o,none⟩:=by
 unfold Addr.add
 split
 · rename_i h;rw[h]
 simp
abbrev Blk :=List UInt8
def bl (es:List Ent):List Nat:=es.filterMap (·.1)
theorem Hp.here {w0 w:World} {S:List Nat} {es:List Ent} (H:Hp w0 w S es):Hp w w (bl es) es:=by
 refine⟨Y,Y,Y,Ak _,fun _ _ _=>Y,?_,H.apart⟩
 intro i e he
 have h:=H.ent i e he
 unfold qX at h ⊢
 split
 · rename_i hn;rw[hn]at h;exact h
 rename_i g hg
 rw[hg]at h
 exact⟨h.1,.inl (Ew.2 ⟨e,Fe he,hg⟩)⟩
theorem JZ {es es':List Ent} {is:List Nat} (h:es'=is.map fun i=>es.getD i (none,0,[])):∀ b∈bl es',∃ i∈is,∃ T cs,es[i]? =some (some b,T,cs):=by
 intro b hb
 subst h
 obtain⟨e,he,hg⟩:=Ew.1 hb
 obtain⟨i,hi,rfl⟩:=Ik.1 he
 refine⟨i,hi,?_⟩
 cases h:es[i]? with
 | none=>rw[Ea,h]at hg;simp at hg
 | some x=>
  rw[Ea,h]at hg
  obtain⟨a,T,cs⟩:=x
  simp at hg
  exact⟨T,cs,by rw[hg]⟩
theorem lY {w0 w:World} {S:List Nat} {es:List Ent} (H:Hp w0 w S es) (i:Nat) {g:Option Nat} {T:TypeId} {cs:List Value} (he:es[i]? =some (g,T,cs)) (ha:∀ p,hd g=some p→p.block∉S):∀ p,hd g=some p→w0.heap.size≤p.block:=by
 intro p hp
 cases g with
 | none=>simp[hd]at hp
 | some x=>
  have h2:=ha p hp
  simp only[hd,Ig,Option.some.injEq]at hp
  subst hp
  rcases H.place he with h | h
  · exact absurd h h2
  exact h
theorem Ir (b o n:Nat):(⟨b,o,none⟩:Addr).add n=⟨b,o+n,none⟩:=by
 unfold Addr.add
 split
 · rename_i h;rw[h];rfl
 rfl
theorem dB :∀ (is:List Nat) (es:List Ent),(kill es is).length=es.length
 | [],_=>rfl
 | i::is,es=>by simp[kill,dB is es]
theorem E5 :∀ (is:List Nat) (es:List Ent) (j:Nat),j∉is→(kill es is)[j]? =es[j]?
 | [],_,_,_=>rfl
 | i::is,es,j,h=>by
  simp only[kill]
  rw[List.getElem?_set_ne (fun e=>h (by simp[e])),E5 is es j (fun hh=>h (Eu _ hh))]
theorem vX (a b:List Ent):bl (a++b)=bl a++bl b:=by simp[bl]
theorem Hp.Du {w0 w w':World} {S:List Nat} {es es1 es2:List Ent} (H:Hp w0 w S es) (is:List Nat) (h1:es1=is.map fun i=>es.getD i (none,0,[])) (H':Hp w w' (bl es1) es2):Hp w0 w' S (kill es is++es2):=H.call H' is (JZ h1)
section
variable {w0 w w':World} {S S':List Nat} {es es' es1 es2 R:List Ent}
theorem Hp.sub (H:Hp w0 w S es) (φ:Nat→Nat) (h:∀ i e,es'[i]? =some e→es[φ i]? =some e∨(e.1=none∧e.2.2=[])) (hinj:∀ i j,i < es'.length→j < es'.length→φ i=φ j→i=j):Hp w0 w S es':=by
 refine⟨H.os,H.tape,H.output,H.size,H.frame,?_,?_⟩
 · intro i e he
   rcases h i e he with h1 | ⟨h1,h2⟩
   · exact H.ent _ e h1
   unfold qX;rw[h1];exact h2
 intro i j e f g hi hj he hf
 rcases h i e hi with h1 | ⟨h1,_⟩
 · rcases h j f hj with h2 | ⟨h2,_⟩
   · exact hinj i j (lt_of_get hi) (lt_of_get hj) (H.apart _ _ e f g h1 h2 he hf)
   rw[h2]at hf;cases hf
 rw[h1]at he;cases he
theorem Hp.less (H:Hp w0 w S (es++R)):Hp w0 w S es:=
 H.sub id (fun i e he=> .inl (by rw[id,Di (lt_of_get he)];exact he)) (fun _ _ _ _ h=>h)
theorem Hp.front (H:Hp w0 w S (es1++R)) (H':Hp w w' (bl es1) es2):Hp w0 w' S (es2++R):=by
 have hS:∀ b∈bl es1,∃ i∈List.range es1.length,∃ T cs,(es1++R)[i]? =some (some b,T,cs):=by
  intro b hb
  obtain⟨⟨g,T,cs⟩,he,hg⟩:=Ew.1 hb
  obtain⟨i,hi⟩:=Dh he
  have hlt:=lt_of_get hi
  simp only at hg
  subst hg
  exact⟨i,List.mem_range.2 hlt,T,cs,by rw[Di hlt];exact hi⟩
 have hC:=H.call H' (List.range es1.length) hS
 have hlen:(kill (es1++R) (List.range es1.length)).length=es1.length+R.length:=by rw[dB];simp
 refine hC.sub (fun i=>if i < es2.length then es1.length+R.length+i else es1.length+(i - es2.length)) ?_ ?_
 · intro i e he
   split
   · rename_i h
     left
     rw[Eb (by omega),hlen,Hr]
     rwa [Di h]at he
   rename_i h
   left
   rw[Eb (by omega)]at he
   have:=lt_of_get he
   rw[Di (by omega),E5 _ _ _ (by simp),Eb (by omega),Hr]
   exact he
 intro i j hi hj h
 simp only[Ae]at hi hj
 split at h <;>split at h <;>omega
theorem Hp.all (HB:Hp w0 w S es) (H:Hp w w' (bl es) es'):Hp w0 w' S es':=by
 have:=Hp.front (R:=[]) (by simpa using HB) H
 simpa using this
theorem Ih {b:Nat} (hb:b∈bl es1):b∈bl (es1++R):=by rw[vX];exact Oj _ hb
theorem Hp.Xw (H:Hp w0 w S es) (o:Obj):Hp w0 (w.alloc o) S es:=by
 refine⟨H.os,H.tape,H.output,?_,?_,?_,H.apart⟩
 · have:=H.size;simp;omega
 · intro k hk hS
   rw[heap_alloc_old w _ (by have:=H.size;omega)]
   exact H.frame k hk hS
 intro i e he
 have h:=H.ent i e he
 unfold qX at h ⊢
 split
 · rename_i hn;rw[hn]at h;exact h
 rename_i g hg
 rw[hg]at h
 exact⟨by rw[heap_alloc_old w _ (H.Wu he hg)];exact h.1,h.2⟩
theorem qE (H:Hp w0 w S (es1++R)) {i:Nat} {g:Option Nat} {T:TypeId} {cs:List Value} (he:R[i]? =some (g,T,cs)):∀ p,hd g=some p→p.block∉bl es1:=by
 intro p hp hb
 obtain⟨⟨g2,T2,cs2⟩,hm,hg⟩:=Ew.1 hb
 obtain⟨j,hj⟩:=Dh hm
 simp only at hg
 subst hg
 cases g with
 | none=>simp[hd]at hp
 | some x=>
  simp only[hd,Ig,Option.some.injEq]at hp
  subst hp
  have hjl:=lt_of_get hj
  have:=H.apart j (es1.length+i) _ _ x (by rw[Di hjl];exact hj) (by rw[Eb (by omega),Hr];exact he) rfl rfl
  omega
theorem Hp.Au (H:Hp w0 w S es) (H':Hp w w' [] es2):Hp w0 w' S es:=(H.call0 H').less
end
theorem oM {w0 w:World} {S:List Nat} {es:List Ent} (H:Hp w0 w S es) {b:Nat} (hb:b∈bl es):b < w.heap.size:=by
 obtain⟨⟨g,T,cs⟩,he,hg⟩:=Ew.1 hb
 obtain⟨i,hi⟩:=Dh he
 simp only at hg
 subst hg
 exact H.lt hi
theorem vK {w0 w:World} {S:List Nat} {es:List Ent} {i:Nat} {g:Option Nat} {T:TypeId} {cs:List Value} (H:Hp w0 w S es) (he:es[i]? =some (g,T,cs)) (h:0 < cs.length):∃ k,g=some k:=by
 cases g with
 | some k=>exact⟨k,rfl⟩
 | none=>
  have h1:=H.ent i _ he
  change cs=[]at h1
  subst h1
  cases h
theorem bl_place {w0 w:World} {S:List Nat} {es:List Ent} (H:Hp w0 w S es):∀ b∈bl es,b∈S∨w0.heap.size≤b:=by
 intro b hb
 obtain⟨e,he,hg2⟩:=Ew.1 hb
 obtain⟨i,hi⟩:=Dh he
 obtain⟨g',T,cs⟩:=e
 simp only at hg2
 subst hg2
 exact H.place hi
theorem sP {w0 w:World} {S:List Nat} {es:List Ent} (H:Hp w0 w S es):∀ b∈bl es,∃ arr T z,w.heap[b]? =some (.cells arr T z):=by
 intro b hb
 obtain⟨e,he,hg2⟩:=Ew.1 hb
 obtain⟨i,hi⟩:=Dh he
 obtain⟨g',T,cs⟩:=e
 simp only at hg2
 subst hg2
 exact⟨_,_,_,H.at hi⟩
theorem Fa {w0 w:World} {S:List Nat} {es:List Ent} (H:Hp w0 w S es) {i:Nat} {g:Nat} {T:TypeId} {cs:List Value} (hi:es[i]? =some (some g,T,cs)) {is:List Nat} (hn:i∉is):g∉bl (is.map fun j=>es.getD j (none,0,[])):=by
 intro hb
 obtain⟨j,hj,T',cs',hj2⟩:=JZ rfl _ hb
 have:=H.apart i j _ _ g hi hj2 rfl rfl
 subst this
 exact hn hj
theorem Hw {w0 w:World} {S:List Nat} {es:List Ent} {is:List Nat} (_:Hp w0 w S es):∀ p∈bl (is.map fun i=>es.getD i (none,0,[])),p∈bl es:=by
 intro p hp
 obtain⟨i,_,T,cs,h⟩:=JZ rfl p hp
 exact Ew.2 ⟨_,Fe h,Y⟩
theorem Hp.drewW (w:World):Hp w { w with drawn:=w.drawn+1 } [] []:=(Hp.refl w).drew
theorem Hp.Af {w0 w:World} {S:List Nat} {es:List Ent} (H:Hp w0 w S es):Hp w0 w S []:=H.pick [] (by simp)
theorem Hp.right {w0 w:World} {S:List Nat} {a b:List Ent} (H:Hp w0 w S (a++b)):Hp w0 w S b:=by
 have key:∀ (i:Nat) (e:Ent),b[i]? =some e→(a++b)[a.length+i]? =some e:=fun i e h=>by rw[Eb (by omega),Hr];exact h
 refine⟨H.os,H.tape,H.output,H.size,H.frame,fun i e he=>H.ent _ e (key i e he),fun i j e f g hi hj h1 h2=>?_⟩
 have:=H.apart _ _ e f g (key i e hi) (key j f hj) h1 h2
 omega
section laws
variable {P:Program} {ds:List Deferred} {Q:vQ} {K:List Value→World→Prop} {all os:List Oper} {l:List Value} {w0 w w':World} {S S':List Nat} {es es':List Ent} {ty t:TypeId} {pos:String} {af:Array Edge} {d:Tmp} {v:Value} {op:Op}
 {x y:Operand} {zs cs:List Value} {sz bytes:Nat} {agg:Bool}
theorem uR {e:TypeId} {k:IntKind} {n:Int} (ht:P.underlying t=some (.slice e)) (he:xU P e zs sz bytes agg) {b o len c i:Nat} (hx:ev l x=some (.slice (some ⟨b,o,none⟩) len c)) (hy:ev l y=some (.int k n)) (hn:n=(i:Int)) (hi:i < len):
 Ex P l (.indexAddr t x y) ty w (.value (.pointer (some ⟨b,o+i*sz,none⟩))) w:=by
 have h:=eN (ty:=ty) (w:=w) ht he hx hy hn hi rfl
 rwa [Ir]at h
theorem jB {e:TypeId} (ht:P.underlying t=some (.slice e)) (he:xU P e zs sz bytes agg) (H:Hp w0 w S es) {k1 k2:IntKind} {n c:Nat} (hx:ev l x=some (.int k1 n)) (hy:ev l y=some (.int k2 c))
 (hnc:n≤c) (hb:bytes*c≤281474976710656) (h63:c≤9223372036854775807)
 (k:∀ w' g,Hp w0 w' S (es++[(some g,e,initL zs c)])→g=w.heap.size→Ops P ds all K Q os (l.set d (.slice (hd (some g)) n c)) w'):Ops P ds all K Q (⟨some d,.makeSlice t x y,ty,pos,af,none⟩::os) l w:=by
 obtain⟨i,z',d',hi,hz,hzs,hsz,hby,hd',_⟩:=he.ex
 have H':=H.alloc e (initL zs c)
 refine zD (w':=w.alloc (.cells (initL zs c).toArray e)) ?_ (k _ _ H' Y)
 intro _ _ _ _
 have hr:=run_make (P:=P) w t e i z' ht hi hz k1 k2 n c (by omega) (by omega) (by rw[hby];omega) (by omega)
 have hc:madeCells z'.cells (c*i.size)=(initL zs c).toArray:=by
  have hcl:z'.cells=zs.toArray:=by rw[← hzs]
  rw[hsz,← he.len,hcl,← dS]
  rfl
 simp only[Int.toNat_natCast]at hr
 simp[execOp,zW hx,zW hy,hr,hc]
theorem QB {v:Value} (hl:v.cells.toList.length=sz) (hz:zs.length=sz):kA (fun i=>some (i*sz,sz)) (initL zs 1) [(0,v)]=some v.cells.toList:=by
 have h1:(initL zs 1).length=sz:=by rw[wO,Nat.one_mul,hz]
 simp only[kA,Jr]
 rw[decide_eq_true hl,decide_eq_true (by omega)]
 simp only[zJ,Ba]
 congr 1
 rw[List.take_zero,Gp,Gn (by omega),Dt]
theorem bF {e:TypeId} (ht:P.underlying t=some (.slice e)) (he:xU P e zs sz bytes agg) (H:Hp w0 w S es) {A0:Option Addr} {n cap:Nat} {xs:List Value} (hx:ev l x=some (.slice A0 n cap)) (hrx:Rd w A0 n sz xs)
 {A:Option Addr} {m c:Nat} {ys:List Value} (hy:ev l y=some (.slice A m c)) (hr:Rd w A m sz ys) (hg:cap < n+m) (h63:n+m≤9223372036854775807) (hb:(n+m)*bytes≤211106232532992) (hb2:bytes≤1048576)
 (k:∀ w' g cap' sp',Hp w0 w' S (es++[(some g,e,(xs++ys)++sp')])→cap'*sz≤((xs++ys)++sp').length→n+m≤cap'→Ops P ds all K Q os (l.set d (.slice (hd (some g)) (n+m) cap')) w'):
 Ops P ds all K Q (⟨some d,.call { callee:=.builtin .append,args:=#[x,y],argTypes:=#[t,t] },ty,pos,af,none⟩::os) l w:=by
 obtain⟨inf,z,dd,hinf,hz,hzs,rfl,rfl,_,_⟩:=he.ex
 have hzsz:z.cells.size=zs.length:=by rw[← hzs];simp
 have hfit:=XG hg hb hb2
 have first:∀ {A:Option Addr} {n c:Nat} {xs:List Value},Rd w A n inf.size xs→(Builtin.firstCells inf.size n (.slice A n c)).run P w.drew=.ok xs.toArray w.drew:=by
  intro A n c xs hr
  cases A with
  | none=>
   have:=hr.nil rfl
   subst this
   have hys:xs=[]:=Ee (by simpa using hr.len)
   subst hys
   exact run_firstCells_none _ _ _ _ _
  | some a=>exact run_firstCells_some _ inf.size n a n c xs hr.len (fun j u hu=>hr.cells a rfl j u hu)
 have hfo:=first (c:=cap) hrx
 have hfc:=first (c:=c) hr
 have hn':¬(n+m≤cap):=by omega
 have h63':¬(9223372036854775807 < ((n:Int)+(m:Int))):=by omega
 have h48':¬(281474976710656 < Builtin.nextslicecap (n+m) cap*inf.bytes):=by omega
 have hge:=grownCap_ge w (n+m) cap e
 have hrun:(Builtin.append_ #[t,t] ty #[.slice A0 n cap,.slice A m c]).run P w=
  .ok (.slice (some ⟨w.heap.size,0,none⟩) (n+m) (grownCap w (n+m) cap e))
   (w.drew.alloc (.cells ((xs++ys)++(Builtin.zeroCells z.cells (grownCap w (n+m) cap e - (n+m))).toList).toArray e)):=by
  simp[Builtin.append_,run_underlying ht,sizeOf,typeInfo,zeroValue,hinf,hz,Builtin.lenOf,hn',h63',h48',Question.forced,hfc,hfo,newRow,grownCap]
  congr 2
  apply Array.ext'
  simp
 have H2:=(H.drew).alloc e ((xs++ys)++(Builtin.zeroCells z.cells (grownCap w (n+m) cap e - (n+m))).toList)
 refine zD (w':=w.drew.alloc (.cells ((xs++ys)++(Builtin.zeroCells z.cells (grownCap w (n+m) cap e - (n+m))).toList).toArray e)) ?_ (k _ _ _ _ H2 ?_ hge)
 · intro _ _ _ _
   simp[execOp,resolve,invoke,builtin,zW hx,zW hy,hrun]
 simp only[Ae,hrx.len,hr.len,Array.length_toList,Builtin.zeroCells,Array.size_map,Array.size_range]
 rw[hzsz,he.len,← Dv,← Dv]
 exact Dp _ (by omega)
theorem qG {cs vs:List Value} (h:cs.length=vs.length):zJ cs 0 vs=vs:=by
 simp[zJ,h]
theorem sO {w0 w:World} {S:List Nat} {es:List Ent} {i g o:Nat} {T:TypeId} {cs vs:List Value} (H:Hp w0 w S es) (he:es[i]? =some (some g,T,cs)) (h:∀ j u,vs[j]? =some u→cs[o+j]? =some u):∀ j u,vs[j]? =some u→w.cell? ((⟨g,o,none⟩:Addr).add j)=some u:=by
 intro j u hu
 have e:(⟨g,o,none⟩:Addr).add j=⟨g,o+j,none⟩:=by
  unfold Addr.add
  split
  · rename_i h0;rw[h0];rfl
  rfl
 rw[e]
 exact H.cell he (h j u hu)
theorem AD (a b:Nat):((a:Int)).tmod (b:Int)=((a % b:Nat):Int):=rfl
end laws
section
variable {P:Program} {fn:Func} {l:List Value} {w w0:World} {R:Value→World→Prop} {zs:List Value} {sz bytes:Nat}
theorem uL {r1:Tmp} {ty:TypeId} (hr:fn.results=#[.cell r1 ty]) (ht:xU P ty zs sz bytes true) {g:Nat} {cs:List Value} (h1:nth l r1=some (.pointer (some ⟨g,0,none⟩))) (hl:cs.length=sz) (hc:∀ j u,cs[j]? =some u→w.cell? ((⟨g,0,none⟩:Addr).add j)=some u) (h:R (.agg cs.toArray) w):fin P fn R .ret l w:=by
 refine⟨.agg cs.toArray,?_,h⟩
 have hl2:=pA (P:=P) (w:=w) ht hl hc
 have hp:l[r1]? =some (.pointer (some ⟨g,0,none⟩)):=by rw[← pP];exact h1
 simp[results,hr,hp,asAddr,hl2]
theorem xS {r1 r2:Tmp} {ty:TypeId} (hr:fn.results=#[.cell r1 ty,.tmp r2]) (ht:xU P ty zs sz bytes true) {g:Nat} {cs:List Value} {v2:Value} (h1:nth l r1=some (.pointer (some ⟨g,0,none⟩))) (h2:nth l r2=some v2) (hl:cs.length=sz) (hc:∀ j u,cs[j]? =some u→w.cell? ((⟨g,0,none⟩:Addr).add j)=some u)
 (h:R (.tuple #[.agg cs.toArray,v2]) w):fin P fn R .ret l w:=by
 refine⟨.tuple #[.agg cs.toArray,v2],?_,h⟩
 have hl2:=pA (P:=P) (w:=w) ht hl hc
 have hp:l[r1]? =some (.pointer (some ⟨g,0,none⟩)):=by rw[← pP];exact h1
 rw[results_cell_tmp hr]
 rw[gQ h1,gQ h2]
 simp[asAddr,hl2]
end
theorem Hp.Ap {w0 w:World} {S:List Nat} {es:List Ent} {i g o:Nat} {T:TypeId} {cs us:List Value} (H:Hp w0 w S es) (he:es[i]? =some (some g,T,cs)) (hs:(cs.drop o).take us.length=us):∀ j u,us[j]? =some u→w.cell? ((⟨g,o,none⟩:Addr).add j)=some u:=
 sO H he fun j u hu=>by
  rw[← hs,Ic]at hu
  split at hu
  · rwa [Em]at hu
  cases hu
def Pl (sz:Nat) (ps:List (List Value)):Prop:=∀ p∈ps,p.length=sz
section
variable {sz i:Nat} {ps qs:List (List Value)} {p q:List Value}
theorem Pl.nil (sz:Nat):Pl sz []:=fun _ h=>by cases h
theorem Pl.at (h:Pl sz ps) (hi:ps[i]? =some p):p.length=sz:=h p (Fe hi)
theorem Pl.tail (h:Pl sz (p::ps)):Pl sz ps:=fun x hx=>h x (Eu _ hx)
theorem Pl.sub (h:Pl sz ps) (hs:∀ x∈qs,x∈ps):Pl sz qs:=fun x hx=>h x (hs x hx)
theorem Pl.app (h:Pl sz ps) (h2:Pl sz qs):Pl sz (ps++qs):=fun x hx=>(Bq.1 hx).elim (h x) (h2 x)
theorem Pl.one (h:p.length=sz):Pl sz [p]:=fun x hx=>by rw[Az.1 hx];exact h
theorem Pl.len :∀ {ps:List (List Value)},Pl sz ps→ps.flatten.length=ps.length*sz
 | [],_=>by simp
 | p::ps,h=>by
  rw[Ij,Ae,h p (by simp),Pl.len h.tail,Bj,Dv];omega
theorem Pl.Xq :∀ {ps:List (List Value)} (i:Nat),Pl sz ps→ps.flatten.drop (i*sz)=(ps.drop i).flatten
 | ps,0,_=>by simp
 | [],i+1,_=>by simp
 | p::ps,i+1,h=>by
  rw[Ij,List.drop_succ_cons,← Pl.Xq i h.tail,show(i+1)*sz=p.length+i*sz by rw[h p (by simp),Dv];omega,← Fq,List.drop_left]
theorem Pl.Vo :∀ {ps:List (List Value)} (i:Nat),Pl sz ps→ps.flatten.take (i*sz)=(ps.take i).flatten
 | ps,0,_=>by simp
 | [],i+1,_=>by simp
 | p::ps,i+1,h=>by
  rw[Ij,List.take_succ_cons,Ij,← Pl.Vo i h.tail,show(i+1)*sz=p.length+i*sz by rw[h p (by simp),Dv];omega,Oo,Hr,Ej (by omega)]
theorem Pl.part (h:Pl sz ps) (hi:ps[i]? =some p):(ps.flatten.drop (i*sz)).take sz=p:=by
 obtain⟨hl,rfl⟩:=Ec.1 hi
 rw[Pl.Xq i h,Ol hl,Ij,← h.at hi,List.take_left]
theorem Pl.get (h:Pl sz ps) (hi:ps[i]? =some p) {j:Nat} {u:Value} (hu:p[j]? =some u):ps.flatten[i*sz+j]? =some u:=by
 rw[← Em]
 rw[← h.part hi,Ic]at hu
 split at hu
 · exact hu
 cases hu
theorem Pl.set_ (h:Pl sz ps) (hi:i < ps.length) (hq:q.length=sz):zJ ps.flatten (i*sz) q=(ps.set i q).flatten:=by
 rw[zJ,h.Vo,hq,show i*sz+sz=(i+1)*sz by rw[Dv];omega,h.Xq,List.set_eq_take_append_cons_drop,if_pos hi,Kr,Ij,Bh]
theorem Pl.Ru (h:Pl sz ps) (hq:q.length=sz):Pl sz (ps.set i q):=fun x hx=>by
 rcases List.mem_or_eq_of_mem_set hx with hx | rfl
 · exact h x hx
 exact hq
theorem mC {cs sp vs:List Value} {o:Nat} (h:o+vs.length≤cs.length):zJ (cs++sp) o vs=zJ cs o vs++sp:=by
 unfold zJ
 rw[Oo,List.drop_append,show o - cs.length=0 by omega,show o+vs.length - cs.length=0 by omega]
 simp
theorem xI (h:∀ p∈ps,p.all (·.oneCell')=true):ps.flatten.all (·.oneCell')=true:=by
 rw[Et]
 intro x hx
 obtain⟨p,hp,hxp⟩:=List.mem_flatten.1 hx
 exact Et.1 (h p hp) x hxp
theorem Rd.elem {w:World} {a:Addr} {n:Nat} (h:Rd w (some a) n sz ps.flatten) (hp:Pl sz ps) (hi:ps[i]? =some p):∀ j u,p[j]? =some u→w.cell? ((a.add (i*sz)).add j)=some u:=fun j u hu=>by
 rw[tW]
 exact h.cells a Y _ u (hp.get hi hu)
theorem Hp.elem {w0 w:World} {S:List Nat} {es:List Ent} {k g:Nat} {T:TypeId} {sp:List Value} (H:Hp w0 w S es) (he:es[k]? =some (some g,T,ps.flatten++sp)) (hp:Pl sz ps) (hi:ps[i]? =some p):∀ j u,p[j]? =some u→w.cell? (((⟨g,0,none⟩:Addr).add (i*sz)).add j)=some u:=fun j u hu=>by
 rw[tW,Ir,Ba]
 exact H.cell he (by
  have h1:=hp.get hi hu
  rw[Di (lt_of_get h1)];exact h1)
end
def wC {α β:Type} (R:α→β→Prop):List α→List β→Prop
 | [],[]=>True
 | a::xs,b::ys=>R a b∧wC R xs ys
 | _,_=>False
section
variable {α β:Type} {R R':α→β→Prop}
theorem wC.len :∀ {xs:List α} {ys:List β},wC R xs ys→xs.length=ys.length
 | [],[],_=>rfl
 | _::_,_::_,h=>by rw[Bj,Bj,wC.len h.2]
theorem wC.imp (hh:∀ a b,R a b→R' a b):∀ {xs:List α} {ys:List β},wC R xs ys→wC R' xs ys
 | [],[],_=>trivial
 | _::_,_::_,h=>⟨hh _ _ h.1,wC.imp hh h.2⟩
theorem wC.app :∀ {xs xs':List α} {ys ys':List β},wC R xs ys→wC R xs' ys'→wC R (xs++xs') (ys++ys')
 | [],_,[],_,_,h2=>h2
 | _::_,_,_::_,_,h,h2=>⟨h.1,wC.app h.2 h2⟩
theorem wC.get :∀ {xs:List α} {ys:List β} {i:Nat} {b:β},wC R xs ys→ys[i]? =some b→∃ a,xs[i]? =some a∧R a b
 | [],[],_,_,_,hi=>by simp at hi
 | a::_,b::_,0,_,h,hi=>by simp only[Jq,Option.some.injEq]at hi;subst hi;exact⟨a,rfl,h.1⟩
 | _::_,_::_,i+1,_,h,hi=>wC.get (i:=i) h.2 (by simpa using hi)
theorem wC.getL :∀ {xs:List α} {ys:List β} {i:Nat} {a:α},wC R xs ys→xs[i]? =some a→∃ b,ys[i]? =some b∧R a b
 | [],[],_,_,_,hi=>by simp at hi
 | _::_,b::_,0,_,h,hi=>by simp only[Jq,Option.some.injEq]at hi;subst hi;exact⟨b,rfl,h.1⟩
 | _::_,_::_,i+1,_,h,hi=>wC.getL (i:=i) h.2 (by simpa using hi)
theorem wC.take :∀ {xs:List α} {ys:List β} (i:Nat),wC R xs ys→wC R (xs.take i) (ys.take i)
 | _,_,0,_=>by simp[wC]
 | [],[],_+1,_=>trivial
 | _::_,_::_,i+1,h=>⟨h.1,wC.take i h.2⟩
theorem wC.drop :∀ {xs:List α} {ys:List β} (i:Nat),wC R xs ys→wC R (xs.drop i) (ys.drop i)
 | _,_,0,h=>h
 | [],[],_+1,_=>trivial
 | _::_,_::_,i+1,h=>wC.drop i h.2
theorem wC.set :∀ {xs:List α} {ys:List β} (i:Nat) {a:α} {b:β},wC R xs ys→R a b→wC R (xs.set i a) (ys.set i b)
 | [],[],_,_,_,_,_=>trivial
 | _::_,_::_,0,_,_,h,h2=>⟨h2,h.2⟩
 | _::_,_::_,i+1,_,_,h,h2=>⟨h.1,wC.set i h.2 h2⟩
theorem wC.filter {f:α→Bool} {g:β→Bool} (hfg:∀ a b,R a b→f a=g b):∀ {xs:List α} {ys:List β},wC R xs ys→wC R (xs.filter f) (ys.filter g)
 | [],[],_=>trivial
 | a::xs,b::ys,h=>by
  rw[Gu,Gu,hfg a b h.1]
  split
  · exact⟨h.1,wC.filter hfg h.2⟩
  exact wC.filter hfg h.2
theorem wC.one {a:α} {b:β} (h:R a b):wC R [a] [b]:=⟨h,trivial⟩
end
section laws
variable {P:Program} {ds:List Deferred} {Q:vQ} {K:List Value→World→Prop} {all os:List Oper} {l:List Value} {w0 w w':World} {S S':List Nat} {es es':List Ent} {ty t:TypeId} {pos:String} {af:Array Edge} {d:Tmp} {v:Value} {op:Op}
 {x y:Operand} {zs cs:List Value} {sz bytes:Nat} {agg:Bool}
theorem uH {e:TypeId} (ht:P.underlying t=some (.slice e)) (he:xU P e zs sz bytes agg) (H:Hp w0 w S es) (i:Nat) {g o n m dc sc:Nat} {a:Addr} {T:TypeId} {cs vs:List Value} (hx:ev l x=some (.slice (some ⟨g,o,none⟩) n dc)) (hy:ev l y=some (.slice (some a) m sc))
 (hi:es[i]? =some (some g,T,cs)) (hn:vs.length=Nat.min m n*sz) (hsrc:∀ j u,vs[j]? =some u→w.cell? (a.add j)=some u) (hfit:o+vs.length≤cs.length) (h1:vs.all (·.oneCell')=true)
 (k:∀ w',Hp w0 w' S (es.set i (some g,T,zJ cs o vs))→Ops P ds all K Q os (l.set d (.int .i64 ((Nat.min m n:Nat):Int))) w'):
 Ops P ds all K Q (⟨some d,.call { callee:=.builtin .copy,args:=#[x,y],argTypes:=#[t,t] },ty,pos,af,none⟩::os) l w:=by
 obtain⟨inf,z,dd,hinf,hz,hzs,rfl,hby,_,_⟩:=he.ex
 have hl:=run_loadCells_list (P:=P) w a vs hsrc
 rw[hn]at hl
 have hst:=run_storeCells_at P g o T vs 0 cs.toArray w (H.at hi) (by simpa using hfit) (fun v hv=>Et.1 h1 v hv)
 have e1:(cs.toArray.toList.take (o+0)++vs++cs.toArray.toList.drop (o+0+vs.length)).toArray=(zJ cs o vs).toArray:=by simp[zJ]
 rw[e1]at hst
 refine zD (w':=w.setRow g (zJ cs o vs).toArray) ?_ (k _ (H.setRow hi _))
 intro _ _ _ _
 simp[execOp,resolve,invoke,builtin,Builtin.copy_,run_underlying ht,Builtin.lenOf,Builtin.firstCells,sizeOf,typeInfo,hinf,hl,hst,zW hx,zW hy,goInt]
theorem eA {e:TypeId} (ht:P.underlying t=some (.slice e)) (he:xU P e zs sz bytes agg) (H:Hp w0 w S es) (i:Nat) {g o n c:Nat} {T:TypeId} {cs:List Value} (hx:ev l x=some (.slice (some ⟨g,o,none⟩) n c))
 (hi:es[i]? =some (some g,T,cs)) (hfit:o+n*sz≤cs.length) (h1:zs.all (·.oneCell')=true)
 (k:∀ w',Hp w0 w' S (es.set i (some g,T,zJ cs o (initL zs n)))→Ops P ds all K Q os l w'):
 Ops P ds all K Q (⟨none,.call { callee:=.builtin .clear,args:=#[x],argTypes:=#[t] },ty,pos,af,none⟩::os) l w:=by
 obtain⟨z,hz,hr⟩:=oR he
 have hlen:zs.length=sz:=he.len
 have hzc:z.cells=zs.toArray:=by rw[← hz]
 have hil:(initL zs n).length=n*sz:=by rw[wO,hlen]
 have h1':∀ v∈initL zs n,v.oneCell'=true:=by
  intro v hv
  obtain⟨q,hq,hvq⟩:=List.mem_flatten.1 hv
  rw[(List.mem_replicate.1 hq).2]at hvq
  exact Et.1 h1 v hvq
 have hst:=run_storeCells_at P g o T (initL zs n) 0 cs.toArray w (H.at hi) (by simpa[hil]using hfit) h1'
 have e1:(cs.toArray.toList.take (o+0)++initL zs n++cs.toArray.toList.drop (o+0+(initL zs n).length)).toArray=(zJ cs o (initL zs n)).toArray:=by simp[zJ]
 rw[e1]at hst
 have hzz:(Builtin.zeroCells z.cells n).toList=initL zs n:=by
  rw[hzc]
  have h2:=dS zs n
  rw[Ib]at h2
  unfold Builtin.zeroCells
  rw[Ib,h2]
 refine wpList_plain Y fun K' hK=>?_
 unfold Oper.wp
 rw[sA]
 have hx2:(execOp (rho l) ⟨none,.call { callee:=.builtin .clear,args:=#[x],argTypes:=#[t] },ty,pos,af,none⟩).run P w=.ok (.value (.tuple #[])) (w.setRow g (zJ cs o (initL zs n)).toArray):=by
  cases n with
  | zero=>
   have h0:initL zs 0=[]:=by simp[initL]
   have h3:zJ cs o []=cs:=by simp[zJ]
   have hs:=setRow_self w g cs.toArray T (0,0) (H.at hi)
   rw[h0,h3,hs]
   simp[execOp,resolve,invoke,builtin,Builtin.clear_,run_underlying ht,zW hx]
  | succ n=>
   simp[execOp,resolve,invoke,builtin,Builtin.clear_,run_underlying ht,zW hx,hr,hzz,hst]
 rw[hx2,Oper.upon_value]
 exact hK _ _ (k _ (H.setRow hi _))
theorem lR {e tn:TypeId} {kn kq:IntKind} (ht:P.underlying t=some (.slice e)) (htn:P.underlying tn=some (.int kn)) (he:xU P e zs sz bytes agg) (hsz:0 < sz) (H:Hp w0 w S es) {A0:Option Addr} {n cap m:Nat} {xs:List Value} (hx:ev l x=some (.slice A0 n cap)) (hrx:Rd w A0 n sz xs)
 (hy:ev l y=some (.int kq (m:Int))) (h0:0 < m) (hg:cap < n+m) (h63:n+m≤9223372036854775807) (hb:(n+m)*bytes≤211106232532992) (hb2:bytes≤1048576)
 (k:∀ w' g cap' sp',Hp w0 w' S (es++[(some g,e,(xs++initL zs m)++sp')])→cap'*sz≤((xs++initL zs m)++sp').length→n+m≤cap'→Ops P ds all K Q os (l.set d (.slice (hd (some g)) (n+m) cap')) w'):
 Ops P ds all K Q (⟨some d,.call { callee:=.builtin .append,args:=#[x,y],argTypes:=#[t,tn] },ty,pos,af,none⟩::os) l w:=by
 obtain⟨inf,z,dd,hinf,hz,hzs,rfl,rfl,_,_⟩:=he.ex
 have hzsz:z.cells.size=zs.length:=by rw[← hzs];simp
 have hlen:zs.length=inf.size:=he.len
 have hzc:z.cells=zs.toArray:=by rw[← hzs]
 have hfit:=XG hg hb hb2
 have hold:(Builtin.firstCells inf.size n (.slice A0 n cap)).run P w.drew=.ok xs.toArray w.drew:=by
  cases A0 with
  | none=>
   have hn0:=hrx.nil rfl
   subst hn0
   have hxs:xs=[]:=Ee (by simpa using hrx.len)
   subst hxs
   exact run_firstCells_none _ _ _ _ _
  | some a=>exact run_firstCells_some _ inf.size n a n cap xs hrx.len (fun j u hu=>hrx.cells a rfl j u hu)
 have hrun:=Lib.run_append_grow_zeros (P:=P) w t tn ty e inf z kq kn ht htn hinf hz A0 n cap xs hold m h0 hsz hg (by omega) (Ce (Ce (Dp _ (Nat.le_add_left m n)) hb) (by omega)) hfit
 have hge:=grownCap_ge w (n+m) cap e
 have hzm:∀ q,Builtin.zeroCells z.cells q=(initL zs q).toArray:=by
  intro q
  rw[hzc]
  have h2:=dS zs q
  rw[Ib]at h2
  unfold Builtin.zeroCells
  rw[Ib,h2]
 rw[hzm,hzm]at hrun
 have H2:=(Hp.drew H).alloc e ((xs++initL zs m)++initL zs (grownCap w (n+m) cap e - (n+m)))
 refine zD (w':=w.drew.alloc (.cells ((xs++initL zs m)++initL zs (grownCap w (n+m) cap e - (n+m))).toArray e)) ?_ (k _ w.heap.size (grownCap w (n+m) cap e) (initL zs (grownCap w (n+m) cap e - (n+m))) H2 ?_ hge)
 · intro _ _ _ _
   have e2:(xs.toArray++(initL zs m).toArray++(initL zs (grownCap w (n+m) cap e - (n+m))).toArray)=((xs++initL zs m)++initL zs (grownCap w (n+m) cap e - (n+m))).toArray:=by simp
   rw[e2]at hrun
   simp[execOp,resolve,invoke,builtin,zW hx,zW hy,hrun]
 simp only[Ae,wO,hrx.len,hlen,← Dv]
 exact Dp _ (by omega)
theorem oU {f:FuncId} {args:Array Value} {p:Prop} {_:Decidable p} {R:World→Prop} (hx:Ex P l op ty w (.enter f args) w) (hc:zP P f args w fun r w'=>r=.bool (decide p)∧R w')
 (h1:p→∀ w',R w'→Ops P ds all K Q os (l.set d (.bool true)) w') (h2:¬p→∀ w',R w'→Ops P ds all K Q os (l.set d (.bool false)) w'):Ops P ds all K Q (⟨some d,op,ty,pos,af,none⟩::os) l w:=
 pC hx hc fun w' hr=>by
  by_cases hp:p
  · rw[decide_eq_true hp];exact h1 hp w' hr
  rw[decide_eq_false hp];exact h2 hp w' hr
theorem oT {f:FuncId} {args:Array Value} {p:Prop} {_:Decidable p} {R:World→Prop} (hx:Ex P l op ty w (.enter f args) w) (hc:zP P f args w fun r w'=>r=.bool (decide p)∧R w')
 (hp:p) (h1:∀ w',R w'→Ops P ds all K Q os (l.set d (.bool true)) w'):Ops P ds all K Q (⟨some d,op,ty,pos,af,none⟩::os) l w:=
 oU hx hc (fun _=>h1) fun h=>absurd hp h
theorem bt {p:Prop} {_:Decidable p} (h:p):Value.bool true=.bool (decide p):=by rw[decide_eq_true h]
theorem bf {p:Prop} {_:Decidable p} (h:¬p):Value.bool false=.bool (decide p):=by rw[decide_eq_false h]
theorem mE {f:FuncId} {fn:Func} {e:Array Value→Sem Value} {xs:List Operand} {vs:List Value} {ats:Array TypeId} (hf:P.funcs[f]? =some fn) (hname:(fn.name== "runtime.NumGoroutine")=false) (hb:fn.body.isNone=true) (hn:Extern.findNext fn=none) (he:Extern.find fn=some e)
 (hx:evs l xs=some vs) (hr:(e vs.toArray).run P w=.ok v w) (h:Ops P ds all K Q os (l.set d v) w):
 Ops P ds all K Q (⟨some d,.call { callee:=.value (.func f),args:=xs.toArray,argTypes:=ats },ty,pos,af,none⟩::os) l w:=by
 refine zD ?_ h
 intro _ _ _ _
 have hq:=run_callFunc_extern hf hname hb hn he vs.toArray w
 have hr2:rho l (.func f)=.func (.func f) #[] #[]:=rfl
 simp only[hr,Result.andThen_ok]at hq
 simp[execOp,resolve,Deferred.ofValue,invoke,mA hx,hq,hr2]
theorem dA (H:Hp w0 w S es) (k:∀ w' g,Hp w0 w' S es→w'.heap[g]? =some (.map #[] 0)→g=w.heap.size→Ops P ds all K Q os (l.set d (.map (some g))) w'):Ops P ds all K Q (⟨some d,.makeMap t none,ty,pos,af,none⟩::os) l w:=by
 refine zD (w':=w.alloc (.map #[] 0)) ?_ (k _ w.heap.size (H.Xw _) (heap_alloc_new w _) Y)
 intro _ _ _ _
 simp[execOp,Instr.makeMap,newObj,Sem.run]
def mW (w:World) (r:Nat):Prop:=∃ es clock,w.heap[r]? =some (.map es clock)∧∀ x∈es.toList,MapKept.IsKey (.int .i64) x.key
theorem mW.not {w:World} {r:Nat} (h:mW w r):∀ arr T z,w.heap[r]?≠some (.cells arr T z):=by
 obtain⟨es,c,h,_⟩:=h
 intro arr T z h2
 rw[h]at h2
 cases h2
theorem mW.new {w:World} {r:Nat} (h:w.heap[r]? =some (.map #[] 0)):mW w r:=⟨_,_,h,fun x hx=>by cases hx⟩
theorem mW.to {w w':World} {S:List Nat} {es:List Ent} {r:Nat} (h:mW w r) (H:Hp w w' S es) (hr:r∉S):mW w' r:=by
 obtain⟨a,c,h1,h2⟩:=h
 exact⟨a,c,(H.frame r (Dw.1 h1).1 hr).trans h1,h2⟩
theorem Hp.putM (H:Hp w0 w S es) {r:Nat} {o:Obj} (hn:∀ arr T z,w.heap[r]?≠some (.cells arr T z)) (hr:w0.heap.size≤r):Hp w0 { w with heap:=w.heap.setIfInBounds r o } S es:=by
 refine⟨H.os,H.tape,H.output,by simpa using H.size,?_,?_,H.apart⟩
 · intro k hk hS
   have h1:¬r=k:=by omega
   rw[← H.frame k hk hS]
   simp[h1]
 intro i e he
 have h:=H.ent i e he
 unfold qX at h ⊢
 split
 · rename_i hg;rw[hg]at h;exact h
 rename_i g hg
 rw[hg]at h
 have h1:¬r=g:=fun hh=>hn _ _ _ (by rw[hh];exact h.1)
 exact⟨by rw[← h.1];simp[h1],h.2⟩
theorem jU {kt et:TypeId} {z:Operand} (hm:P.underlying t=some (.map kt et)) (hd:P.underlying kt=some (.int .i64)) (H:Hp w0 w S es) {r:Nat} {n:Int} (hx:ev l x=some (.map (some r))) (hy:ev l y=some (.int .i64 n)) (hz:ev l z=some v) (hI:mW w r) (hr:w0.heap.size≤r)
 (k:∀ w',Hp w0 w' S es→mW w' r→w'.heap.size=w.heap.size→Ops P ds all K Q os l w'):Ops P ds all K Q (⟨none,.mapUpdate t x y z,ty,pos,af,none⟩::os) l w:=by
 obtain⟨mes,clock,hb,hks⟩:=hI
 have hk:MapKept.IsKey (.int .i64) (.int .i64 n):=rfl
 have key:∃ o,(Instr.mapUpdate t (.map (some r)) (.int .i64 n) v).run P w=.ok () { w with heap:=w.heap.setIfInBounds r o }∧mW { w with heap:=w.heap.setIfInBounds r o } r:=by
  rcases MapKept.findNow_spec hk mes.toList 0 hks with ⟨h1,_⟩ | ⟨j,e,h1,h2,h3⟩
  · refine⟨.map (mes.push { key:=.int .i64 n,val:=v,born:=clock }) (clock+1),?_,_,_,(MapKept.heap_set hb).1,?_⟩
    · simp[Instr.mapUpdate,run_underlying hm,MapKept.run_getObj_map hb,MapKept.run_checkKey hd hk,MapKept.run_findKey hd h1,MapKept.run_setObj_map _ hb,Result.andThen]
    intro x hx
    simp only[Array.toList_push,Bq,Az]at hx
    rcases hx with hx | rfl
    · exact hks x hx
    exact hk
  have hj:mes[j]? =some e:=by simpa using h2
  refine⟨.map (mes.modify j fun e=>{ e with key:=.int .i64 n,val:=v }) clock,?_,_,_,(MapKept.heap_set hb).1,?_⟩
  · simp[Instr.mapUpdate,run_underlying hm,MapKept.run_getObj_map hb,MapKept.run_checkKey hd hk,MapKept.run_findKey hd h1,hj,h3,MapKept.run_keyThatStays hk,MapKept.run_setObj_map _ hb,Result.andThen]
  intro x hx
  obtain⟨i,hi⟩:=Dh hx
  rw[Array.getElem?_toList,Array.getElem?_modify]at hi
  split at hi
  · cases h5:mes[i]? with
    | none=>rw[h5]at hi;cases hi
    | some y=>rw[h5]at hi;simp only[Ig,Option.some.injEq]at hi;subst hi;exact hk
  exact hks x (by rw[Array.mem_toList_iff];exact Array.mem_of_getElem? hi)
 obtain⟨o,hrun,hI2⟩:=key
 refine ER ?_ (k _ (H.putM (fun arr T z h=>by rw[hb]at h;cases h) hr) hI2 (by simp))
 intro _ _ _ _
 simp[execOp,zW hx,zW hy,zW hz,hrun]
end laws
inductive Vf 
 | nil
 | p (i:Nat) (s:Vf)
 | o (i:Nat) (s:Vf)
 | two (i:Nat) (s:Vf) (j:Nat) (t:Vf)
def Vf.size :Vf→Nat
 | .nil=>0
 | .p _ s=>s.size+1
 | .o _ s=>s.size+1
 | .two _ s _ _=>s.size+1
def Vf.isNil :Vf→Bool
 | .nil=>true
 | _=>false
theorem Vf.nil_of {s:Vf} (h:s.isNil=true):s=.nil:=by cases s <;>first | rfl | cases h
section mix
variable {P:Program} {ds:List Deferred} {all:List Oper} {S:World→Prop} {K:List Value→World→Prop} {l:List Value} {w:World} {o:Oper} {i:Nat}
def pH (P:Program) (ds:List Deferred) (all:List Oper) (S:World→Prop) (K:List Value→World→Prop):Vf→List Value→World→Prop
 | .nil,l,w=>K l w
 | .p i s,l,w=>∃ o,all[i]? =some o∧lA P all S (pH P ds all S K s) o l w
 | .o i s,l,w=>∃ o,all[i]? =some o∧Ops P ds all (fun l' w'=>(s≠ .nil→S w')∧pH P ds all S K s l' w') (fun _ _ _=>False) [o] l w
 | .two i s j t,l,w=>(∃ o,all[i]? =some o∧Ops P ds all (fun l' w'=>(s≠ .nil→S w')∧pH P ds all S K s l' w') (fun _ _ _=>False) [o] l w)∧
  (∃ o,all[j]? =some o∧Ops P ds all (fun l' w'=>(t≠ .nil→S w')∧pH P ds all S K t l' w') (fun _ _ _=>False) [o] l w)
theorem tH (h:K l w):pH P ds all S K .nil l w:=h
theorem CO {s:Vf} (ho:all[i]? =some o) (h:lA P all S (pH P ds all S K s) o l w):pH P ds all S K (.p i s) l w:=⟨o,ho,h⟩
theorem OO {s:Vf} (ho:all[i]? =some o) (h:Ops P ds all (fun l' w'=>(s≠ .nil→S w')∧pH P ds all S K s l' w') (fun _ _ _=>False) [o] l w):pH P ds all S K (.o i s) l w:=⟨o,ho,h⟩
theorem sD {s t:Vf} {j:Nat} (h1:pH P ds all S K (.o i s) l w) (h2:pH P ds all S K (.o j t) l w):pH P ds all S K (.two i s j t) l w:=⟨h1,h2⟩
def Rf (ops:Array Oper) (z:Nat):Vf→Array Bool→Bool
 | .nil,listed=>(Region.ready .any ops listed).isEmpty
 | .p i s,listed=>decide (i < z) && (Region.ready .any ops listed).contains i && Region.free .any ops listed i && Rf ops z s (listed.setIfInBounds i true)
 | .o i s,listed=>((decide (i < z) && !s.isNil) || (decide (i=z) && s.isNil)) && decide (Region.ready .any ops listed=[i]) && Rf ops z s (listed.setIfInBounds i true)
 | .two i s j t,listed=>decide (i < z) && decide (j < z) && !s.isNil && !t.isNil && decide (s.size=t.size) && decide (Region.ready .any ops listed=[i,j]) && Rf ops z s (listed.setIfInBounds i true) && Rf ops z t (listed.setIfInBounds j true)
theorem eE {z:Nat} {s:Vf} {listed:Array Bool} (hd:s.isNil=false∨i=z) (h:∃ o,all[i]? =some o∧Ops P ds all (fun l' w'=>(s≠ .nil→S w')∧pH P ds all S K s l' w') (fun _ _ _=>False) [o] l w)
 (IH:∀ (l:List Value) (w:World),(s≠ .nil→S w)→pH P ds all S K s l w→oN P all.toArray (fun e a w'=>a.defers=ds∧uQ K (fun _ _ _=>False) e a.tmps.toList w') S z s.size (listed.setIfInBounds i true) ⟨l.toArray,ds⟩ w):
 wpOp P all.toArray (fun e a w'=>a.defers=ds∧uQ K (fun _ _ _=>False) e a.tmps.toList w') i (fun a' w'=>(i≠z→S w')∧oN P all.toArray (fun e a w'=>a.defers=ds∧uQ K (fun _ _ _=>False) e a.tmps.toList w') S z s.size (listed.setIfInBounds i true) a' w') ⟨l.toArray,ds⟩ w:=by
 obtain⟨o,ho,h⟩:=h
 unfold Ops wpList at h
 unfold wpOp
 rw[Gv,ho]
 simp only
 have hne:i≠z→s≠ .nil:=fun h1 h3=>by
  subst h3
  rcases hd with h2 | h2
  · cases h2
  exact h1 h2
 have ih:∀ (a:Act) w',(a.defers=ds∧(s≠ .nil→S w')∧pH P ds all S K s a.tmps.toList w')→((i≠z→S w')∧oN P all.toArray (fun e a w'=>a.defers=ds∧uQ K (fun _ _ _=>False) e a.tmps.toList w') S z s.size (listed.setIfInBounds i true) a w'):=by
  rintro⟨t,d⟩ w' ⟨hd,hS',h2⟩
  simp only at hd
  subst hd
  exact⟨fun h1=>hS' (hne h1),IH _ _ hS' h2⟩
 have hq:∀ (e:Exit) (a:Act) w',e≠ .normal→Exit.then (fun(a:Act) w'=>a.defers=ds∧(s≠ .nil→S w')∧pH P ds all S K s a.tmps.toList w') (fun _ a _=>a.defers=ds∧False) e a w'→(a.defers=ds∧uQ K (fun _ _ _=>False) e a.tmps.toList w'):=by
  intro e a w' he h
  cases e <;>first | exact absurd rfl he | exact h.2.elim
 split
 · rename_i hw
   rw[if_pos hw]at h
   rcases h with h | ⟨h1,a1,w1,h2⟩
   · exact .inl (Oper.wp_mono ih (lB hq h))
   exact .inr ⟨h1,a1,w1,hq _ _ _ (by simp) h2⟩
 rename_i hw
 rw[if_neg hw]at h
 exact ih _ _ h
theorem OP {z:Nat} (hsel:Region.noSelect all.toArray=true) (hs:Region.sinkB .any all.toArray z=true) (hz:z+1=all.toArray.size):∀ (s:Vf) (listed:Array Bool) (l:List Value) (w:World),(s≠ .nil→HeadInv .any all.toArray z listed)→Rf all.toArray z s listed=true→(s≠ .nil→S w)→pH P ds all S K s l w→
 oN P all.toArray (fun e a w'=>a.defers=ds∧uQ K (fun _ _ _=>False) e a.tmps.toList w') S z s.size listed ⟨l.toArray,ds⟩ w:=by
 intro s
 induction s with
 | nil=>intro listed l w _ hB _ h;exact⟨by simpa[Rf]using hB,rfl,h⟩
 | o i s IH=>
  intro listed l w inv hB hS h
  simp only[Rf,Ci,Bool.or_eq_true,decide_eq_true_eq,Bool.not_eq_true']at hB
  obtain⟨⟨hiz,hr⟩,hB'⟩:=hB
  have Ho:i∈Region.ready .any all.toArray listed:=by rw[hr];simp
  have hlast:s≠ .nil→i < z:=fun h=>by
   rcases hiz with h1 | h1
   · exact h1.1
   exact absurd (Vf.nil_of h1.2) h
  refine⟨fun h0=>(by rw[hr]at h0;cases h0),fun k hk=>?_⟩
  have hki:k=i:=by rw[hr]at hk;simpa using hk
  rw[hki]
  exact eE (by rcases hiz with h1 | h1;exact .inl h1.2;exact .inr h1.1) h fun l w hS' h2=>IH _ _ _ (fun h1=>(inv (by simp)).set Ho (hlast h1)) hB' hS' h2
 | two i s j t IH1 IH2=>
  intro listed l w inv hB hS h
  simp only[Rf,Ci,decide_eq_true_eq,Bool.not_eq_true']at hB
  obtain⟨⟨⟨⟨⟨⟨⟨hiz,hjz⟩,hsn⟩,htn⟩,hsz⟩,hr⟩,hB1⟩,hB2⟩:=hB
  have hri:i∈Region.ready .any all.toArray listed:=by rw[hr];simp
  have hrj:j∈Region.ready .any all.toArray listed:=by rw[hr];simp
  refine⟨fun h0=>(by rw[hr]at h0;cases h0),fun k hk=>?_⟩
  have hk2:k=i∨k=j:=by rw[hr]at hk;simpa using hk
  rcases hk2 with rfl | rfl
  · exact eE (.inl hsn) h.1 fun l w hS' h2=>IH1 _ _ _ (fun _=>(inv (by simp)).set hri hiz) hB1 hS' h2
  rw[hsz]
  exact eE (.inl htn) h.2 fun l w hS' h2=>IH2 _ _ _ (fun _=>(inv (by simp)).set hrj hjz) hB2 hS' h2
 | p i s IH=>
  rintro listed l w inv hB hS ⟨o,ho,v,hv,hK⟩
  simp only[Rf,Ci,decide_eq_true_eq]at hB
  obtain⟨⟨⟨hiz,hr⟩,hf⟩,hB'⟩:=hB
  have hi:all.toArray[i]? =some o:=by rw[Gv];exact ho
  have Ho:i∈Region.ready .any all.toArray listed:=by simpa using hr
  refine KC (oi:=o) (v:=v) hi (Ot hsel) (fun _ _ _ h=>h.2.elim) hs hz hiz s.size listed _ w (inv (by simp)) (Oq hi hf) Ho ?_ (hS (by simp)) ?_
  · rcases hv with ⟨h1,h2⟩ | ⟨h1,h2⟩
    · exact .inl ⟨h1,by rw[sA];exact h2⟩
    exact .inr ⟨h1,h2⟩
  rw[nL]
  exact IH _ _ _ (fun _=>(inv (by simp)).set Ho hiz) hB' (fun _=>hS (by simp)) hK
theorem rT {Q:vQ} {cs:List Code} {n:Nat} {w0:World} {SS:List Nat} {es:List Ent} (z:Nat) (s:Vf) (H:Hp w0 w SS es) (idx:List Nat) (hm:P.follows .mixedOrders=true) (hnd:idx.Nodup)
 (hB:(Region.noSelect all.toArray && decide (s.size=all.length) && decide (z+1=all.length) && Region.sinkB .any all.toArray z && Rf all.toArray z s (Array.replicate all.length false))=true)
 (h:∀ w',w'={ w with drawn:=w.drawn+1 }→pH P ds all (fun wz=>Hp w0 wz SS (idx.map fun i=>es.getD i (none,0,[]))) (Run P ds cs Q) s l w'):Run P ds (.region n all.toArray true::cs) Q l w:=by
 simp only[Ci,decide_eq_true_eq]at hB
 obtain⟨⟨⟨⟨hsel,hlen⟩,hz⟩,hs⟩,hB⟩:=hB
 show Cd P ds _ _ l w
 unfold Cd
 have inv0:HeadInv .any all.toArray z (Array.replicate all.toArray.size false):=
  ⟨by simp,fun j oj _ hl=>(by rw[getD_replicate_false]at hl;cases hl),fun t _ ht=>getD_in (by simpa using ht) (getD_replicate_false _ _)⟩
 refine Go.wp_mono (Q:=fun e a w'=>a.defers=ds∧uQ (Run P ds cs Q) (fun _ _ _=>False) e a.tmps.toList w') (wp_region_any hm ?_) ?_
 · have:=OP (S:=fun wz=>Hp w0 wz SS (idx.map fun i=>es.getD i (none,0,[]))) (K:=Run P ds cs Q) (P:=P) (ds:=ds) hsel hs (by simpa using hz) s _ l { w with drawn:=w.drawn+1 } (fun _=>by simpa using inv0) hB (fun _=>H.drew.pick idx hnd) (h _ rfl)
   rw[hlen]at this
   have h2:=kH _ _ _ _ this
   simpa using h2
 rintro e a w' ⟨hd,h2⟩
 cases e <;>first | exact⟨hd,h2⟩ | exact h2.elim
end mix
inductive Scl 
 | nil
 | a (i:Nat) (s:Scl)
 | b (i:Nat) (s:Scl)
 | o (i:Nat) (s:Scl)
 | z (i:Nat) (s:Scl)
def Scl.size :Scl→Nat
 | .nil=>0
 | .a _ s=>s.size+1
 | .b _ s=>s.size+1
 | .o _ s=>s.size+1
 | .z _ s=>s.size+1
def Yr (Z:List Nat) (listed:Array Bool):Prop:=∀ z∈Z,listed.getD z false=false
structure Clo (ops:Array Oper) (listed:Array Bool):Prop where
 size:listed.size=ops.size
 closed:∀ j oj,ops[j]? =some oj→listed.getD j false=true→∀ e∈oj.after,Region.binds .any e=true→listed.getD e.on false=true
def UX (ops:Array Oper) (a b:Nat):Bool:=match ops[b]? with
 | some o=>o.after.any fun e=>Region.binds .any e && e.on==a
 | none=>false
def EM (ops:Array Oper):Nat→List Nat→Nat→Bool
 | a,[],z=>a==z
 | a,b::p,z=>UX ops a b && EM ops b p z
section mix
variable {P:Program} {ds:List Deferred} {ops:Array Oper} {all:List Oper} {S S':World→Prop} {K:List Value→World→Prop} {l:List Value} {w:World} {o:Oper} {i:Nat} {Z:List Nat} {listed:Array Bool}
theorem Clo.set (inv:Clo ops listed) (hi:i∈Region.ready .any ops listed):Clo ops (listed.setIfInBounds i true):=by
 obtain⟨_,oi,hoi,hall⟩:=mem_ready.1 hi
 refine⟨by simp[inv.size],fun j oj hj hl e he hb=>?_⟩
 by_cases hij:i=j
 · subst hij
   have:oj=oi:=Option.some.inj (hj.symm.trans hoi)
   subst this
   exact getD_set_true (hall e he hb)
 rw[getD_set_ne false hij]at hl
 exact getD_set_true (inv.closed j oj hj hl e he hb)
theorem IZ (inv:Clo ops listed):∀ (p:List Nat) (a z:Nat),EM ops a p z=true→listed.getD a false=false→listed.getD z false=false
 | [],a,z,h,h0=>by
  have:a=z:=by simpa[EM]using h
  rw[← this];exact h0
 | b::p,a,z,h,h0=>by
  simp only[EM,Ci]at h
  refine IZ inv p b z h.2 ?_
  cases hb:listed.getD b false with
  | false=>rfl
  | true=>
   have h1:=h.1
   unfold UX at h1
   split at h1
   · rename_i o ho
     obtain⟨e,he,h2⟩:=Array.any_eq_true'.1 h1
     simp only[Ci,beq_iff_eq]at h2
     have h3:=inv.closed b o ho hb e he h2.1
     rw[h2.2,h0]at h3
     cases h3
   cases h1
theorem Yr.less (h:Yr Z (listed.setIfInBounds i true)):Yr Z listed:=fun z hz=>by
 cases hb:listed.getD z false with
 | false=>rfl
 | true=>have h1:=h z hz;rw[getD_set_true hb]at h1;cases h1
def wpAnyL (P:Program) (ops:Array Oper) (Q:Exit→Act→World→Prop) (S:World→Prop) (Z:List Nat):Nat→Array Bool→Act→World→Prop
 | 0,listed,a,w=>Region.ready .any ops listed=[]∧Q .normal a w
 | f+1,listed,a,w=>(Region.ready .any ops listed=[]→Q .normal a w)∧
  ∀ i∈Region.ready .any ops listed,wpOp P ops Q i (fun a' w'=>(Yr Z (listed.setIfInBounds i true)→S w')∧wpAnyL P ops Q S Z f (listed.setIfInBounds i true) a' w') a w
theorem F5 {Q:Exit→Act→World→Prop}:∀ (f:Nat) (listed:Array Bool) (a:Act) (w:World),wpAnyL P ops Q S Z f listed a w→wpAny P .any ops Q f listed a w
 | 0,_,_,_,h=>h
 | f+1,_,_,_,h=>⟨h.1,fun i hi=>wpOp_mono (fun a' w' h'=>F5 f _ a' w' h'.2) (h.2 i hi)⟩
theorem KH {Q:Exit→Act→World→Prop} {oi:Oper} {v:Value} (hi:ops[i]? =some oi) (hsel:∀ (j:Nat) (o:Oper) cs b,ops[j]? =some o→o.op≠ .select cs b)
 (hQ:∀ c a w,Q (.panic c) (a.put oi.dst v) w→Q (.panic c) a w) (hiZ:i∉Z) (hS':∀ listed w,Clo ops listed→listed.getD i true=false→(Yr Z listed→S w)→S' w):
 ∀ (f:Nat) (listed:Array Bool) (a:Act) (w:World),Clo ops listed→
  (∀ j oj,ops[j]? =some oj→j≠i→listed.getD j true=false→(∀ e∈oj.after,Region.binds .any e=true→e.on≠i)→oi.apart ops oj=true)→
  i∈Region.ready .any ops listed→tX P ops S' oi v a→(Yr Z listed→S w)→
  wpAnyL P ops Q S Z f (listed.setIfInBounds i true) (a.put oi.dst v) w→wpAnyL P ops Q S Z (f+1) listed a w:=by
 intro f
 induction f with
 | zero=>
  intro listed a w inv _ hr hy hS H
  refine⟨fun h=>(by rw[h]at hr;cases hr),fun j hj=>?_⟩
  by_cases hji:j=i
  · rw[hji];exact hy.wpOp hi (hS' _ _ inv (mem_ready.1 hr).1 hS) ⟨fun hz=>hS hz.less,H⟩
  have h1:=ready_mono hj hji
  rw[H.1]at h1
  cases h1
 | succ f ih=>
  intro listed a w inv hfree hr hy hS H
  refine⟨fun h=>(by rw[h]at hr;cases hr),fun j hj=>?_⟩
  by_cases hji:j=i
  · rw[hji];exact hy.wpOp hi (hS' _ _ inv (mem_ready.1 hr).1 hS) ⟨fun hz=>hS hz.less,H⟩
  have h1:=H.2 j (ready_mono hj hji)
  obtain⟨hjun,oj,hoj,hall⟩:=mem_ready.1 hj
  have Wp:=(mem_ready.1 hr).1
  have hnot:∀ e∈oj.after,Region.binds .any e=true→e.on≠i:=fun e he hb heq=>by
   have h2:=hall e he hb
   rw[heq,getD_both Wp]at h2
   cases h2
  have h2:=kJ hoj (hfree j oj hoj hji hjun hnot) (fun cs b=>hsel i oi cs b hi) (fun cs b=>hsel j oj cs b hoj) hQ hy h1
  refine wpOp_mono (fun a' w' h3=>?_) h2
  have hz:Yr Z (listed.setIfInBounds j true)→S w':=fun hn=>h3.2.1 fun z hz=>by
   rw[Qe _ _ (Ne.symm hji),getD_set_ne false (fun e=>hiZ (by rw[e];exact hz))]
   exact hn z hz
  refine⟨hz,ih (listed.setIfInBounds j true) a' w' (inv.set hj) (fun k ok hk hki hun hno=>?_) (ready_mono hr (Ne.symm hji)) h3.1 hz ?_⟩
  · refine hfree k ok hk hki ?_ hno
    by_cases hjk:j=k
    · rw[← hjk];exact hjun
    rw[getD_set_ne true hjk]at hun;exact hun
  rw[Qe _ _ hji]
  exact h3.2.2
def nE (P:Program) (ds:List Deferred) (all:List Oper) (S:World→Prop) (K:List Value→World→Prop):Scl→List Value→World→Prop
 | .nil,l,w=>K l w
 | .a i s,l,w=>∃ o,all[i]? =some o∧lA P all S (nE P ds all S K s) o l w
 | .b i s,l,w=>∃ o,all[i]? =some o∧lA P all (fun _=>True) (nE P ds all S K s) o l w
 | .o i s,l,w=>∃ o,all[i]? =some o∧Ops P ds all (fun l' w'=>S w'∧nE P ds all S K s l' w') (fun _ _ _=>False) [o] l w
 | .z i s,l,w=>∃ o,all[i]? =some o∧Ops P ds all (fun l' w'=>nE P ds all S K s l' w') (fun _ _ _=>False) [o] l w
theorem E0 (h:K l w):nE P ds all S K .nil l w:=h
theorem bN {s:Scl} (ho:all[i]? =some o) (h:lA P all S (nE P ds all S K s) o l w):nE P ds all S K (.a i s) l w:=⟨o,ho,h⟩
theorem uE {s:Scl} (ho:all[i]? =some o) (h:lA P all (fun _=>True) (nE P ds all S K s) o l w):nE P ds all S K (.b i s) l w:=⟨o,ho,h⟩
theorem bM {s:Scl} (ho:all[i]? =some o) (h:Ops P ds all (fun l' w'=>S w'∧nE P ds all S K s l' w') (fun _ _ _=>False) [o] l w):nE P ds all S K (.o i s) l w:=⟨o,ho,h⟩
theorem bL {s:Scl} (ho:all[i]? =some o) (h:Ops P ds all (fun l' w'=>nE P ds all S K s l' w') (fun _ _ _=>False) [o] l w):nE P ds all S K (.z i s) l w:=⟨o,ho,h⟩
def lU (ops:Array Oper) (Z:List Nat) (ps:List (Nat×List Nat)):Scl→Array Bool→Bool
 | .nil,listed=>(Region.ready .any ops listed).isEmpty
 | .a i s,listed=>!Z.contains i && Z.all (fun z=>ps.any fun p=>p.1==i && EM ops i p.2 z) && (Region.ready .any ops listed).contains i && Region.free .any ops listed i && lU ops Z ps s (listed.setIfInBounds i true)
 | .b i s,listed=>!Z.contains i && (Region.ready .any ops listed).contains i && Region.free .any ops listed i && lU ops Z ps s (listed.setIfInBounds i true)
 | .o i s,listed=>decide (Region.ready .any ops listed=[i]) && lU ops Z ps s (listed.setIfInBounds i true)
 | .z i s,listed=>(Z.contains i || Z.any fun z=>listed.getD z false) && decide (Region.ready .any ops listed=[i]) && lU ops Z ps s (listed.setIfInBounds i true)
theorem A6 {s:Scl} {T:World→Prop} (ho:all[i]? =some o) (h:Ops P ds all (fun l' w'=>T w'∧nE P ds all S K s l' w') (fun _ _ _=>False) [o] l w)
 (IH:∀ (l:List Value) (w:World),T w→nE P ds all S K s l w→(Yr Z (listed.setIfInBounds i true)→S w)∧wpAnyL P all.toArray (fun e a w'=>a.defers=ds∧uQ K (fun _ _ _=>False) e a.tmps.toList w') S Z s.size (listed.setIfInBounds i true) ⟨l.toArray,ds⟩ w):
 wpOp P all.toArray (fun e a w'=>a.defers=ds∧uQ K (fun _ _ _=>False) e a.tmps.toList w') i (fun a' w'=>(Yr Z (listed.setIfInBounds i true)→S w')∧wpAnyL P all.toArray (fun e a w'=>a.defers=ds∧uQ K (fun _ _ _=>False) e a.tmps.toList w') S Z s.size (listed.setIfInBounds i true) a' w') ⟨l.toArray,ds⟩ w:=by
 unfold Ops wpList at h
 unfold wpOp
 rw[Gv,ho]
 simp only
 have ih:∀ (a:Act) w',(a.defers=ds∧T w'∧nE P ds all S K s a.tmps.toList w')→((Yr Z (listed.setIfInBounds i true)→S w')∧wpAnyL P all.toArray (fun e a w'=>a.defers=ds∧uQ K (fun _ _ _=>False) e a.tmps.toList w') S Z s.size (listed.setIfInBounds i true) a w'):=by
  rintro⟨t,d⟩ w' ⟨hd,hT,h2⟩
  simp only at hd
  subst hd
  exact IH _ _ hT h2
 have hq:∀ (e:Exit) (a:Act) w',e≠ .normal→Exit.then (fun(a:Act) w'=>a.defers=ds∧T w'∧nE P ds all S K s a.tmps.toList w') (fun _ a _=>a.defers=ds∧False) e a w'→(a.defers=ds∧uQ K (fun _ _ _=>False) e a.tmps.toList w'):=by
  intro e a w' he h
  cases e <;>first | exact absurd rfl he | exact h.2.elim
 split
 · rename_i hw
   rw[if_pos hw]at h
   rcases h with h | ⟨h1,a1,w1,h2⟩
   · exact .inl (Oper.wp_mono ih (lB hq h))
   exact .inr ⟨h1,a1,w1,hq _ _ _ (by simp) h2⟩
 rename_i hw
 rw[if_neg hw]at h
 exact ih _ _ h
theorem lT {ps:List (Nat×List Nat)} (hsel:Region.noSelect all.toArray=true):∀ (s:Scl) (listed:Array Bool) (l:List Value) (w:World),Clo all.toArray listed→lU all.toArray Z ps s listed=true→(Yr Z listed→S w)→nE P ds all S K s l w→
 wpAnyL P all.toArray (fun e a w'=>a.defers=ds∧uQ K (fun _ _ _=>False) e a.tmps.toList w') S Z s.size listed ⟨l.toArray,ds⟩ w
 | .nil,listed,l,w,_,hB,_,h=>⟨by simpa[lU]using hB,rfl,h⟩
 | .a i s,listed,l,w,inv,hB,hS,⟨o,ho,v,hv,hK⟩=>by
  simp only[lU,Ci,Bool.not_eq_true']at hB
  obtain⟨⟨⟨⟨h1,h2⟩,hr⟩,hf⟩,hB'⟩:=hB
  have hi:all.toArray[i]? =some o:=by rw[Gv];exact ho
  have Ho:i∈Region.ready .any all.toArray listed:=by simpa using hr
  refine KH (S':=S) (oi:=o) (v:=v) hi (Ot hsel) (fun _ _ _ h=>h.2.elim) (by simpa using h1) (fun listed w inv hun hS=>hS fun z hz=>?_) s.size listed _ w inv (Oq hi hf) Ho ?_ hS ?_
  · obtain⟨p,_,hp⟩:=List.any_eq_true.1 (Et.1 h2 z hz)
    simp only[Ci,beq_iff_eq]at hp
    exact IZ inv _ _ _ hp.2 (getD_both hun)
  · rcases hv with ⟨h1,h2⟩ | ⟨h1,h2⟩
    · exact .inl ⟨h1,by rw[sA];exact h2⟩
    exact .inr ⟨h1,h2⟩
  rw[nL]
  exact lT hsel s _ _ _ (inv.set Ho) hB' (fun hz=>hS hz.less) hK
 | .b i s,listed,l,w,inv,hB,hS,⟨o,ho,v,hv,hK⟩=>by
  simp only[lU,Ci,Bool.not_eq_true']at hB
  obtain⟨⟨⟨h1,hr⟩,hf⟩,hB'⟩:=hB
  have hi:all.toArray[i]? =some o:=by rw[Gv];exact ho
  have Ho:i∈Region.ready .any all.toArray listed:=by simpa using hr
  refine KH (S':=fun _=>True) (oi:=o) (v:=v) hi (Ot hsel) (fun _ _ _ h=>h.2.elim) (by simpa using h1) (fun _ _ _ _ _=>trivial) s.size listed _ w inv (Oq hi hf) Ho ?_ hS ?_
  · rcases hv with ⟨h1,h2⟩ | ⟨h1,h2⟩
    · exact .inl ⟨h1,by rw[sA];exact h2⟩
    exact .inr ⟨h1,h2⟩
  rw[nL]
  exact lT hsel s _ _ _ (inv.set Ho) hB' (fun hz=>hS hz.less) hK
 | .o i s,listed,l,w,inv,hB,hS,⟨o,ho,h⟩=>by
  simp only[lU,Ci,decide_eq_true_eq]at hB
  have Ho:i∈Region.ready .any all.toArray listed:=by rw[hB.1];simp
  refine⟨fun h0=>(by rw[hB.1]at h0;cases h0),fun k hk=>?_⟩
  have hki:k=i:=by rw[hB.1]at hk;simpa using hk
  rw[hki]
  exact A6 (T:=S) ho h fun l w hT h2=>⟨fun _=>hT,lT hsel s _ _ _ (inv.set Ho) hB.2 (fun _=>hT) h2⟩
 | .z i s,listed,l,w,inv,hB,hS,⟨o,ho,h⟩=>by
  simp only[lU,Ci,Bool.or_eq_true,decide_eq_true_eq]at hB
  obtain⟨⟨hz,hr⟩,hB'⟩:=hB
  have Ho:i∈Region.ready .any all.toArray listed:=by rw[hr];simp
  refine⟨fun h0=>(by rw[hr]at h0;cases h0),fun k hk=>?_⟩
  have hki:k=i:=by rw[hr]at hk;simpa using hk
  rw[hki]
  have hno:¬Yr Z (listed.setIfInBounds i true):=fun hn=>by
   rcases hz with h1 | h1
   · have h2:=hn i (by simpa using h1)
     have h3:i < listed.size:=by
      rw[inv.size]
      obtain⟨_,o',ho',_⟩:=mem_ready.1 Ho
      exact(Dw.1 ho').1
     simp[h3]at h2
   obtain⟨z,hz,h2⟩:=List.any_eq_true.1 h1
   have h3:=hn z hz
   rw[getD_set_true h2]at h3
   cases h3
  refine A6 (T:=fun _=>True) ho ?_ fun l w _ h2=>⟨fun hn=>absurd hn hno,lT hsel s _ _ _ (inv.set Ho) hB' (fun hn=>absurd hn hno) h2⟩
  simpa using h
theorem DV {Q:vQ} {cs:List Code} {n:Nat} {w0:World} {SS:List Nat} {es:List Ent} (Z:List Nat) (ps:List (Nat×List Nat)) (s:Scl) (H:Hp w0 w SS es) (idx:List Nat) (hm:P.follows .mixedOrders=true) (hnd:idx.Nodup)
 (hB:(Region.noSelect all.toArray && decide (s.size=all.length) && lU all.toArray Z ps s (Array.replicate all.length false))=true)
 (h:∀ w',w'={ w with drawn:=w.drawn+1 }→nE P ds all (fun wz=>Hp w0 wz SS (idx.map fun i=>es.getD i (none,0,[]))) (Run P ds cs Q) s l w'):Run P ds (.region n all.toArray true::cs) Q l w:=by
 simp only[Ci,decide_eq_true_eq]at hB
 obtain⟨⟨hsel,hlen⟩,hB⟩:=hB
 show Cd P ds _ _ l w
 unfold Cd
 have inv0:Clo all.toArray (Array.replicate all.length false):=
  ⟨by simp,fun j oj _ hl=>(by rw[getD_replicate_false]at hl;cases hl)⟩
 refine Go.wp_mono (Q:=fun e a w'=>a.defers=ds∧uQ (Run P ds cs Q) (fun _ _ _=>False) e a.tmps.toList w') (wp_region_any hm ?_) ?_
 · have:=lT (S:=fun wz=>Hp w0 wz SS (idx.map fun i=>es.getD i (none,0,[]))) (K:=Run P ds cs Q) (P:=P) (ds:=ds) hsel s _ l { w with drawn:=w.drawn+1 } inv0 hB (fun _=>H.drew.pick idx hnd) (h _ rfl)
   rw[hlen]at this
   have h2:=F5 _ _ _ _ this
   simpa using h2
 rintro e a w' ⟨hd,h2⟩
 cases e <;>first | exact⟨hd,h2⟩ | exact h2.elim
end mix
section
variable {P:Program} {ds:List Deferred} {Q:vQ} {K:List Value→World→Prop} {KS:List Value→Prop} {all os:List Oper} {l l':List Value} {w w0:World} {ty t:TypeId} {pos:String} {af:Array Edge} {d:Tmp} {v:Value} {S:World→Prop} {x y z:Operand} {i n:Nat} {s:List (Bool×Nat)} {cs:List Code} {c1 c2:Code} {a:Addr} {f off:Nat} {ft:TypeId} {bk o:Nat}
abbrev Jz (l:List Value):Prop:=l=l
def FLk :List (Nat×Value)→Nat→Option Value
 | [],_=>none
 | (i,v)::r,k=>match Nat.beq i k with
  | true=>some v
  | false=>FLk r k
def Hy (kv:List (Nat×Value)):Nat→Nat→List (Option Value)
 | _,0=>[]
 | k,n+1=>FLk kv k::Hy kv (k+1) n
theorem cR (e:l=l') (h:Run P ds cs Q l' w):Run P ds cs Q l w:=by rw[e];exact h
theorem Ag (e:l=l') (h:Ops P ds all K Q os l' w):Ops P ds all K Q os l w:=by rw[e];exact h
theorem wX (e:l=l') (h:yW P ds all w KS os l'):yW P ds all w KS os l:=by rw[e];exact h
theorem cZ (e:l=l') (h:nB P ds all S K s l' w):nB P ds all S K s l w:=by rw[e];exact h
theorem cM (e:l=l') (h:rZ P ds all S K s l' w):rZ P ds all S K s l w:=by rw[e];exact h
theorem Xr (e:l=l') (h:K l' w):Ops P ds all K Q [] l w:=yD (by rw[e];exact h)
theorem Rq {os:List Oper} (h:Ops P ds os (Run P ds (c2::cs) Q) Q os l w):Run P ds (.seq (.region n os.toArray false) c2::cs) Q l w:=zN (zK h)
theorem Xm (h:ev l x=some v) (k:Ops P ds all K Q os (l.set d v) w):Ops P ds all K Q (⟨some d,.move x,ty,pos,af,none⟩::os) l w:=zD (zI h) k
theorem Xa (h:ev l x=some v) (k:Ops P ds all K Q os (l.set d v) w):Ops P ds all K Q (⟨some d,.assign x,ty,pos,af,none⟩::os) l w:=zD (zO h) k
theorem Xt (hc:ev l x=some (.bool true)) (h:ev l y=some v) (k:Ops P ds all K Q os (l.set d v) w):Ops P ds all K Q (⟨some d,.pick x y z,ty,pos,af,none⟩::os) l w:=zD (xG hc h) k
theorem Xu (hc:ev l x=some (.bool false)) (h:ev l z=some v) (k:Ops P ds all K Q os (l.set d v) w):Ops P ds all K Q (⟨some d,.pick x y z,ty,pos,af,none⟩::os) l w:=zD (xV hc h) k
theorem Xe {vs:List Value} {i:Nat} (hx:ev l x=some (.tuple vs.toArray)) (hi:vs[i]? =some v) (k:Ops P ds all K Q os (l.set d v) w):Ops P ds all K Q (⟨some d,.extract x i,ty,pos,af,none⟩::os) l w:=zD (xF hx hi) k
theorem Xn {b:Bool} (h:ev l x=some (.bool b)) (k:Ops P ds all K Q os (l.set d (.bool (!b))) w):Ops P ds all K Q (⟨some d,.unOp .not t x,ty,pos,af,none⟩::os) l w:=zD (pX h) k
theorem Xc (h:ev l x=some (.pointer (some a))) (k:Ops P ds all K Q os (l.set d (.pointer (some a))) w):Ops P ds all K Q (⟨some d,.nilCheck x,ty,pos,af,none⟩::os) l w:=zD (yJ h) k
theorem Xf (hf:yH P t f=some (off,ft)) (hx:ev l x=some (.pointer (some ⟨bk,o,none⟩))) (k:Ops P ds all K Q os (l.set d (.pointer (some ⟨bk,o+off,none⟩))) w):Ops P ds all K Q (⟨some d,.fieldAddr t x f,ty,pos,af,none⟩::os) l w:=zD (rX hf hx) k
theorem Zm (ho:all[i]? =some ⟨some d,.move x,ty,pos,af,none⟩) (h:ev l x=some v) (k:nB P ds all S K s (l.set d v) w):nB P ds all S K ((true,i)::s) l w:=bJ ho (rU (fun _ _=>zI h) k)
theorem Zc (ho:all[i]? =some ⟨some d,.nilCheck x,ty,pos,af,none⟩) (h:ev l x=some (.pointer (some a))) (k:nB P ds all S K s (l.set d (.pointer (some a))) w):nB P ds all S K ((true,i)::s) l w:=bJ ho (rU (fun _ _=>yJ h) k)
theorem Zf (ho:all[i]? =some ⟨some d,.fieldAddr t x f,ty,pos,af,none⟩) (hf:yH P t f=some (off,ft)) (hx:ev l x=some (.pointer (some ⟨bk,o,none⟩))) (k:nB P ds all S K s (l.set d (.pointer (some ⟨bk,o+off,none⟩))) w):nB P ds all S K ((true,i)::s) l w:=bJ ho (rU (fun _ _=>rX hf hx) k)
theorem P0 :∀ (kv:List (Nat×Value)) (n k:Nat) (l pre:List Value),pre.length=k→l.length=n→(∀ i v,FLk kv i=some v→nth (pre++l) i=some v)→xM (Hy kv k n) l
 | kv,0,k,l,pre,hk,hl,h=>Ee hl
 | kv,n+1,k,[],pre,hk,hl,h=>by cases hl
 | kv,n+1,k,x::l,pre,hk,hl,h=>by
  have ih:=P0 kv n (k+1) l (pre++[x]) (by simp[hk]) (by simpa using hl) (fun i v hv=>by rw[Bh];exact h i v hv)
  show xM (FLk kv k::Hy kv (k+1) n) (x::l)
  have hx:=h k
  rw[pP,Eb (by omega),hk,Lh]at hx
  cases hc:FLk kv k with
  | none=>exact fn ih
  | some v=>have:=hx v hc;cases this;exact fs ih
theorem CY {kv:List (Nat×Value)} {n:Nat} {l:List Value} (hl:l.length=n) (h:∀ i v,FLk kv i=some v→nth l i=some v):xM (Hy kv 0 n) l:=P0 kv n 0 l [] rfl hl h
theorem yX {a:Nat} {b:Value} {r:List (Nat×Value)} {l:List Value} (h1:nth l a=some b) (h:∀ i v,FLk r i=some v→nth l i=some v):∀ i v,FLk ((a,b)::r) i=some v→nth l i=some v:=fun i v hv=>by
 unfold FLk at hv
 cases hb:Nat.beq a i with
 | true=>rw[hb]at hv;cases hv;rw[← Nat.eq_of_beq_eq_true hb];exact h1
 | false=>rw[hb]at hv;exact h i v hv
theorem mI {l:List Value}:∀ i v,FLk [] i=some v→nth l i=some v:=fun i v h=>by cases h
theorem ft2 {n:Nat} {l:List Value} {i0:Nat} {v0:Value} {i1:Nat} {v1:Value} (hl:l.length=n) (h0:nth l i0=some v0) (h1:nth l i1=some v1):xM (Hy [(i0,v0),(i1,v1)] 0 n) l:=CY hl (yX h0 (yX h1 mI))
theorem Uh {n:Nat} {l:List Value} {i0:Nat} {v0:Value} {i1:Nat} {v1:Value} {i2:Nat} {v2:Value} (hl:l.length=n) (h0:nth l i0=some v0) (h1:nth l i1=some v1) (h2:nth l i2=some v2):xM (Hy [(i0,v0),(i1,v1),(i2,v2)] 0 n) l:=CY hl (yX h0 (yX h1 (yX h2 mI)))
theorem Jg {n:Nat} {l:List Value} {i0:Nat} {v0:Value} {i1:Nat} {v1:Value} {i2:Nat} {v2:Value} {i3:Nat} {v3:Value} (hl:l.length=n) (h0:nth l i0=some v0) (h1:nth l i1=some v1) (h2:nth l i2=some v2) (h3:nth l i3=some v3):xM (Hy [(i0,v0),(i1,v1),(i2,v2),(i3,v3)] 0 n) l:=CY hl (yX h0 (yX h1 (yX h2 (yX h3 mI))))
theorem Oc {n:Nat} {l:List Value} {i0:Nat} {v0:Value} {i1:Nat} {v1:Value} {i2:Nat} {v2:Value} {i3:Nat} {v3:Value} {i4:Nat} {v4:Value} (hl:l.length=n) (h0:nth l i0=some v0) (h1:nth l i1=some v1) (h2:nth l i2=some v2) (h3:nth l i3=some v3) (h4:nth l i4=some v4):xM (Hy [(i0,v0),(i1,v1),(i2,v2),(i3,v3),(i4,v4)] 0 n) l:=CY hl (yX h0 (yX h1 (yX h2 (yX h3 (yX h4 mI)))))
theorem YU {n:Nat} {l:List Value} {i0:Nat} {v0:Value} {i1:Nat} {v1:Value} {i2:Nat} {v2:Value} {i3:Nat} {v3:Value} {i4:Nat} {v4:Value} {i5:Nat} {v5:Value} (hl:l.length=n) (h0:nth l i0=some v0) (h1:nth l i1=some v1) (h2:nth l i2=some v2) (h3:nth l i3=some v3) (h4:nth l i4=some v4) (h5:nth l i5=some v5):xM (Hy [(i0,v0),(i1,v1),(i2,v2),(i3,v3),(i4,v4),(i5,v5)] 0 n) l:=CY hl (yX h0 (yX h1 (yX h2 (yX h3 (yX h4 (yX h5 mI))))))
theorem ft7 {n:Nat} {l:List Value} {i0:Nat} {v0:Value} {i1:Nat} {v1:Value} {i2:Nat} {v2:Value} {i3:Nat} {v3:Value} {i4:Nat} {v4:Value} {i5:Nat} {v5:Value} {i6:Nat} {v6:Value} (hl:l.length=n) (h0:nth l i0=some v0) (h1:nth l i1=some v1) (h2:nth l i2=some v2) (h3:nth l i3=some v3) (h4:nth l i4=some v4) (h5:nth l i5=some v5) (h6:nth l i6=some v6):xM (Hy [(i0,v0),(i1,v1),(i2,v2),(i3,v3),(i4,v4),(i5,v5),(i6,v6)] 0 n) l:=CY hl (yX h0 (yX h1 (yX h2 (yX h3 (yX h4 (yX h5 (yX h6 mI)))))))
theorem ft8 {n:Nat} {l:List Value} {i0:Nat} {v0:Value} {i1:Nat} {v1:Value} {i2:Nat} {v2:Value} {i3:Nat} {v3:Value} {i4:Nat} {v4:Value} {i5:Nat} {v5:Value} {i6:Nat} {v6:Value} {i7:Nat} {v7:Value} (hl:l.length=n) (h0:nth l i0=some v0) (h1:nth l i1=some v1) (h2:nth l i2=some v2) (h3:nth l i3=some v3) (h4:nth l i4=some v4) (h5:nth l i5=some v5) (h6:nth l i6=some v6) (h7:nth l i7=some v7):xM (Hy [(i0,v0),(i1,v1),(i2,v2),(i3,v3),(i4,v4),(i5,v5),(i6,v6),(i7,v7)] 0 n) l:=CY hl (yX h0 (yX h1 (yX h2 (yX h3 (yX h4 (yX h5 (yX h6 (yX h7 mI))))))))
theorem ft9 {n:Nat} {l:List Value} {i0:Nat} {v0:Value} {i1:Nat} {v1:Value} {i2:Nat} {v2:Value} {i3:Nat} {v3:Value} {i4:Nat} {v4:Value} {i5:Nat} {v5:Value} {i6:Nat} {v6:Value} {i7:Nat} {v7:Value} {i8:Nat} {v8:Value} (hl:l.length=n) (h0:nth l i0=some v0) (h1:nth l i1=some v1) (h2:nth l i2=some v2) (h3:nth l i3=some v3) (h4:nth l i4=some v4) (h5:nth l i5=some v5) (h6:nth l i6=some v6) (h7:nth l i7=some v7) (h8:nth l i8=some v8):xM (Hy [(i0,v0),(i1,v1),(i2,v2),(i3,v3),(i4,v4),(i5,v5),(i6,v6),(i7,v7),(i8,v8)] 0 n) l:=CY hl (yX h0 (yX h1 (yX h2 (yX h3 (yX h4 (yX h5 (yX h6 (yX h7 (yX h8 mI)))))))))
theorem aT {n:Nat} {l:List Value} {i0:Nat} {v0:Value} {i1:Nat} {v1:Value} {i2:Nat} {v2:Value} {i3:Nat} {v3:Value} {i4:Nat} {v4:Value} {i5:Nat} {v5:Value} {i6:Nat} {v6:Value} {i7:Nat} {v7:Value} {i8:Nat} {v8:Value} {i9:Nat} {v9:Value} (hl:l.length=n) (h0:nth l i0=some v0) (h1:nth l i1=some v1) (h2:nth l i2=some v2) (h3:nth l i3=some v3) (h4:nth l i4=some v4) (h5:nth l i5=some v5) (h6:nth l i6=some v6) (h7:nth l i7=some v7) (h8:nth l i8=some v8) (h9:nth l i9=some v9):xM (Hy [(i0,v0),(i1,v1),(i2,v2),(i3,v3),(i4,v4),(i5,v5),(i6,v6),(i7,v7),(i8,v8),(i9,v9)] 0 n) l:=CY hl (yX h0 (yX h1 (yX h2 (yX h3 (yX h4 (yX h5 (yX h6 (yX h7 (yX h8 (yX h9 mI))))))))))
theorem NL {a b:Nat} (h:Nat.ble a b=true):a≤b:=Oi h
def cN (all:List Oper):Nat→List Oper→List Value→Option (List Oper×List Value)
 | 0,os,l=>some (os,l)
 | k+1,⟨some d,_,_,_,_,some (j,b)⟩::os,l=>match yes all l j==some b with
  | false=>cN all k os (l.set d undef)
  | true=>none
 | _,_,_=>none
theorem Oz :∀ (k:Nat) {os os':List Oper} {l l':List Value},cN all k os l=some (os',l')→Ops P ds all K Q os' l' w→Ops P ds all K Q os l w
 | 0,_,_,_,_,h,k=>by simp only[cN,Option.some.injEq,Prod.mk.injEq]at h;obtain⟨rfl,rfl⟩:=h;exact k
 | n+1,[],_,_,_,h,k=>by simp[cN]at h
 | n+1,⟨some d,op,ty,pos,af,some (j,b)⟩::os,os',l,l',h,k=>by
  unfold cN at h
  split at h
  · rename_i hb;exact ops_no hb (Oz n h k)
  cases h
 | n+1,⟨none,op,ty,pos,af,g⟩::os,_,_,_,h,k=>by simp[cN]at h
 | n+1,⟨some d,op,ty,pos,af,none⟩::os,_,_,_,h,k=>by simp[cN]at h
theorem cT {s:Vf} (e:l=l') (h:pH P ds all S K s l' w):pH P ds all S K s l w:=by rw[e];exact h
theorem Tm {s:Vf} (ho:all[i]? =some ⟨some d,.move x,ty,pos,af,none⟩) (h:ev l x=some v) (k:pH P ds all S K s (l.set d v) w):pH P ds all S K (.p i s) l w:=CO ho (rU (fun _ _=>zI h) k)
theorem Tf {s:Vf} (ho:all[i]? =some ⟨some d,.fieldAddr t x f,ty,pos,af,none⟩) (hf:yH P t f=some (off,ft)) (hx:ev l x=some (.pointer (some ⟨bk,o,none⟩))) (k:pH P ds all S K s (l.set d (.pointer (some ⟨bk,o+off,none⟩))) w):pH P ds all S K (.p i s) l w:=CO ho (rU (fun _ _=>rX hf hx) k)
theorem cL {s:Scl} (e:l=l') (h:nE P ds all S K s l' w):nE P ds all S K s l w:=by rw[e];exact h
end
theorem J1 :type_of% @zN:=@zN
theorem J2 :type_of% @zK:=@zK
theorem J3 :type_of% @yP:=@yP
theorem J4 :type_of% @zX:=@zX
theorem J5 :type_of% @wG:=@wG
theorem J6 :type_of% @xK:=@xK
theorem J7 :type_of% @wJ:=@wJ
theorem J8 :type_of% @tF:=@tF
theorem OV :type_of% @zD:=@zD
theorem OY :type_of% @sS:=@sS
theorem OZ :type_of% @ops_no:=@ops_no
theorem OE :type_of% @yD:=@yD
theorem OT :type_of% @vP:=@vP
theorem OC :type_of% @pC:=@pC
theorem OX :type_of% @oU:=@oU
theorem OQ :type_of% @tG:=@tG
theorem Ui :type_of% @lO:=@lO
theorem Jw :type_of% @jC:=@jC
theorem MV :type_of% @rU:=@rU
theorem MP :type_of% @bJ:=@bJ
theorem MO :type_of% @ON:=@ON
theorem ME :type_of% @EZ:=@EZ
theorem MY :type_of% @E4:=@E4
theorem MZ :type_of% @I6:=@I6
theorem BR :type_of% @vM:=@vM
theorem SV :type_of% @uG:=@uG
theorem Cm :type_of% @tJ:=@tJ
theorem Kz :type_of% @FJ:=@FJ
theorem EL :type_of% @gW:=@gW
theorem EN :type_of% @FL:=@FL
theorem EI :type_of% @eN:=@eN
theorem EF :type_of% @rX:=@rX
theorem ES :type_of% @tC:=@tC
theorem EC :type_of% @mT:=@mT
theorem OS :type_of% @fZ:=@fZ
theorem OW :type_of% @bE:=@bE
theorem OA :type_of% @AZ:=@AZ
theorem EB :type_of% @FN:=@FN
theorem TP :type_of% @CO:=@CO
theorem TQ :type_of% @OO:=@OO
end Go.Proofs.YtjoeklkmnfaabaaGreat
namespace Go.Proofs.YtjoeklkmnfaabaaGreat
open Go
variable {a0 a1 a2 a3 a4 a5 a6 a7 a8 a9 a10 a11 a12 Ja Jc Jk a16 a17 Ju Ko a20 a21 a22 a23 a24 a25 a26 a27 a28 a29 a30 a31 a32 a33 a34 a35 a36 a37 a38 a39 a40 a41 a42 a43 a44 a45 a46 a47 a48 a49 a50 a51 a52 a53 a54 a55 a56 a57 a58 a59 a60 a61 a62 a63 a64 a65 a66 a67 a68 a69 a70 a71 a72 a73 a74 a75 a76 a77 a78 a79 a80 Y9 a82 a83 a84 a85 a86 a87 Yv a89 Zv a91 a92 a93 Zu a95 a96 a97 a98 a99 YB YA Xz Xy Xx a105 YV a107 Yn a109 a110 Zz Zy Zx Zw a115 a116 a117 a118 a119 a120 a121 a122 a123 a124 a125 a126 a127 a128 a129 a130 a131 a132 a133 a134 a135 a136 a137 a138 a139:Value}
theorem e3:Jz [a0,a1,a2]:=rfl
theorem e4:Jz [a0,a1,a2,a3]:=rfl
theorem e5:Jz [a0,a1,a2,a3,a4]:=rfl
theorem e6:Jz [a0,a1,a2,a3,a4,a5]:=rfl
theorem e7:Jz [a0,a1,a2,a3,a4,a5,a6]:=rfl
theorem e8:Jz [a0,a1,a2,a3,a4,a5,a6,a7]:=rfl
theorem e9:Jz [a0,a1,a2,a3,a4,a5,a6,a7,a8]:=rfl
theorem e10:Jz [a0,a1,a2,a3,a4,a5,a6,a7,a8,a9]:=rfl
theorem e11:Jz [a0,a1,a2,a3,a4,a5,a6,a7,a8,a9,a10]:=rfl
theorem e12:Jz [a0,a1,a2,a3,a4,a5,a6,a7,a8,a9,a10,a11]:=rfl
theorem e13:Jz [a0,a1,a2,a3,a4,a5,a6,a7,a8,a9,a10,a11,a12]:=rfl
theorem e14:Jz [a0,a1,a2,a3,a4,a5,a6,a7,a8,a9,a10,a11,a12,Ja]:=rfl
theorem e15:Jz [a0,a1,a2,a3,a4,a5,a6,a7,a8,a9,a10,a11,a12,Ja,Jc]:=rfl
theorem e16:Jz [a0,a1,a2,a3,a4,a5,a6,a7,a8,a9,a10,a11,a12,Ja,Jc,Jk]:=rfl
theorem e17:Jz [a0,a1,a2,a3,a4,a5,a6,a7,a8,a9,a10,a11,a12,Ja,Jc,Jk,a16]:=rfl
theorem e18:Jz [a0,a1,a2,a3,a4,a5,a6,a7,a8,a9,a10,a11,a12,Ja,Jc,Jk,a16,a17]:=rfl
theorem e19:Jz [a0,a1,a2,a3,a4,a5,a6,a7,a8,a9,a10,a11,a12,Ja,Jc,Jk,a16,a17,Ju]:=rfl
theorem e20:Jz [a0,a1,a2,a3,a4,a5,a6,a7,a8,a9,a10,a11,a12,Ja,Jc,Jk,a16,a17,Ju,Ko]:=rfl
theorem e21:Jz [a0,a1,a2,a3,a4,a5,a6,a7,a8,a9,a10,a11,a12,Ja,Jc,Jk,a16,a17,Ju,Ko,a20]:=rfl
theorem e22:Jz [a0,a1,a2,a3,a4,a5,a6,a7,a8,a9,a10,a11,a12,Ja,Jc,Jk,a16,a17,Ju,Ko,a20,a21]:=rfl
theorem e23:Jz [a0,a1,a2,a3,a4,a5,a6,a7,a8,a9,a10,a11,a12,Ja,Jc,Jk,a16,a17,Ju,Ko,a20,a21,a22]:=rfl
theorem e24:Jz [a0,a1,a2,a3,a4,a5,a6,a7,a8,a9,a10,a11,a12,Ja,Jc,Jk,a16,a17,Ju,Ko,a20,a21,a22,a23]:=rfl
theorem e25:Jz [a0,a1,a2,a3,a4,a5,a6,a7,a8,a9,a10,a11,a12,Ja,Jc,Jk,a16,a17,Ju,Ko,a20,a21,a22,a23,a24]:=rfl
theorem e26:Jz [a0,a1,a2,a3,a4,a5,a6,a7,a8,a9,a10,a11,a12,Ja,Jc,Jk,a16,a17,Ju,Ko,a20,a21,a22,a23,a24,a25]:=rfl
theorem e27:Jz [a0,a1,a2,a3,a4,a5,a6,a7,a8,a9,a10,a11,a12,Ja,Jc,Jk,a16,a17,Ju,Ko,a20,a21,a22,a23,a24,a25,a26]:=rfl
theorem e28:Jz [a0,a1,a2,a3,a4,a5,a6,a7,a8,a9,a10,a11,a12,Ja,Jc,Jk,a16,a17,Ju,Ko,a20,a21,a22,a23,a24,a25,a26,a27]:=rfl
theorem e29:Jz [a0,a1,a2,a3,a4,a5,a6,a7,a8,a9,a10,a11,a12,Ja,Jc,Jk,a16,a17,Ju,Ko,a20,a21,a22,a23,a24,a25,a26,a27,a28]:=rfl
theorem e30:Jz [a0,a1,a2,a3,a4,a5,a6,a7,a8,a9,a10,a11,a12,Ja,Jc,Jk,a16,a17,Ju,Ko,a20,a21,a22,a23,a24,a25,a26,a27,a28,a29]:=rfl
theorem e31:Jz [a0,a1,a2,a3,a4,a5,a6,a7,a8,a9,a10,a11,a12,Ja,Jc,Jk,a16,a17,Ju,Ko,a20,a21,a22,a23,a24,a25,a26,a27,a28,a29,a30]:=rfl
theorem e32:Jz [a0,a1,a2,a3,a4,a5,a6,a7,a8,a9,a10,a11,a12,Ja,Jc,Jk,a16,a17,Ju,Ko,a20,a21,a22,a23,a24,a25,a26,a27,a28,a29,a30,a31]:=rfl
theorem e33:Jz [a0,a1,a2,a3,a4,a5,a6,a7,a8,a9,a10,a11,a12,Ja,Jc,Jk,a16,a17,Ju,Ko,a20,a21,a22,a23,a24,a25,a26,a27,a28,a29,a30,a31,a32]:=rfl
theorem e34:Jz [a0,a1,a2,a3,a4,a5,a6,a7,a8,a9,a10,a11,a12,Ja,Jc,Jk,a16,a17,Ju,Ko,a20,a21,a22,a23,a24,a25,a26,a27,a28,a29,a30,a31,a32,a33]:=rfl
theorem e35:Jz [a0,a1,a2,a3,a4,a5,a6,a7,a8,a9,a10,a11,a12,Ja,Jc,Jk,a16,a17,Ju,Ko,a20,a21,a22,a23,a24,a25,a26,a27,a28,a29,a30,a31,a32,a33,a34]:=rfl
theorem e37:Jz [a0,a1,a2,a3,a4,a5,a6,a7,a8,a9,a10,a11,a12,Ja,Jc,Jk,a16,a17,Ju,Ko,a20,a21,a22,a23,a24,a25,a26,a27,a28,a29,a30,a31,a32,a33,a34,a35,a36]:=rfl
theorem e38:Jz [a0,a1,a2,a3,a4,a5,a6,a7,a8,a9,a10,a11,a12,Ja,Jc,Jk,a16,a17,Ju,Ko,a20,a21,a22,a23,a24,a25,a26,a27,a28,a29,a30,a31,a32,a33,a34,a35,a36,a37]:=rfl
theorem e42:Jz [a0,a1,a2,a3,a4,a5,a6,a7,a8,a9,a10,a11,a12,Ja,Jc,Jk,a16,a17,Ju,Ko,a20,a21,a22,a23,a24,a25,a26,a27,a28,a29,a30,a31,a32,a33,a34,a35,a36,a37,a38,a39,a40,a41]:=rfl
theorem e43:Jz [a0,a1,a2,a3,a4,a5,a6,a7,a8,a9,a10,a11,a12,Ja,Jc,Jk,a16,a17,Ju,Ko,a20,a21,a22,a23,a24,a25,a26,a27,a28,a29,a30,a31,a32,a33,a34,a35,a36,a37,a38,a39,a40,a41,a42]:=rfl
theorem e44:Jz [a0,a1,a2,a3,a4,a5,a6,a7,a8,a9,a10,a11,a12,Ja,Jc,Jk,a16,a17,Ju,Ko,a20,a21,a22,a23,a24,a25,a26,a27,a28,a29,a30,a31,a32,a33,a34,a35,a36,a37,a38,a39,a40,a41,a42,a43]:=rfl
theorem e45:Jz [a0,a1,a2,a3,a4,a5,a6,a7,a8,a9,a10,a11,a12,Ja,Jc,Jk,a16,a17,Ju,Ko,a20,a21,a22,a23,a24,a25,a26,a27,a28,a29,a30,a31,a32,a33,a34,a35,a36,a37,a38,a39,a40,a41,a42,a43,a44]:=rfl
theorem e46:Jz [a0,a1,a2,a3,a4,a5,a6,a7,a8,a9,a10,a11,a12,Ja,Jc,Jk,a16,a17,Ju,Ko,a20,a21,a22,a23,a24,a25,a26,a27,a28,a29,a30,a31,a32,a33,a34,a35,a36,a37,a38,a39,a40,a41,a42,a43,a44,a45]:=rfl
theorem e47:Jz [a0,a1,a2,a3,a4,a5,a6,a7,a8,a9,a10,a11,a12,Ja,Jc,Jk,a16,a17,Ju,Ko,a20,a21,a22,a23,a24,a25,a26,a27,a28,a29,a30,a31,a32,a33,a34,a35,a36,a37,a38,a39,a40,a41,a42,a43,a44,a45,a46]:=rfl
theorem e48:Jz [a0,a1,a2,a3,a4,a5,a6,a7,a8,a9,a10,a11,a12,Ja,Jc,Jk,a16,a17,Ju,Ko,a20,a21,a22,a23,a24,a25,a26,a27,a28,a29,a30,a31,a32,a33,a34,a35,a36,a37,a38,a39,a40,a41,a42,a43,a44,a45,a46,a47]:=rfl
theorem e49:Jz [a0,a1,a2,a3,a4,a5,a6,a7,a8,a9,a10,a11,a12,Ja,Jc,Jk,a16,a17,Ju,Ko,a20,a21,a22,a23,a24,a25,a26,a27,a28,a29,a30,a31,a32,a33,a34,a35,a36,a37,a38,a39,a40,a41,a42,a43,a44,a45,a46,a47,a48]:=rfl
theorem e50:Jz [a0,a1,a2,a3,a4,a5,a6,a7,a8,a9,a10,a11,a12,Ja,Jc,Jk,a16,a17,Ju,Ko,a20,a21,a22,a23,a24,a25,a26,a27,a28,a29,a30,a31,a32,a33,a34,a35,a36,a37,a38,a39,a40,a41,a42,a43,a44,a45,a46,a47,a48,a49]:=rfl
theorem e52:Jz [a0,a1,a2,a3,a4,a5,a6,a7,a8,a9,a10,a11,a12,Ja,Jc,Jk,a16,a17,Ju,Ko,a20,a21,a22,a23,a24,a25,a26,a27,a28,a29,a30,a31,a32,a33,a34,a35,a36,a37,a38,a39,a40,a41,a42,a43,a44,a45,a46,a47,a48,a49,a50,a51]:=rfl
theorem e53:Jz [a0,a1,a2,a3,a4,a5,a6,a7,a8,a9,a10,a11,a12,Ja,Jc,Jk,a16,a17,Ju,Ko,a20,a21,a22,a23,a24,a25,a26,a27,a28,a29,a30,a31,a32,a33,a34,a35,a36,a37,a38,a39,a40,a41,a42,a43,a44,a45,a46,a47,a48,a49,a50,a51,a52]:=rfl
theorem e54:Jz [a0,a1,a2,a3,a4,a5,a6,a7,a8,a9,a10,a11,a12,Ja,Jc,Jk,a16,a17,Ju,Ko,a20,a21,a22,a23,a24,a25,a26,a27,a28,a29,a30,a31,a32,a33,a34,a35,a36,a37,a38,a39,a40,a41,a42,a43,a44,a45,a46,a47,a48,a49,a50,a51,a52,a53]:=rfl
theorem e56:Jz [a0,a1,a2,a3,a4,a5,a6,a7,a8,a9,a10,a11,a12,Ja,Jc,Jk,a16,a17,Ju,Ko,a20,a21,a22,a23,a24,a25,a26,a27,a28,a29,a30,a31,a32,a33,a34,a35,a36,a37,a38,a39,a40,a41,a42,a43,a44,a45,a46,a47,a48,a49,a50,a51,a52,a53,a54,a55]:=rfl
theorem e58:Jz [a0,a1,a2,a3,a4,a5,a6,a7,a8,a9,a10,a11,a12,Ja,Jc,Jk,a16,a17,Ju,Ko,a20,a21,a22,a23,a24,a25,a26,a27,a28,a29,a30,a31,a32,a33,a34,a35,a36,a37,a38,a39,a40,a41,a42,a43,a44,a45,a46,a47,a48,a49,a50,a51,a52,a53,a54,a55,a56,a57]:=rfl
theorem e62:Jz [a0,a1,a2,a3,a4,a5,a6,a7,a8,a9,a10,a11,a12,Ja,Jc,Jk,a16,a17,Ju,Ko,a20,a21,a22,a23,a24,a25,a26,a27,a28,a29,a30,a31,a32,a33,a34,a35,a36,a37,a38,a39,a40,a41,a42,a43,a44,a45,a46,a47,a48,a49,a50,a51,a52,a53,a54,a55,a56,a57,a58,a59,a60,a61]:=rfl
theorem Np:Jz [a0,a1,a2,a3,a4,a5,a6,a7,a8,a9,a10,a11,a12,Ja,Jc,Jk,a16,a17,Ju,Ko,a20,a21,a22,a23,a24,a25,a26,a27,a28,a29,a30,a31,a32,a33,a34,a35,a36,a37,a38,a39,a40,a41,a42,a43,a44,a45,a46,a47,a48,a49,a50,a51,a52,a53,a54,a55,a56,a57,a58,a59,a60,a61,a62,a63,a64,a65,a66]:=rfl
theorem YE:Jz [a0,a1,a2,a3,a4,a5,a6,a7,a8,a9,a10,a11,a12,Ja,Jc,Jk,a16,a17,Ju,Ko,a20,a21,a22,a23,a24,a25,a26,a27,a28,a29,a30,a31,a32,a33,a34,a35,a36,a37,a38,a39,a40,a41,a42,a43,a44,a45,a46,a47,a48,a49,a50,a51,a52,a53,a54,a55,a56,a57,a58,a59,a60,a61,a62,a63,a64,a65,a66,a67,a68]:=rfl
theorem Ql:Jz [a0,a1,a2,a3,a4,a5,a6,a7,a8,a9,a10,a11,a12,Ja,Jc,Jk,a16,a17,Ju,Ko,a20,a21,a22,a23,a24,a25,a26,a27,a28,a29,a30,a31,a32,a33,a34,a35,a36,a37,a38,a39,a40,a41,a42,a43,a44,a45,a46,a47,a48,a49,a50,a51,a52,a53,a54,a55,a56,a57,a58,a59,a60,a61,a62,a63,a64,a65,a66,a67,a68,a69,a70,a71,a72,a73]:=rfl
theorem Gy:Jz [a0,a1,a2,a3,a4,a5,a6,a7,a8,a9,a10,a11,a12,Ja,Jc,Jk,a16,a17,Ju,Ko,a20,a21,a22,a23,a24,a25,a26,a27,a28,a29,a30,a31,a32,a33,a34,a35,a36,a37,a38,a39,a40,a41,a42,a43,a44,a45,a46,a47,a48,a49,a50,a51,a52,a53,a54,a55,a56,a57,a58,a59,a60,a61,a62,a63,a64,a65,a66,a67,a68,a69,a70,a71,a72,a73,a74]:=rfl
theorem Gt:Jz [a0,a1,a2,a3,a4,a5,a6,a7,a8,a9,a10,a11,a12,Ja,Jc,Jk,a16,a17,Ju,Ko,a20,a21,a22,a23,a24,a25,a26,a27,a28,a29,a30,a31,a32,a33,a34,a35,a36,a37,a38,a39,a40,a41,a42,a43,a44,a45,a46,a47,a48,a49,a50,a51,a52,a53,a54,a55,a56,a57,a58,a59,a60,a61,a62,a63,a64,a65,a66,a67,a68,a69,a70,a71,a72,a73,a74,a75,a76,a77,a78,a79,a80,Y9]:=rfl
theorem Na:Jz [a0,a1,a2,a3,a4,a5,a6,a7,a8,a9,a10,a11,a12,Ja,Jc,Jk,a16,a17,Ju,Ko,a20,a21,a22,a23,a24,a25,a26,a27,a28,a29,a30,a31,a32,a33,a34,a35,a36,a37,a38,a39,a40,a41,a42,a43,a44,a45,a46,a47,a48,a49,a50,a51,a52,a53,a54,a55,a56,a57,a58,a59,a60,a61,a62,a63,a64,a65,a66,a67,a68,a69,a70,a71,a72,a73,a74,a75,a76,a77,a78,a79,a80,Y9,a82,a83,a84]:=rfl
theorem Ji:Jz [a0,a1,a2,a3,a4,a5,a6,a7,a8,a9,a10,a11,a12,Ja,Jc,Jk,a16,a17,Ju,Ko,a20,a21,a22,a23,a24,a25,a26,a27,a28,a29,a30,a31,a32,a33,a34,a35,a36,a37,a38,a39,a40,a41,a42,a43,a44,a45,a46,a47,a48,a49,a50,a51,a52,a53,a54,a55,a56,a57,a58,a59,a60,a61,a62,a63,a64,a65,a66,a67,a68,a69,a70,a71,a72,a73,a74,a75,a76,a77,a78,a79,a80,Y9,a82,a83,a84,a85,a86,a87,Yv]:=rfl
theorem Hu:Jz [a0,a1,a2,a3,a4,a5,a6,a7,a8,a9,a10,a11,a12,Ja,Jc,Jk,a16,a17,Ju,Ko,a20,a21,a22,a23,a24,a25,a26,a27,a28,a29,a30,a31,a32,a33,a34,a35,a36,a37,a38,a39,a40,a41,a42,a43,a44,a45,a46,a47,a48,a49,a50,a51,a52,a53,a54,a55,a56,a57,a58,a59,a60,a61,a62,a63,a64,a65,a66,a67,a68,a69,a70,a71,a72,a73,a74,a75,a76,a77,a78,a79,a80,Y9,a82,a83,a84,a85,a86,a87,Yv,a89,Zv,a91,a92,a93,Zu]:=rfl
theorem Iz:Jz [a0,a1,a2,a3,a4,a5,a6,a7,a8,a9,a10,a11,a12,Ja,Jc,Jk,a16,a17,Ju,Ko,a20,a21,a22,a23,a24,a25,a26,a27,a28,a29,a30,a31,a32,a33,a34,a35,a36,a37,a38,a39,a40,a41,a42,a43,a44,a45,a46,a47,a48,a49,a50,a51,a52,a53,a54,a55,a56,a57,a58,a59,a60,a61,a62,a63,a64,a65,a66,a67,a68,a69,a70,a71,a72,a73,a74,a75,a76,a77,a78,a79,a80,Y9,a82,a83,a84,a85,a86,a87,Yv,a89,Zv,a91,a92,a93,Zu,a95]:=rfl
theorem Hg:Jz [a0,a1,a2,a3,a4,a5,a6,a7,a8,a9,a10,a11,a12,Ja,Jc,Jk,a16,a17,Ju,Ko,a20,a21,a22,a23,a24,a25,a26,a27,a28,a29,a30,a31,a32,a33,a34,a35,a36,a37,a38,a39,a40,a41,a42,a43,a44,a45,a46,a47,a48,a49,a50,a51,a52,a53,a54,a55,a56,a57,a58,a59,a60,a61,a62,a63,a64,a65,a66,a67,a68,a69,a70,a71,a72,a73,a74,a75,a76,a77,a78,a79,a80,Y9,a82,a83,a84,a85,a86,a87,Yv,a89,Zv,a91,a92,a93,Zu,a95,a96,a97]:=rfl
theorem Gs:Jz [a0,a1,a2,a3,a4,a5,a6,a7,a8,a9,a10,a11,a12,Ja,Jc,Jk,a16,a17,Ju,Ko,a20,a21,a22,a23,a24,a25,a26,a27,a28,a29,a30,a31,a32,a33,a34,a35,a36,a37,a38,a39,a40,a41,a42,a43,a44,a45,a46,a47,a48,a49,a50,a51,a52,a53,a54,a55,a56,a57,a58,a59,a60,a61,a62,a63,a64,a65,a66,a67,a68,a69,a70,a71,a72,a73,a74,a75,a76,a77,a78,a79,a80,Y9,a82,a83,a84,a85,a86,a87,Yv,a89,Zv,a91,a92,a93,Zu,a95,a96,a97,a98,a99,YB,YA,Xz,Xy,Xx]:=rfl
theorem Ef:Jz [a0,a1,a2,a3,a4,a5,a6,a7,a8,a9,a10,a11,a12,Ja,Jc,Jk,a16,a17,Ju,Ko,a20,a21,a22,a23,a24,a25,a26,a27,a28,a29,a30,a31,a32,a33,a34,a35,a36,a37,a38,a39,a40,a41,a42,a43,a44,a45,a46,a47,a48,a49,a50,a51,a52,a53,a54,a55,a56,a57,a58,a59,a60,a61,a62,a63,a64,a65,a66,a67,a68,a69,a70,a71,a72,a73,a74,a75,a76,a77,a78,a79,a80,Y9,a82,a83,a84,a85,a86,a87,Yv,a89,Zv,a91,a92,a93,Zu,a95,a96,a97,a98,a99,YB,YA,Xz,Xy,Xx,a105,YV]:=rfl
theorem e109:Jz [a0,a1,a2,a3,a4,a5,a6,a7,a8,a9,a10,a11,a12,Ja,Jc,Jk,a16,a17,Ju,Ko,a20,a21,a22,a23,a24,a25,a26,a27,a28,a29,a30,a31,a32,a33,a34,a35,a36,a37,a38,a39,a40,a41,a42,a43,a44,a45,a46,a47,a48,a49,a50,a51,a52,a53,a54,a55,a56,a57,a58,a59,a60,a61,a62,a63,a64,a65,a66,a67,a68,a69,a70,a71,a72,a73,a74,a75,a76,a77,a78,a79,a80,Y9,a82,a83,a84,a85,a86,a87,Yv,a89,Zv,a91,a92,a93,Zu,a95,a96,a97,a98,a99,YB,YA,Xz,Xy,Xx,a105,YV,a107,Yn]:=rfl
theorem e115:Jz [a0,a1,a2,a3,a4,a5,a6,a7,a8,a9,a10,a11,a12,Ja,Jc,Jk,a16,a17,Ju,Ko,a20,a21,a22,a23,a24,a25,a26,a27,a28,a29,a30,a31,a32,a33,a34,a35,a36,a37,a38,a39,a40,a41,a42,a43,a44,a45,a46,a47,a48,a49,a50,a51,a52,a53,a54,a55,a56,a57,a58,a59,a60,a61,a62,a63,a64,a65,a66,a67,a68,a69,a70,a71,a72,a73,a74,a75,a76,a77,a78,a79,a80,Y9,a82,a83,a84,a85,a86,a87,Yv,a89,Zv,a91,a92,a93,Zu,a95,a96,a97,a98,a99,YB,YA,Xz,Xy,Xx,a105,YV,a107,Yn,a109,a110,Zz,Zy,Zx,Zw]:=rfl
theorem Dy:Jz [a0,a1,a2,a3,a4,a5,a6,a7,a8,a9,a10,a11,a12,Ja,Jc,Jk,a16,a17,Ju,Ko,a20,a21,a22,a23,a24,a25,a26,a27,a28,a29,a30,a31,a32,a33,a34,a35,a36,a37,a38,a39,a40,a41,a42,a43,a44,a45,a46,a47,a48,a49,a50,a51,a52,a53,a54,a55,a56,a57,a58,a59,a60,a61,a62,a63,a64,a65,a66,a67,a68,a69,a70,a71,a72,a73,a74,a75,a76,a77,a78,a79,a80,Y9,a82,a83,a84,a85,a86,a87,Yv,a89,Zv,a91,a92,a93,Zu,a95,a96,a97,a98,a99,YB,YA,Xz,Xy,Xx,a105,YV,a107,Yn,a109,a110,Zz,Zy,Zx,Zw,a115,a116,a117,a118,a119,a120,a121]:=rfl
theorem e128:Jz [a0,a1,a2,a3,a4,a5,a6,a7,a8,a9,a10,a11,a12,Ja,Jc,Jk,a16,a17,Ju,Ko,a20,a21,a22,a23,a24,a25,a26,a27,a28,a29,a30,a31,a32,a33,a34,a35,a36,a37,a38,a39,a40,a41,a42,a43,a44,a45,a46,a47,a48,a49,a50,a51,a52,a53,a54,a55,a56,a57,a58,a59,a60,a61,a62,a63,a64,a65,a66,a67,a68,a69,a70,a71,a72,a73,a74,a75,a76,a77,a78,a79,a80,Y9,a82,a83,a84,a85,a86,a87,Yv,a89,Zv,a91,a92,a93,Zu,a95,a96,a97,a98,a99,YB,YA,Xz,Xy,Xx,a105,YV,a107,Yn,a109,a110,Zz,Zy,Zx,Zw,a115,a116,a117,a118,a119,a120,a121,a122,a123,a124,a125,a126,a127]:=rfl
theorem Fp:Jz [a0,a1,a2,a3,a4,a5,a6,a7,a8,a9,a10,a11,a12,Ja,Jc,Jk,a16,a17,Ju,Ko,a20,a21,a22,a23,a24,a25,a26,a27,a28,a29,a30,a31,a32,a33,a34,a35,a36,a37,a38,a39,a40,a41,a42,a43,a44,a45,a46,a47,a48,a49,a50,a51,a52,a53,a54,a55,a56,a57,a58,a59,a60,a61,a62,a63,a64,a65,a66,a67,a68,a69,a70,a71,a72,a73,a74,a75,a76,a77,a78,a79,a80,Y9,a82,a83,a84,a85,a86,a87,Yv,a89,Zv,a91,a92,a93,Zu,a95,a96,a97,a98,a99,YB,YA,Xz,Xy,Xx,a105,YV,a107,Yn,a109,a110,Zz,Zy,Zx,Zw,a115,a116,a117,a118,a119,a120,a121,a122,a123,a124,a125,a126,a127,a128,a129,a130,a131,a132,a133,a134,a135,a136,a137,a138,a139]:=rfl
theorem Dj {a140 a141 a142 a143 a144 a145 a146 a147 a148 a149 a150 a151 a152 a153 a154 a155 a156 a157 a158 a159 a160 a161 a162 a163 a164 a165 a166 a167 a168 a169 a170 a171 a172 a173 a174 a175 a176 a177 a178 a179 a180 a181 a182 a183 a184 a185:Value}:Jz [a0,a1,a2,a3,a4,a5,a6,a7,a8,a9,a10,a11,a12,Ja,Jc,Jk,a16,a17,Ju,Ko,a20,a21,a22,a23,a24,a25,a26,a27,a28,a29,a30,a31,a32,a33,a34,a35,a36,a37,a38,a39,a40,a41,a42,a43,a44,a45,a46,a47,a48,a49,a50,a51,a52,a53,a54,a55,a56,a57,a58,a59,a60,a61,a62,a63,a64,a65,a66,a67,a68,a69,a70,a71,a72,a73,a74,a75,a76,a77,a78,a79,a80,Y9,a82,a83,a84,a85,a86,a87,Yv,a89,Zv,a91,a92,a93,Zu,a95,a96,a97,a98,a99,YB,YA,Xz,Xy,Xx,a105,YV,a107,Yn,a109,a110,Zz,Zy,Zx,Zw,a115,a116,a117,a118,a119,a120,a121,a122,a123,a124,a125,a126,a127,a128,a129,a130,a131,a132,a133,a134,a135,a136,a137,a138,a139,a140,a141,a142,a143,a144,a145,a146,a147,a148,a149,a150,a151,a152,a153,a154,a155,a156,a157,a158,a159,a160,a161,a162,a163,a164,a165,a166,a167,a168,a169,a170,a171,a172,a173,a174,a175,a176,a177,a178,a179,a180,a181,a182,a183,a184,a185]:=rfl
end Go.Proofs.YtjoeklkmnfaabaaGreat
namespace Go.Proofs.YtjoeklkmnfaabaaGreat
open Go Go.RowKit
set_option linter.unusedVariables false
set_option linter.unusedSimpArgs false
section
variable {P:Program} {ds:List Deferred} {Q:vQ} {l:List Value} {w:World} {x:Code} {us vs cs:List Code}
theorem DW (h:Run P ds (x::us) Q l w) (hab:∀ l w,Run P ds us Q l w→Run P ds vs Q l w):Run P ds (x::vs) Q l w:=by
 refine JX h ?_
 intro e l w h
 cases e with
 | normal=>exact hab _ _ h
 | _=>exact h
theorem hZ {M:List Value→World→Prop}:∀ (xs:List Code) {l:List Value} {w:World},Run P ds xs (aQ M Q) l w→(∀ l w,M l w→Run P ds cs Q l w)→Run P ds (xs++cs) Q l w
 | [],_,_,h,h2=>h2 _ _ h
 | x::xs,l,w,h,h2=>by
  refine JX (c:=x) h ?_
  intro e l w h
  cases e with
  | normal=>exact hZ xs h h2
  | _=>exact h
end
abbrev rO :=List PanicEntry
def qA (P:Program) (f:FuncId) (args:Array Value) (w:World) (R:Value→World→Prop) (RP:rO→World→Prop):Prop:=
 Calls P f args w fun e w'=>match e with | .returned v=>R v w' | .panicked ch=>RP ch w' | .outgrown=>False
theorem qA.d {P:Program} {f:FuncId} {args:Array Value} {w:World} {R:Value→World→Prop} {RP:rO→World→Prop} (h:qA P f args w R RP) (hp:∀ ch w',¬RP ch w'):zP P f args w R:=by
 refine Calls.mono h fun e w' hh=>?_
 cases e with
 | returned v=>exact⟨v,rfl,hh⟩
 | panicked ch=>exact absurd hh (hp _ _)
 | outgrown=>exact hh.elim
theorem qA.mono {P:Program} {f:FuncId} {args:Array Value} {w:World} {R R':Value→World→Prop} {RP RP':rO→World→Prop} (h:qA P f args w R RP) (hr:∀ v w',R v w'→R' v w') (hp:∀ ch w',RP ch w'→RP' ch w'):qA P f args w R' RP':=by
 refine Calls.mono h fun e w' hh=>?_
 cases e with
 | returned v=>exact hr _ _ hh
 | panicked ch=>exact hp _ _ hh
 | outgrown=>exact hh
section ops
variable {P:Program} {ds:List Deferred} {Q:vQ} {K:List Value→World→Prop} {all os:List Oper} {l:List Value} {w w':World} {op:Op} {ty:TypeId} {pos:String} {af:Array Edge} {d:Tmp} {v:Value}
theorem rK {f:FuncId} {args:Array Value} {R:Value→World→Prop} {RP:rO→World→Prop} (hx:Ex P l op ty w (.enter f args) w) (hc:qA P f args w R RP) (hp:∀ ch w',RP ch w'→Q (.panic ch) l w')
 (h:∀ v w',R v w'→Ops P ds all K Q os (l.set d v) w'):Ops P ds all K Q (⟨some d,op,ty,pos,af,none⟩::os) l w:=by
 refine wpList_plain Y fun K' hK=>?_
 unfold Oper.wp
 rw[sA,hx,Oper.upon_enter]
 refine Calls.mono hc ?_
 intro e w2 hR
 cases e with
 | returned v=>refine hK _ _ ?_;rw[tI];exact h v w2 hR
 | panicked ch=>exact⟨rfl,hp ch w2 hR⟩
 | outgrown=>exact hR.elim
end ops
def FR (ro:Option Nat):Fence:={ fn:=fun _=>True,depth:=none,alive:=false,round:=ro }
section conv
variable {ro:Option Nat} {n:Nat} {P:Program}
theorem XQ {f:FuncId} {args:Array Value} {w:World} {R:Ending→World→Prop} (h:Calls P f args w R):CallsIn (FR ro) n P f args w R:=(callsIn_wide (n:=n)).2 h
theorem rowsR {row:String} {args:Array Value} {w:World} {R:Value→World→Prop} (h:Rows P row args w R):RowsIn (FR ro) n P row args w R:=
 fun c cs _=>let ⟨v,w',r,s⟩:=h c cs;⟨v,w',r,(stepsIn_wide.2 s:StepsIn (Machine.fenced P Fence.wide) P _ _)⟩
def sY (o:Oper):Bool:=match o.op with | .defer _=>false | _=>true
theorem GY {o:Oper} (h:sY o=true):∀ c,o.op≠ .defer c:=by
 intro c hc
 simp[sY,hc]at h
theorem uponR {o:Oper} {a:Act} {next:Act→World→Prop} {Q:Exit→Act→World→Prop} {r:Result Next} (h:o.upon P a next Q r):o.uponIn (FR ro) n P a next Q r:=by
 cases r with
 | ok x w'=>
  cases x <;>first
   | exact h
   | exact h.elim
   | exact⟨fun hd=>(by cases hd),XQ h⟩
   | exact⟨fun hd=>(by cases hd),rowsR h⟩
 | halt x w'=>cases x <;>first | exact h | exact h.elim
theorem wpR {o:Oper} {a:Act} {w:World} {next:Act→World→Prop} {Q:Exit→Act→World→Prop} (hd:sY o=true) (h:o.wp P a w next Q):o.wpIn (FR ro) n P a w next Q:=by
 refine⟨fun _ _=>trivial,?_⟩
 rw[Oper.semAt_eq _ _ _ (GY hd)]
 exact uponR h
theorem dH {ops:Array Oper} {Q Q':Exit→Act→World→Prop} (hq:∀ a w,¬Q .outgrown a w) (hqq:∀ e a w,e≠ .normal→Q e a w→Q' e a w):∀ (os rest:List Oper) (a:Act) (w:World),os.all sY=true→
 wpList P ops (Exit.then (wpListIn (FR ro) n P ops Q' rest) Q) os a w→wpListIn (FR ro) n P ops Q' (os++rest) a w
 | [],rest,a,w,_,h=>h
 | o::os,rest,a,w,hd,h=>by
  rw[List.all_cons,Ci]at hd
  have ih:=dH (ops:=ops) hq hqq os rest
  unfold wpList at h
  show wpListIn (FR ro) n P ops Q' (o::(os++rest)) a w
  unfold wpListIn
  split
  · rename_i hw
    rw[if_pos hw]at h
    rcases h with h | ⟨_,a1,w1,h2⟩
    · have h3:=wpR (ro:=ro) (n:=n) hd.1 h
      refine⟨h3.1,?_⟩
      have h4:=h3.2
      generalize (o.semAt (FR ro).round a.eval).run P w=r at h4 ⊢
      cases r with
      | ok x w'=>
       cases x <;>first
        | exact ih _ _ hd.2 h4
        | exact h4
        | exact⟨h4.1,CallsIn.mono h4.2 (fun e w'' he=>by
         cases e with
         | returned v=>exact ih _ _ hd.2 he
         | panicked ch=>exact hqq _ _ _ (by simp) he
         | outgrown=>exact absurd he.choose_spec.choose_spec (hq _ _))⟩
        | exact⟨h4.1,RowsIn.mono h4.2 (fun v w'' he=>ih _ _ hd.2 he)⟩
        | exact⟨h4.1,RoundIn.mono h4.2 (fun e w'' he=>by
         cases e with
         | returned v=>exact ih _ _ hd.2 he
         | panicked ch=>exact hqq _ _ _ (by simp) he
         | outgrown=>exact absurd he.choose_spec.choose_spec (hq _ _))⟩
      | halt x w'=>cases x <;>first | exact hqq _ _ _ (by simp) h4 | exact h4
    exact absurd h2 (hq _ _)
  rename_i hw
  rw[if_neg hw]at h
  exact⟨fun _ _=>trivial,ih _ _ hd.2 h⟩
end conv
theorem rQ {P:Program} {ops:Array Oper} {K1 K2:Act→World→Prop} {Q:Exit→Act→World→Prop} (hK:∀ a w,K1 a w→K2 a w):∀ (os:List Oper) (a:Act) (w:World),wpList P ops (Exit.then K1 Q) os a w→wpList P ops (Exit.then K2 Q) os a w
 | [],a,w,h=>hK _ _ h
 | o::os,a,w,h=>by
  unfold wpList at h ⊢
  split
  · rename_i hw
    rw[if_pos hw]at h
    rcases h with h | ⟨h1,a1,w1,h2⟩
    · exact .inl (Oper.wp_mono (fun a w h=>rQ hK os a w h) (lB (fun e a w he h=>by cases e <;>first | exact absurd Y he | exact h) h))
    exact .inr ⟨h1,a1,w1,h2⟩
  rename_i hw
  rw[if_neg hw]at h
  exact rQ hK os _ _ h
abbrev rY :=Exit→List Deferred→List Value→World→Prop
def Ub (f:FuncId) (ro:Option Nat) (P:Program) (c:Code) (Q:Exit→Act→World→Prop) (a:Act) (w:World):Prop:=
 ∀ (b:Frame) (k:List Item) (cs:List Frame),b.roundOf=ro→b.fn=f→
  ∃ e a' w',Q e a' w'∧ArrivesIn (Machine.fenced P Fence.wide) P (lone (b.atR a (.code c::k)) cs w) b k cs e a' w'
section rules
variable {f:FuncId} {ro:Option Nat} {P:Program} {Q:Exit→Act→World→Prop} {a:Act} {w:World}
theorem IS (ro:Option Nat) (n:Nat):(FR ro).room n:=fun _ h=>(by cases h)
theorem lC {c:Code} (h:c.wpIn (FR ro) 0 P Q a w):Ub f ro P c Q a w:=fun b k cs hro _=>h b k cs hro trivial (IS _ _)
theorem qN {c:Code} {Q':Exit→Act→World→Prop} (h:Ub f ro P c Q a w) (hq:∀ e a w,Q e a w→Q' e a w):Ub f ro P c Q' a w:=
 fun b k cs hro hb=>let ⟨e,a',w',q,r⟩:=h b k cs hro hb;⟨e,a',w',hq _ _ _ q,r⟩
theorem MK (h:Q .normal a w):Ub f ro P .skip Q a w:=lC (wpIn_skip h)
theorem MM {id:Nat} (h:Q (.exit id) a w):Ub f ro P (.exit id) Q a w:=lC (wpIn_exit h)
theorem RI (h:Q .ret a w):Ub f ro P .ret Q a w:=lC (wpIn_ret h)
theorem RH {x y:Code} (h:Ub f ro P x (Exit.then (Ub f ro P y Q) Q) a w):Ub f ro P (.seq x y) Q a w:=by
 intro b k cs hro hb
 have h0:∀ m,Machine.fenced P Fence.wide m:=fenced_wide P
 obtain⟨e,a₁,w₁,hq,harr⟩:=h b (.code y::k) cs hro hb
 cases e with
 | normal=>
  obtain⟨e₂,a₂,w₂,hq₂,harr₂⟩:=hq b k cs hro hb
  exact⟨e₂,a₂,w₂,hq₂,.of_steps (.head (h0 _) stepR_seq harr) harr₂⟩
 | exit id=>exact⟨_,a₁,w₁,hq,.of_steps (.one (h0 _) stepR_seq) (.pass (x:=.code y) rfl (fun _ _=> .inl (by simp)) harr)⟩
 | goto l=>exact⟨_,a₁,w₁,hq,.of_steps (.one (h0 _) stepR_seq) (.pass (x:=.code y) rfl (fun _ _=> .inl (by simp)) harr)⟩
 | ret=>exact⟨_,a₁,w₁,hq,.of_steps (.one (h0 _) stepR_seq) (.pass (x:=.code y) rfl (fun _ _=> .inl (by simp)) harr)⟩
 | panic ch=>exact⟨_,a₁,w₁,hq,.of_steps (.one (h0 _) stepR_seq) (.pass (x:=.code y) rfl (fun _ _=> .inl (by simp)) harr)⟩
 | outgrown=>exact⟨_,a₁,w₁,hq,.of_steps (.one (h0 _) stepR_seq) (.pass (x:=.code y) rfl (fun _ _=> .inl (by simp)) harr)⟩
theorem DE {c:Operand} {x y:Code} {t:Bool} (hc:a.eval c=.bool t) (h:Ub f ro P (if t then x else y) Q a w):Ub f ro P (.cond c x y) Q a w:=
 fun b k cs hro hb=>let ⟨e,a',w',q,r⟩:=h b k cs hro hb;⟨e,a',w',q,.of_steps (.one (fenced_wide P _) (stepR_cond hc)) r⟩
theorem aO {c:Operand} {x y:Code} (hc:a.eval c=.bool true) (h:Ub f ro P x Q a w):Ub f ro P (.cond c x y) Q a w:=DE hc h
theorem cD {c:Operand} {x y:Code} (hc:a.eval c=.bool false) (h:Ub f ro P y Q a w):Ub f ro P (.cond c x y) Q a w:=DE hc h
theorem KJ {id:Nat} {c:Code} (h:Ub f ro P c (Exit.inBlock id Q) a w):Ub f ro P (.block id c) Q a w:=by
 intro b k cs hro hb
 have h0:∀ m,Machine.fenced P Fence.wide m:=fenced_wide P
 obtain⟨e,a₁,w₁,hq,harr⟩:=h b (.inBlock id::k) cs hro hb
 cases e with
 | normal=>exact⟨.normal,a₁,w₁,hq,.head (h0 _) stepR_block (StepsIn.trans harr (.one (h0 _) stepR_inBlock))⟩
 | exit id'=>
  by_cases hid:id'=id
  · simp only[Exit.inBlock,hid,if_true]at hq
    exact⟨.normal,a₁,w₁,hq,.head (h0 _) stepR_block (harr.1 k (by simp[exitTo,hid]))⟩
  simp only[Exit.inBlock,hid,if_false]at hq
  have this:(id==id')=false:=by simp;exact fun h=>hid h.symm
  have hx:exitTo id' (.inBlock id::k)=exitTo id' k:=by simp[exitTo,this]
  exact⟨.exit id',a₁,w₁,hq,fun k' hk=> .head (h0 _) stepR_block (harr.1 k' (by rw[hx];exact hk)),
   fun hr' hk=>let ⟨k₁,h1,h2⟩:=harr.2 hr' (by rw[hx];exact hk);⟨k₁,h1,.head (h0 _) stepR_block h2⟩⟩
 | goto l=>
  have hx:gotoIn l (.inBlock id::k)=gotoIn l k:=by simp[gotoIn]
  exact⟨_,a₁,w₁,hq,fun k' hk=> .head (h0 _) stepR_block (harr.1 k' (by rw[hx];exact hk)),
   fun hr' hk=>let ⟨k₁,h1,h2⟩:=harr.2 hr' (by rw[hx];exact hk);⟨k₁,h1,.head (h0 _) stepR_block h2⟩⟩
 | ret=>exact⟨_,a₁,w₁,hq,.of_steps (.one (h0 _) stepR_block) harr⟩
 | panic ch=>exact⟨_,a₁,w₁,hq,.of_steps (.one (h0 _) stepR_block) harr⟩
 | outgrown=>exact⟨_,a₁,w₁,hq,.of_steps (.one (h0 _) stepR_block) harr⟩
theorem ML {c:Code} (I:Act→World→Prop) (μ:Act→World→Nat) (h₀:I a w)
 (round:∀ a w,I a w→Ub f ro P c (Exit.then (fun a' w'=>I a' w'∧μ a' w' < μ a w) Q) a w):Ub f ro P (.loop c) Q a w:=by
 intro b k cs hro hb
 have hw:∀ m,Machine.fenced P Fence.wide m:=fenced_wide P
 have key:∀ j a w,μ a w=j→I a w→
  ∃ e a' w',Q e a' w'∧ArrivesIn (Machine.fenced P Fence.wide) P (lone (b.atR a (.code c:: .inLoop c::k)) cs w) b k cs e a' w':=by
  intro j
  induction j using Nat.strongRecOn with
  | _ j ih=>
   intro a w hn hI
   obtain⟨e,a₁,w₁,hq,harr⟩:=round a w hI b (.inLoop c::k) cs hro hb
   cases e with
   | normal=>
    obtain⟨hI₁,hlt⟩:=hq
    obtain⟨e₂,a₂,w₂,hq₂,harr₂⟩:=ih (μ a₁ w₁) (hn▸hlt) a₁ w₁ rfl hI₁
    exact⟨e₂,a₂,w₂,hq₂,.of_steps (StepsIn.trans harr (.one (hw _) stepR_inLoop)) harr₂⟩
   | exit id=>exact⟨_,a₁,w₁,hq,.pass (x:=.inLoop c) rfl (fun _ _=> .inl (by simp)) harr⟩
   | goto l=>exact⟨_,a₁,w₁,hq,.pass (x:=.inLoop c) rfl (fun _ _=> .inl (by simp)) harr⟩
   | ret=>exact⟨_,a₁,w₁,hq,.pass (x:=.inLoop c) rfl (fun _ _=> .inl (by simp)) harr⟩
   | panic ch=>exact⟨_,a₁,w₁,hq,.pass (x:=.inLoop c) rfl (fun _ _=> .inl (by simp)) harr⟩
   | outgrown=>exact⟨_,a₁,w₁,hq,.pass (x:=.inLoop c) rfl (fun _ _=> .inl (by simp)) harr⟩
 obtain⟨e,a',w',hq,harr⟩:=key _ a w rfl h₀
 exact⟨e,a',w',hq,.of_steps (.one (hw _) stepR_loop) harr⟩
end rules
namespace Rn
def Cd {f:FuncId} {ro:Option Nat} (P:Program) (ds:List Deferred) (c:Code) (Q:rY) (l:List Value) (w:World):Prop:=
 Ub f ro P c (fun e a w'=>Q e a.defers a.tmps.toList w') ⟨l.toArray,ds⟩ w
def uQ (K:List Deferred→List Value→World→Prop) (Q:rY):rY
 | .normal,ds,l,w=>K ds l w
 | e,ds,l,w=>Q e ds l w
def jS (f:FuncId) (ro:Option Nat) (P:Program):List Code→rY→List Deferred→List Value→World→Prop
 | [],Q=>Q .normal
 | c::cs,Q=>fun ds l w=>Cd (f:=f) (ro:=ro) P ds c (uQ (jS f ro P cs Q) Q) l w
def Run {f:FuncId} {ro:Option Nat} (P:Program) (ds:List Deferred) (cs:List Code) (Q:rY) (l:List Value) (w:World):Prop:=jS f ro P cs Q ds l w
section code
variable {f:FuncId} {ro:Option Nat} {P:Program} {ds:List Deferred} {Q:rY} {l:List Value} {w:World} {x y:Code} {cs:List Code}
theorem zA (h:Q .normal ds l w):Run (f:=f) (ro:=ro) P ds [] Q l w:=h
theorem zN (h:Run (f:=f) (ro:=ro) P ds (x::y::cs) Q l w):Run (f:=f) (ro:=ro) P ds (.seq x y::cs) Q l w:=by
 refine RH (qN h ?_)
 rintro e ⟨t,d⟩ w' h2
 cases e with
 | normal=>exact qN h2 (fun e a w h=>by cases e <;>exact h)
 | _=>exact h2
theorem xK (h:Run (f:=f) (ro:=ro) P ds cs Q l w):Run (f:=f) (ro:=ro) P ds (.skip::cs) Q l w:=MK h
theorem wG (h:Q .ret ds l w):Run (f:=f) (ro:=ro) P ds (.ret::cs) Q l w:=RI h
theorem tF {n:Nat} (h:Q (.exit n) ds l w):Run (f:=f) (ro:=ro) P ds (.exit n::cs) Q l w:=MM h
theorem yP {c:Operand} (hc:ev l c=some (.bool true)) (h:Run (f:=f) (ro:=ro) P ds (x::cs) Q l w):Run (f:=f) (ro:=ro) P ds (.cond c x y::cs) Q l w:=
 aO (jN hc) h
theorem zX {c:Operand} (hc:ev l c=some (.bool false)) (h:Run (f:=f) (ro:=ro) P ds (y::cs) Q l w):Run (f:=f) (ro:=ro) P ds (.cond c x y::cs) Q l w:=
 cD (jN hc) h
theorem wU {c:Operand} {b:Bool} (hc:ev l c=some (.bool b)) (h1:b=true→Run (f:=f) (ro:=ro) P ds (x::cs) Q l w) (h2:b=false→Run (f:=f) (ro:=ro) P ds (y::cs) Q l w):Run (f:=f) (ro:=ro) P ds (.cond c x y::cs) Q l w:=by
 cases b
 · exact zX hc (h2 Y)
 exact yP hc (h1 Y)
def iT (n:Nat) (K:List Deferred→List Value→World→Prop) (Q:rY):rY
 | .normal,ds,l,w=>K ds l w
 | .exit i,ds,l,w=>if i=n then K ds l w else Q (.exit i) ds l w
 | e,ds,l,w=>Q e ds l w
theorem wJ {n:Nat} (h:Run (f:=f) (ro:=ro) P ds [x] (iT n (fun ds l w=>Run (f:=f) (ro:=ro) P ds cs Q l w) Q) l w):Run (f:=f) (ro:=ro) P ds (.block n x::cs) Q l w:=by
 refine KJ (qN h ?_)
 rintro e a w' h2
 cases e with
 | exit i=>
  simp only[Exit.inBlock]
  simp only[uQ,iT]at h2
  split
  · rename_i hi;rw[if_pos hi]at h2;exact h2
  rename_i hi;rw[if_neg hi]at h2;exact h2
 | _=>exact h2
theorem zB {n:Nat} {K:List Deferred→List Value→World→Prop} (h:K ds l w):iT n K Q .normal ds l w:=h
theorem zS {n:Nat} {K:List Deferred→List Value→World→Prop} (h:K ds l w):iT n K Q (.exit n) ds l w:=by simpa[iT]using h
theorem vM {n:Nat} {K:List Deferred→List Value→World→Prop} (h:Q .ret ds l w):iT n K Q .ret ds l w:=h
def aQ (K:List Deferred→List Value→World→Prop) (Q:rY):rY
 | .normal,ds,l,w=>K ds l w
 | e,ds,l,w=>Q e ds l w
theorem zH {K:List Deferred→List Value→World→Prop} (h:K ds l w):aQ K Q .normal ds l w:=h
theorem zU {n:Nat} {K:List Deferred→List Value→World→Prop} (h:Q (.exit n) ds l w):aQ K Q (.exit n) ds l w:=h
theorem yN {K:List Deferred→List Value→World→Prop} (h:Q .ret ds l w):aQ K Q .ret ds l w:=h
theorem zV (I:Nat→List Value→World→Prop) (n₀:Nat) (h₀:I n₀ l w)
 (round:∀ n l w,I n l w→Run (f:=f) (ro:=ro) P ds [x] (aQ (fun d' l' w'=>d'=ds∧∃ n',n' < n∧I n' l' w') Q) l w):Run (f:=f) (ro:=ro) P ds (.loop x::cs) Q l w:=by
 show Ub _ _ _ _ _ _ _
 have hi:∀ (a:Act) w,(∃ n,a.defers=ds∧I n a.tmps.toList w)→a.defers=ds∧I (leastOf fun n=>a.defers=ds∧I n a.tmps.toList w) a.tmps.toList w:=fun a w h=>(leastOf_spec h).1
 refine ML (fun a w=>∃ n,a.defers=ds∧I n a.tmps.toList w) (fun a w=>leastOf fun n=>a.defers=ds∧I n a.tmps.toList w) ⟨n₀,Y,h₀⟩ ?_
 rintro⟨t,d⟩ w' hI
 obtain⟨hd,h1⟩:=hi _ _ hI
 simp only at hd
 subst hd
 refine qN (round _ _ _ h1) ?_
 rintro e a w2 h2
 cases e with
 | normal=>
  obtain⟨hd,n',hn,hI'⟩:=h2
  exact⟨⟨n',hd,hI'⟩,Nat.lt_of_le_of_lt ((leastOf_spec (p:=fun n=>a.defers=d∧I n a.tmps.toList w2) ⟨n',hd,hI'⟩).2 n' ⟨hd,hI'⟩) hn⟩
 | _=>exact h2
abbrev QO (Q:rY) (ds:List Deferred):vQ:=fun e l w=>Q e ds l w
theorem zK {n:Nat} {os:List Oper} (hd:os.all sY=true) (hq:∀ l w,¬Q .outgrown ds l w) (h:Ops P ds os (fun l w=>Run (f:=f) (ro:=ro) P ds cs Q l w) (QO Q ds) os l w):Run (f:=f) (ro:=ro) P ds (.region n os.toArray false::cs) Q l w:=by
 refine lC (wpIn_region_lit ?_)
 have:=dH (ro:=ro) (n:=0) (P:=P) (ops:=os.toArray) (Q:=fun e a w'=>a.defers=ds∧QO Q ds e a.tmps.toList w') (Q':=fun e a w'=>uQ (jS f ro P cs Q) Q e a.defers a.tmps.toList w')
  (fun a w h=>hq _ _ h.2) (fun e a w he h=>by cases e <;>first | exact absurd rfl he | (obtain⟨h1,h2⟩:=h;rw[h1];exact h2)) os [] ⟨l.toArray,ds⟩ w hd ?_
 · simpa using this
 unfold Ops at h
 refine(show ∀ (os':List Oper) (a:Act) (w:World),wpList P os.toArray (Exit.then (fun a w'=>a.defers=ds∧Run (f:=f) (ro:=ro) P ds cs Q a.tmps.toList w') (fun e a w'=>a.defers=ds∧QO Q ds e a.tmps.toList w')) os' a w→wpList P os.toArray (Exit.then (wpListIn (FR ro) 0 P os.toArray (fun e a w'=>uQ (jS f ro P cs Q) Q e a.defers a.tmps.toList w') []) (fun e a w'=>a.defers=ds∧QO Q ds e a.tmps.toList w')) os' a w from ?_) os _ _ h
 intro os' a w h
 refine rQ ?_ _ _ _ h
 rintro a w ⟨hd,h2⟩
 show jS f ro P cs Q a.defers a.tmps.toList w
 rw[hd]
 exact h2
end code
end Rn
section conv
variable {ro:Option Nat} {n:Nat} {P:Program} {ops:Array Oper} {md:Region.Mode} {Q Q':Exit→Act→World→Prop}
theorem wpRR {o:Oper} {a:Act} {w:World} {next next':Act→World→Prop} (hn:∀ a w,next a w→next' a w) (hq:∀ a w,¬Q .outgrown a w) (hqq:∀ e a w,e≠ .normal→Q e a w→Q' e a w) (hd:sY o=true)
 (h:o.wp P a w next Q∨(o.asks P a w∧LetsOut Q)):o.wpIn (FR ro) n P a w next' Q':=by
 rcases h with h | ⟨_,a1,w1,h2⟩
 · have h3:=wpR (ro:=ro) (n:=n) hd h
   refine⟨h3.1,?_⟩
   have h4:=h3.2
   generalize (o.semAt (FR ro).round a.eval).run P w=r at h4 ⊢
   cases r with
   | ok x w'=>
    cases x <;>first
     | exact hn _ _ h4
     | exact h4
     | exact⟨h4.1,CallsIn.mono h4.2 (fun e w'' he=>by
      cases e with
      | returned v=>exact hn _ _ he
      | panicked ch=>exact hqq _ _ _ (by simp) he
      | outgrown=>exact absurd he.choose_spec.choose_spec (hq _ _))⟩
     | exact⟨h4.1,RowsIn.mono h4.2 (fun v w'' he=>hn _ _ he)⟩
     | exact⟨h4.1,RoundIn.mono h4.2 (fun e w'' he=>by
      cases e with
      | returned v=>exact hn _ _ he
      | panicked ch=>exact hqq _ _ _ (by simp) he
      | outgrown=>exact absurd he.choose_spec.choose_spec (hq _ _))⟩
   | halt x w'=>cases x <;>first | exact hqq _ _ _ (by simp) h4 | exact h4
 exact absurd h2 (hq _ _)
theorem UR {i:Nat} {a:Act} {w:World} {next next':Act→World→Prop} (hn:∀ a w,next a w→next' a w) (hq:∀ a w,¬Q .outgrown a w) (hqq:∀ e a w,e≠ .normal→Q e a w→Q' e a w) (hd:∀ o,ops[i]? =some o→sY o=true)
 (h:wpOp P ops Q i next a w):wpOpIn (FR ro) n P ops Q' i next' a w:=by
 unfold wpOp at h
 unfold wpOpIn
 split
 · rename_i hi;rw[hi]at h;exact hn _ _ h
 rename_i o hi
 rw[hi]at h
 simp only at h
 split
 · rename_i hw;rw[if_pos hw]at h;exact wpRR hn hq hqq (hd o hi) h
 rename_i hw;rw[if_neg hw]at h;exact⟨fun _ _=>trivial,hn _ _ h⟩
theorem MN (hq:∀ a w,¬Q .outgrown a w) (hqq:∀ e a w,Q e a w→Q' e a w) (hd:∀ (i:Nat) (o:Oper),ops[i]? =some o→sY o=true):∀ (f:Nat) (listed:Array Bool) (a:Act) (w:World),wpAny P md ops Q f listed a w→wpAnyIn (FR ro) n P md ops Q' f listed a w
 | 0,_,_,_,h=>⟨h.1,hqq _ _ _ h.2⟩
 | f+1,_,_,_,h=>⟨fun hr=>hqq _ _ _ (h.1 hr),fun i hi=>UR (fun a w h=>MN hq hqq hd f _ a w h) hq (fun e a w _ h=>hqq e a w h) (hd i) (h.2 i hi)⟩
theorem eB {os:List Oper} (hd:os.all sY=true):∀ (i:Nat) (o:Oper),os.toArray[i]? =some o→sY o=true:=by
 intro i o h
 rw[Gv]at h
 exact Et.1 hd o (Fe h)
theorem fL {a:Act} {w:World} {l:List Oper} (n:Nat) (hB:Region.lexTailB .any l.toArray n=true)
 (h:wpStill P l.toArray w (fun a'=>wpList P l.toArray Q (l.drop n) a' w) (l.take n) a):wpAny P .any l.toArray Q l.toArray.size (Array.replicate l.toArray.size false) a w:=by
 simp only[Region.lexTailB,Ci,decide_eq_true_eq]at hB
 obtain⟨⟨⟨⟨hsel,hn⟩,hs⟩,hc⟩,hlex⟩:=hB
 have hn':n < l.length:=by simpa using hn
 have htl:(l.take n).length=n:=by simp;omega
 have hdl:(l.drop n).length=l.toArray.size - n:=by simp
 have inv0:HeadInv .any l.toArray n (Array.replicate l.toArray.size false):=
  ⟨by simp,fun j oj _ hl=>(by rw[getD_replicate_false]at hl;cases hl),fun t _ ht=>getD_in (by simpa using ht) (getD_replicate_false _ _)⟩
 have H:=wpAnyL_lex (md:=.any) (g:=l.toArray.size - n) hsel hs hc hn (l.take n) 0 _ a (fun j hj=>by
  have hj':j < n:=by rw[htl]at hj;exact hj
  simp[hj']) (by simpa using htl) inv0 (by rw[htl];exact hlex) h
 have:=wpAny_of_head (Q':=Q) (g:=l.toArray.size - n) (fun listed a' hL=>by
  have:=wpAny_of_seq (md:=.any) (Q':=Q) (l.drop n) n listed a' w (fun j=>by simp[Em]) (by rw[hdl];exact hL.1) hL.2
  rwa [hdl]at this) _ _ _ H
 rw[htl,show n+(l.toArray.size - n)=l.toArray.size by omega]at this
 exact this
end conv
namespace Rn
section code
variable {f:FuncId} {ro:Option Nat} {P:Program} {ds:List Deferred} {Q:rY} {l:List Value} {w:World} {cs:List Code}
theorem DA {n:Nat} {os:List Oper} (hm:P.follows .mixedOrders=true) (hd:os.all sY=true) {Q1:Exit→Act→World→Prop} (hq:∀ a w,¬Q1 .outgrown a w) (hqq:∀ e a w,Q1 e a w→uQ (jS f ro P cs Q) Q e a.defers a.tmps.toList w)
 (h:wpAny P .any os.toArray Q1 os.toArray.size (Array.replicate os.toArray.size false) ⟨l.toArray,ds⟩ { w with drawn:=w.drawn+1 }):Run (f:=f) (ro:=ro) P ds (.region n os.toArray true::cs) Q l w:=
 lC (wpIn_region_any hm (MN hq hqq (eB hd) _ _ _ _ h))
theorem NE {n:Nat} {os:List Oper} (k:Nat) (hm:P.follows .mixedOrders=true) (hB:Region.lexTailB .any os.toArray k=true) (hd:os.all sY=true) (hq:∀ l w,¬Q .outgrown ds l w)
 (h:∀ w',w'={ w with drawn:=w.drawn+1 }→yW P ds os w' (fun l'=>Ops P ds os (fun l w=>Run (f:=f) (ro:=ro) P ds cs Q l w) (QO Q ds) (os.drop k) l' w') (os.take k) l):Run (f:=f) (ro:=ro) P ds (.region n os.toArray true::cs) Q l w:=by
 refine DA (Q1:=Exit.then (fun a w'=>a.defers=ds∧Run (f:=f) (ro:=ro) P ds cs Q a.tmps.toList w') (fun e a w'=>a.defers=ds∧QO Q ds e a.tmps.toList w')) hm hd (fun a w h=>hq _ _ h.2) ?_ (fL k hB ?_)
 · intro e a w h
   cases e with
   | normal=>show jS f ro P cs Q a.defers a.tmps.toList w;rw[h.1];exact h.2
   | _=>obtain⟨h1,h2⟩:=h;show Q _ a.defers a.tmps.toList w;rw[h1];exact h2
 have h':=h _ rfl
 unfold yW at h'
 refine still_mono ?_ _ _ h'
 rintro⟨t,d⟩ ⟨hd,h2⟩
 simp only at hd
 subst hd
 exact h2
theorem rG {n:Nat} {all:List Oper} {w0:World} {SS:List Nat} {es:List Ent} (s:List (Bool×Nat)) (H:Hp w0 w SS es) (idx:List Nat) (hm:P.follows .mixedOrders=true) (hnd:idx.Nodup)
 (hB:(Region.noSelect all.toArray && decide (s.length=all.length) && Vx all.toArray s (Array.replicate all.length false))=true) (hd:all.all sY=true)
 (h:∀ w',w'={ w with drawn:=w.drawn+1 }→rZ P ds all (fun wz=>Hp w0 wz SS (idx.map fun i=>es.getD i (none,0,[]))) (fun l w=>Run (f:=f) (ro:=ro) P ds cs Q l w) s l w'):Run (f:=f) (ro:=ro) P ds (.region n all.toArray true::cs) Q l w:=by
 simp only[Ci,decide_eq_true_eq]at hB
 obtain⟨⟨hsel,hlen⟩,hB⟩:=hB
 refine DA (Q1:=fun e a w'=>a.defers=ds∧Go.Proofs.YtjoeklkmnfaabaaGreat.uQ (fun l w=>Run (f:=f) (ro:=ro) P ds cs Q l w) (fun _ _ _=>False) e a.tmps.toList w') hm hd (fun a w h=>h.2) ?_ ?_
 · intro e a w h
   cases e with
   | normal=>show jS f ro P cs Q a.defers a.tmps.toList w;rw[h.1];exact h.2
   | _=>exact h.2.elim
 have:=I5 hsel s _ l _ hB (H.drew.pick idx hnd) (h _ rfl)
 rw[hlen]at this
 exact wpAny_of_held _ _ _ _ (by simpa using this)
theorem zR {n:Nat} {all:List Oper} {w0:World} {SS:List Nat} {es:List Ent} (z:Nat) (s:List (Bool×Nat)) (H:Hp w0 w SS es) (idx:List Nat) (hm:P.follows .mixedOrders=true) (hnd:idx.Nodup)
 (hB:(Region.noSelect all.toArray && decide (s.length=all.length) && decide (z+1=all.length) && Region.sinkB .any all.toArray z && Rx all.toArray z s (Array.replicate all.length false))=true) (hd:all.all sY=true)
 (h:∀ w',w'={ w with drawn:=w.drawn+1 }→nB P ds all (fun wz=>Hp w0 wz SS (idx.map fun i=>es.getD i (none,0,[]))) (fun l w=>Run (f:=f) (ro:=ro) P ds cs Q l w) s l w'):Run (f:=f) (ro:=ro) P ds (.region n all.toArray true::cs) Q l w:=by
 simp only[Ci,decide_eq_true_eq]at hB
 obtain⟨⟨⟨⟨hsel,hlen⟩,hz⟩,hs⟩,hB⟩:=hB
 have inv0:HeadInv .any all.toArray z (Array.replicate all.toArray.size false):=
  ⟨by simp,fun j oj _ hl=>(by rw[getD_replicate_false]at hl;cases hl),fun t _ ht=>getD_in (by simpa using ht) (getD_replicate_false _ _)⟩
 refine DA (Q1:=fun e a w'=>a.defers=ds∧Go.Proofs.YtjoeklkmnfaabaaGreat.uQ (fun l w=>Run (f:=f) (ro:=ro) P ds cs Q l w) (fun _ _ _=>False) e a.tmps.toList w') hm hd (fun a w h=>h.2) ?_ ?_
 · intro e a w h
   cases e with
   | normal=>show jS f ro P cs Q a.defers a.tmps.toList w;rw[h.1];exact h.2
   | _=>exact h.2.elim
 have:=bK (S:=fun wz=>Hp w0 wz SS (idx.map fun i=>es.getD i (none,0,[]))) (K:=fun l w=>Run (f:=f) (ro:=ro) P ds cs Q l w) (P:=P) (ds:=ds) hsel hs (by simpa using hz) s _ l { w with drawn:=w.drawn+1 } (fun _=>by simpa using inv0) hB (fun _=>H.drew.pick idx hnd) (h _ rfl)
 rw[hlen]at this
 have h2:=kH _ _ _ _ this
 simpa using h2
def DR (P:Program):List Deferred→World→(World→Prop)→Prop
 | [],w,K=>K w
 | d::ds,w,K=>∃ r w',d.target=.collected r∧(Instr.takeDeferred r).run P w=.ok [] w'∧DR P ds w' K
def fin (P:Program) (fn:Func) (R:Value→World→Prop) (RP:rO→World→Prop):rY
 | .normal,ds,l,w=>DR P ds w fun w=>∃ v,(results fn l.toArray).run P w=.ok v w∧R v w
 | .ret,ds,l,w=>DR P ds w fun w=>∃ v,(results fn l.toArray).run P w=.ok v w∧R v w
 | .panic ch,ds,_,w=>DR P ds w (RP ch)
 | _,_,_,_=>False
theorem jF {P:Program} {fn:Func} {tmps:Array Value} {R:Ending→World→Prop} {u:FrameMode} (hu:u≠ .run) {K:World→Prop} (hK:∀ w,K w→LeavesIn (FR none) 0 P fn tmps R [] u w):∀ (ds:List Deferred) (w:World),DR P ds w K→LeavesInM (FR none) 0 P fn tmps R ds u w
 | [],w,h=>hK w h
 | _::ds,_,⟨r,w',h1,h2,h3⟩=>⟨hu,.inl ⟨r,w',h1,h2,jF hu hK ds w' h3⟩⟩
theorem FY {fn:Func} {c:Code} {args:Array Value} {R:Ending→World→Prop} (hf:P.funcs[f]? =some fn) (hb:fn.body=some c)
 (h:Ub f none P c (bodyPostM (FR none) 0 P fn R) { tmps:=args++Array.replicate (fn.ntmps - args.size) undef,defers:=[] } w):Calls P f args w R:=by
 refine(callsIn_wide (n:=0)).1 ⟨trivial,fun cs _=>?_⟩
 let b:Frame:={ (default:Frame)with fn:=f,kind:=.normal,roundOf:=none }
 have henter:Frame.enter P f args .normal=
  b.atR { tmps:=args++Array.replicate (fn.ntmps - args.size) undef,defers:=[] } [.code c]:=by
  simp[Frame.enter,Frame.atR,hf,hb,b]
 have hw:∀ m,Machine.fenced P Fence.wide m:=fenced_wide P
 have hst:∀ (ds:List Deferred) (u:FrameMode) (w:World) (fr:Frame),fr.mode=u→fr.defers=ds→fr.tmps=fr.tmps→fr.fn=f→fr.kind=.normal→LeavesInM (FR none) 0 P fn fr.tmps R ds u w→
  ∃ e w' fr',R e w'∧ComesIn (Machine.fenced P Fence.wide) P (lone fr cs w) (lone fr' cs w') e∧fr'.fn=fr.fn∧fr'.leaving P w' e:=by
  intro ds u w fr hu hd _ hff hk h
  exact leaves_stepsInM (F:=FR none) (n:=0) ds u w fr cs hu hd Y (by rw[hff];exact hf) hk trivial (IS _ _) h
 obtain⟨e,a',w',hq,harr⟩:=h b [] cs rfl rfl
 rw[← henter]at harr
 cases e with
 | normal=>
  obtain⟨e',w'',fr',hR,hs,hfn,hl⟩:=hst a'.defers .returning w' { b.atR a' []with mode:=.returning } rfl rfl rfl rfl rfl hq
  exact⟨e',w'',fr',hR,ComesIn.of_steps (StepsIn.trans harr (.one (hw _) (stepR_end Y))) hs,hfn,hl⟩
 | ret=>
  obtain⟨todo,hs₀⟩:=harr.1 rfl
  obtain⟨e',w'',fr',hR,hs,hfn,hl⟩:=hst a'.defers .returning w' { b.atR a' todo with mode:=.returning } rfl rfl rfl rfl rfl hq
  exact⟨e',w'',fr',hR,ComesIn.of_steps hs₀ hs,hfn,hl⟩
 | panic chain=>
  obtain⟨todo,hs₀⟩:=harr
  obtain⟨e',w'',fr',hR,hs,hfn,hl⟩:=hst a'.defers (.panicking chain) w' { b.atR a' todo with mode:=.panicking chain } rfl rfl rfl rfl rfl hq
  exact⟨e',w'',fr',hR,ComesIn.of_steps hs₀ hs,hfn,hl⟩
 | exit id=>exact hq.elim
 | goto l=>exact hq.elim
 | outgrown=>exact⟨.outgrown,w',b,hq,harr.resolve_left (by simp[b]),rfl,trivial⟩
theorem zG {fn:Func} {c:Code} {args:List Value} {R:Value→World→Prop} {RP:rO→World→Prop} {n:Nat} (hf:P.funcs[f]? =some fn) (hn:fn.ntmps=n) (hb:fn.body=some c)
 (h:Run (f:=f) (ro:=none) P [] [c] (fin P fn R RP) (args++List.replicate (n - args.length) undef) w):qA P f args.toArray w R RP:=by
 refine FY hf hb ?_
 have e:(args.toArray++Array.replicate (fn.ntmps - args.toArray.size) undef)=(args++List.replicate (n - args.length) undef).toArray:=by
  rw[hn];simp
 rw[e]
 refine qN h ?_
 intro e a w' hq
 have e2:a.tmps.toList.toArray=a.tmps:=by simp
 cases e with
 | normal=>
  refine jF (by simp) (fun w hw=>?_) _ _ hq
  obtain⟨v,h1,h2⟩:=hw
  rw[e2]at h1
  exact⟨v,h1,h2⟩
 | ret=>
  refine jF (by simp) (fun w hw=>?_) _ _ hq
  obtain⟨v,h1,h2⟩:=hw
  rw[e2]at h1
  exact⟨v,h1,h2⟩
 | panic ch=>exact jF (by simp) (fun w hw=>hw) _ _ hq
 | exit id=>exact hq.elim
 | goto l=>exact hq.elim
 | outgrown=>exact hq.elim
end code
end Rn
end Go.Proofs.YtjoeklkmnfaabaaGreat
