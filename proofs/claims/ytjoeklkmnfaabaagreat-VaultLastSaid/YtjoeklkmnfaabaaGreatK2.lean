/-
  Parts of the walk, one behind the other.
-/
import Derived.Test.YtjoeklkmnfaabaaGreatK1
import Derived.Laws.CopyRow
namespace Go.Proofs.YtjoeklkmnfaabaaGreat
open Go Go.RowKit
set_option linter.unusedVariables false
set_option linter.unusedSimpArgs false
section conv
variable {ro:Option Nat} {n:Nat} {P:Program} {ops:Array Oper} {md:Region.Mode} {Q Q':Exit→Act→World→Prop}
theorem wpRR {o:Oper} {a:Act} {w:World} {next next':Act→World→Prop} (hn:∀ a w,next a w→next' a w) (hq:∀ a w,¬Q .outgrown a w) (hqq:∀ e a w,e≠ .normal→Q e a w→Q' e a w) (hd:sN o=true)
 (h:o.wp P a w next Q∨(o.asks P a w∧LetsOut Q)):o.wpIn (FR ro) n P a w next' Q':=by
 rcases h with h | ⟨_,a1,w1,h2⟩
 · have h3:=wpR (ro:=ro) (n:=n) hd h
   refine⟨h3.1,?_⟩
   have h4:=h3.2
   generalize (o.semAt (FR ro).round a.eval).run P w=r at h4 ⊢
   cases r with
   | ok x w'=>
    cases x <;>first
     | exact hn _ _ h4
     | exact h4
     | exact⟨h4.1,CallsIn.mono h4.2 (fun e w'' he=>by
      cases e with
      | returned v=>exact hn _ _ he
      | panicked ch=>exact hqq _ _ _ (by simp) he
      | outgrown=>exact absurd he.choose_spec.choose_spec (hq _ _))⟩
     | exact⟨h4.1,RowsIn.mono h4.2 (fun v w'' he=>hn _ _ he)⟩
     | exact⟨h4.1,RoundIn.mono h4.2 (fun e w'' he=>by
      cases e with
      | returned v=>exact hn _ _ he
      | panicked ch=>exact hqq _ _ _ (by simp) he
      | outgrown=>exact absurd he.choose_spec.choose_spec (hq _ _))⟩
   | halt x w'=>cases x <;>first | exact hqq _ _ _ (by simp) h4 | exact h4
 · exact absurd h2 (hq _ _)
theorem TF {i:Nat} {a:Act} {w:World} {next next':Act→World→Prop} (hn:∀ a w,next a w→next' a w) (hq:∀ a w,¬Q .outgrown a w) (hqq:∀ e a w,e≠ .normal→Q e a w→Q' e a w) (hd:∀ o,ops[i]? =some o→sN o=true)
 (h:wpOp P ops Q i next a w):wpOpIn (FR ro) n P ops Q' i next' a w:=by
 unfold wpOp at h
 unfold wpOpIn
 split
 · rename_i hi;rw[hi]at h;exact hn _ _ h
 · rename_i o hi
   rw[hi]at h
   simp only at h
   split
   · rename_i hw;rw[if_pos hw]at h;exact wpRR hn hq hqq (hd o hi) h
   · rename_i hw;rw[if_neg hw]at h;exact⟨fun _ _=>trivial,hn _ _ h⟩
theorem LN (hq:∀ a w,¬Q .outgrown a w) (hqq:∀ e a w,Q e a w→Q' e a w) (hd:∀ (i:Nat) (o:Oper),ops[i]? =some o→sN o=true):∀ (f:Nat) (listed:Array Bool) (a:Act) (w:World),wpAny P md ops Q f listed a w→wpAnyIn (FR ro) n P md ops Q' f listed a w
 | 0,_,_,_,h=>⟨h.1,hqq _ _ _ h.2⟩
 | f+1,_,_,_,h=>⟨fun hr=>hqq _ _ _ (h.1 hr),fun i hi=>TF (fun a w h=>LN hq hqq hd f _ a w h) hq (fun e a w _ h=>hqq e a w h) (hd i) (h.2 i hi)⟩
theorem fH {os:List Oper} (hd:os.all sN=true):∀ (i:Nat) (o:Oper),os.toArray[i]? =some o→sN o=true:=by
 intro i o h
 rw[List.getElem?_toArray]at h
 exact List.all_eq_true.1 hd o (List.mem_of_getElem? h)
theorem gL {a:Act} {w:World} {l:List Oper} (n:Nat) (hB:Region.lexTailB .any l.toArray n=true)
 (h:wpStill P l.toArray w (fun a'=>wpList P l.toArray Q (l.drop n) a' w) (l.take n) a):wpAny P .any l.toArray Q l.toArray.size (Array.replicate l.toArray.size false) a w:=by
 simp only[Region.lexTailB,Bool.and_eq_true,decide_eq_true_eq]at hB
 obtain⟨⟨⟨⟨hsel,hn⟩,hs⟩,hc⟩,hlex⟩:=hB
 have hn':n < l.length:=by simpa using hn
 have htl:(l.take n).length=n:=by simp;omega
 have hdl:(l.drop n).length=l.toArray.size - n:=by simp
 have inv0:HeadInv .any l.toArray n (Array.replicate l.toArray.size false):=
  ⟨by simp,fun j oj _ hl=>(by rw[getD_replicate_false]at hl;cases hl),fun t _ ht=>getD_in (by simpa using ht) (getD_replicate_false _ _)⟩
 have H:=wpAnyL_lex (md:=.any) (g:=l.toArray.size - n) hsel hs hc hn (l.take n) 0 _ a (fun j hj=>by
  have hj':j < n:=by rw[htl]at hj;exact hj
  simp[hj']) (by simpa using htl) inv0 (by rw[htl];exact hlex) h
 have:=wpAny_of_head (Q':=Q) (g:=l.toArray.size - n) (fun listed a' hL=>by
  have:=wpAny_of_seq (md:=.any) (Q':=Q) (l.drop n) n listed a' w (fun j=>by simp[List.getElem?_drop]) (by rw[hdl];exact hL.1) hL.2
  rwa [hdl]at this) _ _ _ H
 rw[htl,show n+(l.toArray.size - n)=l.toArray.size by omega]at this
 exact this
end conv
namespace Rn
section code
variable {f:FuncId} {ro:Option Nat} {P:Program} {ds:List Deferred} {Q:rS} {l:List Value} {w:World} {cs:List Code}
theorem CB {n:Nat} {os:List Oper} (hm:P.follows .mixedOrders=true) (hd:os.all sN=true) {Q1:Exit→Act→World→Prop} (hq:∀ a w,¬Q1 .outgrown a w) (hqq:∀ e a w,Q1 e a w→uQ (jA f ro P cs Q) Q e a.defers a.tmps.toList w)
 (h:wpAny P .any os.toArray Q1 os.toArray.size (Array.replicate os.toArray.size false) ⟨l.toArray,ds⟩ { w with drawn:=w.drawn+1 }):Run (f:=f) (ro:=ro) P ds (.region n os.toArray true::cs) Q l w:=
 mQ (wpIn_region_any hm (LN hq hqq (fH hd) _ _ _ _ h))
theorem L9 {n:Nat} {os:List Oper} (k:Nat) (hm:P.follows .mixedOrders=true) (hB:Region.lexTailB .any os.toArray k=true) (hd:os.all sN=true) (hq:∀ l w,¬Q .outgrown ds l w)
 (h:∀ w',w'={ w with drawn:=w.drawn+1 }→yT P ds os w' (fun l'=>Ops P ds os (fun l w=>Run (f:=f) (ro:=ro) P ds cs Q l w) (QO Q ds) (os.drop k) l' w') (os.take k) l):Run (f:=f) (ro:=ro) P ds (.region n os.toArray true::cs) Q l w:=by
 refine CB (Q1:=Exit.then (fun a w'=>a.defers=ds∧Run (f:=f) (ro:=ro) P ds cs Q a.tmps.toList w') (fun e a w'=>a.defers=ds∧QO Q ds e a.tmps.toList w')) hm hd (fun a w h=>hq _ _ h.2) ?_ (gL k hB ?_)
 · intro e a w h
   cases e with
   | normal=>show jA f ro P cs Q a.defers a.tmps.toList w;rw[h.1];exact h.2
   | _=>obtain⟨h1,h2⟩:=h;show Q _ a.defers a.tmps.toList w;rw[h1];exact h2
 · have h':=h _ rfl
   unfold yT at h'
   refine still_mono ?_ _ _ h'
   rintro⟨t,d⟩ ⟨hd,h2⟩
   simp only at hd
   subst hd
   exact h2
theorem sW {n:Nat} {all:List Oper} {w0:World} {SS:List Nat} {es:List Ent} (s:List (Bool×Nat)) (H:Hp w0 w SS es) (idx:List Nat) (hm:P.follows .mixedOrders=true) (hnd:idx.Nodup)
 (hB:(Region.noSelect all.toArray && decide (s.length=all.length) && mixB all.toArray s (Array.replicate all.length false))=true) (hd:all.all sN=true)
 (h:∀ w',w'={ w with drawn:=w.drawn+1 }→rT P ds all (fun wz=>Hp w0 wz SS (idx.map fun i=>es.getD i (none,0,[]))) (fun l w=>Run (f:=f) (ro:=ro) P ds cs Q l w) s l w'):Run (f:=f) (ro:=ro) P ds (.region n all.toArray true::cs) Q l w:=by
 simp only[Bool.and_eq_true,decide_eq_true_eq]at hB
 obtain⟨⟨hsel,hlen⟩,hB⟩:=hB
 refine CB (Q1:=fun e a w'=>a.defers=ds∧Go.Proofs.YtjoeklkmnfaabaaGreat.uQ (fun l w=>Run (f:=f) (ro:=ro) P ds cs Q l w) (fun _ _ _=>False) e a.tmps.toList w') hm hd (fun a w h=>h.2) ?_ ?_
 · intro e a w h
   cases e with
   | normal=>show jA f ro P cs Q a.defers a.tmps.toList w;rw[h.1];exact h.2
   | _=>exact h.2.elim
 · have:=HK hsel s _ l _ hB (H.drew.pick idx hnd) (h _ rfl)
   rw[hlen]at this
   exact wpAny_of_held _ _ _ _ (by simpa using this)
theorem zR {n:Nat} {all:List Oper} {w0:World} {SS:List Nat} {es:List Ent} (z:Nat) (s:List (Bool×Nat)) (H:Hp w0 w SS es) (idx:List Nat) (hm:P.follows .mixedOrders=true) (hnd:idx.Nodup)
 (hB:(Region.noSelect all.toArray && decide (s.length=all.length) && decide (z+1=all.length) && Region.sinkB .any all.toArray z && Ia all.toArray z s (Array.replicate all.length false))=true) (hd:all.all sN=true)
 (h:∀ w',w'={ w with drawn:=w.drawn+1 }→oS P ds all (fun wz=>Hp w0 wz SS (idx.map fun i=>es.getD i (none,0,[]))) (fun l w=>Run (f:=f) (ro:=ro) P ds cs Q l w) s l w'):Run (f:=f) (ro:=ro) P ds (.region n all.toArray true::cs) Q l w:=by
 simp only[Bool.and_eq_true,decide_eq_true_eq]at hB
 obtain⟨⟨⟨⟨hsel,hlen⟩,hz⟩,hs⟩,hB⟩:=hB
 have inv0:HeadInv .any all.toArray z (Array.replicate all.toArray.size false):=
  ⟨by simp,fun j oj _ hl=>(by rw[getD_replicate_false]at hl;cases hl),fun t _ ht=>getD_in (by simpa using ht) (getD_replicate_false _ _)⟩
 refine CB (Q1:=fun e a w'=>a.defers=ds∧Go.Proofs.YtjoeklkmnfaabaaGreat.uQ (fun l w=>Run (f:=f) (ro:=ro) P ds cs Q l w) (fun _ _ _=>False) e a.tmps.toList w') hm hd (fun a w h=>h.2) ?_ ?_
 · intro e a w h
   cases e with
   | normal=>show jA f ro P cs Q a.defers a.tmps.toList w;rw[h.1];exact h.2
   | _=>exact h.2.elim
 · have:=cF (S:=fun wz=>Hp w0 wz SS (idx.map fun i=>es.getD i (none,0,[]))) (K:=fun l w=>Run (f:=f) (ro:=ro) P ds cs Q l w) (P:=P) (ds:=ds) hsel hs (by simpa using hz) s _ l { w with drawn:=w.drawn+1 } (fun _=>by simpa using inv0) hB (fun _=>H.drew.pick idx hnd) (h _ rfl)
   rw[hlen]at this
   have h2:=lU _ _ _ _ this
   simpa using h2
def CS (P:Program):List Deferred→World→(World→Prop)→Prop
 | [],w,K=>K w
 | d::ds,w,K=>∃ r w',d.target=.collected r∧(Instr.takeDeferred r).run P w=.ok [] w'∧CS P ds w' K
def fin (P:Program) (fn:Func) (R:Value→World→Prop) (RP:rH→World→Prop):rS
 | .normal,ds,l,w=>CS P ds w fun w=>∃ v,(results fn l.toArray).run P w=.ok v w∧R v w
 | .ret,ds,l,w=>CS P ds w fun w=>∃ v,(results fn l.toArray).run P w=.ok v w∧R v w
 | .panic ch,ds,_,w=>CS P ds w (RP ch)
 | _,_,_,_=>False
theorem kL {P:Program} {fn:Func} {tmps:Array Value} {R:Ending→World→Prop} {u:FrameMode} (hu:u≠ .run) {K:World→Prop} (hK:∀ w,K w→LeavesIn (FR none) 0 P fn tmps R [] u w):∀ (ds:List Deferred) (w:World),CS P ds w K→LeavesInM (FR none) 0 P fn tmps R ds u w
 | [],w,h=>hK w h
 | _::ds,_,⟨r,w',h1,h2,h3⟩=>⟨hu,.inl ⟨r,w',h1,h2,kL hu hK ds w' h3⟩⟩
theorem EP {fn:Func} {c:Code} {args:Array Value} {R:Ending→World→Prop} (hf:P.funcs[f]? =some fn) (hb:fn.body=some c)
 (h:Ja f none P c (bodyPostM (FR none) 0 P fn R) { tmps:=args++Array.replicate (fn.ntmps - args.size) undef,defers:=[] } w):Calls P f args w R:=by
 refine(callsIn_wide (n:=0)).1 ⟨trivial,fun cs _=>?_⟩
 let b:Frame:={ (default:Frame)with fn:=f,kind:=.normal,roundOf:=none }
 have henter:Frame.enter P f args .normal=
  b.atR { tmps:=args++Array.replicate (fn.ntmps - args.size) undef,defers:=[] } [.code c]:=by
  simp[Frame.enter,Frame.atR,hf,hb,b]
 have hw:∀ m,Machine.fenced P Fence.wide m:=fenced_wide P
 have hst:∀ (ds:List Deferred) (u:FrameMode) (w:World) (fr:Frame),fr.mode=u→fr.defers=ds→fr.tmps=fr.tmps→fr.fn=f→fr.kind=.normal→LeavesInM (FR none) 0 P fn fr.tmps R ds u w→
  ∃ e w' fr',R e w'∧ComesIn (Machine.fenced P Fence.wide) P (lone fr cs w) (lone fr' cs w') e∧fr'.fn=fr.fn∧fr'.leaving P w' e:=by
  intro ds u w fr hu hd _ hff hk h
  exact leaves_stepsInM (F:=FR none) (n:=0) ds u w fr cs hu hd Y (by rw[hff];exact hf) hk trivial (GV _ _) h
 obtain⟨e,a',w',hq,harr⟩:=h b [] cs rfl rfl
 rw[← henter]at harr
 cases e with
 | normal=>
  obtain⟨e',w'',fr',hR,hs,hfn,hl⟩:=hst a'.defers .returning w' { b.atR a' []with mode:=.returning } rfl rfl rfl rfl rfl hq
  exact⟨e',w'',fr',hR,ComesIn.of_steps (StepsIn.trans harr (.one (hw _) (stepR_end Y))) hs,hfn,hl⟩
 | ret=>
  obtain⟨todo,hs₀⟩:=harr.1 rfl
  obtain⟨e',w'',fr',hR,hs,hfn,hl⟩:=hst a'.defers .returning w' { b.atR a' todo with mode:=.returning } rfl rfl rfl rfl rfl hq
  exact⟨e',w'',fr',hR,ComesIn.of_steps hs₀ hs,hfn,hl⟩
 | panic chain=>
  obtain⟨todo,hs₀⟩:=harr
  obtain⟨e',w'',fr',hR,hs,hfn,hl⟩:=hst a'.defers (.panicking chain) w' { b.atR a' todo with mode:=.panicking chain } rfl rfl rfl rfl rfl hq
  exact⟨e',w'',fr',hR,ComesIn.of_steps hs₀ hs,hfn,hl⟩
 | exit id=>exact hq.elim
 | goto l=>exact hq.elim
 | outgrown=>exact⟨.outgrown,w',b,hq,harr.resolve_left (by simp[b]),rfl,trivial⟩
theorem zE {fn:Func} {c:Code} {args:List Value} {R:Value→World→Prop} {RP:rH→World→Prop} {n:Nat} (hf:P.funcs[f]? =some fn) (hn:fn.ntmps=n) (hb:fn.body=some c)
 (h:Run (f:=f) (ro:=none) P [] [c] (fin P fn R RP) (args++List.replicate (n - args.length) undef) w):rV P f args.toArray w R RP:=by
 refine EP hf hb ?_
 have e:(args.toArray++Array.replicate (fn.ntmps - args.toArray.size) undef)=(args++List.replicate (n - args.length) undef).toArray:=by
  rw[hn];simp
 rw[e]
 refine qG h ?_
 intro e a w' hq
 have e2:a.tmps.toList.toArray=a.tmps:=by simp
 cases e with
 | normal=>
  refine kL (by simp) (fun w hw=>?_) _ _ hq
  obtain⟨v,h1,h2⟩:=hw
  rw[e2]at h1
  exact⟨v,h1,h2⟩
 | ret=>
  refine kL (by simp) (fun w hw=>?_) _ _ hq
  obtain⟨v,h1,h2⟩:=hw
  rw[e2]at h1
  exact⟨v,h1,h2⟩
 | panic ch=>exact kL (by simp) (fun w hw=>hw) _ _ hq
 | exit id=>exact hq.elim
 | goto l=>exact hq.elim
 | outgrown=>exact hq.elim
end code
end Rn
section
variable {P:Program} {k:FuncId} {w:World}
abbrev dfr (k:FuncId) (vs:List Value):Deferred:={ target:=.fn (.func k) vs.toArray,args:=#[] }
def Rec (u:FrameMode) (v:Value) (u':FrameMode):Prop:=
 (u=.returning∧v=.nilIface∧u'=.returning)∨(∃ x,u=.panicking [{ v:=x,recovered:=false }]∧v=x∧u'=.panicking [{ v:=x,recovered:=true }])
theorem Rec.settle {u:FrameMode} {v:Value} {u':FrameMode} (h:Rec u v u'):settle u'=.returning:=by
 rcases h with ⟨_,_,rfl⟩ | ⟨x,_,_,rfl⟩ <;>rfl
theorem Rec.run {u:FrameMode} {v:Value} {u':FrameMode} (h:Rec u v u'):u≠ .run:=by
 rcases h with ⟨rfl,_,_⟩ | ⟨x,rfl,_,_⟩ <;>simp
theorem bA (ρ:Operand→Value) (d:Option Tmp) (ty:TypeId) (pos:String) (af:Array Edge) (ats:Array TypeId):(execOp ρ ⟨d,.call { callee:=.builtin .recover,args:=#[],argTypes:=ats },ty,pos,af,none⟩).run P w=.ok .recover w:=by
 simp[execOp,resolve,invoke,builtin]
theorem dS {fn:Func} {n m:Nat} {rest:Code} {d1 d2:Tmp} {t1 t2:TypeId} {p1 p2:String} {a1 a2:Array Edge} {args:List Value} {u u':FrameMode} {v:Value} {R:Value→World→Prop} (hf:P.funcs[k]? =some fn) (hn:fn.ntmps=m)
 (hb:fn.body=some (.seq (.region n #[⟨some d1,.call { callee:=.builtin .recover,args:=#[],argTypes:=#[] },t1,p1,a1,none⟩,⟨some d2,.assign (.tmp d1),t2,p2,a2,none⟩] false) rest))
 (hrec:Rec u v u') (hv:nth ((args++List.replicate (m - args.length) undef).set d1 v) d1=some v) (h:Run P [] [rest] (fin P fn R) (((args++List.replicate (m - args.length) undef).set d1 v).set d2 v) w):
 CallsDIn (FR none) 0 P k args.toArray u w fun e u1 w'=>∃ r,e=.returned r∧u1=u'∧R r w':=by
 refine⟨trivial,fun c₀ cs hu _=>?_⟩
 show ∃ e u1 w' fr,_∧ComesIn (Machine.fenced P Fence.wide) P _ _ e∧_∧_∧_
 let b:Frame:={ (default:Frame)with fn:=k,kind:=.deferred }
 have e1:(args.toArray++Array.replicate (fn.ntmps - args.toArray.size) undef)=(args++List.replicate (m - args.length) undef).toArray:=by
  rw[hn];simp
 have henter:Frame.enter P k args.toArray .deferred=
  b.at ⟨(args++List.replicate (m - args.length) undef).toArray,[]⟩ [.code (.seq (.region n #[⟨some d1,.call { callee:=.builtin .recover,args:=#[],argTypes:=#[] },t1,p1,a1,none⟩,⟨some d2,.assign (.tmp d1),t2,p2,a2,none⟩] false) rest)]:=by
  have e1':(args.toArray++Array.replicate (m - args.toArray.size) undef)=(args++List.replicate (m - args.length) undef).toArray:=by simp
  simp[Frame.enter,Frame.at,hf,hb,hn,b]
 have hS:(Code.seq (.region n #[⟨some d1,.call { callee:=.builtin .recover,args:=#[],argTypes:=#[] },t1,p1,a1,none⟩,⟨some d2,.assign (.tmp d1),t2,p2,a2,none⟩] false) rest).wpS P
  (fun e a cs' w'=>(e=.normal∨e=.ret)∧a.defers=[]∧cs'={ c₀ with mode:=u' }::cs∧∃ r,(results fn a.tmps).run P w'=.ok r w'∧R r w') ⟨(args++List.replicate (m - args.length) undef).toArray,[]⟩ (c₀::cs) w:=by
  refine wpS_seq (wpS_region ?_)
  generalize hl:args++List.replicate (m - args.length) undef=l at hv h ⊢
  have hrest:∀ cs',cs'={ c₀ with mode:=u' }::cs→wpOpsS P #[⟨some d1,.call { callee:=.builtin .recover,args:=#[],argTypes:=#[] },t1,p1,a1,none⟩,⟨some d2,.assign (.tmp d1),t2,p2,a2,none⟩]
   (Exit.thenS (rest.wpS P (fun e a cs' w'=>(e=.normal∨e=.ret)∧a.defers=[]∧cs'={ c₀ with mode:=u' }::cs∧∃ r,(results fn a.tmps).run P w'=.ok r w'∧R r w')) (fun e a cs' w'=>(e=.normal∨e=.ret)∧a.defers=[]∧cs'={ c₀ with mode:=u' }::cs∧∃ r,(results fn a.tmps).run P w'=.ok r w'∧R r w')) [1] ((⟨l.toArray,[]⟩:Act).put (some d1) v) cs' w:=by
   intro cs' hcs
   have hx:(execOp ((⟨l.toArray,[]⟩:Act).put (some d1) v).eval ⟨some d2,.assign (.tmp d1),t2,p2,a2,none⟩).run P w=.ok (.value v) w:=by
    rw[tF]
    have:(⟨(l.set d1 v).toArray,[]⟩:Act).eval (.tmp d1)=v:=kV (x:=.tmp d1) (by simpa[ev]using hv)
    simp[execOp,this]
   simp only[wpOpsS,List.getElem?_toArray,List.getElem?_cons_succ,List.getElem?_cons_zero,Region.wanted,if_true,hx]
   rw[Oper.upon_value,tF,tF]
   refine wpS_of_wp (Go.wp_mono h ?_)
   rintro e ⟨t,d⟩ w' ⟨hd,hq⟩
   simp only at hd
   subst hd
   have fin':∀ {e:Exit},(e=.normal∨e=.ret)→(∃ r,(results fn t).run P w'=.ok r w'∧R r w')→(e=.normal∨e=.ret)∧(⟨t,[]⟩:Act).defers=[]∧cs'={ c₀ with mode:=u' }::cs∧∃ r,(results fn (⟨t,[]⟩:Act).tmps).run P w'=.ok r w'∧R r w':=fun h1 h2=>⟨h1,rfl,hcs,h2⟩
   cases e with
   | normal=>exact fin' (.inl rfl) (by simpa[uQ,Run,fin]using hq)
   | ret=>exact fin' (.inr rfl) (by simpa[uQ,Run,fin]using hq)
   | exit i=>exact hq.elim
   | goto t=>exact hq.elim
   | panic ch=>exact hq.elim
   | outgrown=>exact hq.elim
  show wpOpsS P _ _ [0,1] _ _ _
  unfold wpOpsS
  simp only[List.getElem?_toArray,List.getElem?_cons_zero,Region.wanted,if_true,bA]
  rcases hrec with ⟨h1,h2,h3⟩ | ⟨x,h1,h2,h3⟩
  · have:recoverD (c₀::cs)=none:=by simp[recoverD,hu,h1]
    rw[this]
    subst h2
    refine hrest _ ?_
    rw[h3,← h1,← hu]
  · have:recoverD (c₀::cs)=some (x,{ c₀ with mode:=u' }::cs):=by simp[recoverD,hu,h1,h3]
    rw[this]
    subst h2
    exact hrest _ Y
 obtain⟨e,a',cs',w',hq,harr⟩:=hS b [] rfl rfl
 rw[← henter]at harr
 obtain⟨hcase,hd,rfl,v',hr,hR⟩:=hq
 rcases hcase with rfl | rfl
 · exact⟨.returned v',u',w',_,⟨v',Y,Y,hR⟩,comesIn_wide.2 (Steps.trans harr (.one step_end)),Y,Y,Y,hd,fn,hf,hr⟩
 · obtain⟨todo,hs⟩:=harr
   exact⟨.returned v',u',w',_,⟨v',Y,Y,hR⟩,comesIn_wide.2 hs,Y,Y,Y,hd,fn,hf,hr⟩
end
namespace Rn
section
variable {f:FuncId} {P:Program} {ds:List Deferred} {Q:rS} {l:List Value} {w:World} {cs:List Code}
theorem aH {n:Nat} {d:Tmp} {k:FuncId} {caps:List Operand} {vs:List Value} {t1 t2:TypeId} {p1 p2:String} {a1 a2:Array Edge} (h1:evs l caps=some vs) (hn:nth (l.set d (.func (.func k) #[] vs.toArray)) d=some (.func (.func k) #[] vs.toArray))
 (h:Run (f:=f) (ro:=none) P (dfr k vs::ds) cs Q (l.set d (.func (.func k) #[] vs.toArray)) w):
 Run (f:=f) (ro:=none) P ds (.region n #[⟨some d,.makeFunc (.func k) #[] caps.toArray,t1,p1,a1,none⟩,⟨none,.defer { callee:=.value (.tmp d),args:=#[],argTypes:=#[] },t2,p2,a2,none⟩] false::cs) Q l w:=by
 refine mQ (wpIn_region_lit (l:=[⟨some d,.makeFunc (.func k) #[] caps.toArray,t1,p1,a1,none⟩,⟨none,.defer { callee:=.value (.tmp d),args:=#[],argTypes:=#[] },t2,p2,a2,none⟩]) ?_)
 have e1:=wK (P:=P) (ty:=t1) (w:=w) (fn:=.func k) (ys:=caps) (xs:=[]) (us:=[]) rfl h1 (some d) p1 a1 none
 have e2:(execOp (rho (l.set d (.func (.func k) #[] vs.toArray))) ⟨none,.defer { callee:=.value (.tmp d),args:=#[],argTypes:=#[] },t2,p2,a2,none⟩).run P w=.ok (.defer (dfr k vs)) w:=by
  have:rho (l.set d (.func (.func k) #[] vs.toArray)) (.tmp d)=.func (.func k) #[] vs.toArray:=zV (by simpa[ev]using hn)
  simp[execOp,resolve,Deferred.ofValue,this]
 refine wpListIn_plain Y fun K hK=>⟨fun _ _=>trivial,?_⟩
 rw[Oper.semAt_eq _ _ _ (fun c hc=>(by cases hc)),tU,e1]
 refine hK _ _ ?_
 rw[tF]
 refine wpListIn_plain Y fun K2 hK2=>⟨fun _ _=>trivial,?_⟩
 rw[show ∀ (ρ:Operand→Value) (o:Oper),Oper.semAt (FR none).round ρ o=execOp ρ o from fun ρ o=>Oper.semAt_none ρ o,tU,e2]
 refine hK2 _ _ ?_
 exact h
def PH (R:Value→World→Prop) (RP:rH→World→Prop):Ending→World→Prop
 | .returned v,w=>R v w
 | .panicked ch,w=>RP ch w
 | .outgrown,_=>False
def O8 (P:Program) (fn:Func) (R:Value→World→Prop) (RP:rH→World→Prop):rS
 | .normal,ds,l,w=>LeavesInM (FR none) 0 P fn l.toArray (PH R RP) ds .returning w
 | .ret,ds,l,w=>LeavesInM (FR none) 0 P fn l.toArray (PH R RP) ds .returning w
 | .panic ch,ds,l,w=>LeavesInM (FR none) 0 P fn l.toArray (PH R RP) ds (.panicking ch) w
 | _,_,_,_=>False
theorem EA {fn:Func} {c:Code} {args:List Value} {R:Value→World→Prop} {RP:rH→World→Prop} {n:Nat} (hf:P.funcs[f]? =some fn) (hn:fn.ntmps=n) (hb:fn.body=some c)
 (h:Run (f:=f) (ro:=none) P [] [c] (O8 P fn R RP) (args++List.replicate (n - args.length) undef) w):rV P f args.toArray w R RP:=by
 refine Calls.mono (R:=PH R RP) (EP hf hb ?_) (fun e w h=>by cases e <;>exact h)
 have e:(args.toArray++Array.replicate (fn.ntmps - args.toArray.size) undef)=(args++List.replicate (n - args.length) undef).toArray:=by
  rw[hn];simp
 rw[e]
 refine qG h ?_
 intro e a w' hq
 have e2:a.tmps.toList.toArray=a.tmps:=by simp
 cases e with
 | normal=>unfold uQ jA O8 at hq;simp only[e2]at hq;exact hq
 | ret=>unfold uQ O8 at hq;simp only[e2]at hq;exact hq
 | panic ch=>unfold uQ O8 at hq;simp only[e2]at hq;exact hq
 | exit id=>exact hq.elim
 | goto l=>exact hq.elim
 | outgrown=>exact hq.elim
theorem O7 {fn:Func} {R:Value→World→Prop} {RP:rH→World→Prop} {v:Value} (h:(results fn l.toArray).run P w=.ok v w) (hR:R v w):O8 P fn R RP .ret [] l w:=⟨v,h,hR⟩
theorem jS {fn:Func} {k:FuncId} {vs:List Value} {R:Value→World→Prop} {RP:rH→World→Prop} {u u':FrameMode} {v:Value} (hgo:yB P k=true) (hrec:Rec u v u')
 (h:CallsDIn (FR none) 0 P k vs.toArray u w fun e u1 w'=>∃ r,e=.returned r∧u1=u'∧∃ v,(results fn l.toArray).run P w'=.ok v w'∧R v w'):LeavesInM (FR none) 0 P fn l.toArray (PH R RP) [dfr k vs] u w:=by
 refine⟨hrec.run,.inr ⟨fun hd=>(by cases hd),.func k,vs.toArray,k,vs.toArray,Y,?_,fun _ _=>trivial,?_⟩⟩
 · simp[invoke,iG hgo]
 · refine⟨trivial,fun c cs hu hr=>?_⟩
   obtain⟨e,u1,w',fr,⟨r,he,hu1,v',h1,h2⟩,h3⟩:=h.2 c cs hu (GV _ _)
   refine⟨e,u1,w',fr,?_,h3⟩
   rw[he,hu1]
   show LeavesInM _ _ _ _ _ _ [] (Go.settle u') w'
   rw[hrec.settle]
   exact⟨v',h1,h2⟩
end
end Rn
section round
variable {P:Program} {f:FuncId} {w:World}
def RE (P:Program) (L:Nat) (R:Ending→World→Prop):Exit→Act→World→Prop
 | .normal,_,w=>∃ v w',(Instr.endRound L none).run P w=.ok v w'∧R (.returned v) w'
 | .ret,_,w=>∃ v w',(Instr.endRound L (some .ret)).run P w=.ok v w'∧R (.returned v) w'
 | .exit id,_,w=>∃ v w',(Instr.endRound L (some (.exit id))).run P w=.ok v w'∧R (.returned v) w'
 | .panic ch,a,w=>a.defers=[]∧R (.panicked ch) w
 | _,_,_=>False
theorem FJ {L:Nat} {tmps:Array Value} {assign body:Code} {R:Ending→World→Prop} {fn:Func} (hf:P.funcs[f]? =some fn)
 (h:Ja f (some L) P assign (Exit.then (fun a₁ w₁=>∃ w₂,(Instr.beginRound L).run P w₁=.ok () w₂∧Ja f (some L) P body (RE P L R) a₁ w₂) (fun _ _ _=>False)) { tmps:=tmps,defers:=[] } w):
 RoundIn (FR none) 0 P L f tmps assign body w R:=by
 refine⟨trivial,fun c cs _=>?_⟩
 show ∃ e w',R e w'∧ComesIn (Machine.fenced P Fence.wide) P _ _ e
 have hw:∀ m,Machine.fenced P Fence.wide m:=fenced_wide P
 let b:Frame:={ (default:Frame)with fn:=f,kind:=.normal,roundOf:=some L }
 have hb0:Frame.round L f tmps assign body .normal=b.atR { tmps:=tmps,defers:=[] } [.code assign,.beginRound,.code body]:=by
  simp[Frame.round,Frame.atR,b]
 obtain⟨e,a₁,w₁,hq,harr⟩:=h b [.beginRound,.code body] (c::cs) rfl rfl
 rw[← hb0]at harr
 cases e with
 | normal=>
  obtain⟨w₂,hbr,hbody⟩:=hq
  have s1:StepsIn (Machine.fenced P Fence.wide) P (lone (b.atR a₁ [.beginRound,.code body]) (c::cs) w₁) (lone (b.atR a₁ [.code body]) (c::cs) w₂):=
   .one (hw _) (stepR_beginRound rfl hbr)
  obtain⟨e₂,a₂,w₃,hq₂,harr₂⟩:=hbody b [] (c::cs) rfl rfl
  cases e₂ with
  | normal=>
   obtain⟨v,w₄,hend,hR⟩:=hq₂
   exact⟨.returned v,w₄,hR,(StepsIn.trans harr s1).trans (StepsIn.trans harr₂ (.one (hw _) (stepR_round_end Y Y hend)))⟩
  | ret=>
   obtain⟨v,w₄,hend,hR⟩:=hq₂
   obtain⟨k₁,hs⟩:=harr₂.2 rfl
   exact⟨.returned v,w₄,hR,(StepsIn.trans harr s1).trans (StepsIn.trans hs (.one (hw _) (stepR_round_ret Y Y hend)))⟩
  | exit id=>
   obtain⟨v,w₄,hend,hR⟩:=hq₂
   obtain⟨k₁,hk,hs⟩:=harr₂.2 rfl rfl
   exact⟨.returned v,w₄,hR,(StepsIn.trans harr s1).trans (StepsIn.trans hs (.one (hw _) (stepR_round_exit Y Y hk hend)))⟩
  | panic ch=>
   obtain⟨hd,hR⟩:=hq₂
   obtain⟨todo,hs⟩:=harr₂
   refine⟨.panicked ch,w₃,hR,(StepsIn.trans harr s1).trans (StepsIn.trans hs (.one (hw _) ?_))⟩
   exact step_leave_panicked ⟨Y,hd,fn,hf⟩
  | goto t=>exact hq₂.elim
  | outgrown=>exact hq₂.elim
 | exit id=>exact hq.elim
 | goto t=>exact hq.elim
 | ret=>exact hq.elim
 | panic chain=>exact hq.elim
 | outgrown=>exact hq.elim
def RD (f:FuncId) (P:Program) (l:Nat) (Q:Exit→Act→World→Prop) (a':Act):Ending→World→Prop
 | .returned _,w₃=>∃ jump w₄,(Instr.endLoop l).run P w₃=.ok jump w₄∧
  (match jump with
   | none=>Q .normal a' w₄
   | some c=>Ja f none P c Q a' w₄)
 | .panicked chain,w₃=>Q (.panic chain) a' w₃
 | .outgrown,_=>False
theorem bN {g:Operand} {ps:Array Tmp} {assign body:Code} {Q:Exit→Act→World→Prop} {a:Act}
 (h:∃ (l:Nat) (mark:List Deferred) (w₁:World) (d:Deferred) (w₁':World) (g':FuncId) (args:Array Value) (w₂:World),
  (Instr.enterLoop f a.tmps ps assign body none).run P w=.ok (l,mark) w₁∧
  (resolve a.eval (rangeCall g l) 0).run P w₁=.ok d w₁'∧
  (invoke d.target d.args).run P w₁'=.ok (.enter g' args) w₂∧
  Calls P g' args w₂ (RD f P l Q { a with defers:=mark++a.defers })):
 Ja f none P (.rangeFunc g ps assign body) Q a w:=by
 intro b k cs hro hb
 have hw:∀ m,Machine.fenced P Fence.wide m:=fenced_wide P
 obtain⟨l,mark,w₁,d,w₁',g',args,w₂,he,hres,hinv,hcall⟩:=h
 rw[← hro,← hb]at he
 have henter:=stepR_rangeFunc (P:=P) (b:=b) (a:=a) (k:=k) (cs:=cs) (w:=w) he hres hinv
 obtain⟨e,w₃,fr,hR,hsteps,hfn,hleave⟩:=((callsIn_wide (n:=0)).2 hcall).2 (b.atR { a with defers:=mark++a.defers } (.inRangeFunc l::k)::cs) (room_wide _)
 cases e with
 | outgrown=>exact hR.elim
 | returned v=>
  obtain⟨jump,w₄,hend,hj⟩:=hR
  have sback:StepsIn (Machine.fenced P Fence.wide) P (lone (b.atR a (.code (.rangeFunc g ps assign body)::k)) cs w) (lone (b.atR { a with defers:=mark++a.defers } ((jump.map Item.code).toList++k)) cs w₄):=by
   refine .head (hw _) henter (StepsIn.trans hsteps (.head (hw _) ?_ (.one (hw _) (stepR_endRangeFunc hend))))
   rw[← finish_atR_inRangeFunc l v];exact step_leave_returned hleave
  cases jump with
  | none=>exact⟨.normal,_,w₄,hj,sback⟩
  | some c=>
   obtain⟨e',a'',w₅,hq,harr⟩:=hj b k cs hro hb
   exact⟨e',a'',w₅,hq,.of_steps sback harr⟩
 | panicked chain=>
  refine⟨.panic chain,_,w₃,hR,.inRangeFunc l::k,.head (hw _) henter (StepsIn.trans hsteps (.one (hw _) ?_))⟩
  rw[← Frame.raise_atR];exact step_leave_panicked hleave
end round
def GD (P:Program) (L:Nat) (args:Array Value) (W:World) (R:Value→World→Prop) (RP:rH→World→Prop):Prop:=
 ∃ fn tmps assign body,(Instr.yield L args).run P W=.ok (.round L fn tmps assign body) W∧
  RoundIn (FR none) 0 P L fn tmps assign body W fun e W'=>match e with | .returned v=>R v W' | .panicked ch=>RP ch W' | .outgrown=>False
def WD (P:Program) (gf:FuncId) (lb:List Value) (N:Nat) (B:List Nat) (It:Nat→World→List Value→List Nat→Prop) (w1:World):Prop:=
 ∀ (L:Nat) (J:Nat→World→List Nat→Prop) (X:World→Prop) (XP:rH→World→Prop) (O0:List Nat),
  (∀ b∈O0,b∉B)→(∀ k W O,J k W O→∀ b∈O,b < W.heap.size)→(∀ k W O W',J k W O→Hp W W' [] []→J k W' O)→(∀ W W',X W→Hp W W' [] []→X W')→
  (∀ k W O args G,k < N→J k W O→It k W args G→(∀ b∈G,b∉O)→GD P L args.toArray W (fun v W'=>∃ O',Hp W W' (O++G) []∧(∀ b∈O',b∈O++G∨W.heap.size≤b)∧((v=.bool true∧J (k+1) W' O')∨(v=.bool false∧X W'))) XP)→
  J 0 w1 O0→rV P gf ((.func (.yield L) #[] #[])::lb).toArray w1 (fun _ W'=>(∃ O,J N W' O)∨X W') XP
theorem Hp.Kw {W:World} {L:Nat} {r:Loop} (o:Obj) (_:W.heap[L]? =some (.loop r)):Hp W (W.putObj L o) [L] []:=
 ⟨rfl,rfl,rfl,by simp,fun k _ hk=>World.putObj_heap_other (fun e=>hk (by simp[e])),by simp,by simp⟩
theorem Hp.Uo (W:World) (o:Obj):Hp W (W.alloc o) [] []:=
 ⟨rfl,rfl,rfl,by simp,fun k hk _=>heap_alloc_old W _ hk,by simp,by simp⟩
theorem Hp.loop {w0 W W':World} {S:List Nat} {es:List Ent} {L:Nat} (H:Hp w0 W S es) (H':Hp W W' [L] []) (hL:∀ arr T z,W.heap[L]?≠some (.cells arr T z)) (hS:w0.heap.size≤L):Hp w0 W' S es:=by
 refine⟨H'.os.trans H.os,H'.tape.trans H.tape,H'.output.trans H.output,Nat.le_trans H.size H'.size,?_,?_,H.apart⟩
 · intro k hk Je
   rw[H'.frame k (by have:=H.size;omega) (by simp;omega)]
   exact H.frame k hk Je
 · intro i e he
   have h:=H.ent i e he
   unfold qR at h ⊢
   split
   · rename_i hn;rw[hn]at h;exact h
   · rename_i g hg
     rw[hg]at h
     have hne:g≠L:=by rintro rfl;exact hL _ _ _ h.1
     exact⟨by rw[H'.frame g (Array.getElem?_eq_some_iff.1 h.1).1 (by simp[hne])];exact h.1,h.2⟩
namespace Rn
section code
variable {f:FuncId} {P:Program} {ds:List Deferred} {Q:rS} {l:List Value} {w:World} {cs:List Code}
def Zt (J:World→List Nat→Prop) (X:Code→World→Prop) (XP:rH→World→Prop) (W:World) (O G:List Nat):rS
 | .normal,ds,_,W'=>ds=[]∧Hp W W' (O++G) []∧∃ O',(∀ b∈O',b∈O++G∨W.heap.size≤b)∧J W' O'
 | .ret,ds,_,W'=>ds=[]∧Hp W W' (O++G) []∧X .ret W'
 | .exit n,ds,_,W'=>ds=[]∧Hp W W' (O++G) []∧X (.exit n) W'
 | .panic ch,ds,_,W'=>ds=[]∧Hp W W' (O++G) []∧XP ch W'
 | _,_,_,_=>False
def jN (l:List Value):List Tmp→List Value→List Value
 | p::ps,v::vs=>jN (l.set p v) ps vs
 | _,_=>l
theorem C6 :∀ (ps:List Tmp) (vs l:List Value),(ps.zip vs).foldl (fun(t:Array Value) (x:Tmp×Value)=>t.setIfInBounds x.1 x.2) l.toArray=(jN l ps vs).toArray
 | [],_,_=>by simp[jN]
 | _::_,[],_=>by simp[jN]
 | p::ps,v::vs,l=>by
  have:=C6 ps vs (l.set p v)
  simp only[jN,← this,List.zip_cons_cons,List.foldl_cons,List.setIfInBounds_toArray]
theorem J9 (ps:List Tmp) (vs l:List Value):(ps.toArray.zip vs.toArray).foldl (fun(t:Array Value) (x:Tmp×Value)=>t.setIfInBounds x.1 x.2) l.toArray=(jN l ps vs).toArray:=by
 rw[← C6,← Array.foldl_toList]
 simp
abbrev Ky (D:Nat):Deferred:={ target:=.collected D,args:=#[] }
theorem aG {g:Operand} {ps:List Tmp} {assign body:Code} {gf:FuncId} {lb:List Value} {fn:Func} (hf:P.funcs[f]? =some fn) (hg:ev l g=some (.func (.func gf) #[] lb.toArray)) (hgo:yB P gf=true)
 {N:Nat} {B:List Nat} {It:Nat→World→List Value→List Nat→Prop} (hit:∀ w1,Hp w w1 [] []→WD P gf lb N B It w1) (hB:∀ b∈B,b < w.heap.size)
 (J:Nat→World→List Nat→Prop) (X:Code→World→Prop) (XP:rH→World→Prop) (O0:List Nat) (hO:∀ b∈O0,b∉B) (l1:List Value→List Value→List Value)
 (YD:∀ k W O,J k W O→∀ b∈O,∃ arr T z,W.heap[b]? =some (.cells arr T z))
 (hJs:∀ k W O W' L,J k W O→w.heap.size≤L→Hp W W' [L] []→(∀ arr T z,W.heap[L]?≠some (.cells arr T z))→J k W' O)
 (Y0:∀ c W W' L,X c W→w.heap.size≤L→Hp W W' [L] []→(∀ arr T z,W.heap[L]?≠some (.cells arr T z))→X c W')
 (hIt:∀ k W args G,It k W args G→args.length=ps.length∧(∀ b∈G,∃ arr T z,W.heap[b]? =some (.cells arr T z))∧(∀ W' L,Hp W W' [L] []→w.heap.size≤L→(∀ arr T z,W.heap[L]?≠some (.cells arr T z))→It k W' args G))
 (h0:J 0 w O0)
 (hasg:∀ k W args G L,It k W args G→Run (f:=f) (ro:=some L) P [] [assign] (fun e ds l' W1=>e=.normal∧ds=[]∧l'=l1 l args∧W1=W) (jN l ps args) W)
 (hbody:∀ k W O args G L,k < N→J k W O→It k W args G→(∀ b∈G,b∉O)→Run (f:=f) (ro:=some L) P [] [body] (Zt (J (k+1)) X XP W O G) (l1 l args) W)
 (hdone:∀ D W O,J N W O→W.heap[D]? =some (.deferred (some []))→w.heap.size≤D→Run (f:=f) (ro:=none) P (Ky D::ds) cs Q l W)
 (ZQ:∀ D c W,X c W→W.heap[D]? =some (.deferred (some []))→w.heap.size≤D→Run (f:=f) (ro:=none) P (Ky D::ds) (c::cs) Q l W)
 (hpan:∀ D ch W,XP ch W→W.heap[D]? =some (.deferred (some []))→w.heap.size≤D→Q (.panic ch) (Ky D::ds) l W):
 Run (f:=f) (ro:=none) P ds (.rangeFunc g ps.toArray assign body::cs) Q l w:=by
 obtain⟨rec,hrec⟩:∃ rec:LoopState→Option Code→Loop,rec=fun st pe=>{ state:=st,pending:=pe,fn:=f,tmps:=l.toArray,params:=ps.toArray,assign,body,defers:=w.heap.size }:=⟨_,rfl⟩
 obtain⟨W1,hW1⟩:∃ W1,(w.alloc (.deferred (some []))).alloc (.loop (rec .ready none))=W1:=⟨_,rfl⟩
 have H1:Hp w W1 [] []:=by
  rw[← hW1]
  have:=(Hp.Uo w (.deferred (some []))).call0 (Hp.Uo (w.alloc (.deferred (some []))) (.loop (rec .ready none)))
  exact this
 have hL1:W1.heap[w.heap.size+1]? =some (.loop (rec .ready none)):=by
  rw[← hW1];have:=World.alloc_heap_new (w.alloc (.deferred (some []))) (.loop (rec .ready none));rwa [World.size_alloc]at this
 have hD1:W1.heap[w.heap.size]? =some (.deferred (some [])):=by
  rw[← hW1];exact(Below.heap_alloc _ _ _ (by simp)).trans (World.alloc_heap_new w _)
 have nl:∀ {W:World} {r:Loop},W.heap[w.heap.size+1]? =some (.loop r)→∀ arr T z,W.heap[w.heap.size+1]?≠some (.cells arr T z):=fun h arr T z h2=>by rw[h]at h2;cases h2
 have nn:∀ {W:World} {L:Nat},W.heap.size≤L→∀ arr T z,W.heap[L]?≠some (.cells arr T z):=fun h arr T z h2=>by have:=(Array.getElem?_eq_some_iff.1 h2).1;omega
 have wide:∀ {W W':World} (L:Nat),Hp W W' [] []→Hp W W' [L] []:=fun L h=>⟨h.os,h.tape,h.output,h.size,fun k hk _=>h.frame k hk (by simp),by simp,by simp⟩
 refine bN ⟨w.heap.size+1,[Ky w.heap.size],W1,{ target:=.fn (.func gf) lb.toArray,args:=#[.func (.yield (w.heap.size+1)) #[] #[]] },W1,gf,
  ((.func (.yield (w.heap.size+1)) #[] #[])::lb).toArray,W1,?_,?_,?_,?_⟩
 · rw[← hW1,hrec];exact run_enterLoop_outer _ _ _ _ _
 · simp[resolve,kV hg,Deferred.ofValue]
   rfl
 · simp[invoke,iG hgo]
 · have hcall:=hit W1 H1 (w.heap.size+1)
    (fun k W O=>∃ O1,O=(w.heap.size+1)::O1∧J k W O1∧W.heap[w.heap.size+1]? =some (.loop (rec .ready none))∧W.heap[w.heap.size]? =some (.deferred (some [])))
    (fun W=>∃ c,X c W∧W.heap[w.heap.size+1]? =some (.loop (rec .done (some c)))∧W.heap[w.heap.size]? =some (.deferred (some [])))
    (fun ch W=>XP ch W∧W.heap[w.heap.size]? =some (.deferred (some [])))
    ((w.heap.size+1)::O0) ?_ ?_ ?_ ?_ ?_ ⟨O0,rfl,hJs 0 w O0 W1 w.heap.size h0 (Nat.le_refl _) (wide _ H1) (nn (Nat.le_refl _)),hL1,hD1⟩
   · refine Calls.mono hcall ?_
     intro e W hR
     cases e with
     | outgrown=>exact hR
     | panicked ch=>exact hpan _ _ _ hR.1 hR.2 (Nat.le_refl _)
     | returned v=>
      rcases hR with ⟨O,O1,rfl,hJ,hL,hD⟩ | ⟨c,hX,hL,hD⟩
      · refine⟨none,W.putObj (w.heap.size+1) (.loop (rec .exhausted none)),?_,hdone w.heap.size _ O1 (hJs _ _ _ _ (w.heap.size+1) hJ (by omega) (Hp.Kw _ hL) (nl hL)) ((World.putObj_heap_other (by omega)).trans hD) (Nat.le_refl _)⟩
        have:=run_endLoop (P:=P) hL (by rw[hrec];simp)
        rw[hrec]at this ⊢
        exact this
      · refine⟨some c,W.putObj (w.heap.size+1) (.loop (rec .exhausted (some c))),?_,ZQ w.heap.size c _ (Y0 _ _ _ (w.heap.size+1) hX (by omega) (Hp.Kw _ hL) (nl hL)) ((World.putObj_heap_other (by omega)).trans hD) (Nat.le_refl _)⟩
        have:=run_endLoop (P:=P) hL (by rw[hrec];simp)
        rw[hrec]at this ⊢
        exact this
   · intro b hb
     rcases List.mem_cons.1 hb with rfl | h
     · intro hb2;have:=hB _ hb2;omega
     · exact hO b h
   · rintro k W O ⟨O1,rfl,hJ,hL,hD⟩ b hb
     rcases List.mem_cons.1 hb with rfl | h
     · exact(Array.getElem?_eq_some_iff.1 hL).1
     · obtain⟨arr,T,z,h2⟩:=YD k W O1 hJ b h
       exact(Array.getElem?_eq_some_iff.1 h2).1
   · rintro k W O W' ⟨O1,rfl,hJ,hL,hD⟩ H
     exact⟨O1,Y,hJs k W O1 W' (w.heap.size+1) hJ (by omega) (wide _ H) (nl hL),(H.frame _ (Array.getElem?_eq_some_iff.1 hL).1 (by simp)).trans hL,(H.frame _ (Array.getElem?_eq_some_iff.1 hD).1 (by simp)).trans hD⟩
   · rintro W W' ⟨c,hX,hL,hD⟩ H
     exact⟨c,Y0 c W W' (w.heap.size+1) hX (by omega) (wide _ H) (nl hL),(H.frame _ (Array.getElem?_eq_some_iff.1 hL).1 (by simp)).trans hL,(H.frame _ (Array.getElem?_eq_some_iff.1 hD).1 (by simp)).trans hD⟩
   · rintro k W O args G hk ⟨O1,rfl,hJ,hL,hD⟩ hI hG
     obtain⟨hlen,hGc,hIs⟩:=hIt k W args G hI
     have hlt:w.heap.size+1 < W.heap.size:=(Array.getElem?_eq_some_iff.1 hL).1
     have hy:=run_yield (P:=P) (args:=args.toArray) hL (by rw[hrec];simp[hlen])
     rw[hrec]at hy
     simp only[J9]at hy
     refine⟨f,_,assign,body,hy,?_⟩
     refine FJ hf (qG (hasg k W args G (w.heap.size+1) hI) ?_)
     rintro e ⟨t,d⟩ W2 h2
     cases e with
     | normal=>
      obtain⟨_,hd,hl,hw⟩:=h2
      simp only at hd hl
      subst hd hw
      have hl':t=(l1 l args).toArray:=by rw[← hl]
      subst hl'
      refine⟨_,run_beginRound hL (by rw[hrec]),?_⟩
      have hP:=Hp.Kw (.loop { rec .ready none with state:=.busy }) hL
      have hL2:(W2.putObj (w.heap.size+1) (.loop { rec .ready none with state:=.busy })).heap[w.heap.size+1]? =some (.loop { rec .ready none with state:=.busy }):=World.putObj_heap_same hlt
      have hD2:(W2.putObj (w.heap.size+1) (.loop { rec .ready none with state:=.busy })).heap[w.heap.size]? =some (.deferred (some [])):=(World.putObj_heap_other (by omega)).trans hD
      have hJ2:=hJs k W2 O1 _ (w.heap.size+1) hJ (by omega) hP (nl hL)
      have hI2:=hIs _ (w.heap.size+1) hP (by omega) (nl hL)
      have hsz:(W2.putObj (w.heap.size+1) (.loop { rec .ready none with state:=.busy })).heap.size=W2.heap.size:=by simp
      generalize W2.putObj (w.heap.size+1) (.loop { rec .ready none with state:=.busy })=W3 at hP hL2 hD2 hJ2 hI2 hsz ⊢
      have hGO:∀ b∈G,b∉O1:=fun b hb hb2=>hG b hb (List.mem_cons_of_mem _ hb2)
      have hnot:∀ b∈O1++G,b≠w.heap.size∧b≠w.heap.size+1:=by
       intro b hb
       have hc:∃ arr T z,W3.heap[b]? =some (.cells arr T z):=by
        rcases List.mem_append.1 hb with h | h
        · exact YD k W3 O1 hJ2 b h
        · exact(hIt k W3 args G hI2).2.1 b h
       obtain⟨arr,T,z,h⟩:=hc
       exact⟨(by rintro rfl;rw[hD2]at h;cases h),(by rintro rfl;rw[hL2]at h;cases h)⟩
      refine qG (hbody k W3 O1 args G (w.heap.size+1) hk hJ2 hI2 hGO) ?_
      have keep:∀ {W4:World},Hp W3 W4 (O1++G) []→W4.heap[w.heap.size+1]? =some (.loop { rec .ready none with state:=.busy })∧W4.heap[w.heap.size]? =some (.deferred (some [])):=by
       intro W4 h
       exact⟨(h.frame _ (Array.getElem?_eq_some_iff.1 hL2).1 (fun hb=>(hnot _ hb).2 Y)).trans hL2,(h.frame _ (Array.getElem?_eq_some_iff.1 hD2).1 (fun hb=>(hnot _ hb).1 Y)).trans hD2⟩
      have big:∀ {W4 W5:World},Hp W3 W4 (O1++G) []→Hp W4 W5 [w.heap.size+1] []→Hp W2 W5 ((w.heap.size+1)::O1++G) []:=by
       intro W4 W5 h4 h5
       refine⟨h5.os.trans (h4.os.trans hP.os),h5.tape.trans (h4.tape.trans hP.tape),h5.output.trans (h4.output.trans hP.output),Nat.le_trans hP.size (Nat.le_trans h4.size h5.size),?_,by simp,by simp⟩
       intro x hx hxn
       simp only[List.cons_append,List.mem_cons,List.mem_append,not_or]at hxn
       rw[h5.frame x (by have:=h4.size;have:=hP.size;omega) (by simp;exact hxn.1),h4.frame x (by have:=hP.size;omega) (by simp;exact⟨hxn.2.1,hxn.2.2⟩)]
       exact hP.frame x hx (by simp;exact hxn.1)
      rintro e ⟨t4,d4⟩ W4 h4
      cases e with
      | normal=>
       obtain⟨_,hH,O',hO',hJ'⟩:=h4
       obtain⟨k1,k2⟩:=keep hH
       have hq:=Hp.Kw (.loop (rec .ready none)) k1
       refine⟨.bool true,W4.putObj (w.heap.size+1) (.loop (rec .ready none)),?_,(w.heap.size+1)::O',big hH hq,?_,.inl ⟨Y,O',Y,?_,?_,?_⟩⟩
       · have:=run_endRound (P:=P) none k1
         rw[hrec]at this ⊢
         exact this
       · intro b hb
         rcases List.mem_cons.1 hb with rfl | h
         · exact .inl (by simp)
         · rcases hO' b h with h | h
           · exact .inl (by simp only[List.cons_append,List.mem_cons];exact .inr h)
           · exact .inr (by omega)
       · exact hJs _ _ _ _ (w.heap.size+1) hJ' (by omega) hq (nl k1)
       · exact World.putObj_heap_same (Array.getElem?_eq_some_iff.1 k1).1
       · exact(World.putObj_heap_other (by omega)).trans k2
      | ret=>
       obtain⟨_,hH,hX⟩:=h4
       obtain⟨k1,k2⟩:=keep hH
       have hq:=Hp.Kw (.loop (rec .done (some .ret))) k1
       refine⟨.bool false,W4.putObj (w.heap.size+1) (.loop (rec .done (some .ret))),?_,[],big hH hq,by simp,.inr ⟨Y,.ret,?_,?_,?_⟩⟩
       · have:=run_endRound (P:=P) (some .ret) k1
         rw[hrec]at this ⊢
         exact this
       · exact Y0 _ _ _ (w.heap.size+1) hX (by omega) hq (nl k1)
       · exact World.putObj_heap_same (Array.getElem?_eq_some_iff.1 k1).1
       · exact(World.putObj_heap_other (by omega)).trans k2
      | exit id=>
       obtain⟨_,hH,hX⟩:=h4
       obtain⟨k1,k2⟩:=keep hH
       have hq:=Hp.Kw (.loop (rec .done (some (.exit id)))) k1
       refine⟨.bool false,W4.putObj (w.heap.size+1) (.loop (rec .done (some (.exit id)))),?_,[],big hH hq,by simp,.inr ⟨Y,.exit id,?_,?_,?_⟩⟩
       · have:=run_endRound (P:=P) (some (.exit id)) k1
         rw[hrec]at this ⊢
         exact this
       · exact Y0 _ _ _ (w.heap.size+1) hX (by omega) hq (nl k1)
       · exact World.putObj_heap_same (Array.getElem?_eq_some_iff.1 k1).1
       · exact(World.putObj_heap_other (by omega)).trans k2
      | panic ch=>
       obtain⟨hd,hH,hX⟩:=h4
       exact⟨hd,hX,(keep hH).2⟩
      | goto t=>exact h4.elim
      | outgrown=>exact h4.elim
     | exit id=>exact absurd h2.1 (by simp)
     | goto t=>exact absurd h2.1 (by simp)
     | ret=>exact absurd h2.1 (by simp)
     | panic chain=>exact absurd h2.1 (by simp)
     | outgrown=>exact absurd h2.1 (by simp)
end code
end Rn
section yield
variable {ro:Option Nat} {n:Nat} {P:Program} {l:List Value} {ds:List Deferred} {w:World}
theorem E5 {ops:Array Oper} {d:Tmp} {y:Operand} {xs:List Operand} {ats:Array TypeId} {ty:TypeId} {pos:String} {af:Array Edge} {L:Nat} {vs:List Value} {R:Value→World→Prop} {RP:rH→World→Prop} {rest:List Oper} {Q:Exit→Act→World→Prop}
 (hy:ev l y=some (.func (.yield L) #[] #[])) (hx:evs l xs=some vs) (hY:GD P L vs.toArray w R RP) (h:∀ v w',R v w'→wpListIn (FR ro) n P ops Q rest ⟨(l.set d v).toArray,ds⟩ w') (hp:∀ ch w',RP ch w'→Q (.panic ch) ⟨l.toArray,ds⟩ w'):
 wpListIn (FR ro) n P ops Q (⟨some d,.call { callee:=.value y,args:=xs.toArray,argTypes:=ats },ty,pos,af,none⟩::rest) ⟨l.toArray,ds⟩ w:=by
 obtain⟨fn,tmps,assign,body,h1,h2⟩:=hY
 have he:(execOp (⟨l.toArray,ds⟩:Act).eval ⟨some d,.call { callee:=.value y,args:=xs.toArray,argTypes:=ats },ty,pos,af,none⟩).run P w=.ok (.round L fn tmps assign body) w:=by
  rw[tU]
  simp[execOp,resolve,Deferred.ofValue,invoke,nO hx,zV hy,h1]
 refine wpListIn_plain Y fun K hK=>⟨fun _ _=>trivial,?_⟩
 rw[Oper.semAt_eq _ _ _ (fun c hc=>(by cases hc)),he]
 refine⟨fun hd=>(by cases hd),trivial,fun c cs _=>?_⟩
 obtain⟨e,w',hR,hs⟩:=h2.2 c cs (GV _ _)
 refine⟨e,w',?_,hs⟩
 cases e with
 | returned v=>exact hK _ _ (by rw[tF];exact h v w' hR)
 | panicked ch=>exact hp ch w' hR
 | outgrown=>exact hR.elim
end yield
section head
variable {P:Program} {ops:Array Oper} {S:World→Prop} {n:Nat} {L:Array Bool→Act→World→Prop}
def JD (P:Program) (ops:Array Oper) (S:World→Prop) (L:Array Bool→Act→World→Prop):Nat→Array Bool→Act→World→Prop
 | 0,listed,a,w=>L listed a w
 | f+1,listed,a,w=>Region.ready .any ops listed≠[]∧∀ i∈Region.ready .any ops listed,wpOp P ops (fun _ _ _=>False) i (fun a' w'=>S w'∧JD P ops S L f (listed.setIfInBounds i true) a' w') a w
theorem QA {i:Nat} {oi:Oper} {v:Value} (hi:ops[i]? =some oi) (hsel:∀ (j:Nat) (o:Oper) cs b,ops[j]? =some o→o.op≠ .select cs b)
 (hw:∀ listed,HeadInv .any ops n listed→listed.getD i true=false→∀ t,n≤t→t∉Region.ready .any ops listed) (hL:∀ listed a w,L listed a w→∀ j∈Region.ready .any ops listed,n≤j):
 ∀ (f:Nat) (listed:Array Bool) (a:Act) (w:World),HeadInv .any ops n listed→
  (∀ j oj,ops[j]? =some oj→j≠i→listed.getD j true=false→(∀ e∈oj.after,Region.binds .any e=true→e.on≠i)→oi.apart ops oj=true)→
  i∈Region.ready .any ops listed→tR P ops S oi v a→S w→
  JD P ops S L f (listed.setIfInBounds i true) (a.put oi.dst v) w→JD P ops S L (f+1) listed a w:=by
 intro f
 induction f with
 | zero=>
  intro listed a w inv _ hr hy hS H
  refine⟨fun h=>(by rw[h]at hr;cases hr),fun j hj=>?_⟩
  by_cases hji:j=i
  · rw[hji];exact hy.wpOp hi hS ⟨hS,H⟩
  · have h1:=hL _ _ _ H j (ready_mono hj hji)
    exact absurd hj (hw listed inv (mem_ready.1 hr).1 j h1)
 | succ f ih=>
  intro listed a w inv hfree hr hy hS H
  refine⟨fun h=>(by rw[h]at hr;cases hr),fun j hj=>?_⟩
  by_cases hji:j=i
  · rw[hji];exact hy.wpOp hi hS ⟨hS,H⟩
  · have h1:=H.2 j (ready_mono hj hji)
    obtain⟨hjun,oj,hoj,hall⟩:=mem_ready.1 hj
    have Lh:=(mem_ready.1 hr).1
    have hjn:j < n:=by
     rcases Nat.lt_or_ge j n with h | h
     · exact h
     · exact absurd hj (hw listed inv Lh j h)
    have hnot:∀ e∈oj.after,Region.binds .any e=true→e.on≠i:=fun e he hb heq=>by
     have h2:=hall e he hb
     rw[heq,getD_both Lh]at h2
     cases h2
    have h2:=lV hoj (hfree j oj hoj hji hjun hnot) (fun cs b=>hsel i oi cs b hi) (fun cs b=>hsel j oj cs b hoj) (fun _ _ _ h=>h) hy h1
    refine wpOp_mono (fun a' w' h3=>⟨h3.2.1,ih (listed.setIfInBounds j true) a' w' (inv.set hj hjn) (fun k ok hk hki hun hno=>?_) (ready_mono hr (Ne.symm hji)) h3.1 h3.2.1 ?_⟩) h2
    · refine hfree k ok hk hki ?_ hno
      by_cases hjk:j=k
      · rw[← hjk];exact hjun
      · rw[getD_set_ne true hjk]at hun;exact hun
    · rw[Array.setIfInBounds_comm _ _ hji]
      exact h3.2.2
def hdB (ops:Array Oper) (n g:Nat):List (Bool×Nat)→Array Bool→Bool
 | [],listed=>Region.seqB .any ops g n listed
 | (true,i)::s,listed=>decide (i < n) && (Region.ready .any ops listed).contains i && Region.free .any ops listed i && hdB ops n g s (listed.setIfInBounds i true)
 | (false,i)::s,listed=>decide (i < n) && decide (Region.ready .any ops listed=[i]) && hdB ops n g s (listed.setIfInBounds i true)
theorem VO {all:List Oper} {ds:List Deferred} {g:Nat} {K:List Value→World→Prop} (hsel:Region.noSelect all.toArray=true) (hs:Region.sinkB .any all.toArray n=true) (hc:gF .any all.toArray n=true) (hn:n < all.toArray.size):
 ∀ (s:List (Bool×Nat)) (listed:Array Bool) (l:List Value) (w:World),HeadInv .any all.toArray n listed→hdB all.toArray n g s listed=true→S w→rT P ds all S K s l w→
  JD P all.toArray S (fun listed' a w=>Region.seqB .any all.toArray g n listed'=true∧a.defers=ds∧K a.tmps.toList w) s.length listed ⟨l.toArray,ds⟩ w:=by
 intro s
 induction s with
 | nil=>intro listed l w _ hB _ h;exact⟨by simpa[hdB]using hB,rfl,h⟩
 | cons x s IH=>
  obtain⟨b,i⟩:=x
  cases b
  · rintro listed l w inv hB hS ⟨o,ho,h⟩
    simp only[hdB,Bool.and_eq_true,decide_eq_true_eq]at hB
    obtain⟨⟨hin,hr⟩,hB'⟩:=hB
    have Cj:i∈Region.ready .any all.toArray listed:=by rw[hr];simp
    refine⟨fun h0=>(by rw[hr]at h0;cases h0),fun k hk=>?_⟩
    have hki:k=i:=by rw[hr]at hk;simpa using hk
    rw[hki]
    unfold Ops wpList at h
    unfold wpOp
    rw[List.getElem?_toArray,ho]
    simp only
    have ih:∀ (a:Act) w',(a.defers=ds∧S w'∧rT P ds all S K s a.tmps.toList w')→(S w'∧JD P all.toArray S (fun listed' a w=>Region.seqB .any all.toArray g n listed'=true∧a.defers=ds∧K a.tmps.toList w) s.length (listed.setIfInBounds i true) a w'):=by
     rintro⟨t,d⟩ w' ⟨hd,hS',h2⟩
     simp only at hd
     subst hd
     exact⟨hS',IH _ _ _ (inv.set Cj hin) hB' hS' h2⟩
    have hq:∀ (e:Exit) (a:Act) w',e≠ .normal→Exit.then (fun(a:Act) w'=>a.defers=ds∧S w'∧rT P ds all S K s a.tmps.toList w') (fun _ a _=>a.defers=ds∧False) e a w'→False:=by
     intro e a w' he h
     cases e <;>first | exact absurd rfl he | exact h.2.elim
    split
    · rename_i hw
      rw[if_pos hw]at h
      rcases h with h | ⟨h1,a1,w1,h2⟩
      · exact .inl (Oper.wp_mono ih (mP hq h))
      · exact .inr ⟨h1,a1,w1,hq _ _ _ (by simp) h2⟩
    · rename_i hw
      rw[if_neg hw]at h
      exact ih _ _ h
  · rintro listed l w inv hB hS ⟨o,ho,v,hv,hK⟩
    simp only[hdB,Bool.and_eq_true,decide_eq_true_eq]at hB
    obtain⟨⟨⟨hin,hr⟩,hf⟩,hB'⟩:=hB
    have hi:all.toArray[i]? =some o:=by rw[List.getElem?_toArray];exact ho
    have Cj:i∈Region.ready .any all.toArray listed:=by simpa using hr
    refine QA (oi:=o) (v:=v) hi (Region.noSelect_spec hsel) (fun listed inv hun=>cP hs hc hn inv hin hun) (fun listed a w h=>seqB_ready h.1) s.length listed _ w inv (Region.free_spec hi hf) Cj ?_ hS ?_
    · rcases hv with ⟨h1,h2⟩ | ⟨h1,h2⟩
      · exact .inl ⟨h1,by rw[tU];exact h2⟩
      · exact .inr ⟨h1,h2⟩
    · rw[oZ]
      exact IH _ _ _ (inv.set Cj hin) hB' hS hK
theorem AN {ro:Option Nat} {m g:Nat} {Q:Exit→Act→World→Prop} (hL:∀ listed a w,L listed a w→wpAnyIn (FR ro) m P .any ops Q g listed a w) (hd:∀ (i:Nat) (o:Oper),ops[i]? =some o→i < n→sN o=true)
 (hin:∀ listed,HeadInv .any ops n listed→True):∀ (f:Nat) (listed:Array Bool) (a:Act) (w:World),(∀ i∈Region.ready .any ops listed,True)→JD P ops S L f listed a w→(∀ (i:Nat) (o:Oper),ops[i]? =some o→sN o=true)→wpAnyIn (FR ro) m P .any ops Q (f+g) listed a w
 | 0,listed,a,w,_,h,_=>by rw[Nat.zero_add];exact hL listed a w h
 | f+1,listed,a,w,_,h,hnd=>by
  rw[show f+1+g=(f+g)+1 by omega]
  exact⟨fun h0=>absurd h0 h.1,fun i hi=>TF (Q:=fun _ _ _=>False) (fun a' w' h'=>AN hL hd hin f _ a' w' (fun _ _=>trivial) h'.2 hnd) (fun _ _ h=>h) (fun _ _ _ _ h=>h.elim) (hnd i) (h.2 i hi)⟩
theorem fX {ro:Option Nat} {m:Nat} {Q:Exit→Act→World→Prop}:∀ (l:List Oper) (k:Nat) (listed:Array Bool) (a:Act) (w:World),(∀ j,l[j]? =ops[k+j]?)→
 Region.seqB .any ops l.length k listed=true→wpListIn (FR ro) m P ops Q l a w→wpAnyIn (FR ro) m P .any ops Q l.length listed a w
 | [],_,_,_,_,_,hB,h=>⟨by simpa[Region.seqB]using hB,h⟩
 | o::l,k,listed,a,w,hl,hB,h=>by
  have h0:ops[k]? =some o:=by simpa using(hl 0).symm
  simp only[List.length_cons,Region.seqB,Bool.and_eq_true,decide_eq_true_eq]at hB
  obtain⟨hr,hB'⟩:=hB
  refine⟨fun h1=>(by rw[hr]at h1;cases h1),fun i hi=>?_⟩
  have hik:i=k:=by rw[hr]at hi;simpa using hi
  subst hik
  have ih:=fun a w=>fX (ro:=ro) (m:=m) (Q:=Q) l (i+1) (listed.setIfInBounds i true) a w (fun j=>by have:=hl (j+1);simpa[Nat.add_assoc,Nat.add_comm 1 j]using this) hB'
  unfold wpListIn at h
  unfold wpOpIn
  rw[h0]
  simp only
  split
  · rename_i hw;rw[if_pos hw]at h;exact Oper.wpIn_mono ih h
  · rename_i hw;rw[if_neg hw]at h;exact⟨h.1,ih _ _ h.2⟩
end head
namespace Rn
section code
variable {f:FuncId} {ro:Option Nat} {P:Program} {ds:List Deferred} {Q:rS} {l:List Value} {w:World} {cs:List Code}
def CC (f:FuncId) (ro:Option Nat) (P:Program) (ds:List Deferred) (cs:List Code) (Q:rS) (os:List Oper) (k:Nat) (l:List Value) (w:World):Prop:=
 ∃ (d:Tmp) (y:Operand) (xs:List Operand) (ats:Array TypeId) (ty:TypeId) (pos:String) (af:Array Edge) (L:Nat) (vs:List Value) (R:Value→World→Prop) (RP:rH→World→Prop),
  os[k]? =some ⟨some d,.call { callee:=.value y,args:=xs.toArray,argTypes:=ats },ty,pos,af,none⟩∧ev l y=some (.func (.yield L) #[] #[])∧evs l xs=some vs∧GD P L vs.toArray w R RP∧
  (∀ v w',R v w'→Ops P ds os (fun l w=>Run (f:=f) (ro:=ro) P ds cs Q l w) (QO Q ds) (os.drop (k+1)) (l.set d v) w')∧(∀ ch w',RP ch w'→Q (.panic ch) ds l w')
theorem JP {os:List Oper} {rest:List Oper} (hd:rest.all sN=true) (hq:∀ l w,¬Q .outgrown ds l w) (h:Ops P ds os (fun l w=>Run (f:=f) (ro:=ro) P ds cs Q l w) (QO Q ds) rest l w):
 wpListIn (FR ro) 0 P os.toArray (fun e a w'=>uQ (jA f ro P cs Q) Q e a.defers a.tmps.toList w') rest ⟨l.toArray,ds⟩ w:=by
 have:=eM (ro:=ro) (n:=0) (P:=P) (ops:=os.toArray) (Q:=fun e a w'=>a.defers=ds∧QO Q ds e a.tmps.toList w') (Q':=fun e a w'=>uQ (jA f ro P cs Q) Q e a.defers a.tmps.toList w')
  (fun a w h=>hq _ _ h.2) (fun e a w he h=>by cases e <;>first | exact absurd rfl he | (obtain⟨h1,h2⟩:=h;rw[h1];exact h2)) rest [] ⟨l.toArray,ds⟩ w hd ?_
 · simpa using this
 · unfold Ops at h
   refine rK ?_ _ _ _ h
   rintro a w ⟨hd,h2⟩
   show jA f ro P cs Q a.defers a.tmps.toList w
   rw[hd]
   exact h2
theorem I4 {os:List Oper} {k:Nat} (hd:(os.drop (k+1)).all sN=true) (hq:∀ l w,¬Q .outgrown ds l w) (h:CC f ro P ds cs Q os k l w):
 wpListIn (FR ro) 0 P os.toArray (fun e a w'=>uQ (jA f ro P cs Q) Q e a.defers a.tmps.toList w') (os.drop k) ⟨l.toArray,ds⟩ w:=by
 obtain⟨d,y,xs,ats,ty,pos,af,L,vs,R,RP,ho,hy,hx,hY,h1,h2⟩:=h
 have e:os.drop k=⟨some d,.call { callee:=.value y,args:=xs.toArray,argTypes:=ats },ty,pos,af,none⟩::os.drop (k+1):=by
  obtain⟨hlt,hk⟩:=List.getElem?_eq_some_iff.1 ho
  rw[List.drop_eq_getElem_cons hlt,hk]
 rw[e]
 exact E5 hy hx hY (fun v w' hR=>JP hd hq (h1 v w' hR)) (fun ch w' hR=>h2 ch w' hR)
theorem run_yield {n:Nat} {os:List Oper} (k:Nat) (hd:(os.take k).all sN=true) (hd2:(os.drop (k+1)).all sN=true) (hq:∀ l w,¬Q .outgrown ds l w)
 (h:Ops P ds os (CC f ro P ds cs Q os k) (fun _ _ _=>False) (os.take k) l w):Run (f:=f) (ro:=ro) P ds (.region n os.toArray false::cs) Q l w:=by
 refine mQ (wpIn_region_lit ?_)
 have:=eM (ro:=ro) (n:=0) (P:=P) (ops:=os.toArray) (Q:=fun e a w'=>a.defers=ds∧(fun _ _ _=>False:vN) e a.tmps.toList w') (Q':=fun e a w'=>uQ (jA f ro P cs Q) Q e a.defers a.tmps.toList w')
  (fun a w h=>h.2) (fun e a w he h=>h.2.elim) (os.take k) (os.drop k) ⟨l.toArray,ds⟩ w hd ?_
 · rw[List.take_append_drop]at this
   exact this
 · unfold Ops at h
   refine rK ?_ _ _ _ h
   rintro⟨t,d⟩ w ⟨hd',h2⟩
   simp only at hd'
   subst hd'
   exact I4 hd2 hq h2
theorem MB {n:Nat} {all:List Oper} {w0:World} {SS:List Nat} {es:List Ent} (k:Nat) (s:List (Bool×Nat)) (H:Hp w0 w SS es) (idx:List Nat) (hm:P.follows .mixedOrders=true) (hnd:idx.Nodup)
 (hB:(Region.noSelect all.toArray && decide (s.length=k) && decide (k < all.length) && Region.sinkB .any all.toArray k && gF .any all.toArray k && hdB all.toArray k (all.length - k) s (Array.replicate all.length false))=true) (hd:all.all sN=true) (hq:∀ l w,¬Q .outgrown ds l w)
 (h:∀ w',w'={ w with drawn:=w.drawn+1 }→rT P ds all (fun wz=>Hp w0 wz SS (idx.map fun i=>es.getD i (none,0,[]))) (CC f ro P ds cs Q all k) s l w'):Run (f:=f) (ro:=ro) P ds (.region n all.toArray true::cs) Q l w:=by
 simp only[Bool.and_eq_true,decide_eq_true_eq]at hB
 obtain⟨⟨⟨⟨⟨hsel,hlen⟩,hk⟩,hs⟩,hc⟩,hB⟩:=hB
 have hk':k < all.toArray.size:=by simpa using hk
 have inv0:HeadInv .any all.toArray k (Array.replicate all.length false):=
  ⟨by simp,fun j oj _ hl=>(by rw[getD_replicate_false]at hl;cases hl),fun t _ ht=>getD_in (by simpa using ht) (getD_replicate_false _ _)⟩
 have hh:=VO (g:=all.length - k) hsel hs hc hk' s _ l _ inv0 hB (H.drew.pick idx hnd) (h _ rfl)
 have hd2:(all.drop (k+1)).all sN=true:=by
  rw[List.all_eq_true]at hd ⊢
  exact fun o ho=>hd o (List.mem_of_mem_drop ho)
 have hdl:(all.drop k).length=all.length - k:=by simp
 refine mQ (wpIn_region_any hm ?_)
 have:=AN (ro:=ro) (m:=0) (n:=k) (g:=all.length - k) (Q:=fun e a w'=>uQ (jA f ro P cs Q) Q e a.defers a.tmps.toList w') (fun listed a w hL=>by
  obtain⟨h1,h2,h3⟩:=hL
  obtain⟨t,d⟩:=a
  simp only at h2
  subst h2
  have:=fX (ro:=ro) (m:=0) (ops:=all.toArray) (all.drop k) k listed ⟨t,d⟩ w (fun j=>by simp[List.getElem?_drop]) (by rw[hdl];exact h1) (I4 hd2 hq h3)
  rwa [hdl]at this) (fun i o hi _=>fH hd i o hi) (fun _ _=>trivial) _ _ _ _ (fun _ _=>trivial) hh (fH hd)
 rw[hlen,show k+(all.length - k)=all.length by omega]at this
 simpa using this
end code
end Rn
section laws
variable {P:Program} {ds:List Deferred} {Q:vN} {K:List Value→World→Prop} {all os:List Oper} {l:List Value} {w0 w w':World} {S S':List Nat} {es es':List Ent} {ty t:TypeId} {pos:String} {af:Array Edge} {d:Tmp} {v:Value} {op:Op}
 {x y:Operand} {zs cs:List Value} {sz bytes:Nat} {agg:Bool}
theorem D6 {n:Nat} {e:TypeId} (ht:P.underlying t=some (.array n e)) {A:Option Addr} {len c:Nat} (hx:ev l x=some (.slice A len c)) (h:n≤len):
 Ex P l (.sliceToArrayPointer t x) ty w (.value (.pointer A)) w:=fun _ _ _ _=>by
 have h2:¬len < n:=by omega
 simp[execOp,zV hx,Instr.arrayAt,run_underlying ht,h2]
theorem fT {n:Nat} {e:TypeId} (ht:P.underlying t=some (.array n e)) (he:xT P e zs sz bytes agg) {a:Addr} {hi:Int} {kh:IntKind} {xh:Operand} (hx:ev l x=some (.pointer (some a))) (hh:ev l xh=some (.int kh hi)) (h:0≤hi∧hi≤n) (_:0 < n):
 Ex P l (.slice t x none (some xh) none) ty w (.value (.slice (some a) hi.toNat n)) w:=fun _ _ _ _=>by
 obtain⟨b,rfl⟩:=Int.eq_ofNat_of_zero_le (show 0≤hi by omega)
 have h2:b≤n:=by omega
 simp[execOp,zV hx,zV hh,Instr.sliceAt,run_underlying ht,vF he,Instr.sliceBounds,Instr.sliceBound,asIntOf,h2,Instr.sureAddr,Addr.add_zero']
theorem AI {n:Nat} {e:TypeId} (ht:P.underlying t=some (.array n e)) (he:xT P e zs sz bytes agg) {a:Addr} (hx:ev l x=some (.pointer (some a))) (_:0 < n):
 Ex P l (.slice t x none none none) ty w (.value (.slice (some a) n n)) w:=fun _ _ _ _=>by
 simp[execOp,zV hx,Instr.sliceAt,run_underlying ht,vF he,Instr.sliceBounds,Instr.sureAddr,Addr.add_zero']
end laws
structure Dk where
 kept:List Blk
 wait:List (Nat×Blk)
 down:Bool
 armed:Nat
 Yx:Nat
 ksp:List Value
def kc (ks:List Blk):List Value:=ks.flatMap u8s
def sV (p:Nat×Blk):List Value:=.int .i64 (p.1:Int)::u8s p.2
def wc (ws:List (Nat×Blk)):List Value:=ws.flatMap sV
@[reducible] def PL (gk:Nat) (gw:Option Nat) (n kq m cw:Nat) (dn:Bool) (ar:Nat):List Value:=[.slice (some ⟨gk,0,none⟩) n kq,.slice (hd gw) m cw,.bool dn,.int .i64 (ar:Int)]
@[reducible] def xC (gd gk:Nat) (gw:Option Nat) (cw:Nat) (sp:List Value) (D:Dk):List Ent:=
 [(some gd,89,PL gk gw D.kept.length D.Yx D.wait.length cw D.down D.armed),(some gk,91,kc D.kept++D.ksp),(gw,93,wc D.wait++sp)]
structure Hw (D:Dk) (gw:Option Nat) (cw:Nat) (sp:List Value):Prop where
 pos:0 < D.kept.length
 most:D.kept.length≤16384
 k64:∀ b∈D.kept,b.length=64
 w64:∀ p∈D.wait,p.2.length=64∧p.1 < D.kept.length
 wcap:D.wait.length≤cw
 cap:cw*65≤(wc D.wait++sp).length
 nil:gw=none→cw=0
 armed:D.armed < 2^63
def JC (w0 w':World) (S:List Nat) (gd gk:Nat) (D:Dk):Prop:=∃ gw cw sp,Hw D gw cw sp∧Hp w0 w' S (xC gd gk gw cw sp D)
theorem kN {ks:List Blk} (h:∀ b∈ks,b.length=64):(kc ks).length=ks.length*64:=by
 induction ks with
 | nil=>rfl
 | cons b ks ih=>
  have h1:=h b (by simp)
  have h2:=ih fun b hb=>h b (List.mem_cons_of_mem _ hb)
  simp only[kc,List.flatMap_cons,List.length_append,List.length_cons,zY]at h2 ⊢
  omega
theorem JF {ws:List (Nat×Blk)} {n:Nat} (h:∀ p∈ws,p.2.length=64∧p.1 < n):(wc ws).length=ws.length*65:=by
 induction ws with
 | nil=>rfl
 | cons b ks ih=>
  have h1:=(h b (by simp)).1
  have h2:=ih fun b hb=>h b (List.mem_cons_of_mem _ hb)
  simp only[wc,sV,List.flatMap_cons,List.length_append,List.length_cons,zY]at h2 ⊢
  omega
theorem QF (ws:List (Nat×Blk)):(wc ws).all (·.oneCell')=true:=by
 simp only[wc,List.all_flatMap,List.all_eq_true]
 intro p _ x hx
 rcases List.mem_cons.1 hx with rfl | h
 · rfl
 · exact List.all_eq_true.1 (uK _) x h
def rX :Blk:=List.replicate 64 0
theorem SD (n:Nat):kc (List.replicate n rX)=initL (u8s rX) n:=by simp[kc,initL,List.flatMap]
theorem EQ {zs:List Value} (h:zs.length=65) {n:Nat} {b:Blk} (hb:b.length=64):
 lM (fun i=>[(0,1),(1,64)][i]?) zs [(0,.int .i64 (n:Int)),(1,.agg (u8s b).toArray)]=some (sV (n,b)):=by
 have e1:(Value.int .i64 (n:Int)).cells.toList=[.int .i64 (n:Int)]:=rfl
 have e2:(Value.agg (u8s b).toArray).cells.toList=u8s b:=by simp[Value.cells]
 simp only[lM,List.getElem?_cons_zero,List.getElem?_cons_succ,e1,e2]
 have h1:(zH zs 0 [Value.int .i64 (n:Int)]).length=65:=by simp[zH,h]
 rw[decide_eq_true (by rfl),decide_eq_true (by simp[h])]
 simp only
 rw[decide_eq_true (by rw[zY,hb]),decide_eq_true (by rw[h1,zY,hb];decide)]
 simp only
 congr 1
 simp only[zH,sV,List.length_cons,List.length_nil]
 rw[List.take_zero,List.nil_append,List.take_append_of_le_length (by simp),List.take_of_length_le (by simp),List.drop_of_length_le (by simp[h,zY,hb])]
 simp
def Dk.hit (D:Dk):Dk×Bool:=if D.armed < 1 then(D,false) else({ D with armed:=D.armed - 1 },decide (D.armed - 1=0))
theorem Hw.hit {D:Dk} {gw:Option Nat} {cw:Nat} {sp:List Value} (h:Hw D gw cw sp):Hw D.hit.1 gw cw sp:=by
 obtain⟨h1,h2,h3,h4,h5,h6,h7,h8⟩:=h
 unfold Dk.hit
 split
 · exact⟨h1,h2,h3,h4,h5,h6,h7,h8⟩
 · exact⟨h1,h2,h3,h4,h5,h6,h7,by show D.armed - 1 < 2^63;omega⟩
theorem Hw.fall {D:Dk} {gw:Option Nat} {cw:Nat} {sp:List Value} (h:Hw D gw cw sp) (x:Bool):Hw { D with down:=x } gw cw sp:=
 ⟨h.1,h.2,h.3,h.4,h.5,h.6,h.7,h.8⟩
def Dk.put (D:Dk) (n:Nat) (b:Blk):Dk:={ D with wait:=D.wait++[(n,b)] }
def Dk.write (D:Dk) (a:Int) (b:Blk):Dk×Nat:=
 if D.down=true then(D,40) else if a < 0∨(D.kept.length:Int)≤a then(D,41) else if b.length≠64 then(D,1)
 else if(D.put a.toNat b).hit.2=true then({ (D.put a.toNat b).hit.1 with down:=true },40) else((D.put a.toNat b).hit.1,0)
theorem GH (ws:List (Nat×Blk)) (n:Nat) (b:Blk):wc (ws++[(n,b)])=wc ws++sV (n,b):=by simp[wc]
theorem rL {n:Nat} {b:Blk} (h:b.length=64):(sV (n,b)).length=65:=by simp[sV,zY,h]
theorem jJ (n:Nat) (b:Blk):(sV (n,b)).all (·.oneCell')=true:=by
 have:=QF [(n,b)]
 rwa [show wc [(n,b)]=sV (n,b) from List.append_nil _]at this
theorem FH {w0 w:World} {S:List Nat} {es es1:List Ent} (H:Hp w0 w S es) (i:Nat) (is:List Nat) {g:Option Nat} {T:TypeId} {cs:List Value} (he:es[i]? =some (g,T,cs)) (h1:es1=is.map fun j=>es.getD j (none,0,[])) (hi:i∉is):∀ p,hd g=some p→p.block∉bl es1:=by
 intro p hp hb
 obtain⟨j,hj,T',cs',hj2⟩:=I1 h1 _ hb
 cases g with
 | none=>simp[hd]at hp
 | some x=>
  simp only[hd,Option.map_some,Option.some.injEq]at hp
  subst hp
  have:=H.apart i j _ _ x he hj2 rfl rfl
  subst this
  exact hi hj
def Dk.start (D:Dk):Dk:=if D.down=true then { D with wait:=[],armed:=0,down:=false } else D
def flush (ks:List Blk) (ws:List (Nat×Blk)):List Blk:=ws.foldl (fun ks p=>ks.set p.1 p.2) ks
def Dk.sync (D:Dk):Dk×Nat:=if D.down=true then(D,40) else if D.hit.2=true then({ D.hit.1 with down:=true },40) else({ D.hit.1 with kept:=flush D.hit.1.kept D.hit.1.wait,wait:=[] },0)
theorem Cm (ks:List Blk) (ws:List (Nat×Blk)):(flush ks ws).length=ks.length:=by
 unfold flush
 induction ws generalizing ks with
 | nil=>rfl
 | cons p ws ih=>simp only[List.foldl_cons];rw[ih];simp
theorem cV {ks:List Blk} {ws:List (Nat×Blk)} {n:Nat} (h:∀ b∈ks,b.length=64) (hw:∀ p∈ws,p.2.length=64∧p.1 < n):∀ b∈flush ks ws,b.length=64:=by
 unfold flush
 induction ws generalizing ks with
 | nil=>exact h
 | cons p ws ih=>
  simp only[List.foldl_cons]
  refine ih (fun b hb=>?_) (fun q hq=>hw q (List.mem_cons_of_mem _ hq))
  rcases List.mem_or_eq_of_mem_set hb with h1 | h1
  · exact h b h1
  · rw[h1];exact(hw p (by simp)).1
theorem cS {ks:List Blk} {ws:List (Nat×Blk)} {q:Nat} (h:q < ws.length):flush ks (ws.take (q+1))=(flush ks (ws.take q)).set ws[q].1 ws[q].2:=by
 unfold flush
 rw[List.take_add_one,List.getElem?_eq_getElem h,List.foldl_append]
 rfl
theorem SG {ks:List Blk} (h:∀ b∈ks,b.length=64) {n:Nat} (hn:n < ks.length):((kc ks).drop (n*64)).take 64=u8s ks[n]:=by
 induction ks generalizing n with
 | nil=>simp at hn
 | cons b ks ih=>
  have hb:=h b (by simp)
  cases n with
  | zero=>
   simp only[Nat.zero_mul,List.drop_zero,kc,List.flatMap_cons,List.getElem_cons_zero]
   rw[List.take_left' (by rw[zY,hb])]
  | succ n=>
   have:=ih (fun b hb=>h b (List.mem_cons_of_mem _ hb)) (n:=n) (by simpa using hn)
   simp only[kc,List.flatMap_cons,List.getElem_cons_succ]at this ⊢
   rw[show(n+1)*64=64+n*64 by omega,← List.drop_drop,List.drop_left' (by rw[zY,hb])]
   exact this
theorem VG {ks:List Blk} (h:∀ b∈ks,b.length=64) {n:Nat} (hn:n < ks.length) (j:Nat) (u:Value) (hu:(u8s ks[n])[j]? =some u):(kc ks)[n*64+j]? =some u:=by
 rw[← SG h hn]at hu
 rw[List.getElem?_take]at hu
 split at hu
 · rwa [List.getElem?_drop]at hu
 · cases hu
theorem VF {ks:List Blk} (h:∀ b∈ks,b.length=64) {n:Nat} (hn:n < ks.length) {b:Blk} (hb:b.length=64):zH (kc ks) (n*64) (u8s b)=kc (ks.set n b):=by
 induction ks generalizing n with
 | nil=>simp at hn
 | cons c ks ih=>
  have hc:=h c (by simp)
  have hcl:(u8s c).length=64:=by rw[zY,hc]
  have hbl:(u8s b).length=64:=by rw[zY,hb]
  cases n with
  | zero=>
   simp only[zH,Nat.zero_mul,List.take_zero,List.nil_append,Nat.zero_add,kc,List.flatMap_cons,List.set_cons_zero,hbl]
   rw[List.drop_left' hcl]
  | succ n=>
   have:=ih (fun b hb=>h b (List.mem_cons_of_mem _ hb)) (n:=n) (by simpa using hn)
   simp only[zH,kc,List.flatMap_cons,List.set_cons_succ]at this ⊢
   rw[show(n+1)*64=64+n*64 by omega,show 64+n*64+(u8s b).length=64+(n*64+(u8s b).length) by omega,← List.drop_drop,List.drop_left' hcl,List.take_append,hcl,List.take_of_length_le (by omega),Nat.add_sub_cancel_left,List.append_assoc,List.append_assoc]
   rw[List.append_assoc]at this
   rw[this]
theorem AT {ws:List (Nat×Blk)} {n:Nat} (h:∀ p∈ws,p.2.length=64∧p.1 < n) {q:Nat} (hq:q < ws.length) (j:Nat) (u:Value) (hu:(sV ws[q])[j]? =some u):(wc ws)[q*65+j]? =some u:=by
 induction ws generalizing q with
 | nil=>simp at hq
 | cons p ws ih=>
  have hp:=(h p (by simp)).1
  have hl:(sV p).length=65:=by obtain⟨a,b⟩:=p;exact rL hp
  cases q with
  | zero=>
   have hj:j < (sV p).length:=(List.getElem?_eq_some_iff.1 hu).1
   simp only[wc,List.flatMap_cons,Nat.zero_mul,Nat.zero_add]
   rw[List.getElem?_append_left hj]
   exact hu
  | succ q=>
   have:=ih (fun p hp=>h p (List.mem_cons_of_mem _ hp)) (q:=q) (by simpa using hq) hu
   simp only[wc,List.flatMap_cons]at this ⊢
   rw[List.getElem?_append_right (by omega),← this]
   congr 1
   omega
theorem nZ {n:Nat}:∀ {ws:List (Nat×Blk)} {ks:List Blk},(∀ p∈ws,p.1≠n)→(flush ks ws)[n]? =ks[n]?
 | [],ks,_=>rfl
 | p::ws,ks,h=>by
  show(flush (ks.set p.1 p.2) ws)[n]? =_
  rw[nZ (fun q hq=>h q (List.mem_cons_of_mem _ hq)),List.getElem?_set_ne (h p (by simp))]
theorem mA (ks:List Blk) (a b:List (Nat×Blk)):flush ks (a++b)=flush (flush ks a) b:=by simp[flush]
theorem cU {ks:List Blk} {ws:List (Nat×Blk)} {q n:Nat} (hq:q < ws.length) (hn:n < ks.length) (he:ws[q].1=n) (h:∀ p∈ws.drop (q+1),p.1≠n):(flush ks ws)[n]? =some ws[q].2:=by
 have h2:(flush ks (ws.take (q+1)++ws.drop (q+1)))[n]? =some ws[q].2:=by
  rw[mA,nZ h,cS hq,he,List.getElem?_set_self (by rw[Cm];exact hn)]
 rwa [List.take_append_drop]at h2
def Dk.show (D:Dk) (n:Nat):Blk:=(flush D.kept D.wait).getD n []
def Dk.read (D:Dk) (a:Int):Blk×Nat:=if D.down=true then([],40) else if a < 0∨(D.kept.length:Int)≤a then([],41) else(D.show a.toNat,0)
def Dx (keep:List Int) (q:Nat):Nat:=(min (max (keep.getD q 0) 0) 64).toNat
theorem AK (keep:List Int) (q:Nat):Dx keep q≤64:=by unfold Dx;omega
def tears (ks:List Blk) (ws:List (Nat×Blk)) (keep:List Int):Nat→List Blk
 | 0=>ks
 | q+1=>match ws[q]? with
  | some p=>(tears ks ws keep q).set p.1 (p.2.take (Dx keep q)++((tears ks ws keep q).getD p.1 []).drop (Dx keep q))
  | none=>tears ks ws keep q
theorem nK (ks:List Blk) (ws:List (Nat×Blk)) (keep:List Int) (q:Nat):(tears ks ws keep q).length=ks.length:=by
 induction q with
 | zero=>rfl
 | succ q ih=>simp only[tears];split <;>simp[ih]
theorem CR {ks:List Blk} {ws:List (Nat×Blk)} {keep:List Int} (h:∀ b∈ks,b.length=64) (hw:∀ p∈ws,p.2.length=64∧p.1 < ks.length) (q:Nat):∀ b∈tears ks ws keep q,b.length=64:=by
 induction q with
 | zero=>exact h
 | succ q ih=>
  simp only[tears]
  split
  · rename_i p hp
    intro b hb
    rcases List.mem_or_eq_of_mem_set hb with h1 | h1
    · exact ih b h1
    · have hpw:=hw p (List.mem_of_getElem? hp)
      have hc:=AK keep q
      have hlt:p.1 < (tears ks ws keep q).length:=by rw[nK];exact hpw.2
      have h64:=ih _ (List.getElem_mem hlt)
      rw[h1,List.getD_eq_getElem?_getD,List.getElem?_eq_getElem hlt,Option.getD_some,List.length_append,List.length_take,List.length_drop]
      omega
  · exact ih
def Dk.crash (D:Dk) (keep:List Int):Dk:={ D with kept:=tears D.kept D.wait keep D.wait.length,wait:=[],down:=true }
theorem SF {ks:List Blk} (h:∀ b∈ks,b.length=64) {n:Nat} (hn:n < ks.length) {b:Blk} (hb:b.length≤64):zH (kc ks) (n*64) (u8s b)=kc (ks.set n (b++(ks.getD n []).drop b.length)):=by
 induction ks generalizing n with
 | nil=>simp at hn
 | cons c ks ih=>
  have hc:=h c (by simp)
  have hcl:(u8s c).length=64:=by rw[zY,hc]
  cases n with
  | zero=>
   simp only[zH,Nat.zero_mul,List.take_zero,List.nil_append,Nat.zero_add,kc,List.flatMap_cons,List.set_cons_zero,zY,List.getD_cons_zero,vD,List.append_assoc]
   rw[List.drop_append_of_le_length (by omega)]
   congr 2
   simp[u8s,List.map_drop]
  | succ n=>
   have:=ih (fun b hb=>h b (List.mem_cons_of_mem _ hb)) (n:=n) (by simpa using hn)
   simp only[zH,kc,List.flatMap_cons,List.set_cons_succ,List.getD_cons_succ]at this ⊢
   rw[show(n+1)*64=64+n*64 by omega,show 64+n*64+(u8s b).length=64+(n*64+(u8s b).length) by omega,← List.drop_drop,List.drop_left' hcl,List.take_append,hcl,List.take_of_length_le (by omega),Nat.add_sub_cancel_left,List.append_assoc,List.append_assoc]
   rw[List.append_assoc]at this
   rw[this]
def VN (l:List Int):List Value:=l.map fun n=> .int .i64 n
theorem NZ {l:List Int} {i:Nat} (h:i < l.length):(VN l)[i]? =some (.int .i64 l[i]):=by simp[VN,h]
section
variable {P:Program} {ds:List Deferred} {Q:vN} {K:List Value→World→Prop} {all os:List Oper} {l:List Value} {w0 w w':World} {S:List Nat} {es:List Ent} {ty t:TypeId} {pos:String} {af:Array Edge} {d:Tmp} {x y:Operand} {zs:List Value} {bytes:Nat} {agg:Bool}
theorem M7 {e:TypeId} (ht:P.underlying t=some (.slice e)) (he:xT P e zs 1 bytes agg) (H:Hp w0 w S es) (i:Nat) {g o n dc sc:Nat} {a:Addr} {T:TypeId} {cs vs:List Value} (hx:ev l x=some (.slice (some ⟨g,o,none⟩) n dc)) (hy:ev l y=some (.slice (some a) n sc))
 (hi:es[i]? =some (some g,T,cs)) (hn:vs.length=n) (hsrc:∀ j u,vs[j]? =some u→w.cell? (a.add j)=some u) (hfit:o+n≤cs.length) (h1:vs.all (·.oneCell')=true)
 (k:∀ w',Hp w0 w' S (es.set i (some g,T,zH cs o vs))→Ops P ds all K Q os (l.set d (.int .i64 (n:Int))) w'):
 Ops P ds all K Q (⟨some d,.call { callee:=.builtin .copy,args:=#[x,y],argTypes:=#[t,t] },ty,pos,af,none⟩::os) l w:=by
 obtain⟨inf,z,dd,hinf,hz,hzs,hsz,hby,_,_⟩:=he.ex
 have hr:=run_copy_row (P:=P) w t t ty e g o n dc a n sc cs.toArray T vs ht (by rw[hinf];simp[hsz]) (H.at hi) (by rw[hn];simp) hsrc (by rw[hn];simpa using hfit) (fun v hv=>List.all_eq_true.1 h1 v hv)
 have e1:(cs.toArray.toList.take o++vs++cs.toArray.toList.drop (o+vs.length)).toArray=(zH cs o vs).toArray:=by simp[zH]
 rw[e1,hn]at hr
 refine zD (w':=w.setRow g (zH cs o vs).toArray) ?_ (k _ (H.setRow hi _))
 intro _ _ _ _
 simp[execOp,resolve,invoke,builtin,zV hx,zV hy,hr,goInt]
end
section
variable {P:Program} {ds:List Deferred} {Q:vN} {K:List Value→World→Prop} {all os:List Oper} {l:List Value} {w0 w w':World} {S:List Nat} {es:List Ent} {ty t:TypeId} {pos:String} {af:Array Edge} {d:Tmp} {x y:Operand} {zs:List Value} {sz bytes:Nat} {agg:Bool}
end
theorem A4 (D:Dk):D.sync.1.wait.length≤D.wait.length∧D.sync.1.kept.length=D.kept.length:=by
 have h1:D.hit.1.wait=D.wait:=by unfold Dk.hit;split <;>rfl
 have h2:D.hit.1.kept=D.kept:=by unfold Dk.hit;split <;>rfl
 unfold Dk.sync
 split
 · exact⟨Nat.le_refl _,Y⟩
 · split
   · exact⟨by show D.hit.1.wait.length≤_;rw[h1];exact Nat.le_refl _,by show D.hit.1.kept.length=_;rw[h2]⟩
   · exact⟨Nat.zero_le _,by show(flush _ _).length=_;rw[Cm,h2]⟩
theorem CE (D:Dk) (a:Int) (b:Blk):(D.write a b).1.wait.length≤D.wait.length+1∧(D.write a b).1.kept.length=D.kept.length:=by
 have h1:∀ E:Dk,E.hit.1.wait=E.wait:=fun E=>by unfold Dk.hit;split <;>rfl
 have h2:∀ E:Dk,E.hit.1.kept=E.kept:=fun E=>by unfold Dk.hit;split <;>rfl
 have h3:(D.put a.toNat b).wait.length=D.wait.length+1:=by simp[Dk.put]
 unfold Dk.write
 split
 · exact⟨by simp,Y⟩
 split
 · exact⟨by simp,Y⟩
 split
 · exact⟨by simp,Y⟩
 split
 · exact⟨by show(D.put a.toNat b).hit.1.wait.length≤_;rw[h1,h3];exact Nat.le_refl _,by show(D.put a.toNat b).hit.1.kept.length=_;rw[h2];rfl⟩
 · exact⟨by show(D.put a.toNat b).hit.1.wait.length≤_;rw[h1,h3];exact Nat.le_refl _,by show(D.put a.toNat b).hit.1.kept.length=_;rw[h2];rfl⟩
theorem L2 (D:Dk):D.start.down=false:=by
 unfold Dk.start
 split
 · rfl
 · rename_i h;simpa using h
theorem DS {D:Dk} (h:D.armed=0):D.hit=(D,false):=by
 unfold Dk.hit
 rw[if_pos (by omega)]
theorem bK {w w':World} {es es':List Ent} {B:Option Addr} {n:Nat} {xs:List Value} (hr:Rd w B n 1 xs) (hn:0 < n) (ha:∀ p,B=some p→p.block∉bl es) (H:Hp w w' (bl es) es'):∀ p,B=some p→p.block∉bl es':=by
 intro p hp hb
 obtain⟨e,he,hg⟩:=List.mem_filterMap.1 hb
 obtain⟨i,hi⟩:=List.getElem?_of_mem he
 obtain⟨g,T,cs⟩:=e
 simp only at hg
 subst hg
 have h1:=H.place hi
 have h2:0 < xs.length:=by rw[hr.len];omega
 have h3:=World.block_lt_of_cell? w _ (hr.cells p hp 0 _ (List.getElem?_eq_getElem h2))
 rw[Addr.add_zero']at h3
 rcases h1 with h1 | h1
 · exact ha p hp h1
 · omega
theorem CU {D:Dk} {gw:Option Nat} {cw:Nat} {sp:List Value} (h:Hw D gw cw sp) {n:Nat} (hn:n < D.kept.length):(D.show n).length=64:=by
 unfold Dk.show
 have h1:=cV h.k64 h.w64
 have h2:n < (flush D.kept D.wait).length:=by rw[Cm];exact hn
 rw[List.getD_eq_getElem?_getD,List.getElem?_eq_getElem h2]
 exact h1 _ (List.getElem_mem h2)
theorem RJ {D:Dk} {n:Nat} (hd:D.down=false) (hn:n < D.kept.length):D.read (n:Int)=(D.show n,0):=by
 unfold Dk.read
 rw[if_neg (by rw[hd];exact Bool.false_ne_true),if_neg (by omega)]
 rfl
theorem aF {D:Dk} (hd:D.down=false) (h:D.armed=0):D.sync=({ D with kept:=flush D.kept D.wait,wait:=[],down:=false,armed:=0 },0):=by
 unfold Dk.sync
 rw[if_neg (by rw[hd];exact Bool.false_ne_true),DS h]
 simp only[Bool.false_eq_true,if_false]
 congr 2
theorem E4 {D:Dk} {a:Int} {b:Blk} (hd:D.down=false) (h:D.armed=0) (h0:0≤a) (ha:a < D.kept.length) (hb:b.length=64):D.write a b=(D.put a.toNat b,0):=by
 unfold Dk.write
 rw[if_neg (by rw[hd];exact Bool.false_ne_true),if_neg (by omega),if_neg (by omega),DS (D:=D.put a.toNat b) h]
 rfl
theorem MN {D:Dk} {n:Nat} {b:Blk} (hn:n < D.kept.length):(D.put n b).show n=b:=by
 unfold Dk.show Dk.put
 simp only
 rw[mA]
 show((flush D.kept D.wait).set n b).getD n []=b
 rw[List.getD_eq_getElem?_getD,List.getElem?_set_self (by rw[Cm];exact hn)]
 rfl
theorem aP {cs sp vs:List Value} {o:Nat} (h:o+vs.length≤cs.length):zH (cs++sp) o vs=zH cs o vs++sp:=by
 simp only[zH]
 rw[List.take_append_of_le_length (by omega),List.drop_append_of_le_length h,List.append_assoc,List.append_assoc,List.append_assoc]
theorem SE {ks:List Blk} {sp:List Value} (h:∀ b∈ks,b.length=64) {n:Nat} (hn:n < ks.length) {b:Blk} (hb:b.length=64):zH (kc ks++sp) (n*64) (u8s b)=kc (ks.set n b)++sp:=by
 rw[aP (by rw[kN h,zY,hb];omega),VF h hn hb]
theorem NW {ks:List Blk} {sp:List Value} (h:∀ b∈ks,b.length=64) {n:Nat} (hn:n < ks.length) {b:Blk} (hb:b.length≤64):zH (kc ks++sp) (n*64) (u8s b)=kc (ks.set n (b++(ks.getD n []).drop b.length))++sp:=by
 rw[aP (by rw[kN h,zY];omega),SF h hn hb]
end Go.Proofs.YtjoeklkmnfaabaaGreat
namespace Go.Proofs.YtjoeklkmnfaabaaGreat
set_option maxRecDepth 100000
set_option maxHeartbeats 4000000
open Go Go.RowKit
set_option linter.unusedVariables false
attribute [local irreducible] yT Ops zP Cd
theorem pl89 :wY Tryz.prog 89=some [(0,1),(1,1),(2,1),(3,1)]:=by kernel_rfl
theorem pl93 :wY Tryz.prog 93=some [(0,1),(1,64)]:=by kernel_rfl
theorem gX (gd gk:Nat) (gw:Option Nat) (cw:Nat) (sp:List Value) (D:Dk) (w0:World) (H0:Hp w0 w0 (bl (xC gd gk gw cw sp D)) (xC gd gk gw cw sp D)) (hD:Hw D gw cw sp):zP Tryz.prog 51 #[.pointer (some ⟨gd,0,none⟩)] w0 (fun r w'=>r=.int .i64 (if D.down=true then 40 else 0:Int)∧Hp w0 w' (bl (xC gd gk gw cw sp D)) (xC gd gk gw cw sp D)):=by
 refine zE Tryz.func51 Tryz.ntmps51 Y<|cR e11 ?_
 have H:=H0
 obtain⟨hpos,Dh,Gv,hw64,Gq,hcap,hnil,harm⟩:=hD
 refine Rq<|Xa Y<|Xr e11<|J1<|J7<|Rq<|Xm Y<|Dy (yE Tryz.underlying27 Y) (by simp)<|Xa Y<|Xr e11<|J4 Y<|Rq<|Xm Y<|Xc Y<|Xf jV Y<|OV (EL ty4 Y (H.cell (i:=0) Y Y))<|Aa e11<|Xa Y<|Xr e11<|wU Y (fun hb6=>?_) (fun hb6=>?_)
 rw[if_pos hb6]
 refine Rq<|Xa Y<|Xr e11<|J5<|BR<|Ak Y Y<|⟨Y,H⟩
 rw[if_neg (by rw[hb6];decide)]
 refine J6<|zA (zB ?_)
 refine Rq<|Xa Y<|Xr e11<|J5<|Ak Y Y<|⟨Y,H⟩
theorem IA (gd gk:Nat) (gw:Option Nat) (cw:Nat) (sp:List Value) (D:Dk) (w0:World) (H0:Hp w0 w0 (bl (xC gd gk gw cw sp D)) (xC gd gk gw cw sp D)) (hD:Hw D gw cw sp):zP Tryz.prog 123 #[.pointer (some ⟨gd,0,none⟩)] w0 (fun r w'=>r=.bool D.hit.2∧Hp w0 w' (bl (xC gd gk gw cw sp D)) (xC gd gk gw cw sp D.hit.1)):=by
 refine zE Tryz.func123 Tryz.ntmps123 Y<|cR e20 ?_
 have H:=H0
 obtain⟨hpos,Dh,Gv,hw64,Gq,hcap,hnil,harm⟩:=hD
 refine Rq<|Xa Y<|Xr e20<|J1<|Rq<|Xm Y<|Xc Y<|Xf cW Y<|OV (EL ty3 Y (H.cell (i:=0) Y Y))<|Aa e20<|OT (zQ Y Y) (fun Kz=>?_) (fun Kz=>?_)
 have hh:D.hit=(D,false):=if_pos (by omega)
 refine Xr e20<|J3 Y<|Rq<|Xa Y<|Xr e20<|J5<|Ak Y Y ?_
 rw[hh]
 exact⟨Y,H⟩
 have hh:D.hit=({ D with armed:=D.armed - 1 },decide (D.armed - 1=0)):=if_neg (by omega)
 refine Xr e20<|J4 Y<|J6<|Rq<|Xm Y<|Xc Y<|Xf cW Y<|OV (EL ty3 Y (H.cell (i:=0) Y Y))<|Aa e20<|OV (uW Y Y ((IntWalk.i64_in _ (by omega)).trans (show((D.armed:Int) - 1)=((D.armed - 1:Nat):Int) by omega)))<|Xc Y<|Xf cW Y<|OW ty3 H 0 Y Y Y Y (by first|exact NL Y|simp[zH]) Y<|fun w1 H1=>Xr e20<|Rq<|Xm Y<|Xc Y<|Xf cW Y<|OV (EL ty3 Y (H1.cell (i:=0) Y Y))<|Aa e20<|OV (xP Y Y)<|Xa Y<|Xr e20<|J5<|Ak Y Y ?_
 rw[hh]
 exact⟨congrArg Value.bool (decide_eq_decide.2 (by omega)),H1⟩
theorem NI (n:Nat) (w0:World) (h1:1≤n) (h2:n≤16384):zP Tryz.prog 8 #[.int .i64 (n:Int)] w0 (fun r w'=>∃ gd gk,r=.tuple #[.pointer (some ⟨gd,0,none⟩),.int .i64 0]∧Hp w0 w' [] (xC gd gk none 0 [] ⟨List.replicate n rX,[],false,0,n,[]⟩)):=by
 refine zE Tryz.func8 Tryz.ntmps8 Y<|cR e14 ?_
 have H:=Hp.refl w0
 refine Rq<|Xa Y<|Xa Y<|Xr e14<|J1<|Rq<|Xm Y<|Dy (zQ Y Y) (by omega)<|Xm Y<|Aa e14<|OY Y<|Xm Y<|OY Y<|Dy (yO Y Y) (by omega)<|Xu Y Y<|Xr e14<|J4 Y<|J6<|Rq<|Xm Y<|fF Tryz.underlying86 gT H Y Y (n:=n) (c:=n) (Nat.le_refl _) (by omega) (by omega)<|fun w1 gk H1 hgk=>OV (EB ty89 pl89 Y Y)<|yA Y Y H1<|fun w2 gd H2 hgd=>Aa e14<|Xa Y<|Xa Y<|Xr e14<|J5<|Ea Y Y Y ?_
 have e1:kc (List.replicate n rX)=initL (u8s rX) n:=SD n
 refine⟨gd,gk,Y,?_⟩
 have HH:=(H2.pick [1,0] (by decide)).nil 93
 simp only[xC,List.length_replicate,List.append_nil]
 rw[e1]
 exact HH
theorem Yq {n:Nat} (h1:1≤n) (h2:n≤16384):Hw ⟨List.replicate n rX,[],false,0,n,[]⟩ none 0 []:=
 ⟨by simp;omega,by simpa using h2,fun b hb=>by rw[(List.mem_replicate.1 hb).2];rfl,fun p hp=>(by cases hp),Nat.le_refl _,by simp,fun _=>rfl,by show 0 < 2^63;decide⟩
end Go.Proofs.YtjoeklkmnfaabaaGreat
namespace Go.Proofs.YtjoeklkmnfaabaaGreat
set_option maxRecDepth 100000
set_option maxHeartbeats 4000000
open Go Go.RowKit
set_option linter.unusedVariables false
attribute [local irreducible] yT Ops zP Cd
theorem bY (gd gk:Nat) (gw:Option Nat) (cw:Nat) (sp:List Value) (D:Dk) (w0:World) (H0:Hp w0 w0 (bl (xC gd gk gw cw sp D)) (xC gd gk gw cw sp D)) (hD:Hw D gw cw sp) (a:Int) (A:Option Addr) (b:Blk) (c:Nat) (hr:Rd w0 A b.length 1 (u8s b)) (hsep:∀ p,A=some p→p.block∉bl (xC gd gk gw cw sp D)) (hm:D.wait.length≤2932000000000):zP Tryz.prog 77 #[.pointer (some ⟨gd,0,none⟩),.int .i64 a,.slice A b.length c] w0 (fun r w'=>r=.int .i64 ((D.write a b).2:Int)∧JC w0 w' (bl (xC gd gk gw cw sp D)) gd gk (D.write a b).1):=by
 refine zE Tryz.func77 Tryz.ntmps77 Y<|cR e46 ?_
 have H:=H0
 obtain⟨hpos,Dh,Gv,hw64,Gq,hcap,hnil,harm⟩:=hD
 have hD:Hw D gw cw sp:=⟨hpos,Dh,Gv,hw64,Gq,hcap,hnil,harm⟩
 refine Rq<|Xa Y<|Xr e46<|J1<|Rq<|Xm Y<|OC (EC VX Y) (gX gd gk gw cw sp D _ H.here hD)<|fun w1 Hd=>?_
 have H1:=(H.Am [0,1,2] rfl Hd).pick [3,4,5] (by decide)
 refine Xa Y<|Xr e46<|Rq<|Xm Y<|OT (yS Y Y) (fun hp11=>?_) (fun hp11=>?_)
 have hdn:D.down=true:=by
  by_cases h:D.down=true
  · exact h
  · rw[if_neg h]at hp11;omega
 refine Xr e46<|J3 Y<|Rq<|Xm Y<|Xa Y<|Xr e46<|J5<|Ak Y Y ?_
 have hw:D.write a b=(D,40):=if_pos hdn
 rw[hw,if_pos hdn]
 exact⟨Y,gw,cw,sp,hD,H1⟩
 have hdn:¬D.down=true:=fun h=>by rw[if_pos h]at hp11;omega
 refine Xr e46<|J4 Y<|J6<|J1<|Rq<|Xm Y<|OT (zQ Y Y) (fun hp14=>?_) (fun hp14=>?_)
 refine Xm Y<|Aa e46<|Oz 7 Y<|Aa e46<|Xt Y Y<|Xr e46<|J3 Y<|Rq<|Xa Y<|Xr e46<|J5<|Ak Y Y ?_
 have hw:D.write a b=(D,41):=by
  unfold Dk.write
  rw[if_neg hdn,if_pos (by omega)]
 rw[hw]
 exact⟨Y,gw,cw,sp,hD,H1⟩
 obtain⟨n,rfl⟩:=Int.eq_ofNat_of_zero_le (show 0≤a by omega)
 refine Xm Y<|Aa e46<|OY Y<|Xm Y<|OY Y<|Xm Y<|Aa e46<|OY Y<|Xc Y<|OY Y<|Xf jW Y<|Aa e46<|OY Y<|OV (EL E9 Y (H1.cell (i:=0) Y Y))<|OY Y<|OV (ES Tryz.underlying86 Y)<|Aa e46<|OY Y<|OT (wL Y Y) (fun Jm=>?_) (fun Jm=>?_)
 refine Xu Y Y<|Xr e46<|J3 Y<|Rq<|Xa Y<|Xr e46<|J5<|Ak Y Y ?_
 have hw:D.write (n:Int) b=(D,41):=by
  unfold Dk.write
  rw[if_neg hdn,if_pos (by omega)]
 rw[hw]
 exact⟨Y,gw,cw,sp,hD,H1⟩
 refine Xu Y Y<|Xr e46<|J4 Y<|J6<|J1<|Rq<|Xm Y<|OV (ES Tryz.underlying73 Y)<|OT (yS Y Y) (fun Gu=>?_) (fun Gu=>?_)
 refine Xr e46<|J3 Y<|Rq<|Xa Y<|Xr e46<|J5<|Ak Y Y ?_
 have hw:D.write (n:Int) b=(D,1):=by
  unfold Dk.write
  rw[if_neg hdn,if_neg (by omega),if_pos (by omega)]
 rw[hw]
 exact⟨Y,gw,cw,sp,hD,H1⟩
 have hb64:b.length=64:=by omega
 obtain⟨p,rfl⟩:=hr.some_ (by omega)
 refine Xr e46<|J4 Y<|J6<|J1<|zR 14 [(true,0),(true,1),(true,2),(true,3),(true,4),(true,5),(true,6),(true,7),(true,8),(true,9),(false,10),(false,11),(true,12),(true,13),(false,14)] H1 [0] yG (by decide) (by kernel_rfl) ?_
 rintro w2 hw2
 have H2:=Hp.drew H1;rw[← hw2]at H2
 refine Zm Y Y<|Zm Y Y<|Zc Y Y<|Zf Y oM Y<|cZ e46<|MP Y<|MV (fun wz hz=>EL bP Y (hz.cell (i:=0) Y Y))<|Zm Y Y<|Zm Y Y<|MP Y<|MV (fun wz hz=>D6 Tryz.underlying91 Y (by omega))<|cZ e46<|MP Y<|MV (fun wz hz=>EN gT Y (vs:=u8s b) (by rw[zY];omega) (fun j u hu=>(hr.to hz hsep).cells p Y j u hu))<|MP Y<|MV (fun wz hz=>EB gS pl93 Y (EQ Y hb64))<|MO Y<|zG Tryz.underlying87 gS H2 Y (by decide) (O9 (v:=.agg (sV (n,b)).toArray) (rL hb64) Y)<|fun w3 gb H3 hgb=>OE<|⟨fun hne=>H3.pick [0] (by decide),?_⟩
 refine cZ e46<|MO Y<|yX Tryz.underlying87 gS (by decide) H3 2 (g:=gw) (xs:=wc D.wait) (sp:=sp) Y Y (JF hw64) hcap Gq hnil Y (H3.rd (i:=3) (o:=some gb) (xs:=sV (n,b)) (sp:=[]) (n:=1) (sz:=65) (by rw[List.append_nil];rfl) (rL hb64) (by decide)) (jJ n b) (by omega) (by omega) (by decide)<|fun w4 g3 cap3 sp3 H4 hcap3 hmc3 hg3=>OE<|⟨fun hne=>H4.pick [0] (by decide),?_⟩
 refine cZ e46<|Zc Y Y<|Zf Y oM Y<|MO Y<|OW bP H4 0 Y Y Y Y (by first|exact NL Y|simp[zH]) Y<|fun w5 H5=>OE<|⟨fun hne=>absurd Y hne,?_⟩
 refine cZ e46<|ME<|cR e46<|J1<|Rq<|Xm Y ?_
 have HD:Hp w0 w5 (bl (xC gd gk gw cw sp D)) (xC gd gk g3 cap3 sp3 (D.put n b)):=by
  simp only[xC,Dk.put,List.length_append,List.length_cons,List.length_nil,GH]
  exact H5.pick [0,1,2] (by decide)
 have hO:Hw (D.put n b) g3 cap3 sp3:=by
  refine⟨hpos,Dh,Gv,fun q hq=>?_,by simp only[Dk.put,List.length_append,List.length_cons,List.length_nil];exact hmc3,by simp only[Dk.put,GH];exact hcap3,hg3,harm⟩
  rcases List.mem_append.1 hq with h | h
  · exact hw64 q h
  · rw[List.mem_singleton.1 h]
    exact⟨hb64,by show n < D.kept.length;omega⟩
 refine OC (EC UA Y) (IA gd gk g3 cap3 sp3 _ _ HD.here hO)<|fun w6 Hd=>?_
 have H6:=(HD.Am [0,1,2] rfl Hd).pick [3,4,5] (by decide)
 refine Xr e46<|wU Y (fun Xy=>?_) (fun Xy=>?_)
 have hw:D.write (n:Int) b=({ (D.put n b).hit.1 with down:=true },40):=by
  unfold Dk.write
  rw[if_neg hdn,if_neg (by omega),if_neg (by omega)]
  exact if_pos Xy
 refine Rq<|Xm Y<|Xc Y<|Xf jV Y<|OW ty4 H6 0 Y Y Y Y (by first|exact NL Y|simp[zH]) Y<|fun w7 H7=>Xr e46<|Rq<|Xa Y<|Xr e46<|J5<|Ak Y Y ?_
 rw[hw]
 first | exact⟨rfl,g3,cap3,sp3,hO.hit.fall true,H7⟩ | exact⟨rfl,g3,cap3,sp3,hO.hit,H7⟩
 have hw:D.write (n:Int) b=((D.put n b).hit.1,0):=by
  unfold Dk.write
  rw[if_neg hdn,if_neg (by omega),if_neg (by omega)]
  exact if_neg (fun hh=>by have h2:(D.put n b).hit.2=true:=hh;rw[Xy]at h2;cases h2)
 refine J6<|Rq<|Xa Y<|Xr e46<|J5<|Ak Y Y ?_
 rw[hw]
 first | exact⟨rfl,g3,cap3,sp3,hO.hit.fall true,H6⟩ | exact⟨rfl,g3,cap3,sp3,hO.hit,H6⟩
end Go.Proofs.YtjoeklkmnfaabaaGreat
namespace Go.Proofs.YtjoeklkmnfaabaaGreat
set_option maxRecDepth 100000
set_option maxHeartbeats 4000000
open Go Go.RowKit
set_option linter.unusedVariables false
attribute [local irreducible] yT Ops zP Cd
theorem JR (gd gk:Nat) (gw:Option Nat) (cw:Nat) (sp:List Value) (D:Dk) (w0:World) (H0:Hp w0 w0 (bl (xC gd gk gw cw sp D)) (xC gd gk gw cw sp D)) (hD:Hw D gw cw sp):zP Tryz.prog 19 #[.pointer (some ⟨gd,0,none⟩)] w0 (fun r w'=>r=.int .i64 0∧JC w0 w' (bl (xC gd gk gw cw sp D)) gd gk D.start):=by
 refine zE Tryz.func19 Tryz.ntmps19 Y<|cR e18 ?_
 have H:=H0
 obtain⟨hpos,Dh,Gv,hw64,Gq,hcap,hnil,harm⟩:=hD
 have hD:Hw D gw cw sp:=⟨hpos,Dh,Gv,hw64,Gq,hcap,hnil,harm⟩
 refine Rq<|Xa Y<|Xr e18<|J1<|Rq<|Xm Y<|Dy (yE Tryz.underlying27 Y) (by simp)<|Xr e18<|J4 Y<|J6<|J1<|Rq<|Xm Y<|Xc Y<|Xf jV Y<|OV (EL ty4 Y (H.cell (i:=0) Y Y))<|Xr e18<|wU Y (fun hb8=>?_) (fun hb8=>?_)
 refine Rq<|Xm Y<|Xc Y<|Xf oM Y<|OW bP H 0 Y Y Y Y (by first|exact NL Y|simp[zH]) Y<|fun w1 H1=>Xr e18<|Rq<|Xm Y<|Xc Y<|Xf cW Y<|OW ty3 H1 0 Y Y Y Y (by first|exact NL Y|simp[zH]) Y<|fun w2 H2=>Xr e18<|J2<|Xm Y<|Xc Y<|Xf jV Y<|OW ty4 H2 0 Y Y Y Y (by first|exact NL Y|simp[zH]) Y<|fun w3 H3=>Xr e18<|Rq<|Xa Y<|Xr e18<|J5<|Ak Y Y ?_
 have hs:D.start={ D with wait:=[],armed:=0,down:=false }:=if_pos hb8
 rw[hs]
 exact⟨Y,none,0,[],⟨hpos,Dh,Gv,fun p hp=>(by cases hp),Nat.le_refl _,by simp,fun _=>Y,by show 0 < 2^63;omega⟩,(H3.pick [0,1] (by decide)).nil 93⟩
 refine J6<|Rq<|Xa Y<|Xr e18<|J5<|Ak Y Y ?_
 have hs:D.start=D:=if_neg (by rw[hb8];decide)
 rw[hs]
 exact⟨Y,gw,cw,sp,hD,H⟩
theorem cN (D:Dk):D.hit.1.wait=D.wait:=by unfold Dk.hit;split <;>rfl
theorem DT (D:Dk):D.hit.1.kept=D.kept:=by unfold Dk.hit;split <;>rfl
theorem OK {α:Type} {l m:List α} {n:Nat} {u:α} (h:l[n]? =some u):(l++m)[n]? =some u:=by
 rw[List.getElem?_append_left (List.getElem?_eq_some_iff.1 h).1];exact h
theorem dN (gd gk:Nat) (gw:Option Nat) (cw:Nat) (sp:List Value) (D:Dk) (w0:World) (H0:Hp w0 w0 (bl (xC gd gk gw cw sp D)) (xC gd gk gw cw sp D)) (hD:Hw D gw cw sp) (hm:D.wait.length≤2932000000000):zP Tryz.prog 81 #[.pointer (some ⟨gd,0,none⟩)] w0 (fun r w'=>r=.int .i64 ((D.sync).2:Int)∧JC w0 w' (bl (xC gd gk gw cw sp D)) gd gk (D.sync).1):=by
 refine zE Tryz.func81 Tryz.ntmps81 Y<|cR e38 ?_
 have H:=H0
 obtain⟨hpos,Dh,Gv,hw64,Gq,hcap,hnil,harm⟩:=hD
 have hD:Hw D gw cw sp:=⟨hpos,Dh,Gv,hw64,Gq,hcap,hnil,harm⟩
 refine Rq<|Xa Y<|Xr e38<|J1<|Rq<|Xm Y<|OC (EC VX Y) (gX gd gk gw cw sp D _ H.here hD)<|fun w1 Hd=>?_
 have H1:=(H.Am [0,1,2] rfl Hd).pick [3,4,5] (by decide)
 refine Xa Y<|Xr e38<|Rq<|Xm Y<|OT (yS Y Y) (fun hp9=>?_) (fun hp9=>?_)
 have hdn:D.down=true:=by
  by_cases h:D.down=true
  · exact h
  · rw[if_neg h]at hp9;omega
 refine Xr e38<|J3 Y<|Rq<|Xm Y<|Xa Y<|Xr e38<|J5<|Ak Y Y ?_
 have hs:D.sync=(D,40):=if_pos hdn
 rw[hs,if_pos hdn]
 exact⟨Y,gw,cw,sp,hD,H1⟩
 have hdn:¬D.down=true:=fun h=>by rw[if_pos h]at hp9;omega
 refine Xr e38<|J4 Y<|J6<|J1<|Rq<|Xm Y<|OC (EC UA Y) (IA gd gk gw cw sp D _ H1.here hD)<|fun w2 Hd=>?_
 have H2:=(H1.Am [0,1,2] rfl Hd).pick [3,4,5] (by decide)
 have hE:=hD.hit
 have hew:=congrArg List.length (cN D)
 generalize hEE:D.hit=EE at*
 obtain⟨E,hb⟩:=EE
 dsimp only at*
 refine Xr e38<|wU Y (fun YB=>?_) (fun YB=>?_)
 have hs:D.sync=({ E with down:=true },40):=by
  unfold Dk.sync
  rw[if_neg hdn,hEE]
  exact if_pos YB
 refine Rq<|Xm Y<|Xc Y<|Xf jV Y<|OW ty4 H2 0 Y Y Y Y (by first|exact NL Y|simp[zH]) Y<|fun w3 H3=>Xr e38<|Rq<|Xa Y<|Xr e38<|J5<|Ak Y Y ?_
 rw[hs]
 exact⟨Y,gw,cw,sp,hE.fall true,H3⟩
 have hs:D.sync=({ E with kept:=flush E.kept E.wait,wait:=[] },0):=by
  unfold Dk.sync
  rw[if_neg hdn,hEE]
  exact if_neg (by rw[YB];exact Bool.false_ne_true)
 obtain⟨epos,emost,Zp,Vw,ewcap,ecap,enil,earm⟩:=hE
 refine J6<|J1<|Rq<|Xm rfl<|Xc rfl<|Xf oM rfl<|OV (EL bP rfl (H2.cell (i:=0) rfl rfl))<|Aa e38<|OV (ES Tryz.underlying87 rfl)<|Xm rfl<|Xr e38<|J7<|zU (fun nQ lQ w=>∃ (q:Nat) (y:Int) (ks:List Blk),E.wait.length - q=nQ∧xN (Dj [(0,.pointer (some ⟨gd,0,none⟩)),(19,.slice (hd gw) E.wait.length cw),(20,.int .i64 E.wait.length),(21,.int .i64 y)] 0 38) lQ∧y=q∧q≤E.wait.length∧ks=flush E.kept (E.wait.take q)∧Hp w0 w (bl (xC gd gk gw cw sp D)) (xC gd gk gw cw sp { E with kept:=ks })) (E.wait.length) ?_ ?_
 exact⟨0,_,_,Y,(Dv Y Y Y Y Y),Y,Nat.zero_le _,Y,H2⟩
 rintro nQ lQ w3 ⟨q,y,ks,rfl,hfit,rfl,hq,hks,H3⟩
 obtain⟨j,rfl⟩:=hfit.open
 refine cR e38 ?_
 clear hfit
 have hkl:ks.length=E.kept.length:=by rw[hks,Cm]
 have hk6:∀ b∈ks,b.length=64:=by rw[hks];exact cV Zp (fun p hp=>Vw p (List.mem_of_mem_take hp))
 refine Rq<|OT (zQ Y Y) (fun Jm=>?_) (fun Jm=>?_)
 have Cb:q < E.wait.length:=by omega
 have hwq:=Vw E.wait[q] (List.getElem_mem Cb)
 obtain⟨g7,rfl⟩:∃ x,gw=some x:=by
  cases gw with
  | none=>have:=enil rfl;omega
  | some x=>exact⟨x,rfl⟩
 have hcl:(sV E.wait[q]).length=65:=rL hwq.1
 refine Xr e38<|J1<|J3 Y<|J6<|J1<|J7<|Rq<|OV (EI Tryz.underlying87 gS Y Y Y Cb Y) ?_
 rw[fW]
 refine OV (EN gS Y (vs:=sV E.wait[q]) hcl (sD H3 (i:=2) Y (fun j u hu=>OK (AT Vw Cb j u hu))))<|OA gS H3<|fun w4 g4 H4 hg4=>OS gS H4 3 Y Y Y (by simp[Value.cells]) hcl (by rw[hcl];decide) (jJ _ _)<|fun w5 H5=>?_
 change Hp _ _ _ [_,_,_,_]at H5
 rw[qC (by rw[hcl];rfl)]at H5
 refine Xr e38<|zR 9 [(true,0),(true,1),(true,2),(true,3),(true,4),(true,5),(true,6),(true,7),(true,8),(false,9)] H5 [0,3] yG (by decide) (by kernel_rfl) ?_
 rintro w6 hw6
 have H6:=Hp.drew H5;rw[← hw6]at H6
 refine Zm Y Y<|Zc Y Y<|Zf Y jW Y<|MP Y<|MV (fun wz hz=>EL E9 Y (hz.cell (i:=0) Y Y))<|cZ e38<|Zf Y BW Y<|MP Y<|MV (fun wz hz=>EL ty3 Y ((hz.cell (i:=1) Y (show(sV E.wait[q])[0]? =_ from Y))))<|Zf Y BV Y<|MP Y<|MV (fun wz hz=>EN gT Y (vs:=u8s E.wait[q].2) (by rw[zY];exact hwq.1) (sD hz (i:=1) (o:=1) Y (fun j u hu=>by rw[Nat.add_comm];exact hu)))<|cZ e38<|MP Y<|MV (fun wz hz=>EI Tryz.underlying86 gT Y Y Y (show E.wait[q].1 < ks.length by omega) Y)<|MO Y ?_
 rw[fW]
 refine OS gT H6 1 (vs:=u8s E.wait[q].2) Y Y Y Y (by rw[zY];exact hwq.1) (show _≤(kc ks++E.ksp).length by rw[List.length_append,kN hk6,zY,hwq.1];omega) (uK _)<|fun w7 H7=>?_
 change Hp _ _ _ [_,_,_,_]at H7
 rw[SE hk6 (by omega) hwq.1]at H7
 refine OE ?_
 refine⟨fun hne=>absurd Y hne,?_⟩
 refine cZ e38<|ME<|cR e38<|zA (zB ?_)
 refine J2<|OV (zL Y Y (IntWalk.i64_in _ (by omega)))<|Xm Y<|Xr e38<|zA (zI ?_)
 have X7:ks.set E.wait[q].1 E.wait[q].2=flush E.kept (E.wait.take (q+1)):=by rw[cS Cb,hks]
 refine⟨E.wait.length - (q+1),by omega,q+1,_,ks.set E.wait[q].1 E.wait[q].2,Y,(Dv Y Y Y Y Y),Y,by omega,X7,?_⟩
 have HF:=H7.pick [0,1,2] (by decide)
 simp only[xC,List.length_set]
 exact HF
 have hqe:q=E.wait.length:=by omega
 rw[hqe,List.take_length]at hks
 refine Xr e38<|J1<|J4 Y<|J8<|zT<|zS<|Rq<|Xm Y<|Xc Y<|Xf oM Y<|OW bP H3 0 Y Y Y Y (by first|exact NL Y|simp[zH]) Y<|fun w4 H4=>Xr e38<|Rq<|Xa Y<|Xr e38<|J5<|Ak Y Y ?_
 have hkl:ks.length=E.kept.length:=by rw[hks,Cm]
 have hk6:∀ b∈ks,b.length=64:=by rw[hks];exact cV Zp Vw
 rw[hs]
 subst hks
 exact⟨Y,none,0,[],⟨by show 0 < (flush _ _).length;omega,by show(flush _ _).length≤_;omega,hk6,fun p hp=>(by cases hp),Nat.le_refl _,by simp,fun _=>Y,earm⟩,(H4.pick [0,1] (by decide)).nil 93⟩
end Go.Proofs.YtjoeklkmnfaabaaGreat
namespace Go.Proofs.YtjoeklkmnfaabaaGreat
set_option maxRecDepth 100000
set_option maxHeartbeats 4000000
open Go Go.RowKit
set_option linter.unusedVariables false
attribute [local irreducible] yT Ops zP Cd
theorem MH (gd gk:Nat) (gw:Option Nat) (cw:Nat) (sp:List Value) (D:Dk) (w0:World) (H0:Hp w0 w0 (bl (xC gd gk gw cw sp D)) (xC gd gk gw cw sp D)) (hD:Hw D gw cw sp) (a:Int) (hm:D.wait.length≤2932000000000):zP Tryz.prog 56 #[.pointer (some ⟨gd,0,none⟩),.int .i64 a] w0 (fun r w'=>∃ g cap s,r=.tuple #[.slice (hd g) (D.read a).1.length cap,.int .i64 ((D.read a).2:Int)]∧(D.read a).1.length≤cap∧cap*1≤(u8s (D.read a).1++s).length∧(g=none→cap=0)∧Hp w0 w' (bl (xC gd gk gw cw sp D)) (xC gd gk gw cw sp D++[(g,5,u8s (D.read a).1++s)])):=by
 refine zE Tryz.func56 Tryz.ntmps56 Y<|cR e62 ?_
 have H:=H0
 obtain⟨hpos,Dh,Gv,hw64,Gq,hcap,hnil,harm⟩:=hD
 have hD:Hw D gw cw sp:=⟨hpos,Dh,Gv,hw64,Gq,hcap,hnil,harm⟩
 refine Rq<|Xa Y<|Xa Y<|Xr e62<|J1<|Rq<|Xm Y<|OC (EC VX Y) (gX gd gk gw cw sp D _ H.here hD)<|fun w1 Hd=>?_
 have H1:=(H.Am [0,1,2] rfl Hd).pick [3,4,5] (by decide)
 refine Xa Y<|Xr e62<|Rq<|Xm Y<|OT (yS Y Y) (fun Ib=>?_) (fun Ib=>?_)
 have hdn:D.down=true:=by
  by_cases h:D.down=true
  · exact h
  · rw[if_neg h]at Ib;omega
 refine Xr e62<|J3 Y<|Rq<|Xm Y<|Xa Y<|Xa Y<|Xr e62<|J5<|Ea Y Y Y ?_
 have hs:D.read a=([],40):=if_pos hdn
 rw[hs,if_pos hdn]
 exact⟨none,0,[],Y,Nat.le_refl _,by simp,fun _=>Y,H1.nil 5⟩
 have hdn:¬D.down=true:=fun h=>by rw[if_pos h]at Ib;omega
 refine Xr e62<|J4 Y<|J6<|J1<|Rq<|Xm Y<|OT (zQ Y Y) (fun Gj=>?_) (fun Gj=>?_)
 refine Xm Y<|Aa e62<|Oz 7 Y<|Aa e62<|Xt Y Y<|Xr e62<|J3 Y<|Rq<|Xa Y<|Xa Y<|Xr e62<|J5<|Ea Y Y Y ?_
 have hs:D.read a=([],41):=by unfold Dk.read;rw[if_neg hdn,if_pos (by omega)]
 rw[hs]
 exact⟨none,0,[],Y,Nat.le_refl _,by simp,fun _=>Y,H1.nil 5⟩
 obtain⟨nb,rfl⟩:=Int.eq_ofNat_of_zero_le (show 0≤a by omega)
 refine Xm Y<|Aa e62<|OY Y<|Xm Y<|OY Y<|Xm Y<|Aa e62<|OY Y<|Xc Y<|OY Y<|Xf jW Y<|Aa e62<|OY Y<|OV (EL E9 Y (H1.cell (i:=0) Y Y))<|OY Y<|OV (ES Tryz.underlying86 Y)<|Aa e62<|OY Y<|OT (wL Y Y) (fun hp23=>?_) (fun hp23=>?_)
 refine Xu Y Y<|Xr e62<|J3 Y<|Rq<|Xa Y<|Xa Y<|Xr e62<|J5<|Ea Y Y Y ?_
 have hs:D.read (nb:Int)=([],41):=by unfold Dk.read;rw[if_neg hdn,if_pos (by omega)]
 rw[hs]
 exact⟨none,0,[],Y,Nat.le_refl _,by simp,fun _=>Y,H1.nil 5⟩
 have hn:nb < D.kept.length:=by omega
 have hv64:D.kept[nb].length=64:=Gv _ (List.getElem_mem hn)
 refine Xu Y Y<|Xr e62<|J4 Y<|J6<|Rq<|Xm Y<|Xc Y<|Xf jW Y<|OV (EL E9 Y (H1.cell (i:=0) Y Y))<|Aa e62<|Xm Y<|OV (EI Tryz.underlying86 gT Y Y Y hn Y) ?_
 rw[fW]
 refine OV (EN gT Y (vs:=u8s D.kept[nb]) (by rw[zY];exact hv64) (sD H1 (i:=1) Y (fun j u hu=>OK (VG Gv hn j u hu))))<|OA gT H1<|fun w2 g7 H2 hg7=>Aa e62<|OS gT H2 3 (vs:=u8s D.kept[nb]) Y Y Y Y (by rw[zY];exact hv64) (by rw[zY,hv64];exact Nat.le_refl _) (uK _)<|fun w3 H3=>?_
 change Hp _ _ _ [_,_,_,_]at H3
 rw[qC (by rw[zY,hv64];rfl)]at H3
 refine Xr e62<|J1<|Rq<|Xm Y<|Xc Y<|Xf oM Y<|OV (EL bP Y (H3.cell (i:=0) Y Y))<|Aa e62<|OV (ES Tryz.underlying87 Y)<|OV (uW Y Y (IntWalk.i64_in _ (by omega)))<|Xa Y<|Xr e62<|J7<|zU (fun nQ lQ w=>∃ (r:Nat) (y:Int),r=nQ∧xN (Dj [(0,.pointer (some ⟨gd,0,none⟩)),(1,.int .i64 (nb:Int)),(7,.pointer (some ⟨g7,0,none⟩)),(8,.int .i64 y)] 0 62) lQ∧y=(r:Int) - 1∧r≤D.wait.length∧(∀ p∈D.wait.drop r,p.1≠nb)∧Hp w0 w (bl (xC gd gk gw cw sp D)) [(some gd,89,PL gk gw D.kept.length D.Yx D.wait.length cw D.down D.armed),(some gk,91,kc D.kept++D.ksp),(gw,93,wc D.wait++sp),(some g7,91,u8s (D.kept[nb]))]) (D.wait.length) ?_ ?_
 exact⟨D.wait.length,_,Y,(Dv Y Y Y Y Y),Y,Nat.le_refl _,(fun p hp=>by rw[List.drop_length]at hp;cases hp),H3⟩
 rintro nQ lQ w4 ⟨r,y,rfl,hfit,rfl,hr,hno,H4⟩
 obtain⟨j,rfl⟩:=hfit.open
 refine cR e62 ?_
 clear hfit
 refine J1<|Rq<|Xm Y<|OT (wL Y Y) (fun Hr=>?_) (fun Hr=>?_)
 have Cb:r - 1 < D.wait.length:=by omega
 have hwq:=hw64 D.wait[r - 1] (List.getElem_mem Cb)
 obtain⟨g8,rfl⟩:∃ x,gw=some x:=by
  cases gw with
  | none=>have:=hnil rfl;omega
  | some x=>exact⟨x,rfl⟩
 refine Xr e62<|J3 Y<|J6<|J1<|J7<|Rq<|Xm Y<|Xc Y<|Xf oM Y<|OV (EL bP Y (H4.cell (i:=0) Y Y))<|Aa e62<|Xm Y<|OV (EI Tryz.underlying87 gS (i:=r - 1) Y Y (by omega) Cb Y) ?_
 rw[fW]
 refine Xf BW Y<|OV (EL ty3 Y (H4.cell (i:=2) Y (OK (AT hw64 Cb 0 _ Y))))<|Aa e62<|Xm Y<|OT (xP Y Y) (fun XL=>?_) (fun XL=>?_)
 have Nj:D.show nb=D.wait[r - 1].2:=by
  unfold Dk.show
  rw[List.getD_eq_getElem?_getD,cU Cb hn (by omega) (by rw[show r - 1+1=r by omega];exact hno)]
  rfl
 refine Xr e62<|J3 Y<|Rq<|Xm Y<|Xc Y<|Xf oM Y<|OV (EL bP Y (H4.cell (i:=0) Y Y))<|Aa e62<|Xm Y<|OV (EI Tryz.underlying87 gS (i:=r - 1) Y Y (by omega) Cb Y) ?_
 rw[fW]
 refine Xf BV Y<|OV (EN gT Y (vs:=u8s D.wait[r - 1].2) (by rw[zY];exact hwq.1) (sD H4 (i:=2) (o:=(r - 1)*65+1) Y (fun j u hu=>by rw[Nat.add_assoc];exact OK (AT hw64 Cb (1+j) u (by rw[Nat.add_comm];exact hu)))))<|Aa e62<|OS gT H4 3 (vs:=u8s D.wait[r - 1].2) Y Y Y Y (by rw[zY];exact hwq.1) (by rw[zY,zY,hwq.1,hv64];exact Nat.le_refl _) (uK _)<|fun w5 H5=>?_
 change Hp _ _ _ [_,_,_,_]at H5
 rw[qC (by rw[zY,zY,hwq.1,hv64])]at H5
 refine Xr e62<|J8<|K8 Y<|zT<|zS<|Rq<|OV (AI Tryz.underlying91 ty5 Y (by decide)) ?_
 have hk:=vI (some ⟨g7,0,none⟩) (D.wait[r - 1].2) 64 w5 (H5.rd (i:=3) (o:=some g7) (xs:=u8s (D.wait[r - 1].2)) (sp:=[]) (by rw[List.append_nil];rfl) (yV _) (by decide)) (by rw[hwq.1];decide)
 rw[← Nj]at hk
 have h64:(D.show nb).length=64:=by rw[Nj];exact hwq.1
 rw[h64]at hk
 refine yW (EC kZ Y) hk<|fun w6 g9 c9 s9 hm9 hc9 WQ Hd=>?_
 have H6:=(H5.call0 Hd).pick [0,1,2,4] (by decide)
 refine Xa Y<|Xa Y<|Xr e62<|J5<|Ea Y Y Y ?_
 have hs:D.read (nb:Int)=(D.show nb,0):=by unfold Dk.read;rw[if_neg hdn,if_neg (by omega)];rfl
 rw[hs]
 exact⟨g9,c9,s9,Y,hm9,hc9,WQ,H6⟩
 refine Xr e62<|J4 Y<|J6<|zA (zB ?_)
 refine J2<|Xm Y<|OV (uW Y Y (IntWalk.i64_in _ (by omega)))<|Xa Y<|Xr e62<|zA (zI ?_)
 refine⟨r - 1,by omega,r - 1,_,Y,(Dv Y Y Y Y Y),by omega,by omega,?_,H4⟩
 intro p hp
 rw[List.drop_eq_getElem_cons Cb,show r - 1+1=r by omega]at hp
 rcases List.mem_cons.1 hp with h | h
 rw[h];omega
 exact hno p h
 have hr0:r=0:=by omega
 subst hr0
 have Nj:D.show nb=D.kept[nb]:=by
  unfold Dk.show
  rw[List.getD_eq_getElem?_getD,nZ (by simpa using hno),List.getElem?_eq_getElem hn]
  rfl
 refine Xr e62<|J4 Y<|J8<|zT<|zS<|Rq<|OV (AI Tryz.underlying91 ty5 Y (by decide)) ?_
 have hk:=vI (some ⟨g7,0,none⟩) (D.kept[nb]) 64 w4 (H4.rd (i:=3) (o:=some g7) (xs:=u8s (D.kept[nb])) (sp:=[]) (by rw[List.append_nil];rfl) (yV _) (by decide)) (by rw[hv64];decide)
 rw[← Nj]at hk
 have h64:(D.show nb).length=64:=by rw[Nj];exact hv64
 rw[h64]at hk
 refine yW (EC kZ Y) hk<|fun w5 g9 c9 s9 hm9 hc9 WQ Hd=>?_
 have H5:=(H4.call0 Hd).pick [0,1,2,4] (by decide)
 refine Xa Y<|Xa Y<|Xr e62<|J5<|Ea Y Y Y ?_
 have hs:D.read (nb:Int)=(D.show nb,0):=by unfold Dk.read;rw[if_neg hdn,if_neg (by omega)];rfl
 rw[hs]
 exact⟨g9,c9,s9,Y,hm9,hc9,WQ,H5⟩
theorem K0 (gd gk:Nat) (gw:Option Nat) (cw:Nat) (sp:List Value) (D:Dk) (w0:World) (H0:Hp w0 w0 (bl (xC gd gk gw cw sp D)) (xC gd gk gw cw sp D)) (hD:Hw D gw cw sp) (B:Option Addr) (keep:List Int) (c:Nat) (hr:Rd w0 B keep.length 1 (VN keep)) (hsep:0 < keep.length→∀ p,B=some p→p.block∉bl (xC gd gk gw cw sp D)) (hm:D.wait.length≤2932000000000):zP Tryz.prog 9 #[.pointer (some ⟨gd,0,none⟩),.slice B keep.length c] w0 (fun r w'=>r=.int .i64 0∧JC w0 w' (bl (xC gd gk gw cw sp D)) gd gk (D.crash keep)):=by
 refine zE Tryz.func9 Tryz.ntmps9 Y<|cR e50 ?_
 have H:=H0
 obtain⟨hpos,Dh,Gv,hw64,Gq,hcap,hnil,harm⟩:=hD
 have hD:Hw D gw cw sp:=⟨hpos,Dh,Gv,hw64,Gq,hcap,hnil,harm⟩
 refine Rq<|Xa rfl<|Xr e50<|J1<|Rq<|Xm rfl<|Dy (yE Tryz.underlying27 rfl) (by simp)<|Xr e50<|J4 rfl<|J6<|J1<|Rq<|Xm rfl<|Xc rfl<|Xf oM rfl<|OV (EL bP rfl (H.cell (i:=0) rfl rfl))<|Aa e50<|OV (ES Tryz.underlying87 rfl)<|Xm rfl<|Xr e50<|J7<|zU (fun nQ lQ w=>∃ (q:Nat) (y:Int) (ks:List Blk),D.wait.length - q=nQ∧xN (Dj [(0,.pointer (some ⟨gd,0,none⟩)),(1,.slice B keep.length c),(13,.slice (hd gw) D.wait.length cw),(14,.int .i64 D.wait.length),(15,.int .i64 y)] 0 50) lQ∧y=q∧q≤D.wait.length∧ks=tears D.kept D.wait keep q∧Hp w0 w (bl (xC gd gk gw cw sp D)) (xC gd gk gw cw sp { D with kept:=ks })) (D.wait.length) ?_ ?_
 exact⟨0,_,_,Y,(Ez Y Y Y Y Y Y),Y,Nat.zero_le _,Y,H⟩
 rintro nQ lQ w1 ⟨q,y,ks,rfl,hfit,rfl,hq,hks,H1⟩
 obtain⟨j,rfl⟩:=hfit.open
 refine cR e50 ?_
 clear hfit
 have hkl:ks.length=D.kept.length:=by rw[hks,nK]
 have hk6:∀ b∈ks,b.length=64:=by rw[hks];exact CR Gv hw64 _
 refine Rq<|OT (zQ Y Y) (fun hp16=>?_) (fun hp16=>?_)
 have Cb:q < D.wait.length:=by omega
 have hwq:=hw64 D.wait[q] (List.getElem_mem Cb)
 obtain⟨g7,rfl⟩:∃ x,gw=some x:=by
  cases gw with
  | none=>have:=hnil rfl;omega
  | some x=>exact⟨x,rfl⟩
 have hcl:(sV D.wait[q]).length=65:=rL hwq.1
 have hcle:=AK keep q
 refine Xr e50<|J1<|J3 Y<|J6<|J1<|J7<|Rq<|Xm Y<|OV (EI Tryz.underlying87 gS Y Y Y Cb Y) ?_
 rw[fW]
 refine OV (EN gS Y (vs:=sV D.wait[q]) hcl (sD H1 (i:=2) Y (fun j u hu=>OK (AT hw64 Cb j u hu))))<|OA gS H1<|fun w2 g2 H2 hg2=>Aa e50<|Xa Y<|OS gS H2 3 Y Y Y (by simp[Value.cells]) hcl (by rw[hcl];decide) (jJ _ _)<|fun w3 H3=>?_
 change Hp _ _ _ [_,_,_,_]at H3
 rw[qC (by rw[hcl];rfl)]at H3
 refine Xr e50<|Rq<|Xa Y<|Xr e50<|J1<|Rq<|Xm Y<|Xm Y<|OV (ES Tryz.underlying50 Y)<|OT (zQ Y Y) (fun hp23=>?_) (fun hp23=>?_)
 have hqk:q < keep.length:=by omega
 obtain⟨kb,rfl⟩:=hr.some_ (by omega)
 have hck:min (max keep[q] 0) 64=((Dx keep q:Nat):Int):=by unfold Dx;rw[List.getD_eq_getElem?_getD,List.getElem?_eq_getElem hqk,Option.getD_some];omega
 refine Xr e50<|J3 Y<|J2<|Xm Y<|Xm Y<|OV (EI Tryz.underlying50 ty3 Y Y Y hqk (Nat.mul_one _))<|OV (EL ty3 Y ((hr.to H3 (hsep (by omega))).cells kb Y q _ (NZ hqk)))<|Aa e50<|OV (PE Y Y)<|OV (PD Y Y) ?_
 rw[hck]
 refine Xa Y<|Xr e50<|zR 12 [(true,0),(true,1),(true,2),(true,3),(true,4),(true,5),(true,6),(true,7),(true,8),(true,9),(true,10),(true,11),(false,12)] H3 [0,3] yG (by decide) (by kernel_rfl) ?_
 rintro w4 hw4
 have H4:=Hp.drew H3;rw[← hw4]at H4
 refine Zm Y Y<|Zc Y Y<|Zf Y jW Y<|MP Y<|MV (fun wz hz=>EL E9 Y (hz.cell (i:=0) Y Y))<|cZ e50<|Zf Y BW Y<|MP Y<|MV (fun wz hz=>EL ty3 Y ((hz.cell (i:=1) Y (show(sV D.wait[q])[0]? =_ from Y))))<|MP Y<|MV (fun wz hz=>EI Tryz.underlying86 gT Y Y Y (show D.wait[q].1 < ks.length by omega) Y) ?_
 rw[fW]
 refine Zm Y Y<|cZ e50<|MP Y<|MV (fun wz hz=>fT Tryz.underlying91 ty5 Y Y (by omega) (by decide))<|Zf Y BV Y<|Zm Y Y ?_
 have m1:=()
 rotate_left 1
 have hck:(0:Int)=((Dx keep q:Nat):Int):=by unfold Dx;rw[List.getD_eq_getElem?_getD,List.getElem?_eq_none (by omega)];rfl
 refine Xr e50<|J4 Y<|J6<|zR 12 [(true,0),(true,1),(true,2),(true,3),(true,4),(true,5),(true,6),(true,7),(true,8),(true,9),(true,10),(true,11),(false,12)] H3 [0,3] yG (by decide) (by kernel_rfl) ?_
 rintro w4 hw4
 have H4:=Hp.drew H3;rw[← hw4]at H4
 refine Zm Y Y<|Zc Y Y<|Zf Y jW Y<|MP Y<|MV (fun wz hz=>EL E9 Y (hz.cell (i:=0) Y Y))<|cZ e50<|Zf Y BW Y<|MP Y<|MV (fun wz hz=>EL ty3 Y ((hz.cell (i:=1) Y (show(sV D.wait[q])[0]? =_ from Y))))<|MP Y<|MV (fun wz hz=>EI Tryz.underlying86 gT Y Y Y (show D.wait[q].1 < ks.length by omega) Y) ?_
 rw[fW]
 refine MP Y<|MV (v:=.int .i64 ((Dx keep q:Nat):Int)) (fun wz hz=>zK (by rw[← hck];rfl))<|cZ e50<|MP Y<|MV (fun wz hz=>fT Tryz.underlying91 ty5 Y Y (by omega) (by decide))<|Zf Y BV Y<|MP Y<|MV (v:=.int .i64 ((Dx keep q:Nat):Int)) (fun wz hz=>zK (by rw[← hck];rfl)) ?_
 have m1:=()
 rotate_left 1
 have hqe:q=D.wait.length:=by omega
 rw[hqe]at hks
 refine Xr e50<|J1<|J4 Y<|J8<|zT<|zS<|Rq<|Xm Y<|Xc Y<|Xf oM Y<|OW bP H1 0 Y Y Y Y (by first|exact NL Y|simp[zH]) Y<|fun w2 H2=>Xr e50<|Rq<|Xm Y<|Xc Y<|Xf jV Y<|OW ty4 H2 0 Y Y Y Y (by first|exact NL Y|simp[zH]) Y<|fun w3 H3=>Xr e50<|Rq<|Xa Y<|Xr e50<|J5<|Ak Y Y ?_
 have hkl:ks.length=D.kept.length:=by rw[hks,nK]
 have hk6:∀ b∈ks,b.length=64:=by rw[hks];exact CR Gv hw64 _
 subst hks
 exact⟨Y,none,0,[],⟨by show 0 < (tears _ _ _ _).length;omega,by show(tears _ _ _ _).length≤_;omega,hk6,fun p hp=>(by cases hp),Nat.le_refl _,by simp,fun _=>Y,harm⟩,(H3.pick [0,1] (by decide)).nil 93⟩
 any_goals
  clear m1
  refine MP Y<|MV (fun wz hz=>fT Tryz.underlying91 ty5 Y Y (by omega) (by decide))<|cZ e50<|MO Y ?_
  have ZX:(D.wait[q].2.take (Dx keep q)).length=Dx keep q:=by rw[List.length_take];omega
  refine M7 Tryz.underlying73 ty5 H4 1 (vs:=u8s (D.wait[q].2.take (Dx keep q))) Y Y Y (by rw[zY,ZX];rfl) (sD H4 (i:=3) (o:=1) Y (fun j u hu=>?_)) (show _≤(kc ks++D.ksp).length by rw[List.length_append,kN hk6,Int.toNat_natCast];omega) (uK _) ?_
  rw[dK,List.getElem?_take]at hu
  split at hu
  rw[Nat.add_comm];exact hu
  cases hu
  intro w5 H5
  change Hp _ _ _ [_,_,_,_]at H5
  rw[NW hk6 (by omega) (by omega),ZX]at H5
  refine OE ?_
  refine⟨fun hne=>absurd Y hne,?_⟩
  refine cZ e50<|ME<|cR e50<|zA (zB ?_)
  refine J2<|OV (zL Y Y (IntWalk.i64_in _ (by omega)))<|Xm Y<|Xr e50<|zA (zI ?_)
  have X7:ks.set D.wait[q].1 (D.wait[q].2.take (Dx keep q)++(ks.getD D.wait[q].1 []).drop (Dx keep q))=tears D.kept D.wait keep (q+1):=by simp only[tears];rw[List.getElem?_eq_getElem Cb,hks]
  refine⟨D.wait.length - (q+1),by omega,q+1,_,ks.set D.wait[q].1 (D.wait[q].2.take (Dx keep q)++(ks.getD D.wait[q].1 []).drop (Dx keep q)),Y,(Ez Y Y Y Y Y Y),Y,by omega,X7,?_⟩
  have HF:=H5.pick [0,1,2] (by decide)
  simp only[xC,List.length_set]
  exact HF
end Go.Proofs.YtjoeklkmnfaabaaGreat
namespace Go.Proofs.YtjoeklkmnfaabaaGreat
open Go Go.RowKit
set_option linter.unusedVariables false
set_option linter.unusedSimpArgs false
section plain
variable {P:Program} {ds:List Deferred} {Q:vN} {K:List Value→World→Prop} {all os:List Oper} {l:List Value} {w:World} {ty:TypeId} {pos:String} {af:Array Edge} {d:Tmp} {x y:Operand}
theorem Qk {T:TypeId} {v:Value} (hx:ev l x=some (.iface T v)) (h:Q (.panic [{ v:=.iface T v,recovered:=false }]) l w):Ops P ds all K Q (⟨none,.panic x,ty,pos,af,none⟩::os) l w:=by
 refine wpList_plain Y fun K' hK=>?_
 unfold Oper.wp
 have hr:(Instr.panic (.iface T v)).run P w=.halt (.panic (.iface T v)) w:=rfl
 have:(execOp (rho l) ⟨none,.panic x,ty,pos,af,none⟩).run P w=.halt (.panic (.iface T v)) w:=by
  simp[execOp,zV hx,hr]
 rw[tU,this,Oper.upon_panic]
 exact⟨Y,h⟩
theorem fR {T:TypeId} {u:TypeDesc} {v:Value} (hu:P.underlying T=some u) (hn:∀ ms,u≠ .interface ms) (hx:ev l x=some v):Ex P l (.makeInterface T x) ty w (.value (.iface T v)) w:=fun _ _ _ _=>by
 have hm:(Instr.makeInterface T v).run P w=.ok (.iface T v) w:=by
  simp only[Instr.makeInterface,Sem.run_bind,run_underlying hu,Result.andThen_ok]
  cases u <;>first | exact absurd rfl (hn _) | rfl
 simp[execOp,zV hx,hm]
theorem bT {T xt:TypeId} {u:TypeDesc} {v:Value} (hu:P.underlying T=some u) (hn:∀ ms,u≠ .interface ms) (hx:ev l x=some (.iface T v)):Ex P l (.typeAssert x xt T true) ty w (.value (.tuple [v,.bool true].toArray)) w:=fun _ _ _ _=>by
 have hm:(Instr.typeAssert (.iface T v) xt T true).run P w=.ok (.tuple [v,.bool true].toArray) w:=by
  simp only[Instr.typeAssert,Sem.run_bind,run_underlying hu,Result.andThen_ok]
  cases u <;>first | exact absurd rfl (hn _) | simp
 simp[execOp,zV hx,hm]
theorem lO {t t' T:TypeId} {u:TypeDesc} {v:Value} (ht:P.underlying t=some u) (hi:∃ m,u=.interface m) (hx:ev l x=some (.iface T v)):Ex P l (.binOp .neq t x (.const .nilIface) t') ty w (.value (.bool true)) w:=by
 obtain⟨m,rfl⟩:=hi
 exact fQ (b:=false) hx Y Y Y fun d=>by simp[Op.equalIn,run_underlying ht]
theorem qK {t t':TypeId} {u:TypeDesc} (ht:P.underlying t=some u) (hi:∃ m,u=.interface m) (hx:ev l x=some .nilIface):Ex P l (.binOp .neq t x (.const .nilIface) t') ty w (.value (.bool false)) w:=by
 obtain⟨m,rfl⟩:=hi
 exact fQ (b:=true) hx Y (by simp[eqGuard]) Y fun d=>by simp[Op.equalIn,run_underlying ht]
variable {fn:Func} {R:Value→World→Prop} {RP:rH→World→Prop} {v1 v2 v3:Value} {r1 r2 r3:Tmp}
def Zl (P:Program) (fn:Func) (R:Value→World→Prop) (RP:rH→World→Prop):vN
 | .normal,l,w=>∃ v,(results fn l.toArray).run P w=.ok v w∧R v w
 | .ret,l,w=>∃ v,(results fn l.toArray).run P w=.ok v w∧R v w
 | .panic ch,_,w=>RP ch w
 | _,_,_=>False
theorem gB {f:FuncId} {c:Code} {args:List Value} {n:Nat} (hf:P.funcs[f]? =some fn) (hn:fn.ntmps=n) (hb:fn.body=some c)
 (h:Run P [] [c] (Zl P fn R RP) (args++List.replicate (n - args.length) undef) w):rV P f args.toArray w R RP:=by
 refine calls_of_wp hf hb ?_
 have e:(args.toArray++Array.replicate (fn.ntmps - args.toArray.size) undef)=(args++List.replicate (n - args.length) undef).toArray:=by
  rw[hn];simp
 rw[e]
 refine Go.wp_mono h ?_
 intro e a w' hq
 obtain⟨hd,hq⟩:=hq
 have e2:a.tmps.toList.toArray=a.tmps:=by simp
 cases e with
 | normal=>obtain⟨v,h1,h2⟩:=hq;rw[e2]at h1;exact⟨hd,v,h1,h2⟩
 | ret=>obtain⟨v,h1,h2⟩:=hq;rw[e2]at h1;exact⟨hd,v,h1,h2⟩
 | panic ch=>exact⟨hd,hq⟩
 | exit i=>exact hq.elim
 | goto t=>exact hq.elim
 | outgrown=>exact hq.elim
theorem pC (hr:fn.results=#[]) (h:R (.tuple #[]) w):Zl P fn R RP .normal l w:=yN (P:=P) (R:=R) hr h
end plain
section app
variable {P:Program} {ds:List Deferred} {Q:vN} {K:List Value→World→Prop} {all os:List Oper} {l:List Value} {w0 w:World} {S:List Nat} {es:List Ent} {ty t:TypeId} {pos:String} {af:Array Edge} {d:Tmp} {x y:Operand} {zs:List Value} {agg:Bool}
theorem M8 {e:TypeId} (ht:P.underlying t=some (.slice e)) (he:xT P e zs 1 1 agg) (H:Hp w0 w S es) (i:Nat) {g o cap:Nat} {pre sp:List Value} {L M:List UInt8} (hx:ev l x=some (.slice (some ⟨g,o,none⟩) L.length cap))
 (hi:es[i]? =some (some g,e,pre++(u8s L++sp))) (ho:pre.length=o) (hc:cap≤(u8s L++sp).length) (_:L.length≤cap) {A:Option Addr} {c:Nat} (hy:ev l y=some (.slice A M.length c)) (hr:Rd w A M.length 1 (u8s M)) (hb:L.length+M.length≤211106232532992)
 (k:∀ w' g' o' pre' cap' sp',Hp w0 w' S (es.set i (some g',e,pre'++(u8s (L++M)++sp')))→pre'.length=o'→(L++M).length≤cap'→cap'≤(u8s (L++M)++sp').length→Ops P ds all K Q os (l.set d (.slice (some ⟨g',o',none⟩) (L++M).length cap')) w'):
 Ops P ds all K Q (⟨some d,.call { callee:=.builtin .append,args:=#[x,y],argTypes:=#[t,t] },ty,pos,af,none⟩::os) l w:=by
 obtain⟨inf,z,dd,hinf,hz,hzs,hsz,hby,_,_⟩:=he.ex
 by_cases hroom:L.length+M.length≤cap
 · have hfc:(Builtin.firstCells 1 M.length (.slice A M.length c)).run P w=.ok (u8s M).toArray w:=by
    cases A with
    | none=>
     have h0:=hr.nil rfl
     have hM:M=[]:=List.eq_nil_of_length_eq_zero h0
     subst hM
     exact run_firstCells_none w _ _ _ _
    | some a=>exact run_firstCells_some w 1 M.length a M.length c (u8s M) (by rw[zY,Nat.mul_one]) (hr.cells a rfl)
   have hst:=run_storeCells_at (P:=P) g (o+L.length) e (u8s M) 0 (pre++(u8s L++sp)).toArray w (H.at hi) (by
    simp only[Nat.add_zero,List.size_toArray,List.length_append,zY]at hc ⊢
    omega) (by simpa using uK M)
   simp only[Nat.add_zero]at hst
   have hrun:(Builtin.append_ #[t,t] ty #[.slice (some ⟨g,o,none⟩) L.length cap,.slice A M.length c]).run P w=
    .ok (.slice (some ⟨g,o,none⟩) (L++M).length cap) (w.setRow g (zH (pre++(u8s L++sp)) (o+L.length) (u8s M)).toArray):=by
    simp[Builtin.append_,run_underlying ht,sizeOf,typeInfo,hinf,hsz,Builtin.lenOf,hroom,hfc,Addr.add_lit,hst,zH]
   have hp:zH (pre++(u8s L++sp)) (o+L.length) (u8s M)=pre++(u8s (L++M)++sp.drop M.length):=by
    have e1:(pre++(u8s L++sp)).take (o+L.length)=pre++u8s L:=by
     rw[← List.append_assoc,List.take_left' (by rw[List.length_append,zY,ho])]
    have e2:(pre++(u8s L++sp)).drop (o+L.length+M.length)=sp.drop M.length:=by
     rw[← List.append_assoc,List.drop_append,List.drop_of_length_le (by rw[List.length_append,zY,ho];omega),List.nil_append]
     congr 1
     rw[List.length_append,zY,ho];omega
    rw[zH,zY,e1,e2,vD]
    simp
   refine zD (w':=_) ?_ (k _ g o pre cap (sp.drop M.length) (by rw[← hp];exact H.setRow hi _) ho (by simpa using hroom) ?_)
   · intro _ _ _ _
     simp[execOp,resolve,invoke,builtin,zV hx,zV hy,hrun]
   · simp only[List.length_append,zY,List.length_drop]at hc hroom ⊢
     omega
 · refine cC ht he H hx (xs:=u8s L) ⟨yV L,fun a ha j u hu=>?_,by simp⟩ hy hr (by omega) (by omega) (by omega) (by decide) ?_
   · simp only[Option.some.injEq]at ha
     subst ha
     rw[Addr.add_lit]
     refine H.cell hi ?_
     rw[← ho,List.getElem?_append_right (by omega),Nat.add_sub_cancel_left,List.getElem?_append_left (lt_of_get hu)]
     exact hu
   · intro w' g' cap' sp' H' h1 h2
     rw[← List.length_append]at h2 ⊢
     have hlt:=lt_of_get hi
     have hpick:(((List.range es.length).set i es.length).map fun j=>(es++[(some g',e,(u8s L++u8s M)++sp')]).getD j (none,0,[]))=es.set i (some g',e,(u8s L++u8s M)++sp'):=by
      apply List.ext_getElem?
      intro j
      rw[List.getElem?_map,List.getElem?_set,List.getElem?_set]
      by_cases hij:i=j
      · subst hij
        simp[hlt]
      · simp only[hij,if_false]
        rcases Nat.lt_or_ge j es.length with hj | hj
        · rw[List.getElem?_range hj,Option.map_some,List.getD_eq_getElem?_getD,List.getElem?_append_left hj,List.getElem?_eq_getElem hj]
          rfl
        · rw[List.getElem?_eq_none (by simpa using hj),List.getElem?_eq_none hj]
          rfl
     have H2:=H'.pick ((List.range es.length).set i es.length) (by
      rw[List.nodup_iff_pairwise_ne,List.pairwise_iff_getElem]
      intro a b ha hb hab
      simp only[List.length_set,List.length_range]at ha hb
      rw[List.getElem_set,List.getElem_set]
      split <;>split <;>simp <;>omega)
     rw[hpick]at H2
     refine k w' g' 0 [] cap' sp' (by simpa[vD]using H2) Y h2 (by rw[Nat.mul_one]at h1;simpa[vD]using h1)
end app
def Gg (w:World) (es:List Ent) (xs:List Value) (bs:List Blk):Prop:=
 xs.length=bs.length∧∀ i (h:i < bs.length),∃ (B:Option Addr) (c:Nat),xs[i]? =some (.slice B bs[i].length c)∧Rd w B bs[i].length 1 (u8s bs[i])∧(0 < bs[i].length→∀ p,B=some p→p.block∉bl es)
theorem Rd.empty {w w':World} {B:Option Addr} {n:Nat} {xs:List Value} (h:Rd w B n 1 xs) (h0:n=0):Rd w' B n 1 xs:=by
 subst h0
 have hx:xs=[]:=List.eq_nil_of_length_eq_zero (by simpa using h.len)
 subst hx
 exact⟨Y,by simp,fun _=>Y⟩
theorem Gg.to {w w':World} {es es':List Ent} {xs:List Value} {bs:List Blk} (h:Gg w es xs bs) (H:Hp w w' (bl es) es'):Gg w' es' xs bs:=by
 refine⟨h.1,fun i hi=>?_⟩
 obtain⟨B,c,h1,h2,h3⟩:=h.2 i hi
 by_cases h0:bs[i].length=0
 · exact⟨B,c,h1,h2.empty h0,fun h=>absurd h (by omega)⟩
 · exact⟨B,c,h1,h2.to H (h3 (by omega)),fun hp=>bK h2 (by omega) (h3 (by omega)) H⟩
theorem Gg.keep {w w':World} {S:List Nat} {es es' es2:List Ent} {xs:List Value} {bs:List Blk} (h:Gg w es xs bs) (H:Hp w w' S es2) (hS:∀ b∈S,b∈bl es) (hn:∀ b∈bl es',b∈bl es∨w.heap.size≤b):Gg w' es' xs bs:=by
 refine⟨h.1,fun i hi=>?_⟩
 obtain⟨B,c,h1,h2,h3⟩:=h.2 i hi
 by_cases h0:bs[i].length=0
 · exact⟨B,c,h1,h2.empty h0,fun h=>absurd h (by omega)⟩
 · refine⟨B,c,h1,h2.to H (fun p hp hb=>h3 (by omega) p hp (hS _ hb)),fun _ p hp hb=>?_⟩
   rcases hn _ hb with h4 | h4
   · exact h3 (by omega) p hp h4
   · have h5:0 < (u8s bs[i]).length:=by rw[zY];omega
     have h6:=World.block_lt_of_cell? w _ (h2.cells p hp 0 _ (List.getElem?_eq_getElem h5))
     rw[Addr.add_zero']at h6
     omega
theorem Gg.less {w:World} {es es':List Ent} {xs:List Value} {bs:List Blk} (h:Gg w es xs bs) (hs:∀ b∈bl es',b∈bl es):Gg w es' xs bs:=by
 refine⟨h.1,fun i hi=>?_⟩
 obtain⟨B,c,h1,h2,h3⟩:=h.2 i hi
 exact⟨B,c,h1,h2,fun h0 p hp hb=>h3 h0 p hp (hs _ hb)⟩
theorem Gg.snoc {w:World} {es:List Ent} {xs:List Value} {bs:List Blk} {b:Blk} {B:Option Addr} {c:Nat} (h:Gg w es xs bs) (hr:Rd w B b.length 1 (u8s b)) (ha:0 < b.length→∀ p,B=some p→p.block∉bl es):Gg w es (xs++[.slice B b.length c]) (bs++[b]):=by
 refine⟨by simp[h.1],fun i hi=>?_⟩
 by_cases hin:i < bs.length
 · rw[List.getElem_append_left hin]
   obtain⟨B',c',h1,h2,h3⟩:=h.2 i hin
   exact⟨B',c',by rw[List.getElem?_append_left (by rw[h.1];exact hin)];exact h1,h2,h3⟩
 · have hi2:i=bs.length:=by simp at hi;omega
   subst hi2
   rw[List.getElem_append_right (Nat.le_refl _)]
   simp only[Nat.sub_self,List.getElem_cons_zero]
   exact⟨B,c,by rw[List.getElem?_append_right (by rw[h.1];exact Nat.le_refl _),h.1,Nat.sub_self];rfl,hr,ha⟩
theorem Gg.drop {w:World} {es:List Ent} {xs:List Value} {bs:List Blk} (h:Gg w es xs bs) (n:Nat):Gg w es (xs.drop n) (bs.drop n):=by
 refine⟨by simp[h.1],fun i hi=>?_⟩
 have hi':n+i < bs.length:=by simp at hi;omega
 obtain⟨B,c,h1,h2,h3⟩:=h.2 (n+i) hi'
 rw[List.getElem_drop]
 exact⟨B,c,by rw[List.getElem?_drop];exact h1,h2,h3⟩
theorem Gg.nil (w:World) (es:List Ent):Gg w es [] []:=⟨rfl,fun i hi=>absurd hi (by simp)⟩
theorem Gg.ones {w:World} {es:List Ent} {xs:List Value} {bs:List Blk} (h:Gg w es xs bs):xs.all (·.oneCell')=true:=by
 rw[List.all_eq_true]
 intro v hv
 obtain⟨i,hi⟩:=List.getElem?_of_mem hv
 obtain⟨B,c,h1,_⟩:=h.2 i (by rw[← h.1];exact lt_of_get hi)
 have e:v=_:=(Option.some.inj (h1.symm.trans hi)).symm
 rw[e];rfl
theorem xL {w w':World} {S:List Nat} {es:List Ent} {p:Addr} {u:Value} (h:w.cell? p=some u) (H:Hp w w' S es) (hp:p.block∉S):w'.cell? p=some u:=by
 have hlt:=World.block_lt_of_cell? w _ h
 rw[World.cell?_of_block (w:=w)]
 · exact h
 · exact H.frame _ hlt hp
theorem Hp.two {w:World} {g1 g2:Nat} {T1 T2:TypeId} {c1 c2:List Value} (h1:w.heap[g1]? =some (.cells c1.toArray T1 (0,0))) (h2:w.heap[g2]? =some (.cells c2.toArray T2 (0,0))) (hne:g1≠g2):Hp w w [g1,g2] [(some g1,T1,c1),(some g2,T2,c2)]:=by
 refine⟨Y,Y,Y,Nat.le_refl _,fun _ _ _=>Y,?_,?_⟩
 · intro i e he
   match i,he with
   | 0,he=>simp at he;subst he;exact⟨h1,.inl (by simp)⟩
   | 1,he=>simp at he;subst he;exact⟨h2,.inl (by simp)⟩
   | n+2,he=>simp at he
 · intro i j e f g hi hj hge hgf
   match i,j,hi,hj with
   | 0,0,_,_=>rfl
   | 1,1,_,_=>rfl
   | 0,1,hi,hj=>simp at hi hj;subst hi hj;simp at hge hgf;omega
   | 1,0,hi,hj=>simp at hi hj;subst hi hj;simp at hge hgf;omega
   | n+2,_,hi,_=>simp at hi
   | 0,n+2,_,hj=>simp at hj
   | 1,n+2,_,hj=>simp at hj
theorem eS {w0 w:World} {S:List Nat} {es:List Ent} (H:Hp w0 w S es) {g:Nat} (hlt:g < w0.heap.size) (hg:g∉S):g∉bl es:=by
 intro hb
 obtain⟨e,he,hg2⟩:=List.mem_filterMap.1 hb
 obtain⟨i,hi⟩:=List.getElem?_of_mem he
 obtain⟨g',T,cs⟩:=e
 simp only at hg2
 subst hg2
 rcases H.place hi with h | h
 · exact hg h
 · omega
theorem Hp.Qi {W:World} {D:Nat} {o:Obj} (o':Obj) (_:W.heap[D]? =some o):Hp W (W.putObj D o') [D] []:=
 ⟨rfl,rfl,rfl,by simp,fun k _ hk=>World.putObj_heap_other (fun e=>hk (by simp[e])),by simp,by simp⟩
theorem NG {W:World} {D:Nat} {x:Option (List Deferred)} (h:W.heap[D]? =some (.deferred x)):∀ arr T z,W.heap[D]?≠some (.cells arr T z):=fun arr T z h2=>by rw[h]at h2;cases h2
theorem MI {w:World} {A:Option Addr} {b:Blk} (hr:Rd w A b.length 1 (u8s b)) (h0:0 < b.length) {p:Addr} (hp:A=some p):p.block < w.heap.size:=by
 have h5:0 < (u8s b).length:=by rw[zY];omega
 have h6:=World.block_lt_of_cell? w _ (hr.cells p hp 0 _ (List.getElem?_eq_getElem h5))
 rw[Addr.add_zero']at h6
 exact h6
theorem bI {w:World} {a:Addr} {v:Value} (h:w.cell? a=some v):∃ arr T z,w.heap[a.block]? =some (.cells arr T z):=by
 unfold World.cell? at h
 cases ho:w.heap[a.block]? with
 | none=>simp[ho]at h
 | some o=>cases o <;>simp_all
theorem Gg.loop {w w':World} {es:List Ent} {L:Nat} {xs:List Value} {bs:List Blk} (h:Gg w es xs bs) (H:Hp w w' [L] []) (hL:∀ arr T z,w.heap[L]?≠some (.cells arr T z)):Gg w' es xs bs:=by
 refine⟨h.1,fun i hi=>?_⟩
 obtain⟨B,c,h1,h2,h3⟩:=h.2 i hi
 by_cases h0:bs[i].length=0
 · exact⟨B,c,h1,h2.empty h0,fun h=>absurd h (by omega)⟩
 · refine⟨B,c,h1,h2.to H (fun p hp hb=>?_),h3⟩
   have h5:0 < (u8s bs[i]).length:=by rw[zY];omega
   have h6:=h2.cells p hp 0 _ (List.getElem?_eq_getElem h5)
   rw[Addr.add_zero']at h6
   obtain⟨arr,T,z,h7⟩:=bI h6
   rw[List.mem_singleton.1 hb]at h7
   exact hL _ _ _ h7
theorem oI {P:Program} {fn:Func} {l:List Value} {w:World} {r:Tmp} {ty:TypeId} {zs:List Value} {sz bytes:Nat} {p:Addr} {v:Value} (hr:fn.results=#[.cell r ty]) (ht:xT P ty zs sz bytes false) (hn:nth l r=some (.pointer (some p))) (hc:w.cell? p=some v):(results fn l.toArray).run P w=.ok v w:=by
 have h1:=qU ht hc
 rw[pK]at hn
 simp[results,hr,hn,asAddr,h1]
theorem jB {P:Program} {fn:Func} {l:List Value} {w:World} {r r2:Tmp} {ty ty2:TypeId} {zs zs2:List Value} {sz sz2 bytes YG:Nat} {p p2:Addr} {v v2:Value} (hr:fn.results=#[.cell r ty,.cell r2 ty2]) (ht:xT P ty zs sz bytes false) (ht2:xT P ty2 zs2 sz2 YG false) (hn:nth l r=some (.pointer (some p))) (hn2:nth l r2=some (.pointer (some p2))) (hc:w.cell? p=some v) (hc2:w.cell? p2=some v2):(results fn l.toArray).run P w=.ok (.tuple #[v,v2]) w:=by
 have h1:=qU ht hc
 have h3:=qU ht2 hc2
 rw[pK]at hn hn2
 simp[results,hr,hn,hn2,asAddr,h1,h3]
theorem Rd.WX {w0 w:World} {S:List Nat} {es:List Ent} {B:Option Addr} {s:Blk} (h:Rd w0 B s.length 1 (u8s s)) (H:Hp w0 w S es) (ha:0 < s.length→∀ p,B=some p→p.block∉S):Rd w B s.length 1 (u8s s):=by
 by_cases h0:s.length=0
 · exact h.empty h0
 · exact h.to H (ha (by omega))
theorem mY {P:Program} {fn:Func} (hr:fn.results=#[]) (t:Array Value) (w:World):(results fn t).run P w=.ok (.tuple #[]) w:=by simp[results,hr]
def wgt (n:Nat):Nat:=(n+63) / 64+2
def Eb (n:Nat):Nat:=(n+4+63) / 64
structure Wl where
 dead:Bool
 turn:Nat
 first:Nat
 recs:List Blk
 places:List Nat
 fin:Nat
 told:Nat
def used (rs:List Blk):Nat:=(rs.map fun r=>wgt r.length).sum
theorem uJ (a b:List Blk):used (a++b)=used a+used b:=by simp[used]
theorem iF (r:Blk):used [r]=wgt r.length:=by simp[used]
theorem AY (rs:List Blk):2*rs.length≤used rs:=by
 induction rs with
 | nil=>simp[used]
 | cons r rs ih=>
  have h:2≤wgt r.length:=by unfold wgt;omega
  simp only[used,List.map_cons,List.sum_cons,List.length_cons]at ih ⊢;omega
theorem pA (rs:List Blk) (n:Nat):used (rs.take n)+used (rs.drop n)=used rs:=by rw[← uJ,List.take_append_drop]
def qX (l:List Nat):List Value:=l.map fun(n:Nat)=> .int .i64 (n:Int)
theorem N1 {l:List Nat} {i:Nat} (h:i < l.length):(qX l)[i]? =some (.int .i64 (l[i]:Int)):=by simp[qX,h]
theorem cK (l:List Nat):(qX l).length=l.length:=by simp[qX]
theorem N0 (l:List Nat):(qX l).all (·.oneCell')=true:=by simp[qX,Value.oneCell']
structure Mw where
 gd:Nat
 gk:Nat
 gw:Option Nat
 cw:Nat
 sp:List Value
 gv:Nat
 gr:Option Nat
 cr:Nat
 xs:List Value
 sr:List Value
 gp:Option Nat
 cp:Nat
 sq:List Value
@[reducible] def wcl (m:Mw) (W:Wl):List Value:=[.pointer (some ⟨m.gd,0,none⟩),.bool W.dead,.int .u64 (W.turn:Int),.int .i64 (W.first:Int),.slice (hd m.gr) W.recs.length m.cr,.slice (hd m.gp) W.places.length m.cp,.int .i64 (W.fin:Int),.int .i64 (used W.recs:Int),.int .i64 (W.told:Int)]
@[reducible] def jF (m:Mw) (W:Wl):List Ent:=[(some m.gv,120,wcl m W),(m.gr,73,m.xs++m.sr),(m.gp,3,qX W.places++m.sq)]
@[reducible] def Ah (m:Mw) (D:Dk) (W:Wl):List Ent:=xC m.gd m.gk m.gw m.cw m.sp D++jF m W
structure Eo (w:World) (m:Mw) (D:Dk) (W:Wl):Prop where
 d:Hw D m.gw m.cw m.sp
 lst:Gg w (Ah m D W) m.xs W.recs
 rc:W.recs.length≤m.cr
 rs:m.cr≤(m.xs++m.sr).length
 rn:m.gr=none→m.cr=0
 pl:W.places.length=W.recs.length
 pc:W.places.length≤m.cp
 ps:m.cp≤(qX W.places++m.sq).length
 pn:m.gp=none→m.cp=0
 most:W.recs.length≤16384
 long:∀ r∈W.recs,r.length≤16384
 size:64≤D.kept.length
 fin:W.fin < D.kept.length - 2
 plb:∀ p∈W.places,p < 16384
 first:W.first≤2^60
 turn:W.turn≤2^60
 used:used W.recs≤2^40
 told:W.told≤16384
def gH (w0:World) (xs ys:List Value):Prop:=∀ v∈ys,v∈xs∨∀ p n c,v=.slice (some p) n c→w0.heap.size≤p.block
theorem gH.refl (w0:World) (xs:List Value):gH w0 xs xs:=fun _ h=> .inl h
theorem gH.trans {w0 w1:World} {xs ys zs:List Value} (h:gH w0 xs ys) (h2:gH w1 ys zs) (hs:w0.heap.size≤w1.heap.size):gH w0 xs zs:=by
 intro v hv
 rcases h2 v hv with h3 | h3
 · exact h v h3
 · exact .inr fun p n c he=>Nat.le_trans hs (h3 p n c he)
theorem gH.snoc {w0:World} {xs:List Value} {g:Option Nat} {n c:Nat} (h:∀ p,hd g=some p→w0.heap.size≤p.block):gH w0 xs (xs++[.slice (hd g) n c]):=by
 intro v hv
 rcases List.mem_append.1 hv with h1 | h1
 · exact .inl h1
 · refine .inr fun p n' c' he=>?_
   rw[List.mem_singleton.1 h1]at he
   simp only[Value.slice.injEq]at he
   exact h p he.1
theorem gH.drop (w0:World) (xs:List Value) (n:Nat):gH w0 xs (xs.drop n):=fun _ hv=> .inl (List.mem_of_mem_drop hv)
def vY (w0 w':World) (S:List Nat) (m:Mw) (D:Dk) (W:Wl):Prop:=∃ m':Mw,m'.gd=m.gd∧m'.gk=m.gk∧m'.gv=m.gv∧gH w0 m.xs m'.xs∧Eo w' m' D W∧Hp w0 w' S (Ah m' D W)
theorem Gg.frame {w1 w2:World} {es1 es2 F:List Ent} {xs ys:List Value} {rs rs':List Blk} (h1:Gg w1 es1 xs rs) (hx:gH w1 xs ys) (h2:Gg w2 es2 ys rs') (hF:∀ b∈bl F,b∈bl es1∧b < w1.heap.size):Gg w2 (es2++F) ys rs':=by
 refine⟨h2.1,fun i hi=>?_⟩
 obtain⟨B,c,a1,a2,a3⟩:=h2.2 i hi
 refine⟨B,c,a1,a2,fun h0 p hp hb=>?_⟩
 have hb':p.block∈bl es2∨p.block∈bl F:=by
  unfold bl at hb ⊢
  rw[List.filterMap_append]at hb
  exact List.mem_append.1 hb
 rcases hb' with hb | hb
 · exact a3 h0 p hp hb
 · obtain⟨hf1,hf2⟩:=hF _ hb
   rcases hx _ (List.mem_of_getElem? a1)with hv | hv
   · obtain⟨j,hj⟩:=List.getElem?_of_mem hv
     obtain⟨B',c',b1,b2,b3⟩:=h1.2 j (by rw[← h1.1];exact lt_of_get hj)
     rw[hj]at b1
     simp only[Option.some.injEq,Value.slice.injEq]at b1
     exact b3 (by rw[← b1.2.1];exact h0) p (by rw[← b1.1];exact hp) hf1
   · have:=hv p _ c (by rw[hp])
     omega
theorem Eo.move {w0 w:World} {m:Mw} {D:Dk} {W:Wl} {es:List Ent} (h:Eo w0 m D W) (H:Hp w0 w (bl (Ah m D W)) es) (is:List Nat) (e:Ah m D W=is.map fun i=>es.getD i (none,0,[])):Eo w m D W:=
 { h with lst:=(h.lst.to H).less (fun b hb=>by rw[e]at hb;exact Df H b hb) }
theorem vY.of {w0 w w':World} {S:List Nat} {es:List Ent} {m:Mw} {D D':Dk} {W W':Wl} (H:Hp w0 w S es) (is:List Nat) (e:Ah m D W=is.map fun i=>es.getD i (none,0,[])) (h:vY w w' (bl (Ah m D W)) m D' W'):vY w0 w' S m D' W':=by
 obtain⟨m',e1,e2,e3,e4,hok,H'⟩:=h
 exact⟨m',e1,e2,e3,(gH.refl _ _).trans e4 H.size,hok,(H.Am is e H').right⟩
theorem vY.here {w0 w:World} {S:List Nat} {es:List Ent} {m:Mw} {D:Dk} {W W':Wl} (h:Eo w0 m D W) (H:Hp w0 w S es) (hS:S=bl (Ah m D W)) (is:List Nat) (hnd:is.Nodup) (e:Ah m D W'=is.map fun i=>es.getD i (none,0,[])) (hb:bl (Ah m D W')=bl (Ah m D W)) (h2:Eo w0 m D W→Eo w0 m D W'):vY w0 w S m D W':=by
 subst hS
 refine⟨m,Y,Y,Y,gH.refl _ _,?_,by rw[e];exact H.pick is hnd⟩
 have hk:=h2 h
 have hl:Gg w0 (Ah m D W) m.xs W'.recs:=hk.lst.less (fun b hx=>by rw[hb];exact hx)
 exact { hk with lst:=(hl.to H).less (fun b hx=>by rw[e]at hx;exact Df H b hx) }
theorem Eo.ring {w:World} {m:Mw} {D:Dk} {W:Wl} (h:Eo w m D W):D.kept.length≤16384:=h.d.most
end Go.Proofs.YtjoeklkmnfaabaaGreat
namespace Go.Proofs.YtjoeklkmnfaabaaGreat
set_option maxRecDepth 100000
set_option maxHeartbeats 4000000
open Go Go.RowKit
set_option linter.unusedVariables false
attribute [local irreducible] yT Ops zP Cd
theorem wq (n:Nat) (h:n≤2^60):IntKind.i64.wrap (((n:Int)+64 - 1).tdiv 64)=(((n+63) / 64:Nat):Int):=by
 rw[show((n:Int)+64 - 1)=((n+63:Nat):Int) by omega,show(((n+63:Nat):Int)).tdiv 64=(((n+63) / 64:Nat):Int) from rfl]
 exact IntWalk.i64_in _ (by omega)
theorem wq4 (n:Nat) (h:n≤2^60):IntKind.i64.wrap ((4+(n:Int)+64 - 1).tdiv 64)=((Eb n:Nat):Int):=by
 rw[show(4+(n:Int)+64 - 1)=((n+4+63:Nat):Int) by omega,show(((n+4+63:Nat):Int)).tdiv 64=(((n+4+63) / 64:Nat):Int) from rfl]
 exact IntWalk.i64_in _ (by omega)
theorem jI (n:Nat) (w0:World) (hn:n≤2^60):zP Tryz.prog 73 #[.int .i64 (n:Int)] w0 (fun r w'=>r=.int .i64 (wgt n:Int)∧w'=w0):=by
 refine zE Tryz.func73 Tryz.ntmps73 Y<|cR e8 ?_
 have H:=Hp.refl w0
 refine Rq<|Xa Y<|Xr e8<|Rq<|Xm Y<|OV (zL Y Y (IntWalk.i64_in _ (by omega)))<|OV (uW Y Y (IntWalk.i64_in _ (by omega)))<|OV (bB Y Y (by omega) (wq n hn))<|Aa e8<|OV (zL Y Y (IntWalk.i64_in _ (by omega)))<|Xa Y<|Xr e8<|J5<|Ak Y Y<|⟨by unfold wgt;rfl,Y⟩
theorem FG (gd n c:Nat) (A:Option Addr) (w0:World) (hc:w0.cell? ⟨gd,0,none⟩=some (.slice A n c)):zP Tryz.prog 55 #[.pointer (some ⟨gd,0,none⟩)] w0 (fun r w'=>r=.int .i64 (n:Int)∧w'=w0):=by
 refine zE Tryz.func55 Tryz.ntmps55 Y<|cR e10 ?_
 have H:=Hp.refl w0
 refine Rq<|Xa Y<|Xr e10<|J1<|Rq<|Xm Y<|Dy (yE Tryz.underlying27 Y) (by simp)<|Xr e10<|J4 Y<|J6<|Rq<|Xm Y<|Xc Y<|Xf jW Y<|OV (EL E9 Y (hc))<|Aa e10<|OV (ES Tryz.underlying86 Y)<|Xa Y<|Xr e10<|J5<|Ak Y Y<|⟨Y,Y⟩
theorem PJ (gd:Nat) (x:Bool) (w0:World) (hc:w0.cell? ⟨gd,2,none⟩=some (.bool x)):zP Tryz.prog 52 #[.pointer (some ⟨gd,0,none⟩)] w0 (fun r w'=>r=.bool x∧w'=w0):=by
 refine zE Tryz.func52 Tryz.ntmps52 Y<|cR e11 ?_
 have H:=Hp.refl w0
 refine Rq<|Xa Y<|Xr e11<|Rq<|Xm Y<|Ij (uX Tryz.underlying27 Y) (by simp)<|Xm Y<|Aa e11<|OY Y<|Xm Y<|OY Y<|Xc Y<|Aa e11<|OY Y<|Xf jV Y<|OY Y<|OV (EL ty4 Y (hc))<|Xt Y Y<|Xa Y<|Xr e11<|J5<|Ak Y Y<|⟨Y,Y⟩
theorem IT (gv:Nat) (n:Int) (w0:World) (hc:w0.cell? ⟨gv,3,none⟩=some (.int .i64 n)):zP Tryz.prog 47 #[.pointer (some ⟨gv,0,none⟩)] w0 (fun r w'=>r=.int .i64 n∧w'=w0):=by
 refine zE Tryz.func47 Tryz.ntmps47 Y<|cR e9 ?_
 have H:=Hp.refl w0
 refine Rq<|Xa Y<|Xr e9<|J1<|Rq<|Xm Y<|Dy (yE Tryz.underlying65 Y) (by simp)<|Xr e9<|J4 Y<|J6<|Rq<|Xm Y<|Xc Y<|Xf qF Y<|OV (EL ty3 Y (hc))<|Aa e9<|Xa Y<|Xr e9<|J5<|Ak Y Y<|⟨Y,Y⟩
theorem FK (gv gd n c:Nat) (A:Option Addr) (w0:World) (hc:w0.cell? ⟨gv,0,none⟩=some (.pointer (some ⟨gd,0,none⟩))) (hd:w0.cell? ⟨gd,0,none⟩=some (.slice A n c)) (hn:n≤16384):zP Tryz.prog 78 #[.pointer (some ⟨gv,0,none⟩)] w0 (fun r w'=>r=.int .i64 ((n:Int) - 2)∧w'=w0):=by
 refine zE Tryz.func78 Tryz.ntmps78 Y<|cR e9 ?_
 have H:=Hp.refl w0
 refine Rq<|Xa Y<|Xr e9<|Rq<|Xm Y<|Xc Y<|Xf qY Y<|OV (EL AZ Y (hc))<|Aa e9<|wP (EC VW Y) (FG gd n c A _ hd)<|OV (uW Y Y (IntWalk.i64_in _ (by omega)))<|Xa Y<|Xr e9<|J5<|Ak Y Y<|⟨Y,Y⟩
abbrev Qg :Value:=.iface 116 (.agg #[])
abbrev iW :rH:=[{ v:=Qg,recovered:=false }]
theorem Yl :wY Tryz.prog 116=some []:=by kernel_rfl
theorem pN (n:Nat) (w0:World):rV Tryz.prog 57 #[.int .i64 (n:Int)] w0 (fun _ w'=>n=0∧w'=w0) (fun ch w'=>n≠0∧ch=iW∧w'=w0):=by
 refine gB Tryz.func57 Tryz.ntmps57 Y<|cR e6 ?_
 have H:=Hp.refl w0
 refine Rq<|Xm Y<|OT (yS Y Y) (fun hp3=>?_) (fun hp3=>?_)
 have hn:n≠0:=by omega
 refine Xr e6<|J3 Y<|J2<|OV (EB ty116 Yl Y Y)<|OV (fR Tryz.underlying116 (fun ms h=>(by cases h)) Y)<|Qk Y ⟨hn,Y,Y⟩
 have hn:n=0:=by omega
 refine Xr e6<|J4 Y<|J6<|zA<|pC Y<|⟨hn,Y⟩
end Go.Proofs.YtjoeklkmnfaabaaGreat
namespace Go.Proofs.YtjoeklkmnfaabaaGreat
set_option maxRecDepth 100000
set_option maxHeartbeats 4000000
open Go Go.RowKit
set_option linter.unusedVariables false
attribute [local irreducible] yT Ops zP Cd
theorem BC (m:Mw) (D:Dk) (W:Wl) (w0:World) (H0:Hp w0 w0 (bl (Ah m D W)) (Ah m D W)) (h:Eo w0 m D W) (hx:W.dead=true):zP Tryz.prog 72 #[.pointer (some ⟨m.gv,0,none⟩)] w0 (fun r w'=>r=.bool (W.dead || D.down)∧Hp w0 w' (bl (Ah m D W)) (Ah m D { W with dead:=W.dead || D.down })):=by
 refine zE Tryz.func72 Tryz.ntmps72 Y<|cR e21 ?_
 have H:=H0
 refine Rq<|Xa Y<|Xr e21<|Rq<|Xm Y<|Xm Y<|Xc Y<|Xf mE Y<|Aa e21<|OV (v:=.bool true) (EL ty4 Y (by have hz:=H.cell (i:=3) (o:=1) (v:=.bool W.dead) Y Y;rw[hx]at hz;exact hz))<|Xm Y<|Aa e21<|Oz 5 Y<|Aa e21<|Xt Y Y<|Xc Y<|Xf mE Y<|Aa e21<|OW ty4 H 3 Y Y Y Y (by first|exact NL Y|simp[zH]) Y<|fun w1 H1=>Xr e21<|Rq<|Xm Y<|Xc Y<|Xf mE Y<|OV (EL ty4 Y (H1.cell (i:=3) Y Y))<|Aa e21<|Xa Y<|Xr e21 ?_
 refine J5<|Ak Y Y ?_
 rw[hx]
 exact⟨Y,H1⟩
theorem BB (m:Mw) (D:Dk) (W:Wl) (w0:World) (H0:Hp w0 w0 (bl (Ah m D W)) (Ah m D W)) (h:Eo w0 m D W) (hx:W.dead=false):zP Tryz.prog 72 #[.pointer (some ⟨m.gv,0,none⟩)] w0 (fun r w'=>r=.bool (W.dead || D.down)∧Hp w0 w' (bl (Ah m D W)) (Ah m D { W with dead:=W.dead || D.down })):=by
 refine zE Tryz.func72 Tryz.ntmps72 Y<|cR e21 ?_
 have H:=H0
 refine Rq<|Xa Y<|Xr e21<|Rq<|Xm Y<|Xm Y<|Xc Y<|Xf mE Y<|Aa e21<|OV (v:=.bool false) (EL ty4 Y (by have hz:=H.cell (i:=3) (o:=1) (v:=.bool W.dead) Y Y;rw[hx]at hz;exact hz))<|Xm Y<|Aa e21<|OY Y<|Xm Y<|OY Y<|Xc Y<|Aa e21<|OY Y<|Xf qY Y<|OY Y<|OV (EL AZ Y (H.cell (i:=3) Y Y))<|Aa e21<|OY Y<|wP (EC gf52 Y) (PJ m.gd D.down _ (H.cell (i:=0) Y Y))<|Xu Y Y<|Xc Y<|Xf mE Y<|Aa e21<|OW ty4 H 3 Y Y Y Y (by first|exact NL Y|simp[zH]) Y<|fun w1 H1=>Xr e21<|Rq<|Xm Y<|Xc Y<|Xf mE Y ?_
 refine OV (EL ty4 Y (H1.cell (i:=3) Y Y))<|Aa e21<|Xa Y<|Xr e21<|J5<|Ak Y Y ?_
 rw[hx]
 exact⟨Y,H1⟩
theorem eC (m:Mw) (D:Dk) (W:Wl) (w0:World) (H0:Hp w0 w0 (bl (Ah m D W)) (Ah m D W)) (h:Eo w0 m D W):zP Tryz.prog 72 #[.pointer (some ⟨m.gv,0,none⟩)] w0 (fun r w'=>r=.bool (W.dead || D.down)∧Hp w0 w' (bl (Ah m D W)) (Ah m D { W with dead:=W.dead || D.down })):=by
 cases hx:W.dead
 simpa only[hx]using BB m D W w0 H0 h hx
 simpa only[hx]using BC m D W w0 H0 h hx
def Wl.took (W:Wl) (D:Dk) (b:Blk):Wl:={ W with recs:=W.recs++[b],places:=W.places++[W.fin],fin:=(W.fin+Eb b.length) % (D.kept.length - 2) }
theorem wmod {a b n:Nat} (ha:a < 2^40) (hb:b < 2^40) (hn:2 < n):((a:Int)+(b:Int)).tmod ((n:Int) - 2)=(((a+b) % (n - 2):Nat):Int):=by
 rw[show((n:Int) - 2)=((n - 2:Nat):Int) by omega,show((a:Int)+(b:Int))=((a+b:Nat):Int) by omega]
 exact aC _ _
theorem AS {n:Nat} (h:n≤16384):wgt n≤300:=by unfold wgt;omega
theorem fI {n:Nat} (h:n≤16384):Eb n≤300:=by unfold Eb;omega
theorem R8 (n:Nat):0 < Eb n:=by unfold Eb;omega
theorem CO (m:Mw) (D:Dk) (W:Wl) (w0:World) (H0:Hp w0 w0 (bl (Ah m D W)) (Ah m D W)) (h:Eo w0 m D W) (A:Option Addr) (b:Blk) (c:Nat) (hr:Rd w0 A b.length 1 (u8s b)) (ha:0 < b.length→∀ p,A=some p→p.block∉bl (Ah m D W)) (hb:b.length≤16384) (hn:W.recs.length < 16384) (hu0:used W.recs≤2^39):zP Tryz.prog 79 #[.pointer (some ⟨m.gv,0,none⟩),.slice A b.length c] w0 (fun _ w'=>∃ m':Mw,m'.gd=m.gd∧m'.gk=m.gk∧m'.gv=m.gv∧m'.xs=m.xs++[.slice A b.length c]∧Eo w' m' D (W.took D b)∧Hp w0 w' (bl (Ah m D W)) (Ah m' D (W.took D b))):=by
 refine zE Tryz.func79 Tryz.ntmps79 Y<|cR e54 ?_
 have H:=H0
 obtain⟨hD,Ec,hrc,hrs,hrn,hpl,hpc,hps,hpn,Dh,hlong,hsize,hfin,Jl,hfirst,hturn,Jb,htold⟩:=h
 have hkept:=hD.most
 refine Rq<|Xm Y<|Xm Y<|Xc Y<|Xf sI Y<|Aa e54<|OV (EL gQ Y (H.cell (i:=3) Y Y))<|Xm Y<|zG Tryz.underlying98 xK H Y (by decide) Y<|fun w1 g1 H1 hg1=>yX Tryz.underlying98 xK (by decide) H1 4 (g:=m.gr) (n:=W.recs.length) (cap:=m.cr) (xs:=m.xs) (sp:=m.sr) Y Y (by rw[Ec.1,Nat.mul_one]) (by rw[Nat.mul_one];exact hrs) hrc hrn Y (H1.rd (i:=6) (o:=some g1) (xs:=[.slice A b.length c]) (sp:=[]) Y Y (by decide)) Y (by omega) (by omega) (by decide)<|fun w2 g3 cap3 sp3 H2 hcap3 hmc3 hg3=>?_
 rw[Nat.mul_one]at hcap3
 refine Aa e54<|Xc Y<|Xf sI Y<|OW gQ H2 3 Y Y Y Y (by first|exact NL Y|simp[zH]) Y<|fun w3 H3=>Xr e54<|J1<|zR 13 [(true,0),(true,1),(true,2),(true,3),(true,4),(true,5),(true,6),(true,7),(true,8),(false,9),(false,10),(true,11),(true,12),(false,13)] H3 [3] yG (by decide) (by kernel_rfl) ?_
 rintro w4 hw4
 have H4:=Hp.drew H3;rw[← hw4]at H4
 refine Zm Y Y<|Zm Y Y<|Zc Y Y<|Zf Y kQ Y<|cZ e54<|MP Y<|MV (fun wz hz=>EL JN Y (hz.cell (i:=0) Y Y))<|Zm Y Y<|Zc Y Y<|Zf Y oA Y<|cZ e54<|MP Y<|MV (fun wz hz=>EL ty3 Y (hz.cell (i:=0) Y Y))<|MO Y<|zG Tryz.underlying50 ty3 H4 Y (by decide) Y<|fun w5 g5 H5 hg5=>OE<|⟨fun hne=>H5.pick [3] (by decide),?_⟩
 refine cZ e54<|MO Y<|yX Tryz.underlying50 ty3 (by decide) H5 5 (g:=m.gp) (n:=W.places.length) (cap:=m.cp) (xs:=qX W.places) (sp:=m.sq) Y Y (by rw[cK,Nat.mul_one]) (by rw[Nat.mul_one];exact hps) hpc hpn Y (H5.rd (i:=7) (o:=some g5) (xs:=[.int .i64 (W.fin:Int)]) (sp:=[]) Y Y (by decide)) Y (by omega) (by omega) (by decide)<|fun w6 g4 cap4 Wh H6 hcap4 hmc4 hg4=>?_
 rw[Nat.mul_one]at hcap4
 refine OE ?_
 refine⟨fun hne=>H6.pick [3] (by decide),?_⟩
 refine cZ e54<|Zc Y Y<|Zf Y kQ Y<|MO Y<|OW JN H6 3 Y Y Y Y (by first|exact NL Y|simp[zH]) Y<|fun w7 H7=>OE<|⟨fun hne=>absurd Y hne,?_⟩
 refine cZ e54<|ME<|cR e54<|J1<|zR 17 [(true,0),(true,1),(true,2),(true,3),(true,4),(true,5),(true,6),(true,7),(true,8),(true,9),(true,10),(true,11),(true,12),(false,13),(true,14),(true,15),(true,16),(false,17)] H7 [0,3] yG (by decide) (by kernel_rfl) ?_
 rintro w8 hw8
 have H8:=Hp.drew H7;rw[← hw8]at H8
 refine Zm Y Y<|Zm Y Y<|Zc Y Y<|Zf Y oA Y<|cZ e54<|MP Y<|MV (fun wz hz=>EL ty3 Y (hz.cell (i:=1) Y Y))<|Zm Y Y<|MP Y<|MV (fun wz hz=>ES Tryz.underlying73 Y)<|MP Y<|MV (fun wz hz=>zL Y Y (IntWalk.i64_in _ (by omega)))<|cZ e54<|MP Y<|MV (fun wz hz=>zL Y Y (IntWalk.i64_in _ (by omega)))<|MP Y<|MV (fun wz hz=>uW Y Y (IntWalk.i64_in _ (by omega)))<|MP Y<|MV (fun wz hz=>bB Y Y (by omega) (wq4 b.length (by omega)))<|MP Y<|MV (fun wz hz=>zL Y Y (IntWalk.i64_in _ (by have:=fI hb;omega)))<|cZ e54<|Zm Y Y<|MO Y<|wP (EC VT Y) (FK m.gv m.gd D.kept.length _ _ _ (H8.cell (i:=3) Y Y) (H8.cell (i:=0) Y Y) hkept)<|OE<|⟨fun hne=>H8.pick [0,3] (by decide),?_⟩
 refine cZ e54<|MP Y<|MV (fun wz hz=>fP Y Y (by omega) (wmod (by omega) (by have:=fI hb;omega) (by omega)))<|Zc Y Y<|Zf Y oA Y<|MO Y<|OW ty3 H8 3 Y Y Y Y (by first|exact NL Y|simp[zH]) Y<|fun w9 H9=>OE<|⟨fun hne=>absurd Y hne,?_⟩
 refine cZ e54<|ME<|cR e54<|zR 10 [(true,0),(true,1),(true,2),(true,3),(true,4),(true,5),(false,6),(true,7),(true,8),(true,9),(false,10)] H9 [3] yG (by decide) (by kernel_rfl) ?_
 rintro w10 Oi
 have Ar:=Hp.drew H9;rw[← Oi]at Ar
 refine Zm Y Y<|Zc Y Y<|Zf Y iV Y<|MP Y<|MV (fun wz hz=>EL ty3 Y (hz.cell (i:=0) Y Y))<|cZ e54<|Zm Y Y<|MP Y<|MV (fun wz hz=>ES Tryz.underlying73 Y)<|MO Y<|wP (EC VV Y) (jI b.length _ (by omega))<|OE<|⟨fun hne=>Ar.pick [3] (by decide),?_⟩
 refine cZ e54<|MP Y<|MV (fun wz hz=>zL Y Y (IntWalk.i64_in _ (by have:=AS hb;omega)))<|Zc Y Y<|Zf Y iV Y<|MO Y<|OW ty3 Ar 3 Y Y Y Y (by first|exact NL Y|simp[zH]) Y<|fun Gm Bd=>OE<|⟨fun hne=>absurd Y hne,?_⟩
 refine cZ e54<|ME<|cR e54<|zA<|yN Y ?_
 have hw:=AS hb
 have hu:used (W.recs++[b])=used W.recs+wgt b.length:=by rw[uJ,iF]
 refine⟨{ m with gr:=g3,cr:=cap3,xs:=m.xs++[.slice A b.length c],sr:=sp3,gp:=g4,cp:=cap4,sq:=Wh },rfl,rfl,rfl,rfl,?_,?_⟩
 have hP:qX W.places++[Value.int .i64 (W.fin:Int)]=qX (W.places++[W.fin]):=by simp[qX]
 have HZ:=Bd
 have hbl:∀ p∈bl (Ah { m with gr:=g3,cr:=cap3,xs:=m.xs++[.slice A b.length c],sr:=sp3,gp:=g4,cp:=cap4,sq:=Wh } D (W.took D b)),p∈bl _:=fun p hp=>Df (is:=[0,1,2,3,4,5]) HZ p (by simpa[bl,hP]using hp)
 refine⟨hD,?_,by simp[Wl.took];omega,by simpa[Wl.took]using hcap3,hg3,by simp[Wl.took,hpl],by simp[Wl.took];omega,by rw[show(W.took D b).places=W.places++[W.fin] from Y,← hP];exact hcap4,hg4,by simp[Wl.took];omega,?_,hsize,Nat.mod_lt _ (by omega),?_,hfirst,hturn,by rw[show(W.took D b).recs=W.recs++[b] from Y,hu];omega,htold⟩
 exact Gg.less (Gg.snoc (Ec.to HZ) (Rd.WX hr HZ ha) (fun h0=>bK hr h0 (ha h0) HZ)) hbl
 intro r hr2
 rcases List.mem_append.1 hr2 with h | h
 exact hlong r h
 simp at h;rw[h];exact hb
 intro p hp
 rcases List.mem_append.1 hp with h | h
 exact Jl p h
 simp at h;omega
 have hP:qX W.places++[Value.int .i64 (W.fin:Int)]=qX (W.places++[W.fin]):=by simp[qX]
 have HZ:=Bd.pick [0,1,2,3,4,5] (by decide)
 have e1:(W.took D b).recs.length=W.recs.length+1:=by simp[Wl.took]
 have e2:(W.took D b).places.length=W.places.length+1:=by simp[Wl.took]
 rw[hP]at HZ
 unfold Ah jF wcl
 rw[e1,e2,show(W.took D b).recs=W.recs++[b] from rfl,hu]
 exact HZ
end Go.Proofs.YtjoeklkmnfaabaaGreat
namespace Go.Proofs.YtjoeklkmnfaabaaGreat
set_option maxRecDepth 100000
set_option maxHeartbeats 4000000
open Go Go.RowKit
set_option linter.unusedVariables false
attribute [local irreducible] yT Ops zP Cd
theorem K7 (A:Option Addr) (n c:Nat) (w0:World):zP Tryz.prog 76 #[.slice A n c,.int .i64 64] w0 (fun r w'=>∃ g1 g2,r=.func (.func 122) #[] [.pointer (some ⟨g1,0,none⟩),.pointer (some ⟨g2,0,none⟩)].toArray∧Hp w0 w' [] [(some g1,73,[.slice A n c]),(some g2,3,[.int .i64 64])]):=by
 refine zE Tryz.func76 Tryz.ntmps76 Y<|cR e9 ?_
 have H:=Hp.refl w0
 refine Rq<|yA Y Y H<|fun w1 g1 H1 hg1=>yA Y Y H1<|fun w2 g2 H2 hg2=>Xa Y<|Xr e9<|J1<|Rq<|OV (EL ty3 Y (H2.cell (i:=1) Y Y))<|Dy (zQ Y Y) (by decide)<|Xr e9<|J4 Y<|J6<|Rq<|OV (wK Y Y)<|Xa Y<|Xr e9<|J5<|Ak Y Y<|⟨g1,g2,Y,H2⟩
namespace Rn
attribute [local irreducible] Cd
theorem GC (g1 g2 ga N c:Nat) (hN:N≤1000) (hc:64*N≤c) (w1:World) (h1:w1.heap[g1]? =some (.cells [Value.slice (some ⟨ga,0,none⟩) (64*N) c].toArray 73 (0,0))) (h2:w1.heap[g2]? =some (.cells [Value.int .i64 64].toArray 3 (0,0))) (hne:g1≠g2):WD Tryz.prog 122 [.pointer (some ⟨g1,0,none⟩),.pointer (some ⟨g2,0,none⟩)] N [g1,g2] (fun k _ args G=>args=[.slice (some ⟨ga,64*k,none⟩) 64 64]∧G=[]) w1:=by
 intro L J X XP O0 hO YD hJs Y0 hY h0
 refine zE Tryz.func122 Tryz.ntmps122 Y ?_
 change Run _ _ _ _ [.func (.yield L) #[] #[],.pointer (some ⟨g1,0,none⟩),.pointer (some ⟨g2,0,none⟩),undef,undef,undef,undef,undef,undef,undef,undef,undef,undef,undef,undef,undef,undef,undef,undef,undef,undef,undef,undef,undef,undef,undef,undef,undef,undef,undef,undef] _
 refine zN<|zJ Y (fun _ _ h=>h)<|Xa Y<|OE ?_
 change Run _ _ _ _ [_,_,_,_,_,_,_,_,_,_,_,_,_,_,_,_,_,_,_,_,_,_,_,_,_,_,_,_,_,_,_] _
 refine wH<|zU (fun nQ lQ w=>∃ (k:Nat) (y:Int) (O:List Nat),N - k=nQ∧xN (Dj [(0,.func (.yield L) #[] #[]),(1,.pointer (some ⟨g1,0,none⟩)),(2,.pointer (some ⟨g2,0,none⟩)),(4,.int .i64 y)] 0 31) lQ∧y=((64*k:Nat):Int)∧k≤N∧w.heap[g1]? =some (.cells [Value.slice (some ⟨ga,0,none⟩) (64*N) c].toArray 73 (0,0))∧w.heap[g2]? =some (.cells [Value.int .i64 64].toArray 3 (0,0))∧J k w O∧(∀ b∈O,b∉[g1,g2])) (N) ?_ ?_
 exact⟨0,_,O0,Y,(Dv Y Y Y Y Y),Y,Nat.zero_le _,h1,h2,h0,hO⟩
 rintro nQ lQ w1 ⟨k,y,O,rfl,hfit,rfl,hk,hg1,hg2,hJ,hOn⟩
 obtain⟨j,rfl⟩:=hfit.open
 change Run _ _ _ _ [_,_,_,_,_,_,_,_,_,_,_,_,_,_,_,_,_,_,_,_,_,_,_,_,_,_,_,_,_,_,_] _
 clear hfit
 have H1:=Hp.two hg1 hg2 hne
 refine zN<|zN<|zJ Y (fun _ _ h=>h)<|Xm Y<|OV (EL xK Y (H1.cell (i:=0) Y Y))<|OV (ES Tryz.underlying73 Y)<|OT (zQ Y Y) (fun hp9=>?_) (fun hp9=>?_)
 have hkl:k < N:=by omega
 refine OE ?_
 change Run _ _ _ _ [_,_,_,_,_,_,_,_,_,_,_,_,_,_,_,_,_,_,_,_,_,_,_,_,_,_,_,_,_,_,_] _
 refine yL Y<|xH<|zN<|wH<|zN<|sW [(true,0),(true,1),(true,2),(true,3),(true,4),(true,5),(true,6)] H1 [0,1] yG (by decide) (by kernel_rfl) Y ?_
 rintro w2 hw2
 have H2:=Hp.drew H1;rw[← hw2]at H2
 have hJ2:J k w2 O:=hJs k _ O w2 hJ (by rw[‹w2=_›];exact Hp.Zq _)
 have hq1:w2.heap[g1]? =some (.cells [Value.slice (some ⟨ga,0,none⟩) (64*N) c].toArray 73 (0,0)):=H2.at (i:=0) rfl
 have hq2:w2.heap[g2]? =some (.cells [Value.int .i64 64].toArray 3 (0,0)):=H2.at (i:=1) rfl
 refine zX Y<|MV (fun wz hz=>EL ty3 Y (hz.cell (i:=1) Y Y))<|zX Y<|MV (fun wz hz=>EL xK Y (hz.cell (i:=0) Y Y))<|zX Y<|MV (fun wz hz=>zK Y)<|zX Y<|MV (fun wz hz=>vA Tryz.underlying73 ty5 Y Y (by omega))<|cM e31<|zX Y<|MV (fun wz hz=>ES Tryz.underlying73 Y)<|zX Y<|MV (fun wz hz=>PD Y Y) ?_
 rw[show min (64:Int) ((64*N - (((64*k:Nat):Int)).toNat:Nat):Int)=64 by omega]
 refine zX Y<|MV (fun wz hz=>zO Y)<|tL ?_
 change Run _ _ _ _ [_,_,_,_,_,_,_,_,_,_,_,_,_,_,_,_,_,_,_,_,_,_,_,_,_,_,_,_,_,_,_] _
 refine zN<|run_yield 10 Y Y (fun _ _ h=>h)<|Xm Y<|OV (EL xK Y (H2.cell (i:=0) Y Y))<|Xm Y<|Xm Y<|Aa e31<|Xm Y<|OV (zL Y Y ((IntWalk.i64_in _ (by omega)).trans (show(((64*k:Nat):Int)+64)=((64*(k+1):Nat):Int) by omega)))<|Xm Y<|Xm Y<|Aa e31<|OV (zL Y Y ((IntWalk.i64_in _ (by omega)).trans (show(((64*k:Nat):Int)+64)=((64*(k+1):Nat):Int) by omega)))<|OV (bE Tryz.underlying73 ty5 Y Y Y Y (by omega) (n:=64) (m:=64) (by omega) (by omega)) ?_
 rw[show wG (some ⟨ga,0,none⟩) (64*k) (64*(k+1)) 1=some ⟨ga,64*k,none⟩ by unfold wG;rw[if_neg (by omega),Nat.mul_one];exact congrArg some (fW _ _)]
 refine OE ?_
 refine⟨29,_,_,_,_,_,_,L,_,_,_,Y,Y,Y,hY k w2 O [.slice (some ⟨ga,64*k,none⟩) 64 64] [] hkl hJ2 ⟨Y,Y⟩ (by simp),?_,fun ch wz hz=>hz⟩
 rintro v wy ⟨O',Zh,hOy,hcase⟩
 rw[List.append_nil]at Zh
 have hy1:wy.heap[g1]? =some (.cells [Value.slice (some ⟨ga,0,none⟩) (64*N) c].toArray 73 (0,0)):=(Zh.frame g1 (Array.getElem?_eq_some_iff.1 hq1).1 (fun hb=>hOn _ hb (by simp))).trans hq1
 have hy2:wy.heap[g2]? =some (.cells [Value.int .i64 64].toArray 3 (0,0)):=(Zh.frame g2 (Array.getElem?_eq_some_iff.1 hq2).1 (fun hb=>hOn _ hb (by simp))).trans hq2
 have hl1:=(Array.getElem?_eq_some_iff.1 hq1).1
 have hl2:=(Array.getElem?_eq_some_iff.1 hq2).1
 have YC:∀ b∈O',b∉[g1,g2]:=by
  intro b hb
  rcases hOy b hb with h | h
  · exact hOn b (by simpa using h)
  · simp;omega
 rcases hcase with ⟨rfl,hJy⟩ | ⟨rfl,hXy⟩
 refine Xn Y<|OE ?_
 change Run _ _ _ _ [_,_,_,_,_,_,_,_,_,_,_,_,_,_,_,_,_,_,_,_,_,_,_,_,_,_,_,_,_,_,_] _
 refine zW Y<|xH<|zA (zB ?_)
 refine zJ Y (fun _ _ h=>h)<|Xm Y<|OV (EL ty3 Y ((Hp.two hy1 hy2 hne).cell (i:=1) Y Y))<|OV (zL Y Y ((IntWalk.i64_in _ (by omega)).trans (show(((64*k:Nat):Int)+64)=((64*(k+1):Nat):Int) by omega)))<|Xa Y<|OE ?_
 change Run _ _ _ _ [_,_,_,_,_,_,_,_,_,_,_,_,_,_,_,_,_,_,_,_,_,_,_,_,_,_,_,_,_,_,_] _
 refine zA (zI ?_)
 refine⟨Y,?_⟩
 exact⟨N - (k+1),by omega,k+1,_,O',Y,(Dv Y Y Y Y Y),Y,by omega,hy1,hy2,hJy,YC⟩
 refine Xn Y<|OE ?_
 change Run _ _ _ _ [_,_,_,_,_,_,_,_,_,_,_,_,_,_,_,_,_,_,_,_,_,_,_,_,_,_,_,_,_,_,_] _
 refine yL Y<|wF<|vG<|yR<|vG<|⟨_,mY Y _ _,.inr hXy⟩
 have hkN:k=N:=by omega
 subst hkN
 refine OE ?_
 change Run _ _ _ _ [_,_,_,_,_,_,_,_,_,_,_,_,_,_,_,_,_,_,_,_,_,_,_,_,_,_,_,_,_,_,_] _
 refine zW Y<|tD<|zT<|zS<|zA<|⟨_,mY Y _ _,.inl ⟨O,hJ⟩⟩
end Rn
end Go.Proofs.YtjoeklkmnfaabaaGreat
namespace Go.Proofs.YtjoeklkmnfaabaaGreat
set_option maxRecDepth 100000
set_option maxHeartbeats 4000000
open Go Go.RowKit
set_option linter.unusedVariables false
attribute [local irreducible] yT Ops zP Cd
def le4 (n:Nat):Blk:=[UInt8.ofNat (n % 256),UInt8.ofNat (n / 256 % 256),UInt8.ofNat (n / 65536 % 256),UInt8.ofNat (n / 16777216 % 256)]
theorem AB (n:Nat):[Value.int .u8 ((n % 256:Nat):Int),.int .u8 ((n / 256 % 256:Nat):Int),.int .u8 ((n / 65536 % 256:Nat):Int),.int .u8 ((n / 16777216 % 256:Nat):Int)]=u8s (le4 n):=by
 have h:∀ k:Nat,(UInt8.ofNat (k % 256)).toNat=k % 256:=fun k=>u8n (Nat.mod_lt _ (by decide))
 simp only[le4,u8s,List.map_cons,List.map_nil,h]
def mN (b:Blk) (q:Nat):Blk:=le4 b.length++b++List.replicate q 0
theorem KE (b:Blk):le4 b.length++b=mN b 0:=by simp[mN]
theorem KF (b:Blk) (q:Nat):mN b q++[0]=mN b (q+1):=by simp[mN,List.replicate_succ']
theorem DD (b:Blk) (q:Nat):(mN b q).length=4+b.length+q:=by simp[mN,le4];omega
def jQ (n:Nat):Nat:=(64 - (n+4) % 64) % 64
def Dl (b:Blk):Blk:=mN b (jQ b.length)
theorem iT (b:Blk):(Dl b).length=64*Eb b.length:=by unfold Dl;rw[DD];unfold jQ Eb;omega
def rB (b:Blk) (k:Nat):Blk:=(b.drop (64*k)).take 64
theorem dB {b:Blk} {k:Nat} (h:64*(k+1)≤b.length):(rB b k).length=64:=by simp[rB];omega
def wN (R fin:Nat) (b:Blk) (D:Dk):Nat→Dk
 | 0=>D
 | k+1=>((wN R fin b D k).write ((2+(fin+k) % R:Nat):Int) (rB b k)).1
def Ro (R fin:Nat) (b:Blk) (D:Dk) (k:Nat):Prop:=∀ j,j < k→((wN R fin b D j).write ((2+(fin+j) % R:Nat):Int) (rB b j)).2=0
theorem NC {R fin:Nat} {b:Blk} {D:Dk} {k:Nat} (h:Ro R fin b D k) (h2:((wN R fin b D k).write ((2+(fin+k) % R:Nat):Int) (rB b k)).2=0):Ro R fin b D (k+1):=by
 intro j hj
 by_cases hjk:j=k
 subst hjk;exact h2
 exact h j (by omega)
theorem oY (R fin:Nat) (b:Blk) (D:Dk):∀ k,(wN R fin b D k).wait.length≤D.wait.length+k∧(wN R fin b D k).kept.length=D.kept.length
 | 0=>⟨Nat.le_refl _,rfl⟩
 | k+1=>by
  have h:=oY R fin b D k
  have h2:=CE (wN R fin b D k) ((2+(fin+k) % R:Nat):Int) (rB b k)
  exact⟨by show(Dk.write _ _ _).1.wait.length≤_;omega,by show(Dk.write _ _ _).1.kept.length=_;rw[h2.2,h.2]⟩
theorem TG {a n k:Nat} (hn:2 < n) (ha:a < 2^40) (hk:k < 2^40):(((a+k) % (n - 2):Nat):Int)+1=(((a+k) % (n - 2)+1:Nat):Int)∧((((a+k) % (n - 2)+1:Nat):Int)).tmod ((n:Int) - 2)=(((a+(k+1)) % (n - 2):Nat):Int):=by
 refine⟨by omega,?_⟩
 rw[show((n:Int) - 2)=((n - 2:Nat):Int) by omega,aC,← Nat.add_assoc,Nat.mod_add_mod]
theorem GO {W:Wl} {D D':Dk} (h:D.kept.length=D'.kept.length) (b:Blk):W.took D b=W.took D' b:=by unfold Wl.took;rw[h]
namespace Rn
attribute [local irreducible] Cd
theorem UM (m:Mw) (D:Dk) (W:Wl) (w0:World) (H0:Hp w0 w0 (bl (Ah m D W)) (Ah m D W)) (h:Eo w0 m D W) (Zk Qe:Nat) (A:Option Addr) (b:Blk) (c:Nat) (hbx:w0.cell? ⟨Zk,0,none⟩=some (.slice A b.length c)) (hbn:Zk∉bl (Ah m D W)) (hwx:w0.cell? ⟨Qe,0,none⟩=some (.pointer (some ⟨m.gv,0,none⟩))) (hwn:Qe∉bl (Ah m D W)) (hr:Rd w0 A b.length 1 (u8s b)) (ha:0 < b.length→∀ p,A=some p→p.block∉bl (Ah m D W)) (hb:b.length≤16384) (hn:W.recs.length < 16384) (hu0:used W.recs≤2^39) (hwt:D.wait.length≤1000000000):rV Tryz.prog 75 #[.pointer (some ⟨Zk,0,none⟩),.pointer (some ⟨Qe,0,none⟩)] w0 (fun _ w'=>Ro (D.kept.length - 2) W.fin (Dl b) D (Eb b.length)∧vY w0 w' (bl (Ah m D W)) m (wN (D.kept.length - 2) W.fin (Dl b) D (Eb b.length)) (W.took D b)) (fun ch w'=>ch=iW∧∃ k,k < Eb b.length∧Ro (D.kept.length - 2) W.fin (Dl b) D k∧((wN (D.kept.length - 2) W.fin (Dl b) D k).write ((2+(W.fin+k) % (D.kept.length - 2):Nat):Int) (rB (Dl b) k)).2≠0∧vY w0 w' (bl (Ah m D W)) m (wN (D.kept.length - 2) W.fin (Dl b) D (k+1)) (W)):=by
 refine zE Tryz.func75 Tryz.ntmps75 Y ?_
 change Run _ _ _ _ [.pointer (some ⟨Zk,0,none⟩),.pointer (some ⟨Qe,0,none⟩),undef,undef,undef,undef,undef,undef,undef,undef,undef,undef,undef,undef,undef,undef,undef,undef,undef,undef,undef,undef,undef,undef,undef,undef,undef,undef,undef,undef,undef,undef,undef,undef,undef,undef,undef,undef,undef,undef,undef,undef,undef,undef,undef,undef,undef,undef,undef,undef,undef,undef,undef,undef] _
 have H:=H0
 obtain⟨hD,Ec,hrc,hrs,hrn,hpl,hpc,hps,hpn,Dh,hlong,hsize,hfin,Jl,hfirst,hturn,Jb,htold⟩:=id h
 have hkept:=hD.most
 refine zN<|zJ Y (fun _ _ h=>h)<|OV (EL xK Y (xL hbx H hbn))<|OV (ES Tryz.underlying73 Y)<|Xa Y<|OE ?_
 change Run _ _ _ _ [_,_,_,_,_,_,_,_,_,_,_,_,_,_,_,_,_,_,_,_,_,_,_,_,_,_,_,_,_,_,_,_,_,_,_,_,_,_,_,_,_,_,_,_,_,_,_,_,_,_,_,_,_,_] _
 refine zN<|zJ Y (fun _ _ h=>h)<|Xm Y<|OV (xJ Tryz.underlying5 Tryz.underlying3 Y (u8w b.length))<|Xm Y<|OV (oQ Y Y (by omega) ((show _=((b.length / 256:Nat):Int) from qS b.length 8 64)))<|Aa e54<|OV (xJ Tryz.underlying5 Tryz.underlying3 Y (u8w (b.length / 256)))<|Xm Y<|OV (oQ Y Y (by omega) ((show _=((b.length / 65536:Nat):Int) from qS b.length 16 64)))<|OV (xJ Tryz.underlying5 Tryz.underlying3 Y (u8w (b.length / 65536)))<|Aa e54<|Xm Y<|OV (oQ Y Y (by omega) ((show _=((b.length / 16777216:Nat):Int) from qS b.length 24 64)))<|OV (xJ Tryz.underlying5 Tryz.underlying3 Y (u8w (b.length / 16777216)))<|zG Tryz.underlying73 ty5 H Y (by decide) Y<|fun w1 g1 H1 hg1=>Aa e54<|OV (EL xK Y (xL hbx H1 hbn))<|lC Tryz.underlying73 ty5 H1 6 (g:=some g1) (cap:=4) (L:=le4 b.length) (sp:=[]) Y (by rw[List.append_nil,← AB];rfl) (by rw[List.append_nil,zY];exact Nat.le_refl _) (Nat.le_refl _) (by simp) Y (Rd.WX hr H1 ha) (by simp[le4];omega)<|fun w2 g3 cap3 sp3 H2 hl3 hc3 hg3=>?_
 rw[KE b]at H2 hl3 hc3 ⊢
 refine Xa Y<|OE ?_
 change Run _ _ _ _ [_,_,_,_,_,_,_,_,_,_,_,_,_,_,_,_,_,_,_,_,_,_,_,_,_,_,_,_,_,_,_,_,_,_,_,_,_,_,_,_,_,_,_,_,_,_,_,_,_,_,_,_,_,_] _
 refine zN<|wH<|zU (fun nQ lQ w=>∃ (q cap:Nat) (g:Option Nat) (Va:List Value),jQ b.length - q=nQ∧xN (Dj [(0,.pointer (some ⟨Zk,0,none⟩)),(1,.pointer (some ⟨Qe,0,none⟩)),(2,.int .i64 (b.length:Int)),(3,.slice (hd g) (mN b q).length cap)] 0 54) lQ∧q≤jQ b.length∧(mN b q).length≤cap∧cap*1≤(u8s (mN b q)++Va).length∧(g=none→cap=0)∧Hp w0 w (bl (Ah m D W)) (Ah m D W++[(g,5,u8s (mN b q)++Va)])) (jQ b.length) ?_ ?_
 exact⟨0,cap3,g3,sp3,Y,(Dv Y Y Y Y Y),Nat.zero_le _,hl3,hc3,hg3,by have hz:=H2.pick [0,1,2,3,4,5,6] (by decide);exact hz⟩
 rintro nQ lQ w3 ⟨q,cap,g,Va,rfl,hfit,hq,hcl,hcs,hcn,H3⟩
 obtain⟨j,rfl⟩:=hfit.open
 change Run _ _ _ _ [_,_,_,_,_,_,_,_,_,_,_,_,_,_,_,_,_,_,_,_,_,_,_,_,_,_,_,_,_,_,_,_,_,_,_,_,_,_,_,_,_,_,_,_,_,_,_,_,_,_,_,_,_,_] _
 clear hfit
 have hol:=DD b q
 have hpn:jQ b.length < 64:=Nat.mod_lt _ (by decide)
 refine zN<|zN<|zJ Y (fun _ _ h=>h)<|Xm Y<|OV (ES Tryz.underlying73 Y)<|OV (fP Y Y (by omega) (aC (mN b q).length 64))<|OT (yS Y Y) (fun hp25=>?_) (fun hp25=>?_)
 have hqp:q < jQ b.length:=by unfold jQ at hq ⊢;omega
 refine OE ?_
 change Run _ _ _ _ [_,_,_,_,_,_,_,_,_,_,_,_,_,_,_,_,_,_,_,_,_,_,_,_,_,_,_,_,_,_,_,_,_,_,_,_,_,_,_,_,_,_,_,_,_,_,_,_,_,_,_,_,_,_] _
 refine yL Y<|xH<|wH<|zJ Y (fun _ _ h=>h)<|Xm Y<|zG Tryz.underlying73 ty5 H3 Y (by decide) Y<|fun w4 g4 H4 hg4=>lC Tryz.underlying73 ty5 H4 6 (g:=g) (cap:=cap) (L:=mN b q) (M:=[0]) (sp:=Va) Y Y hcs hcl hcn Y (H4.rd (i:=7) (o:=some _) (xs:=u8s [0]) (sp:=[]) Y Y (by decide)) (by simp;omega)<|fun w5 g4 cap4 Wh H5 hl4 hc4 hg4=>?_
 rw[KF b q]at H5 hl4 hc4 ⊢
 refine Xa Y<|OE ?_
 change Run _ _ _ _ [_,_,_,_,_,_,_,_,_,_,_,_,_,_,_,_,_,_,_,_,_,_,_,_,_,_,_,_,_,_,_,_,_,_,_,_,_,_,_,_,_,_,_,_,_,_,_,_,_,_,_,_,_,_] _
 refine zA (zB ?_)
 refine zA (zI ?_)
 refine⟨Y,?_⟩
 exact⟨jQ b.length - (q+1),by omega,q+1,cap4,g4,Wh,Y,(Dv Y Y Y Y Y),by omega,hl4,hc4,hg4,by have hz:=H5.pick [0,1,2,3,4,5,6] (by decide);exact hz⟩
 have hqp:q=jQ b.length:=by unfold jQ at hq ⊢;omega
 subst hqp
 obtain⟨go,rfl⟩:∃ go,g=some go:=by
  cases g with
  | none=>have:=hcn rfl;omega
  | some go=>exact⟨go,rfl⟩
 refine OE ?_
 change Run _ _ _ _ [_,_,_,_,_,_,_,_,_,_,_,_,_,_,_,_,_,_,_,_,_,_,_,_,_,_,_,_,_,_,_,_,_,_,_,_,_,_,_,_,_,_,_,_,_,_,_,_,_,_,_,_,_,_] _
 refine zW Y<|tD<|zT<|zS<|zN<|zJ Y (fun _ _ h=>h)<|OV (EL uC Y (xL hwx H3 hwn))<|Xc Y<|Xf oA Y<|OV (EL ty3 Y (H3.cell (i:=3) Y Y))<|Aa e54<|OA ty3 H3<|fun w4 Qq H4 hgat=>OW ty3 H4 7 Y Y Y Y (by first|exact NL Y|simp[zH]) Y<|fun w5 H5=>OE ?_
 change Run _ _ _ _ [_,_,_,_,_,_,_,_,_,_,_,_,_,_,_,_,_,_,_,_,_,_,_,_,_,_,_,_,_,_,_,_,_,_,_,_,_,_,_,_,_,_,_,_,_,_,_,_,_,_,_,_,_,_] _
 refine zN<|zN<|zJ Y (fun _ _ h=>h)<|Xm Y<|OQ (EC gf76 Y) (K7 (hd (some go)) (mN b (jQ b.length)).length cap _) ?_
 rintro r w6 ⟨g1,g2,hr1,Hc⟩
 rw[hr1]
 have H6:=H5.call0 Hc
 refine OE ?_
 change Run _ _ _ _ [_,_,_,_,_,_,_,_,_,_,_,_,_,_,_,_,_,_,_,_,_,_,_,_,_,_,_,_,_,_,_,_,_,_,_,_,_,_,_,_,_,_,_,_,_,_,_,_,_,_,_,_,_,_] _
 refine wH ?_
 have hfl:=iT b
 have hnb:=fI hb
 have hR:0 < (D.kept.length - 2):=by omega
 have e0:(W.fin+0) % (D.kept.length - 2)=W.fin:=by rw[Nat.add_zero];exact Nat.mod_eq_of_lt hfin
 have hg1:=H6.at (i:=8) rfl
 have hg2:=H6.at (i:=9) rfl
 have hne:g1≠g2:=H6.ne (i:=8) (j:=9) rfl rfl (by decide)
 have Xq:64*Eb b.length≤cap:=by rw[← hfl];exact hcl
 have hbxl:=World.block_lt_of_cell? w0 _ hbx
 have Yz:=World.block_lt_of_cell? w0 _ hwx
 have hwsz:=H6.size
 have hq0:Hp w0 w6 (bl (Ah m D W)) (xC m.gd m.gk m.gw m.cw m.sp (wN (D.kept.length - 2) W.fin (Dl b) D 0)++jF m W++[(some go,5,u8s (Dl b)++Va),(some Qq,3,[.int .i64 (((W.fin+0) % (D.kept.length - 2):Nat):Int)])]):=by
  have hz:=H6.pick [0,1,2,3,4,5,6,7] (by decide)
  rw[← e0]at hz
  exact hz
 rw[show Value.slice (hd (some go)) (mN b (jQ b.length)).length cap=Value.slice (some ⟨go,0,none⟩) (64*Eb b.length) cap by rw[show mN b (jQ b.length)=Dl b from rfl,hfl];rfl]at hg1
 refine aG (ps:=[35]) (gf:=122) (lb:=[.pointer (some ⟨g1,0,none⟩),.pointer (some ⟨g2,0,none⟩)]) (N:=Eb b.length) (B:=[g1,g2]) Tryz.func75 Y gf122
  (fun w1 Hw1=>GC g1 g2 go (Eb b.length) cap (by omega) Xq w1 ((Hw1.frame g1 (Array.getElem?_eq_some_iff.1 hg1).1 (by simp)).trans hg1) ((Hw1.frame g2 (Array.getElem?_eq_some_iff.1 hg2).1 (by simp)).trans hg2) hne)
  (fun x hx=>by
   rcases List.mem_cons.1 hx with rfl | hx
   · exact(Array.getElem?_eq_some_iff.1 hg1).1
   · rw[List.mem_singleton.1 hx];exact(Array.getElem?_eq_some_iff.1 hg2).1)
  (fun k W1 O=>Ro (D.kept.length - 2) W.fin (Dl b) D k∧∃ (gw:Option Nat) (cw:Nat) (sp:List Value),O=bl (xC m.gd m.gk gw cw sp (wN (D.kept.length - 2) W.fin (Dl b) D k)++[(some Qq,3,[.int .i64 (((W.fin+k) % (D.kept.length - 2):Nat):Int)])])∧Hw (wN (D.kept.length - 2) W.fin (Dl b) D k) gw cw sp∧Hp w0 W1 (bl (Ah m D W)) (xC m.gd m.gk gw cw sp (wN (D.kept.length - 2) W.fin (Dl b) D k)++jF m W++[(some go,5,u8s (Dl b)++Va),(some Qq,3,[.int .i64 (((W.fin+k) % (D.kept.length - 2):Nat):Int)])]))
  (fun _ _=>False)
  (fun ch W1=>ch=iW∧∃ k,k < Eb b.length∧Ro (D.kept.length - 2) W.fin (Dl b) D k∧((wN (D.kept.length - 2) W.fin (Dl b) D k).write ((2+(W.fin+k) % (D.kept.length - 2):Nat):Int) (rB (Dl b) k)).2≠0∧∃ (gw:Option Nat) (cw:Nat) (sp:List Value),Hw (wN (D.kept.length - 2) W.fin (Dl b) D (k+1)) gw cw sp∧Hp w0 W1 (bl (Ah m D W)) (xC m.gd m.gk gw cw sp (wN (D.kept.length - 2) W.fin (Dl b) D (k+1))++jF m W))
  (bl (xC m.gd m.gk m.gw m.cw m.sp (wN (D.kept.length - 2) W.fin (Dl b) D 0)++[(some Qq,3,[.int .i64 (((W.fin+0) % (D.kept.length - 2):Nat):Int)])]))
  (fun x hx hx2=>by
   rcases List.mem_cons.1 hx2 with rfl | hx2
   · exact Bh H6 (i:=8) Y (is:=[0,1,2,7]) (by decide) (by simpa[bl]using hx)
   · rw[List.mem_singleton.1 hx2]at hx;exact Bh H6 (i:=9) rfl (is:=[0,1,2,7]) (by decide) (by simpa[bl]using hx))
  (fun l args=>(l.set 35 (args.getD 0 undef)).set 5 (args.getD 0 undef))
  (fun k W1 O hJ=>by obtain⟨_,gw,cw,sp,rfl,_,HJ⟩:=hJ;exact sE (HJ.pick [0,1,2,7] (by decide)))
  (fun k W1 O W2 L hJ hL HL hnl=>by obtain⟨h1,gw,cw,sp,h2,h3,HJ⟩:=hJ;exact⟨h1,gw,cw,sp,h2,h3,HJ.loop HL hnl (by omega)⟩)
  (fun _ _ _ _ hx=>hx.elim)
  (fun k W1 args G hI=>by obtain⟨rfl,rfl⟩:=hI;exact⟨rfl,by simp,fun _ _ _ _ _=>⟨rfl,rfl⟩⟩)
  ⟨fun j hj=>absurd hj (by omega),m.gw,m.cw,m.sp,rfl,hD,hq0⟩ ?_ ?_ ?_ (fun _ _ _ hx=>hx.elim) ?_
 rintro k W1 args G L ⟨rfl,rfl⟩
 change Run _ _ _ _ [_,_,_,_,_,_,_,_,_,_,_,_,_,_,_,_,_,_,_,_,_,_,_,_,_,_,_,_,_,_,_,_,_,_,_,_,_,_,_,_,_,_,_,_,_,_,_,_,_,_,_,_,_,_] _
 refine zJ Y (fun _ _ h=>(by cases h.1))<|Xa Y<|OE ?_
 change Run _ _ _ _ [_,_,_,_,_,_,_,_,_,_,_,_,_,_,_,_,_,_,_,_,_,_,_,_,_,_,_,_,_,_,_,_,_,_,_,_,_,_,_,_,_,_,_,_,_,_,_,_,_,_,_,_,_,_] _
 refine zA<|⟨Y,Y,Y,Y⟩
 rintro k W1 O args G L hk ⟨hok,gw,cw,sp,rfl,Y5,HJ⟩ ⟨rfl,rfl⟩ _
 have hbd:=oY (D.kept.length - 2) W.fin (Dl b) D k
 have hmk:=Y5.most
 have HB:=(HJ.pick [0,1,2,7] (by decide)).here
 change Hp W1 W1 (bl (xC m.gd m.gk gw cw sp (wN (D.kept.length - 2) W.fin (Dl b) D k)++[(some Qq,3,[.int .i64 (((W.fin+k) % (D.kept.length - 2):Nat):Int)])])) (xC m.gd m.gk gw cw sp (wN (D.kept.length - 2) W.fin (Dl b) D k)++[(some Qq,3,[.int .i64 (((W.fin+k) % (D.kept.length - 2):Nat):Int)])])at HB
 have Vg:=xL hwx HJ hwn
 have Vf:Qe∉bl (xC m.gd m.gk gw cw sp (wN (D.kept.length - 2) W.fin (Dl b) D k)++[(some Qq,3,[.int .i64 (((W.fin+k) % (D.kept.length - 2):Nat):Int)])]):=eS (HJ.pick [0,1,2,7] (by decide)) Yz hwn
 have Ie:=HJ.cell (i:=3) (o:=0) rfl rfl
 have ZT:m.gv∉bl (xC m.gd m.gk gw cw sp (wN (D.kept.length - 2) W.fin (Dl b) D k)++[(some Qq,3,[.int .i64 (((W.fin+k) % (D.kept.length - 2):Nat):Int)])]):=Bh HJ (i:=3) rfl (is:=[0,1,2,7]) (by decide)
 have ZW:go∉bl (xC m.gd m.gk gw cw sp (wN (D.kept.length - 2) W.fin (Dl b) D k)++[(some Qq,3,[.int .i64 (((W.fin+k) % (D.kept.length - 2):Nat):Int)])]):=Bh HJ (i:=6) rfl (is:=[0,1,2,7]) (by decide)
 have e64:(rB (Dl b) k).length=64:=dB (by rw[hfl];omega)
 have hck:Rd W1 (some ⟨go,64*k,none⟩) (rB (Dl b) k).length 1 (u8s (rB (Dl b) k)):=by
  refine⟨yV _,fun a hx j u hu=>?_,by simp⟩
  simp only[Option.some.injEq]at hx
  subst hx
  rw[Addr.add_lit]
  refine HJ.cell (i:=6) Y ?_
  have hj:j < 64:=by have:=lt_of_get hu;rw[zY,e64]at this;exact this
  have h2:(u8s (Dl b))[64*k+j]? =some u:=by
   rw[← hu];simp[rB,u8s,hj]
  rw[List.getElem?_append_left (lt_of_get h2)]
  exact h2
 change Run _ _ _ _ [_,_,_,_,_,_,_,_,_,_,_,_,_,_,_,_,_,_,_,_,_,_,_,_,_,_,_,_,_,_,_,_,_,_,_,_,_,_,_,_,_,_,_,_,_,_,_,_,_,_,_,_,_,_] _
 refine wH<|zN<|L9 7 yG (by kernel_rfl) Y (fun _ _ h=>h) ?_
 rintro w7 hw7
 have H7:=Hp.drew HB;rw[← hw7]at H7
 refine SV (EL uC Y (xL Vg H7 Vf))<|SV (yI Y)<|SV (EF qY Y)<|SV (EL AZ Y (xL Ie H7 ZT))<|vJ e54<|SV (EL ty3 Y (H7.cell (i:=3) Y Y))<|SV (zL Y Y ((IntWalk.i64_in _ (by have:=Nat.mod_lt (W.fin+k) hR;omega)).trans (show(2:Int)+(((W.fin+k) % (D.kept.length - 2):Nat):Int)=((2+(W.fin+k) % (D.kept.length - 2):Nat):Int) by omega)))<|SV (zK Y)<|xU ?_
 have hwr:=bY m.gd m.gk gw cw sp (wN (D.kept.length - 2) W.fin (Dl b) D k) w7 (H7.pick [0,1,2] (by decide)).here Y5 ((2+(W.fin+k) % (D.kept.length - 2):Nat):Int) (some ⟨go,64*k,none⟩) (rB (Dl b) k) 64 (hck.to H7 (fun a hx=>by cases hx;exact ZW)) (fun a hx hy=>by cases hx;exact ZW (Df (is:=[0,1,2]) H7 _ hy)) (by omega)
 rw[e64]at hwr
 refine OQ (EC gf77 Y) hwr ?_
 rintro r w8 ⟨hr2,Uf,Uj,sp2,hD2,Hd⟩
 rw[hr2]
 have H8:=(H7.Am [0,1,2] rfl Hd).pick [4,5,6,3] (by decide)
 refine Aa e54<|rC (EC F0 Y) (pN _ _) ?_ ?_
 rintro ch wz ⟨hcd,rfl,rfl⟩
 refine⟨Y,by rw[List.append_nil];exact H8.Ac,Y,k,hk,hok,hcd,Uf,Uj,sp2,hD2,?_⟩
 have hz:=(HJ.Am [0,1,2,7] rfl H8).pick [8,9,10,3,4,5] (by decide)
 exact hz
 rintro r wz ⟨hcd,rfl⟩
 refine OE ?_
 change Run _ _ _ _ [_,_,_,_,_,_,_,_,_,_,_,_,_,_,_,_,_,_,_,_,_,_,_,_,_,_,_,_,_,_,_,_,_,_,_,_,_,_,_,_,_,_,_,_,_,_,_,_,_,_,_,_,_,_] _
 refine zR 5 [(true,0),(true,1),(true,2),(false,3),(true,4),(false,5)] H8 [0,3] yG (by decide) (by kernel_rfl) Y ?_
 rintro w9 Qx
 have H9:=Hp.drew H8;rw[← Qx]at H9
 refine MP Y<|MV (fun wz hz=>EL ty3 Y (hz.cell (i:=1) Y Y))<|MP Y<|MV (fun wz hz=>zL Y Y ((IntWalk.i64_in _ (by have:=Nat.mod_lt (W.fin+k) hR;omega)).trans (TG (n:=D.kept.length) (a:=W.fin) (k:=k) (by omega) (by omega) (by omega)).1))<|MP Y<|MV (fun wz hz=>EL uC Y (xL Vg hz Vf))<|MO Y<|wP (EC VT Y) (FK m.gv m.gd (wN (D.kept.length - 2) W.fin (Dl b) D (k+1)).kept.length _ _ _ (xL Ie H9 ZT) (H9.cell (i:=0) Y Y) (by rw[(oY (D.kept.length - 2) W.fin (Dl b) D (k+1)).2];exact hkept)) ?_
 rw[(oY (D.kept.length - 2) W.fin (Dl b) D (k+1)).2]
 refine OE ?_
 refine⟨fun hne=>H9.pick [0,3] (by decide),?_⟩
 refine cZ e54<|MP Y<|MV (fun wz hz=>fP Y Y (by omega) ((TG (n:=D.kept.length) (a:=W.fin) (k:=k) (by omega) (by omega) (by omega)).2))<|MO Y<|OW ty3 H9 3 Y Y Y Y (by first|exact NL Y|simp[zH]) Y<|fun w10 Ar=>OE<|⟨fun hne=>absurd Y hne,?_⟩
 refine cZ e54<|ME ?_
 change Run _ _ _ _ [_,_,_,_,_,_,_,_,_,_,_,_,_,_,_,_,_,_,_,_,_,_,_,_,_,_,_,_,_,_,_,_,_,_,_,_,_,_,_,_,_,_,_,_,_,_,_,_,_,_,_,_,_,_] _
 refine zA (zB ?_)
 refine zA ?_
 refine⟨Y,by rw[List.append_nil];exact Ar.Ac,bl (xC m.gd m.gk Uf Uj sp2 (wN (D.kept.length - 2) W.fin (Dl b) D (k+1))++[(some Qq,3,[.int .i64 (((W.fin+(k+1)) % (D.kept.length - 2):Nat):Int)])]),fun x hx=>by rw[List.append_nil];exact bl_place Ar x hx,NC hok hcd,Uf,Uj,sp2,Y,hD2,?_⟩
 have hz:=(HJ.Am [0,1,2,7] rfl Ar).pick [8,9,10,3,4,5,6,11] (by decide)
 exact hz
 rintro Dm W1 O ⟨hok,gw,cw,sp,rfl,Y5,HJ⟩ Vs hDl
 have hbd:=oY (D.kept.length - 2) W.fin (Dl b) D (Eb b.length)
 have HB:=HJ.here
 have Vg:=xL hwx HJ hwn
 have Vf:=eS HJ Yz hwn
 have hbx1:=xL hbx HJ hbn
 have hbxn:=eS HJ hbxl hbn
 have hr1:=Rd.WX hr HJ ha
 have ha1:0 < b.length→∀ p,A=some p→p.block∉bl (xC m.gd m.gk gw cw sp (wN (D.kept.length - 2) W.fin (Dl b) D (Eb b.length))++jF m W++[(some go,5,u8s (Dl b)++Va),(some Qq,3,[.int .i64 (((W.fin+(Eb b.length)) % (D.kept.length - 2):Nat):Int)])]):=fun h0 p hp=>eS HJ (MI hr h0 hp) (ha h0 p hp)
 have ZM:Gg W1 (xC m.gd m.gk gw cw sp (wN (D.kept.length - 2) W.fin (Dl b) D (Eb b.length))++jF m W++[(some go,5,u8s (Dl b)++Va),(some Qq,3,[.int .i64 (((W.fin+(Eb b.length)) % (D.kept.length - 2):Nat):Int)])]) m.xs W.recs:=Ec.to HJ
 refine zA (zB ?_)
 refine zR 3 [(true,0),(true,1),(false,2),(false,3)] HB [0] yG (by decide) (by kernel_rfl) Y ?_
 rintro w7 hw7
 have H7:=Hp.drew HB;rw[← hw7]at H7
 refine MP Y<|MV (fun wz hz=>EL uC Y (xL Vg hz Vf))<|MP Y<|MV (fun wz hz=>EL xK Y (xL hbx1 hz hbxn))<|MO Y<|yW (EC kZ Y) (vI A b c _ (Rd.WX hr1 H7 ha1) (by omega))<|fun w8 g11 c11 s11 X4 Xw Ua Py=>?_
 have hfr:∀ p,hd g11=some p→w0.heap.size≤p.block:=by
  intro p hp
  cases g11 with
  | none=>simp[hd]at hp
  | some gx=>
   simp only[hd,Option.map_some,Option.some.injEq]at hp
   subst hp
   have h1:=Py.place (i:=0) rfl
   have h2:=H7.size
   have h3:=HJ.size
   rcases h1 with h1 | h1
   · cases h1
   · show w0.heap.size≤gx
     omega
 have H8:=H7.call0 Py
 refine OE ?_
 refine⟨fun hne=>H8.pick [0] (by decide),?_⟩
 refine cZ e54<|MO Y ?_
 have hbl:∀ x∈bl (Ah { m with gw:=gw,cw:=cw,sp:=sp } (wN (D.kept.length - 2) W.fin (Dl b) D (Eb b.length)) W),x∈bl (xC m.gd m.gk gw cw sp (wN (D.kept.length - 2) W.fin (Dl b) D (Eb b.length))++jF m W++[(some go,5,u8s (Dl b)++Va),(some Qq,3,[.int .i64 (((W.fin+(Eb b.length)) % (D.kept.length - 2):Nat):Int)])]):=fun x hx=>Df (is:=[0,1,2,3,4,5]) HJ x (by simpa[bl]using hx)
 have hw6:Eo w8 { m with gw:=gw,cw:=cw,sp:=sp } (wN (D.kept.length - 2) W.fin (Dl b) D (Eb b.length)) W:={ h with d:=Y5,lst:=(ZM.to H8).less (fun x hx=>Df (is:=[0,1,2,3,4,5]) H8 x (by simpa[bl]using hx)),size:=by rw[hbd.2];exact hsize,fin:=by rw[hbd.2];exact hfin }
 refine OQ (EC gf79 rfl) (CO { m with gw:=gw,cw:=cw,sp:=sp } (wN (D.kept.length - 2) W.fin (Dl b) D (Eb b.length)) W w8 (H8.pick [0,1,2,3,4,5] (by decide)).here hw6 (hd g11) b c11 (H8.rd (i:=8) (xs:=u8s b) (sp:=s11) rfl (yV b) (by decide)) (fun _ p hp hx=>by
  cases g11 with
  | none=>simp[hd]at hp
  | some gx=>simp only[hd,Option.map_some,Option.some.injEq]at hp;subst hp;exact Bh H8 (i:=8) rfl (is:=[0,1,2,3,4,5]) (by decide) hx) hb hn hu0) ?_
 rintro r w9 ⟨m3,e1,e2,e3,e4,Nl,H3⟩
 have H9:=H8.Am [0,1,2,3,4,5] rfl H3
 refine OE ?_
 refine⟨fun hne=>absurd Y hne,?_⟩
 refine cZ e54<|ME ?_
 change Run _ _ _ _ [_,_,_,_,_,_,_,_,_,_,_,_,_,_,_,_,_,_,_,_,_,_,_,_,_,_,_,_,_,_,_,_,_,_,_,_,_,_,_,_,_,_,_,_,_,_,_,_,_,_,_,_,_,_] _
 refine zA ?_
 have Rf:w9.heap[Dm]? =some (.deferred (some [])):=(H9.frame Dm (Array.getElem?_eq_some_iff.1 Vs).1 (fun hx=>by obtain⟨arr,T,z,hh⟩:=sE HJ Dm hx;rw[Vs]at hh;cases hh)).trans Vs
 have H8:Hp w0 w9 (bl (Ah m D W)) (Ah m3 (wN (D.kept.length - 2) W.fin (Dl b) D (Eb b.length)) (W.took D b)):=by
  rw[GO (W:=W) (D:=D) (D':=wN (D.kept.length - 2) W.fin (Dl b) D (Eb b.length)) hbd.2.symm b]
  have hz:=(HJ.Am [0,1,2,3,4,5,6,7] rfl H9).pick [17,18,19,20,21,22] (by decide)
  exact hz
 have H9:=H8.loop (Hp.Qi (.deferred none) Rf) (NG Rf) (by omega)
 refine⟨Dm,_,Y,run_takeDeferred Rf,_,mY Y _ _,hok,m3,e1,e2,e3,by rw[e4];exact gH.snoc hfr,?_,H9⟩
 rw[GO (W:=W) (D:=D) (D':=wN (D.kept.length - 2) W.fin (Dl b) D (Eb b.length)) hbd.2.symm b]at H9 ⊢
 exact { Nl with lst:=Nl.lst.loop (Hp.Qi (.deferred none) Rf) (NG Rf) }
 rintro Dm ch W1 ⟨rfl,k,hk,hok,hcd,gw,cw,sp,Y5,HJ⟩ Vs hDl
 have H9:=HJ.loop (Hp.Qi (.deferred none) Vs) (NG Vs) (by omega)
 have hbd:=oY (D.kept.length - 2) W.fin (Dl b) D (k+1)
 refine⟨Dm,W1.putObj Dm (.deferred none),rfl,run_takeDeferred Vs,rfl,k,hk,hok,hcd,{ m with gw:=gw,cw:=cw,sp:=sp },rfl,rfl,rfl,gH.refl _ _,?_,H9⟩
 exact { h with d:=Y5,lst:=Ec.to H9,size:=by rw[hbd.2];exact hsize,fin:=by rw[hbd.2];exact hfin }
end Rn
end Go.Proofs.YtjoeklkmnfaabaaGreat
namespace Go.Proofs.YtjoeklkmnfaabaaGreat
set_option maxRecDepth 100000
set_option maxHeartbeats 4000000
open Go Go.RowKit
set_option linter.unusedVariables false
attribute [local irreducible] yT Ops zP Cd
theorem FY (gb ge:Nat) (w0:World):CallsDIn (FR none) 0 Tryz.prog 121 #[.pointer (some ⟨gb,0,none⟩),.pointer (some ⟨ge,0,none⟩)] .returning w0 fun e u1 w'=>∃ r,e=.returned r∧u1=.returning∧w'=w0:=by
 have hz:=dS (k:=121) (w:=w0) (R:=fun _ w'=>w'=w0) Tryz.func121 Tryz.ntmps121 rfl (.inl ⟨rfl,rfl,rfl⟩) (args:=[.pointer (some ⟨gb,0,none⟩),.pointer (some ⟨ge,0,none⟩)]) rfl ?_
 exact hz
 refine cR e19<|Rq<|Xm Y<|OV (qK Tryz.underlying20 ⟨_,Y⟩ Y)<|Xr e19<|J4 Y<|J6<|zA<|yN Y<|rfl
theorem FZ (m:Mw) (D:Dk) (W:Wl) (w0:World) (gb ge:Nat) (x:Int) (H1:Hp w0 w0 (bl (Ah m D W++[(some ge,24,[.int .i64 x])])) (Ah m D W++[(some ge,24,[.int .i64 x])])) (hb:w0.cell? ⟨gb,0,none⟩=some (.pointer (some ⟨m.gv,0,none⟩))) (hbn:gb∉bl (Ah m D W++[(some ge,24,[.int .i64 x])])):CallsDIn (FR none) 0 Tryz.prog 121 #[.pointer (some ⟨gb,0,none⟩),.pointer (some ⟨ge,0,none⟩)] (.panicking iW) w0 fun e u1 w'=>∃ r,e=.returned r∧u1=.panicking [{ v:=Qg,recovered:=true }]∧Hp w0 w' (bl (Ah m D W++[(some ge,24,[.int .i64 x])])) (Ah m D { W with dead:=true }++[(some ge,24,[.int .i64 40])]):=by
 have hz:=dS (k:=121) (w:=w0) (R:=fun _ w'=>Hp w0 w' (bl (Ah m D W++[(some ge,24,[.int .i64 x])])) (Ah m D { W with dead:=true }++[(some ge,24,[.int .i64 40])])) Tryz.func121 Tryz.ntmps121 rfl (.inr ⟨Qg,rfl,rfl,rfl⟩) (args:=[.pointer (some ⟨gb,0,none⟩),.pointer (some ⟨ge,0,none⟩)]) rfl ?_
 exact hz
 refine cR e19 ?_
 have H:=H1
 refine Rq<|Xm Y<|OV (lO Tryz.underlying20 ⟨_,Y⟩ Y)<|Xr e19<|J3 Y<|J1<|Rq<|Xm Y<|OV (bT Tryz.underlying116 (fun ms h=>(by cases h)) Y)<|Xm Y<|Xe Y Y<|Aa e19<|Xe Y Y<|OA ty116 H<|fun w1 g1 H1 hg1=>OS ty116 H1 7 (o:=0) (cs:=[]) (vs:=[]) Y Y Y Y Y (by decide) Y<|fun w2 H2=>Xa Y<|Xr e19<|Rq<|Xm Y<|Xn Y<|Xr e19<|J4 Y<|J6<|Rq<|OV (EL uC Y (xL hb H2 hbn))<|Xc Y<|Xf mE Y<|OW ty4 H2 3 Y Y Y Y (by first|exact NL Y|simp[zH]) Y<|fun w3 H3=>Xr e19 ?_
 refine J2<|OW pR H3 6 Y Y Y Y (by first|exact NL Y|simp[zH]) Y<|fun w4 H4=>Xr e19<|zA<|yN Y ?_
 have hy:=H4.pick [0,1,2,3,4,5,6] (by decide)
 exact hy
namespace Rn
attribute [local irreducible] Cd
theorem Qp (m:Mw) (D:Dk) (W:Wl) (w0:World) (H0:Hp w0 w0 (bl (Ah m D W)) (Ah m D W)) (h:Eo w0 m D W) (Vu:FuncId) (lb:List Value) (hgo:yB Tryz.prog Vu=true) (Y7:Dk→Wl→Prop) (Fail:Dk→Prop) (hdo:∀ w1,Hp w0 w1 (bl (Ah m D W)) (Ah m D W)→Eo w1 m D W→rV Tryz.prog Vu lb.toArray w1 (fun _ w2=>∃ D' W',Y7 D' W'∧vY w1 w2 (bl (Ah m D W)) m D' W') (fun ch w2=>ch=iW∧∃ D',Fail D'∧vY w1 w2 (bl (Ah m D W)) m D' W)):rV Tryz.prog 74 #[.pointer (some ⟨m.gv,0,none⟩),.func (.func Vu) #[] lb.toArray] w0 (fun r w'=>((W.dead || D.down)=true∧r=.int .i64 40∧vY w0 w' (bl (Ah m D W)) m (D) ({ W with dead:=true }))∨((W.dead || D.down)=false∧((r=.int .i64 0∧∃ D' W',Y7 D' W'∧vY w0 w' (bl (Ah m D W)) m (D') (W'))∨(r=.int .i64 40∧∃ D',Fail D'∧vY w0 w' (bl (Ah m D W)) m (D') ({ W with dead:=true }))))) (fun _ _=>False):=by
 refine EA Tryz.func74 Tryz.ntmps74 Y ?_
 change Run _ _ _ _ [.pointer (some ⟨m.gv,0,none⟩),.func (.func Vu) #[] lb.toArray,undef,undef,undef,undef,undef,undef,undef,undef] _
 have H:=H0
 refine zN<|zJ Y (fun _ _ h=>h)<|yA Y Y H<|fun w1 gb H1 hgb=>OA pR H1<|fun w2 ge H2 hge=>OE ?_
 change Run _ _ _ _ [_,_,_,_,_,_,_,_,_,_] _
 refine zN<|zN<|zJ Y (fun _ _ h=>h)<|OV (EL uC Y (H2.cell (i:=6) Y Y))<|OC (EC gf72 Y) (eC m D W _ (H2.pick [0,1,2,3,4,5] (by decide)).here (h.move H2 [0,1,2,3,4,5] Y))<|fun w3 Hc=>?_
 have H3:=(H2.Am [0,1,2,3,4,5] rfl Hc).pick [8,9,10,11,12,13,6,7] (by decide)
 have hlw:=(h.lst.to (H2.Am [0,1,2,3,4,5] rfl Hc)).less (es':=_) (fun x hx=>Df (is:=[8,9,10,11,12,13,6,7]) (H2.Am [0,1,2,3,4,5] rfl Hc) x hx)
 refine OE ?_
 change Run _ _ _ _ [_,_,_,_,_,_,_,_,_,_] _
 refine wU Y (fun hb6=>?_) (fun hb6=>?_)
 rw[hb6]at H3
 refine zN<|zJ Y (fun _ _ h=>h)<|OW pR H3 7 Y Y Y Y (by first|exact NL Y|simp[zH]) Y<|fun w4 H4=>OE ?_
 change Run _ _ _ _ [_,_,_,_,_,_,_,_,_,_] _
 refine wF<|O7 (oI Y pR Y (H4.cell (i:=7) Y Y)) (.inl ⟨hb6,Y,m,Y,Y,Y,gH.refl _ _,?_,?_⟩)
 exact { h with lst:=(h.lst.to H4).less (fun x hx=>Df (is:=[0,1,2,3,4,5]) H4 x hx) }
 have hy:=H4.pick [0,1,2,3,4,5] (by decide)
 exact hy
 have hWe:({ W with dead:=W.dead || D.down }:Wl)=W:=by rw[hb6];have hx:=(Bool.or_eq_false_iff.1 hb6).1;cases W;simp at hx;subst hx;rfl
 rw[hWe]at H3
 refine xH<|zN<|aH Y Y ?_
 change Run _ _ _ _ [_,_,_,_,_,_,_,_,_,_] _
 refine zN<|zJ Y (fun _ _ h=>h)<|Xm Y ?_
 have hwk:Eo w3 m D W:=h.move H3 [0,1,2,3,4,5] rfl
 have hl8:=h.lst.to H3
 have hgel:=H3.lt (i:=7) rfl
 have hF8:∀ x∈bl [((some ge,24,[Value.int .i64 0]):Ent)],x∈bl (Ah m D W++[(some gb,65,[.pointer (some ⟨m.gv,0,none⟩)]),(some ge,24,[Value.int .i64 0])])∧x < w3.heap.size:=by
  intro x hx
  have hx2:x=ge:=by simpa[bl]using hx
  subst hx2
  exact⟨by simp[bl],hgel⟩
 have hsz0:=H3.size
 have hdo1:=hdo w3 (by have hy:=H3.pick [0,1,2,3,4,5] (by decide);exact hy) hwk
 refine rC (xI hgo Y Y) (by simpa using hdo1) ?_ ?_
 rintro ch wz ⟨rfl,D1,hF,m1,e1,e2,e3,e4,hok1,Hd⟩
 have hy:=(H3.Am [0,1,2,3,4,5] rfl Hd).pick [8,9,10,11,12,13,7,6] (by decide)
 have hy7:=hy.pick [0,1,2,3,4,5,6] (by decide)
 have hbx:=hy.cell (i:=7) (o:=0) rfl rfl
 have hbn:=Bh hy (i:=7) rfl (is:=[0,1,2,3,4,5,6]) (by decide)
 have hlz:=Gg.frame hl8 e4 hok1.lst hF8
 refine jS UB (.inr ⟨Qg,Y,Y,Y⟩) ?_
 obtain⟨hx1,hx2⟩:=FZ m1 D1 W wz gb ge 0 hy7.here (by rw[e3];exact hbx) hbn
 refine⟨hx1,fun c cs hu hr=>?_⟩
 obtain⟨e,u1,w',fr,⟨r,he,hu1,HX⟩,hrest⟩:=hx2 c cs hu hr
 refine⟨e,u1,w',fr,⟨r,he,hu1,_,oI Y pR Y (HX.cell (i:=6) (o:=0) Y Y),.inr ⟨hb6,.inr ⟨Y,D1,hF,m1,e1,e2,e3,(gH.refl _ _).trans e4 hsz0,?_,?_⟩⟩⟩,hrest⟩
 exact { hok1 with lst:=(hlz.to HX).less (fun x hx=>Df (is:=[0,1,2,3,4,5]) HX x hx) }
 have hz:=(hy.Am [0,1,2,3,4,5,6] rfl HX).pick [8,9,10,11,12,13] (by decide)
 exact hz
 rintro r w4 ⟨D1,W1,hRes,m1,e1,e2,e3,e4,hok1,Hd⟩
 have Hold:=(H3.Am [0,1,2,3,4,5] rfl Hd).pick [8,9,10,11,12,13,6,7] (by decide)
 have hlz:=Gg.frame hl8 e4 hok1.lst hF8
 have H4:=(Hold.pick [0,1,2,3,4,5,7] (by decide)).here
 refine OE ?_
 change Run _ _ _ _ [_,_,_,_,_,_,_,_,_,_] _
 refine zN<|zJ Y (fun _ _ h=>h)<|OW pR H4 6 Y Y Y Y (by decide) Y<|fun w5 H5=>OE ?_
 change Run _ _ _ _ [_,_,_,_,_,_,_,_,_,_] _
 refine wF<|jS UB (.inl ⟨Y,Y,Y⟩) ?_
 obtain⟨hx1,hx2⟩:=FY gb ge w5
 refine⟨hx1,fun c cs hu hr=>?_⟩
 obtain⟨e,u1,w',fr,⟨r,he,hu1,hww⟩,hrest⟩:=hx2 c cs hu hr
 rw[hww]at hrest
 refine⟨e,u1,w5,fr,⟨r,he,hu1,_,oI Y pR Y (H5.cell (i:=6) (o:=0) Y Y),.inr ⟨hb6,.inl ⟨Y,D1,W1,hRes,m1,e1,e2,e3,(gH.refl _ _).trans e4 hsz0,?_,?_⟩⟩⟩,hrest⟩
 exact { hok1 with lst:=(hlz.to H5).less (fun x hx=>Df (is:=[0,1,2,3,4,5]) H5 x hx) }
 have hz:=(Hold.Am [0,1,2,3,4,5,7] rfl H5).pick [8,9,10,11,12,13] (by decide)
 exact hz
end Rn
end Go.Proofs.YtjoeklkmnfaabaaGreat
namespace Go.Proofs.YtjoeklkmnfaabaaGreat
set_option maxRecDepth 100000
set_option maxHeartbeats 4000000
open Go Go.RowKit
set_option linter.unusedVariables false
attribute [local irreducible] yT Ops zP Cd
theorem half (n:Nat) (h:n≤16384):IntKind.i64.wrap (((n:Nat):Int).tdiv 2)=((n / 2:Nat):Int):=by
 rw[show(((n:Nat):Int)).tdiv 2=((n / 2:Nat):Int) from rfl]
 exact IntWalk.i64_in _ (by omega)
def GF (D:Dk) (W:Wl) (b:Blk) (x:Int) (D':Dk) (W':Wl):Prop:=
 (16384 < b.length∧x=22∧D'=D∧W'=W)∨
 (b.length≤16384∧(W.dead || D.down)=true∧x=40∧D'=D∧W'={ W with dead:=true })∨
 (b.length≤16384∧(W.dead || D.down)=false∧D.kept.length / 2 < used W.recs+wgt b.length+16∧x=3∧D'=D∧W'=W)∨
 (b.length≤16384∧(W.dead || D.down)=false∧used W.recs+wgt b.length+16≤D.kept.length / 2∧
  ((Ro (D.kept.length - 2) W.fin (Dl b) D (Eb b.length)∧x=0∧D'=wN (D.kept.length - 2) W.fin (Dl b) D (Eb b.length)∧W'=W.took D b)∨
   (x=40∧∃ k,k < Eb b.length∧Ro (D.kept.length - 2) W.fin (Dl b) D k∧((wN (D.kept.length - 2) W.fin (Dl b) D k).write ((2+(W.fin+k) % (D.kept.length - 2):Nat):Int) (rB (Dl b) k)).2≠0∧D'=wN (D.kept.length - 2) W.fin (Dl b) D (k+1)∧W'={ W with dead:=true })))
theorem SA {W:Wl} {D:Dk} (h:(W.dead || D.down)=false):({ W with dead:=W.dead || D.down }:Wl)=W:=by
 rw[h];have hx:=(Bool.or_eq_false_iff.1 h).1;cases W;simp at hx;subst hx;rfl
theorem dE {w0 w:World} {m:Mw} {D:Dk} {W:Wl} {es:List Ent} (h:Eo w0 m D W) (H:Hp w0 w (bl (Ah m D W)) es) (is:List Nat) (hnd:is.Nodup) (e:Ah m D W=is.map fun i=>es.getD i (none,0,[])):vY w0 w (bl (Ah m D W)) m D W:=vY.here h H rfl is hnd e rfl id
theorem P4 {w0 w:World} {m:Mw} {D:Dk} {W:Wl} {es:List Ent} (h:Eo w0 m D W) (H:Hp w0 w (bl (Ah m D W)) es) (is:List Nat) (hnd:is.Nodup) (e:Ah m D { W with dead:=true }=is.map fun i=>es.getD i (none,0,[])):vY w0 w (bl (Ah m D W)) m D { W with dead:=true }:=vY.here h H rfl is hnd e rfl (fun h=>{ h with })
theorem jT (m:Mw) (D:Dk) (W:Wl) (w0:World) (H0:Hp w0 w0 (bl (Ah m D W)) (Ah m D W)) (h:Eo w0 m D W) (Vu:FuncId) (lb:List Value) (hgo:yB Tryz.prog Vu=true) (Y7:Dk→Wl→Prop) (Fail:Dk→Prop) (hdo:∀ w1,Hp w0 w1 (bl (Ah m D W)) (Ah m D W)→Eo w1 m D W→rV Tryz.prog Vu lb.toArray w1 (fun _ w2=>∃ D' W',Y7 D' W'∧vY w1 w2 (bl (Ah m D W)) m D' W') (fun ch w2=>ch=iW∧∃ D',Fail D'∧vY w1 w2 (bl (Ah m D W)) m D' W)):zP Tryz.prog 74 #[.pointer (some ⟨m.gv,0,none⟩),.func (.func Vu) #[] lb.toArray] w0 (fun r w'=>∃ (x:Int) (D':Dk) (W':Wl),r=.int .i64 x∧(((W.dead || D.down)=true∧x=40∧D'=D∧W'={ W with dead:=true })∨((W.dead || D.down)=false∧((x=0∧Y7 D' W')∨(x=40∧Fail D'∧W'={ W with dead:=true }))))∧vY w0 w' (bl (Ah m D W)) m (D') (W')):=by
 refine(Rn.Qp m D W w0 H0 h Vu lb hgo Y7 Fail hdo).d (fun _ _ h=>h) |>.mono ?_
 rintro r w' (⟨h1,h2,h3⟩ | ⟨h1,⟨h2,D',W',h3,h4⟩ | ⟨h2,D',h3,h4⟩⟩)
 exact⟨40,D,_,h2,.inl ⟨h1,Y,Y,Y⟩,h3⟩
 exact⟨0,D',W',h2,.inr ⟨h1,.inl ⟨Y,h3⟩⟩,h4⟩
 exact⟨40,D',_,h2,.inr ⟨h1,.inr ⟨Y,h3,Y⟩⟩,h4⟩
theorem lA {P:Program} {ds:List Deferred} {Q:vN} {K:List Value→World→Prop} {all os:List Oper} {l:List Value} {w:World} {op:Op} {ty:TypeId} {pos:String} {af:Array Edge} {d:Tmp} {f:FuncId} {args:Array Value} {X:Int→World→Dk→Wl→Prop} {Y:Int→World→Dk→Wl→Prop}
 (hx:Ex P l op ty w (.enter f args) w) (hc:zP P f args w fun r w'=>∃ (x:Int) (D':Dk) (W':Wl),r=.int .i64 x∧X x w' D' W'∧Y x w' D' W')
 (h:∀ w' x,(∃ D' W',X x w' D' W'∧Y x w' D' W')→Ops P ds all K Q os (l.set d (.int .i64 x)) w'):Ops P ds all K Q (⟨some d,op,ty,pos,af,none⟩::os) l w:=
 tE hx hc fun r w' ⟨x,D',W',h1,h2,h3⟩=>by rw[h1];exact h w' x ⟨D',W',h2,h3⟩
theorem bL (m:Mw) (D:Dk) (W:Wl) (w0:World) (H0:Hp w0 w0 (bl (Ah m D W)) (Ah m D W)) (h:Eo w0 m D W) (A:Option Addr) (b:Blk) (c:Nat) (hr:Rd w0 A b.length 1 (u8s b)) (ha:0 < b.length→∀ p,A=some p→p.block∉bl (Ah m D W)) (hbl:b.length≤2^60) (hwt:D.wait.length≤1000000000):zP Tryz.prog 35 #[.pointer (some ⟨m.gv,0,none⟩),.slice A b.length c] w0 (fun r w'=>∃ x D' W',r=.int .i64 x∧GF D W b x D' W'∧vY w0 w' (bl (Ah m D W)) m (D') (W')):=by
 refine zE Tryz.func35 Tryz.ntmps35 Y<|cR e31 ?_
 have H:=H0
 have Dh:=h.d.most
 have hsz:=h.size
 have hus:=h.used
 refine Rq<|yA Y Y H<|fun w1 g6 H1 Vo=>yA Y Y H1<|fun w2 g7 H2 hg7=>Xa Y<|Xr e31<|J1<|Rq<|OV (EL uC Y (H2.cell (i:=6) Y Y))<|Dy (yE Tryz.underlying65 Y) (by simp)<|Xr e31<|J4 Y<|J6<|J1<|Rq<|OV (EL xK Y (H2.cell (i:=7) Y Y))<|OV (ES Tryz.underlying73 Y)<|OT (yO Y Y) (fun hp9=>?_) (fun hp9=>?_)
 have hlong:16384 < b.length:=by omega
 refine Xr e31<|J3 Y<|Rq<|Xa Y<|Xr e31<|J5<|Ak Y Y<|⟨_,_,_,Y,.inl ⟨hlong,Y,Y,Y⟩,dE h H2 [0,1,2,3,4,5] (by decide) Y⟩
 have hb:b.length≤16384:=by omega
 refine Xr e31<|J4 Y<|J6<|J1<|Rq<|OV (EL uC Y (H2.cell (i:=6) Y Y))<|OC (EC gf72 Y) (eC m D W _ (H2.pick [0,1,2,3,4,5] (by decide)).here (h.move H2 [0,1,2,3,4,5] Y))<|fun w3 Hc=>?_
 have H3:=(H2.Am [0,1,2,3,4,5] rfl Hc).pick [8,9,10,11,12,13,6,7] (by decide)
 refine Xr e31<|wU Y (fun Nr=>?_) (fun Nr=>?_)
 rw[Nr]at H3
 refine Rq<|Xa Y<|Xr e31<|J5<|Ak Y Y<|⟨_,_,_,Y,.inr (.inl ⟨hb,Nr,Y,Y,Y⟩),P4 h H3 [0,1,2,3,4,5] (by decide) Y⟩
 rw[SA Nr]at H3
 refine J6<|J1<|J1<|sW [(true,0),(true,1),(true,2),(true,3),(true,4),(true,5),(true,8),(true,9),(true,10),(true,11),(false,6),(true,7),(false,12),(true,13),(true,14),(true,15)] H3 [0,3,6,7] yG (by decide) (by kernel_rfl) ?_
 rintro w4 hw4
 have H4:=Hp.drew H3;rw[← hw4]at H4
 refine zX Y<|MV (fun wz hz=>EL uC Y (hz.cell (i:=2) Y Y))<|zX Y<|MV (fun wz hz=>yI Y)<|zX Y<|MV (fun wz hz=>EF iV Y)<|zX Y<|MV (fun wz hz=>EL ty3 Y (hz.cell (i:=1) Y Y))<|cM e31<|zX Y<|MV (fun wz hz=>EL xK Y (hz.cell (i:=3) Y Y))<|zX Y<|MV (fun wz hz=>ES Tryz.underlying73 Y)<|zX Y<|MV (fun wz hz=>EL uC Y (hz.cell (i:=2) Y Y))<|zX Y<|MV (fun wz hz=>yI Y)<|cM e31<|zX Y<|MV (fun wz hz=>EF qY Y)<|zX Y<|MV (fun wz hz=>EL AZ Y (hz.cell (i:=1) Y Y))<|G9 Y<|wP (EC VV Y) (jI b.length _ (by omega))<|OE<|⟨H4.pick [0,3,6,7] (by decide),?_⟩
 refine cM e31<|zX Y<|MV (fun wz hz=>zL Y Y (IntWalk.i64_in _ (by have:=AS hb;omega)))<|G9 Y<|wP (EC VW Y) (FG m.gd D.kept.length _ _ _ (H4.cell (i:=0) Y Y))<|OE<|⟨H4.pick [0,3,6,7] (by decide),?_⟩
 refine cM e31<|zX Y<|MV (fun wz hz=>bB Y Y (by omega) (half _ Dh))<|zX Y<|MV (fun wz hz=>uW Y Y (IntWalk.i64_in _ (by omega)))<|zX Y<|vU (fun wz hz=>yO Y Y) (fun XV=>?_) (fun XV=>?_)
 have hfull:D.kept.length / 2 < used W.recs+wgt b.length+16:=by omega
 refine tL<|cR e31<|J3 Y<|Rq<|Xa Y<|Xr e31<|J5<|Ak Y Y<|⟨_,_,_,Y,.inr (.inr (.inl ⟨hb,Nr,hfull,Y,Y,Y⟩)),dE h H4 [0,1,2,3,4,5] (by decide) Y⟩
 have hroom:used W.recs+wgt b.length+16≤D.kept.length / 2:=by omega
 refine tL<|cR e31<|J4 Y<|J6<|Rq<|OV (EL uC Y (H4.cell (i:=6) Y Y))<|OV (wK Y Y) ?_
 have hge:=AY W.recs
 have hwb:2≤wgt b.length:=by unfold wgt;omega
 have hwk:Eo w4 m D W:=h.move H4 [0,1,2,3,4,5] rfl
 have H6:Hp w0 w4 _ (Ah m D W):=H4.pick [0,1,2,3,4,5] (by decide)
 have hc6:=H4.cell (i:=6) (o:=0) rfl rfl
 have Xv:=H4.cell (i:=7) (o:=0) rfl rfl
 have WO:g6∉bl (Ah m D W):=Bh H4 (i:=6) rfl (is:=[0,1,2,3,4,5]) (by decide)
 have XZ:g7∉bl (Ah m D W):=Bh H4 (i:=7) rfl (is:=[0,1,2,3,4,5]) (by decide)
 have hg:=jT m D W w4 H6.here hwk 75 [.pointer (some ⟨g7,0,none⟩),.pointer (some ⟨g6,0,none⟩)] gf75
  (fun D' W'=>Ro (D.kept.length - 2) W.fin (Dl b) D (Eb b.length)∧D'=wN (D.kept.length - 2) W.fin (Dl b) D (Eb b.length)∧W'=W.took D b)
  (fun D'=>∃ k,k < Eb b.length∧Ro (D.kept.length - 2) W.fin (Dl b) D k∧((wN (D.kept.length - 2) W.fin (Dl b) D k).write ((2+(W.fin+k) % (D.kept.length - 2):Nat):Int) (rB (Dl b) k)).2≠0∧D'=wN (D.kept.length - 2) W.fin (Dl b) D (k+1))
  (fun w1 Hw1 hw1=>by
   have hx:=Rn.UM m D W w1 Hw1.here hw1 g7 g6 A b c (xL Xv Hw1 XZ) XZ (xL hc6 Hw1 WO) WO (Rd.WX (Rd.WX hr H6 ha) Hw1 ha) ha hb (by omega) (by omega) hwt
   exact hx.mono (fun _ w2 hy=>⟨_,_,⟨hy.1,rfl,rfl⟩,hy.2⟩) (fun ch w2 hy=>by obtain⟨h1,k,h2,h3,h4,h5⟩:=hy;exact⟨h1,_,⟨k,h2,h3,h4,rfl⟩,h5⟩))
 refine lA (EC VU Y) hg ?_
 rintro w5 x ⟨D',W',hcase,hpost⟩
 refine Xa Y<|Xr e31<|J5<|Ak Y Y ?_
 have hP:vY w0 w5 _ m D' W':=vY.of H6 [0,1,2,3,4,5] rfl hpost
 refine⟨x,D',W',Y,?_,hP⟩
 rcases hcase with ⟨h1,_⟩ | ⟨h1,⟨rfl,h2,h3,h4⟩ | ⟨rfl,⟨k,h2,h3,h4,h5⟩,h6⟩⟩
 rw[Nr]at h1;cases h1
 exact .inr (.inr (.inr ⟨hb,Nr,hroom,.inl ⟨h2,Y,h3,h4⟩⟩))
 exact .inr (.inr (.inr ⟨hb,Nr,hroom,.inr ⟨Y,k,h2,h3,h4,h5,h6⟩⟩))
end Go.Proofs.YtjoeklkmnfaabaaGreat
namespace Go.Proofs.YtjoeklkmnfaabaaGreat
set_option maxRecDepth 100000
set_option maxHeartbeats 4000000
open Go Go.RowKit
set_option linter.unusedVariables false
attribute [local irreducible] yT Ops zP Cd
def Fj (v:Nat):Blk:=(List.range 8).map fun i=>UInt8.ofNat (v / 2^(56 - 8*i) % 256)
theorem uO (v:Nat):(Fj v).length=8:=by simp[Fj]
theorem PY {v i:Nat} (h:i < 8):u8s ((Fj v).take (i+1))=u8s ((Fj v).take i)++[.int .u8 ((v / 2^(56 - 8*i) % 256:Nat):Int)]:=by
 have hl:i < (Fj v).length:=by rw[uO];exact h
 rw[List.take_add_one,List.getElem?_eq_getElem hl,vD]
 congr 1
 show[Value.int .u8 ((Fj v)[i].toNat:Int)]=_
 simp only[Fj,List.getElem_map,List.getElem_range]
 rw[u8n (Nat.mod_lt _ (by decide))]
theorem NT {cs:List Value} {off v i:Nat} (h:i < 8) (hf:off+8≤cs.length):(zH cs off (u8s ((Fj v).take i))).set (off+i) (.int .u8 ((v / 2^(56 - 8*i) % 256:Nat):Int))=zH cs off (u8s ((Fj v).take (i+1))):=by
 have hl:(u8s ((Fj v).take i)).length=i:=by rw[zY,List.length_take,uO];omega
 have h1:(cs.take off).length=off:=by rw[List.length_take];omega
 rw[PY h]
 unfold zH
 rw[List.length_append,hl]
 simp only[List.length_cons,List.length_nil]
 rw[List.set_append_right _ _ (by rw[List.length_append,h1,hl];exact Nat.le_refl _),List.length_append,h1,hl,Nat.sub_self]
 obtain⟨x,r,hx⟩:∃ x r,cs.drop (off+i)=x::r:=by
  have:off+i < cs.length:=by omega
  exact⟨cs[off+i],cs.drop (off+i+1),List.drop_eq_getElem_cons this⟩
 have hr:cs.drop (off+(i+(0+1)))=r:=by
  rw[show off+(i+(0+1))=(off+i)+1 by omega,← List.drop_drop,hx];rfl
 rw[hx,hr,List.set_cons_zero]
 simp
def Vz (b:Blk):Nat:=b.foldl (fun v c=>v*256+c.toNat) 0
def rd8 (b:Blk):Nat:=Vz (b.take 8)
theorem MK (l:Blk) (c:UInt8):Vz (l++[c])=Vz l*256+c.toNat:=by simp[Vz]
theorem ML :∀ (l:Blk) (a m:Nat),a < 256^m→l.foldl (fun v c=>v*256+c.toNat) a < 256^(m+l.length)
 | [],a,m,h=>h
 | c::l,a,m,h=>by
  have h2:=c.toNat_lt
  have h3:(a+1)*256≤256^m*256:=Nat.mul_le_mul_right _ h
  have:=ML l (a*256+c.toNat) (m+1) (by rw[Nat.pow_succ];omega)
  rw[show m+(c::l).length=m+1+l.length by simp;omega]
  exact this
theorem U0 (l:Blk) (n:Nat) (h:l.length≤n):Vz l < 256^n:=by
 have:=ML l 0 0 (by decide)
 rw[Nat.zero_add]at this
 exact Nat.lt_of_lt_of_le this (Nat.pow_le_pow_right (by decide) h)
theorem iK {v:Nat} (h:v < 2^64) (r:Blk):rd8 (Fj v++r)=v:=by
 have e:(Fj v++r).take 8=Fj v:=List.take_left' (uO v)
 unfold rd8
 rw[e]
 have u:∀ k:Nat,(UInt8.ofNat (k % 256)).toNat=k % 256:=fun k=>u8n (Nat.mod_lt _ (by decide))
 simp only[Fj,Vz,List.range_succ,List.range_zero,List.nil_append,List.map_cons,List.map_nil,List.cons_append,List.foldl_cons,List.foldl_nil,u]
 omega
theorem shl8 {x:Nat} (h:x < 2^56):IntKind.u64.wrap ((x:Int)*2^(min (8:Int).toNat IntKind.u64.bits))=((x*256:Nat):Int):=by
 rw[show((x:Int)*2^(min (8:Int).toNat IntKind.u64.bits))=((x*256:Nat):Int) by show(x:Int)*256=_;omega]
 exact IntWalk.u64_in _ (by omega)
theorem or8 {x c:Nat} (h:x < 2^56) (hc:c < 256):bits .or .u64 ((x*256:Nat):Int) (c:Int)=((x*256+c:Nat):Int):=by
 rw[dC rfl _ _ (by show _ < 2^64;omega) (by show _ < 2^64;omega)]
 congr 1
 have:=Nat.two_pow_add_eq_or_of_lt (i:=8) (b:=c) hc x
 rw[show x*256=2^8*x by omega]
 exact this.symm
theorem qW (gb off len cap v:Nat) (cs:List Value) (w0:World) (H0:Hp w0 w0 [gb] [(some gb,5,cs)]) (hl:8≤len) (hf:off+8≤cs.length) (hv:v < 2^64):zP Tryz.prog 124 #[.slice (some ⟨gb,off,none⟩) len cap,.int .u64 (v:Int)] w0 (fun _ w'=>Hp w0 w' [gb] [(some gb,5,zH cs off (u8s (Fj v)))]):=by
 refine zE Tryz.func124 Tryz.ntmps124 Y<|cR e18 ?_
 have H:=H0
 refine Rq<|Xm Y<|Xr e18<|J7<|zU (fun nQ lQ w=>∃ (i:Nat) (y:Int),8 - i=nQ∧xN (Dj [(0,.slice (some ⟨gb,off,none⟩) len cap),(1,.int .u64 (v:Int)),(5,.int .i64 y)] 0 18) lQ∧y=i∧i≤8∧Hp w0 w [gb] [(some gb,5,zH cs off (u8s ((Fj v).take i)))]) (8) ?_ ?_
 refine⟨0,_,Y,(Jc Y Y Y Y),Y,Nat.zero_le _,?_⟩
 have e:zH cs off (u8s ((Fj v).take 0))=cs:=by simp[zH,u8s]
 rw[e];exact H
 rintro nQ lQ w1 ⟨i,y,rfl,hfit,rfl,hi,H1⟩
 obtain⟨j,rfl⟩:=hfit.open
 refine cR e18 ?_
 clear hfit
 refine Rq<|OT (zQ Y Y) (fun ZK=>?_) (fun ZK=>?_)
 have hil:i < 8:=by omega
 refine Xr e18<|J1<|J3 Y<|J6<|J1<|J7<|Rq<|Xm Y<|Xa Y<|Xr e18<|J2<|Xm Y<|Xm Y<|Xm Y<|Xm Y<|Aa e18<|OV (bC Y Y (IntWalk.i64_in _ (by omega)))<|OV (uW Y Y (IntWalk.i64_in _ (by omega)))<|OV (oQ Y Y (by omega) ((show _=((v / 2^(56 - 8*i):Nat):Int) from by have hz:=qS v (56 - 8*i) 64;rw[show((56:Int) - 8*(i:Int))=((56 - 8*i:Nat):Int) by omega];rw[show min (56 - 8*i) 64=56 - 8*i by omega]at hz;exact hz)))<|OV (xJ Tryz.underlying5 Tryz.underlying118 Y (u8w (v / 2^(56 - 8*i))))<|Aa e18<|OV (EI Tryz.underlying73 ty5 Y Y Y (by omega) (Nat.mul_one _)) ?_
 rw[Addr.add_lit]
 refine OW ty5 H1 0 Y Y Y Y (by simp[zH,zY,uO];omega) Y<|fun w2 H2=>?_
 change Hp _ _ _ [_]at H2
 rw[NT hil hf]at H2
 refine Xr e18<|zA (zB ?_)
 refine J2<|OV (zL Y Y (IntWalk.i64_in _ (by omega)))<|Xm Y<|Xr e18<|zA (zI ?_)
 exact⟨8 - (i+1),by omega,i+1,_,Y,(Jc Y Y Y Y),Y,by omega,H2⟩
 have hi8:i=8:=by omega
 subst hi8
 refine Xr e18<|J1<|J4 Y<|J8<|zT<|zS<|zA<|yN Y ?_
 have e:(Fj v).take 8=Fj v:=List.take_of_length_le (by rw[uO];exact Nat.le_refl _)
 rw[e]at H1
 exact H1
theorem mU (A:Option Addr) (b:Blk) (nn c:Nat) (w0:World) (hr:Rd w0 A nn 1 (u8s b)) (hb:nn=b.length) (h8:8≤nn) (hc:nn≤c):zP Tryz.prog 102 #[.slice A nn c] w0 (fun r w'=>r=.int .u64 (rd8 b:Int)∧w'=w0):=by
 refine zE Tryz.func102 Tryz.ntmps102 Y<|cR e20 ?_
 have H:=Hp.refl w0
 refine Rq<|Xa Y<|Xr e20<|Rq<|Xa Y<|Xr e20<|J1<|Rq<|Xm Y<|OV (iZ Tryz.underlying73 ty5 Y Y ((by omega)))<|OV (ES Tryz.underlying73 Y)<|Xm Y<|Xr e20<|J7<|zU (fun nQ lQ w=>∃ (i:Nat) (x y:Int),8 - i=nQ∧xN (Dj [(0,.slice A nn c),(3,.int .u64 x),(7,.slice A 8 c),(8,.int .i64 8),(9,.int .i64 y)] 0 20) lQ∧x=(Vz (b.take i):Int)∧y=i∧i≤8∧w=w0) (8) ?_ ?_
 exact⟨0,_,_,Y,(Ez Y Y Y Y Y Y),Y,Y,Nat.zero_le _,Y⟩
 rintro nQ lQ w1 ⟨i,x,y,rfl,hfit,rfl,rfl,hi,rfl⟩
 obtain⟨j,rfl⟩:=hfit.open
 refine cR e20 ?_
 clear hfit
 refine Rq<|OT (zQ Y Y) (fun hp10=>?_) (fun hp10=>?_)
 obtain⟨a,rfl⟩:=hr.some_ (by omega)
 have hib:i < b.length:=by omega
 have hc2:=b[i].toNat_lt
 have hx7:Vz (b.take i) < 2^56:=by have:=U0 (b.take i) 7 (by simp;omega);simpa using this
 refine Xr e20<|J1<|J3 Y<|J6<|J1<|J7<|Rq<|OV (EI Tryz.underlying73 ty5 Y Y Y (by omega) (Nat.mul_one _))<|OV (EL ty5 Y (hr.cells a Y i (.int .u8 (b[i].toNat:Int)) (lX hib)))<|Xa Y<|Xr e20<|J2<|Xm Y<|OV (lN Y Y (by omega) (shl8 hx7))<|Xm Y<|OV (xJ Tryz.underlying118 Tryz.underlying5 Y (IntWalk.u64_in _ (by omega)))<|Aa e20<|OV (eH Y Y (or8 hx7 hc2))<|Xa Y<|Xr e20<|zA (zB ?_)
 refine J2<|OV (zL Y Y (IntWalk.i64_in _ (by omega)))<|Xm Y<|Xr e20<|zA (zI ?_)
 exact⟨8 - (i+1),by omega,i+1,_,_,Y,(Ez Y Y Y Y Y Y),by rw[List.take_add_one,List.getElem?_eq_getElem hib];exact congrArg _ (MK _ _).symm,Y,by omega,Y⟩
 have hi8:i=8:=by omega
 subst hi8
 refine Xr e20<|J1<|J4 Y<|J8<|zT<|zS<|Rq<|Xm Y<|Xa Y<|Xr e20<|J5<|Ak Y Y<|⟨Y,Y⟩
def nE (b:Blk):List Value:=[.int .u64 (rd8 b:Int),.int .i64 (IntKind.i64.wrap (rd8 (b.drop 8):Int)),.int .i64 (IntKind.i64.wrap (rd8 (b.drop 16):Int)),.int .i64 (IntKind.i64.wrap (rd8 (b.drop 24):Int))]
theorem Yj :wY Tryz.prog 122=some [(0,1),(1,1),(2,1),(3,1)]:=by kernel_rfl
theorem results_cell_tmp {P:Program} {fn:Func} {l:List Value} {w:World} {r1 r2:Tmp} {ty:TypeId} {zs:List Value} {sz bytes:Nat} {p:Addr} {v2:Value} {cs:List Value} (hr:fn.results=#[.cell r1 ty,.tmp r2]) (ht:xT P ty zs sz bytes true) (h1:nth l r1=some (.pointer (some p))) (h2:nth l r2=some v2) (hl:cs.length=sz) (hc:∀ j u,cs[j]? =some u→w.cell? (p.add j)=some u):(results fn l.toArray).run P w=.ok (.tuple #[.agg cs.toArray,v2]) w:=by
 have hl2:=qT (P:=P) (w:=w) ht hl hc
 rw[pK]at h1 h2
 simp[results,hr,h1,h2,asAddr,hl2]
theorem BD (A:Option Addr) (b:Blk) (c:Nat) (w0:World) (hr:Rd w0 A b.length 1 (u8s b)) (h64:b.length=64) (hc:b.length≤c):zP Tryz.prog 58 #[.slice A b.length c] w0 (fun r w'=>r=.tuple #[.agg (nE b).toArray,.bool (decide (rd8 b=rd8 (b.drop 56)))]∧Hp w0 w' [] []):=by
 refine zE Tryz.func58 Tryz.ntmps58 Y<|cR e27 ?_
 have H:=Hp.refl w0
 refine Rq<|OA pF H<|fun w1 g1 H1 hg1=>Xa Y<|Xr e27<|J1<|zR 16 [(true,0),(true,1),(true,2),(true,3),(true,4),(true,5),(true,6),(true,7),(true,8),(true,9),(true,10),(true,11),(true,12),(true,13),(true,14),(false,15),(false,16)] H1 [] yG (by decide) (by kernel_rfl) ?_
 rintro w2 hw2
 have H2:=Hp.drew H1;rw[← hw2]at H2
 refine Zm Y Y<|MP Y<|rE (fun wz hz=>EC DX Y) (fun wz hz=>mU A b b.length c wz (hr.to0 hz) Y (by omega) hc)<|Zm Y Y<|MP Y<|MV (fun wz hz=>vA Tryz.underlying73 ty5 Y Y ((by omega)))<|cZ e27<|MP Y<|rE (fun wz hz=>EC DX Y) (fun wz hz=>mU (wG A 8 c 1) (b.drop 8) (b.length - 8) (c - 8) wz (Rd.Qa (hr.to0 hz) (by omega) hc) (by simp) (by omega) (by omega))<|MP Y<|MV (fun wz hz=>xJ Tryz.underlying3 Tryz.underlying118 Y (Y))<|Zm Y Y<|MP Y<|MV (fun wz hz=>vA Tryz.underlying73 ty5 Y Y ((by omega)))<|cZ e27<|MP Y<|rE (fun wz hz=>EC DX Y) (fun wz hz=>mU (wG A 16 c 1) (b.drop 16) (b.length - 16) (c - 16) wz (Rd.Qa (hr.to0 hz) (by omega) hc) (by simp) (by omega) (by omega))<|MP Y<|MV (fun wz hz=>xJ Tryz.underlying3 Tryz.underlying118 Y (Y))<|Zm Y Y<|MP Y<|MV (fun wz hz=>vA Tryz.underlying73 ty5 Y Y ((by omega)))<|cZ e27<|MP Y<|rE (fun wz hz=>EC DX Y) (fun wz hz=>mU (wG A 24 c 1) (b.drop 24) (b.length - 24) (c - 24) wz (Rd.Qa (hr.to0 hz) (by omega) hc) (by simp) (by omega) (by omega))<|MP Y<|MV (fun wz hz=>xJ Tryz.underlying3 Tryz.underlying118 Y (Y))<|MP Y<|MV (fun wz hz=>EB pF Yj Y Y)<|MO Y<|OA pF H2<|fun w3 g3 H3 hg3=>OE<|⟨fun hne=>H3.pick [] (by decide),?_⟩
 refine cZ e27<|MO Y<|OS pF H3 1 (vs:=nE b) Y Y Y Y Y (Nat.le_refl _) Y<|fun w4 H4=>?_
 change Hp _ _ _ [_,(some _,_,nE b)]at H4
 refine OE ?_
 refine⟨fun hne=>absurd Y hne,?_⟩
 refine cZ e27<|ME<|cR e27<|J1<|sW [(true,0),(true,1),(true,2),(true,3),(true,4),(true,5),(true,6),(false,7),(true,8)] H4 [1] yG (by decide) (by kernel_rfl) ?_
 rintro w5 hw5
 have H5:=Hp.drew H4;rw[← hw5]at H5
 refine zX Y<|MV (fun wz hz=>EN pF Y (vs:=nE b) Y (sD hz (i:=0) (o:=0) Y (fun j u hu=>by rw[Nat.zero_add];exact hu)))<|zX Y<|MV (fun wz hz=>EF eX Y)<|zX Y<|MV (fun wz hz=>EL oV Y (hz.cell (i:=0) Y Y))<|zX Y<|MV (fun wz hz=>zK Y)<|cM e27<|zX Y<|MV (fun wz hz=>vA Tryz.underlying73 ty5 Y Y ((by omega)))<|zX Y<|rE (fun wz hz=>EC DX Y) (fun wz hz=>mU (wG A 56 c 1) (b.drop 56) (b.length - 56) (c - 56) wz (Rd.Qa (hr.to0 hz) (by omega) hc) (by simp) (by omega) (by omega))<|zX Y<|MV (fun wz hz=>xP Y Y)<|G9 Y<|OS pF H5 0 (vs:=nE b) Y Y Y Y Y (Nat.le_refl _) Y<|fun w6 H6=>?_
 change Hp _ _ _ [(some _,_,nE b),_]at H6
 refine OE ?_
 refine⟨H6.pick [1] (by decide),?_⟩
 refine cM e27<|zX Y<|MV (fun wz hz=>zO Y)<|tL<|cR e27<|J5<|⟨_,results_cell_tmp Y pF Y Y (cs:=nE b) Y (sD H6 (i:=0) (o:=0) Y (fun j u hu=>by rw[Nat.zero_add];exact hu)),by rw[decide_eq_decide.2 (show((rd8 b:Int)=(rd8 (b.drop 56):Int))↔rd8 b=rd8 (b.drop 56) by omega)],H6.pick [] (by decide)⟩
end Go.Proofs.YtjoeklkmnfaabaaGreat
namespace Go.Proofs.YtjoeklkmnfaabaaGreat
set_option maxRecDepth 100000
set_option maxHeartbeats 4000000
open Go Go.RowKit
set_option linter.unusedVariables false
attribute [local irreducible] yT Ops zP Cd
def hdr (t f n s:Nat):Blk:=Fj t++Fj f++Fj n++Fj s++List.replicate 24 0++Fj t
theorem IB (t f n s:Nat):(hdr t f n s).length=64:=by simp[hdr,uO]
theorem KP (t f n s:Nat):zH (zH (zH (zH (zH (List.replicate 64 (Value.int .u8 0)) 0 (u8s (Fj t))) 8 (u8s (Fj f))) 16 (u8s (Fj n))) 24 (u8s (Fj s))) 56 (u8s (Fj t))=u8s (hdr t f n s):=by rfl
def Wl.start (W:Wl) (gone:Nat):Nat:=W.places.getD gone W.fin
def Wl.head (W:Wl) (gone:Nat):Blk:=hdr (W.turn+1) (W.first+gone) (W.first+W.recs.length) (W.start gone)
def rU (D:Dk) (W:Wl) (gone:Nat):Dk×Nat:=D.write (((W.turn+1) % 2:Nat):Int) (W.head gone)
def Wl.tell (W:Wl) (gone:Nat):Wl:={ W with turn:=W.turn+1,first:=W.first+gone,recs:=W.recs.drop gone,places:=W.places.drop gone,told:=(W.recs.drop gone).length }
def I9 (D:Dk) (W:Wl) (gone:Nat) (D':Dk):Prop:=((rU D W gone).2≠0∧D'=(rU D W gone).1)∨((rU D W gone).2=0∧(rU D W gone).1.sync.2≠0∧D'=(rU D W gone).1.sync.1)
def P8 (D:Dk) (W:Wl) (gone:Nat) (D':Dk):Prop:=(rU D W gone).2=0∧(rU D W gone).1.sync.2=0∧D'=(rU D W gone).1.sync.1
theorem JL {rs:List Blk} {k:Nat} (h:k < rs.length):used (rs.take (k+1))=used (rs.take k)+wgt rs[k].length:=by
 rw[List.take_add_one,List.getElem?_eq_getElem h,uJ]
 show _+used [rs[k]]=_
 rw[iF]
theorem eK (A:Option Addr) (nn c:Nat) (xs:List Value) (w0:World) (hr:Rd w0 A nn 1 xs) (h1:xs.all (·.oneCell')=true) (hb:nn≤2^40):zP Tryz.prog 61 #[.slice A nn c] w0 (fun r w'=>∃ g cap sp,r=.slice (hd g) nn cap∧nn≤cap∧cap≤(xs++sp).length∧(g=none→cap=0)∧Hp w0 w' [] [(g,73,xs++sp)]):=by
 refine zE Tryz.func61 Tryz.ntmps61 Y<|cR e8 ?_
 have H:=Hp.refl w0
 refine Rq<|Xa Y<|Xr e8<|J1<|Rq<|Xm Y<|OT (wZ Tryz.underlying98 Y) (fun hp4=>?_) (fun hp4=>?_)
 refine Xr e8<|J3 Y<|Rq<|Xa Y<|Xr e8<|J5<|Ak Y Y ?_
 have hb0:xs=[]:=List.eq_nil_of_length_eq_zero (by rw[hr.len,hr.nil hp4])
 have hn0:=hr.nil hp4
 subst hb0 hn0
 exact⟨none,0,[],Y,Nat.le_refl _,by simp,fun _=>Y,by have:=H.nil 73;exact this⟩
 refine Xr e8<|J4 Y<|J6<|Rq<|zG Tryz.underlying98 xK H Y (by decide) Y<|fun w1 g1 H1 hg1=>Xm Y<|yX Tryz.underlying98 xK (by decide) H1 0 (g:=some g1) (xs:=[]) (sp:=[]) Y Y Y (by decide) (by decide) (by simp) Y (hr.to0 H1) h1 (by omega) (by omega) (by decide)<|fun w2 g3 cap3 sp3 H2 hcap3 hmc3 hg3=>Xa Y<|Xr e8<|J5<|Ak Y Y ?_
 rw[Nat.zero_add]at hmc3 ⊢
 refine⟨g3,cap3,sp3,Y,hmc3,?_,hg3,?_⟩
 rw[Nat.mul_one]at hcap3;simpa using hcap3
 have hz:=H2.pick [0] (by decide)
 simpa using hz
theorem GB (A:Option Addr) (nn c:Nat) (xs:List Value) (w0:World) (hr:Rd w0 A nn 1 xs) (h1:xs.all (·.oneCell')=true) (hb:nn≤2^40):zP Tryz.prog 125 #[.slice A nn c] w0 (fun r w'=>∃ g cap sp,r=.slice (hd g) nn cap∧nn≤cap∧cap≤(xs++sp).length∧(g=none→cap=0)∧Hp w0 w' [] [(g,3,xs++sp)]):=by
 refine zE Tryz.func125 Tryz.ntmps125 Y<|cR e8 ?_
 have H:=Hp.refl w0
 refine Rq<|Xa Y<|Xr e8<|J1<|Rq<|Xm Y<|OT (wZ Tryz.underlying50 Y) (fun hp4=>?_) (fun hp4=>?_)
 refine Xr e8<|J3 Y<|Rq<|Xa Y<|Xr e8<|J5<|Ak Y Y ?_
 have hb0:xs=[]:=List.eq_nil_of_length_eq_zero (by rw[hr.len,hr.nil hp4])
 have hn0:=hr.nil hp4
 subst hb0 hn0
 exact⟨none,0,[],Y,Nat.le_refl _,by simp,fun _=>Y,by have:=H.nil 3;exact this⟩
 refine Xr e8<|J4 Y<|J6<|Rq<|zG Tryz.underlying50 ty3 H Y (by decide) Y<|fun w1 g1 H1 hg1=>Xm Y<|yX Tryz.underlying50 ty3 (by decide) H1 0 (g:=some g1) (xs:=[]) (sp:=[]) Y Y Y (by decide) (by decide) (by simp) Y (hr.to0 H1) h1 (by omega) (by omega) (by decide)<|fun w2 g3 cap3 sp3 H2 hcap3 hmc3 hg3=>Xa Y<|Xr e8<|J5<|Ak Y Y ?_
 rw[Nat.zero_add]at hmc3 ⊢
 refine⟨g3,cap3,sp3,Y,hmc3,?_,hg3,?_⟩
 rw[Nat.mul_one]at hcap3;simpa using hcap3
 have hz:=H2.pick [0] (by decide)
 simpa using hz
theorem lD (gv first nn c:Nat) (A:Option Addr) (w0:World) (h3:w0.cell? ⟨gv,3,none⟩=some (.int .i64 (first:Int))) (h4:w0.cell? ⟨gv,4,none⟩=some (.slice A nn c)) (hb:first+nn≤2^62):zP Tryz.prog 39 #[.pointer (some ⟨gv,0,none⟩)] w0 (fun r w'=>r=.int .i64 ((first+nn:Nat):Int)∧Hp w0 w' [] []):=by
 refine zE Tryz.func39 Tryz.ntmps39 Y<|cR e15 ?_
 have H:=Hp.refl w0
 refine Rq<|Xa Y<|Xr e15<|J1<|Rq<|Xm Y<|Dy (yE Tryz.underlying65 Y) (by simp)<|Xr e15<|J4 Y<|J6<|J1<|sW [(true,0),(true,1),(true,2),(true,3),(true,4),(true,5),(true,6),(true,7),(true,8),(true,9),(true,10)] H [] yG (by decide) (by kernel_rfl) ?_
 rintro w1 hw1
 have H1:=Hp.drew H;rw[← hw1]at H1
 refine zX Y<|MV (fun wz hz=>zK Y)<|zX Y<|MV (fun wz hz=>yI Y)<|zX Y<|MV (fun wz hz=>EF qF Y)<|zX Y<|MV (fun wz hz=>EL ty3 Y (xL h3 hz (by simp)))<|cM e15<|zX Y<|MV (fun wz hz=>zK Y)<|zX Y<|MV (fun wz hz=>yI Y)<|zX Y<|MV (fun wz hz=>EF sI Y)<|zX Y<|MV (fun wz hz=>EL gQ Y (xL h4 hz (by simp)))<|cM e15<|zX Y<|MV (fun wz hz=>ES Tryz.underlying98 Y)<|zX Y<|MV (fun wz hz=>zL Y Y ((IntWalk.i64_in _ (by omega)).trans (show((first:Int)+(nn:Int))=((first+nn:Nat):Int) by omega)))<|zX Y<|MV (fun wz hz=>zO Y)<|tL<|cR e15<|J5<|Ak Y Y<|⟨Y,H1⟩
theorem MJ {w:World} {A:Option Addr} {nn c k:Nat} {xs:List Value} (h:Rd w A nn 1 xs) (hk:k≤nn) (hc:nn≤c):Rd w (wG A k c 1) (nn - k) 1 (xs.drop k):=by
 have h2:=h.cut k nn c hk (Nat.le_refl _) hc
 rw[Nat.mul_one,Nat.mul_one,List.take_of_length_le (by rw[List.length_drop,h.len];omega)]at h2
 unfold wG
 rw[Nat.mul_one]
 exact h2
theorem EV {xs:List Value} (h:xs.all (·.oneCell')=true) (k:Nat):(xs.drop k).all (·.oneCell')=true:=by
 rw[List.all_eq_true]at h ⊢
 exact fun v hv=>h v (List.mem_of_mem_drop hv)
theorem CQ (m:Mw) (D:Dk) (W:Wl) (w0:World) (H0:Hp w0 w0 (bl (Ah m D W)) (Ah m D W)) (h:Eo w0 m D W) (gone:Nat) (Np:gone≤W.recs.length) (hwt:D.wait.length≤1000000000) (hfl:W.first≤2^50) (htl:W.turn≤2^50):rV Tryz.prog 82 #[.pointer (some ⟨m.gv,0,none⟩),.int .i64 (gone:Int)] w0 (fun _ w'=>P8 D W gone (rU D W gone).1.sync.1∧vY w0 w' (bl (Ah m D W)) m ((rU D W gone).1.sync.1) (W.tell gone)) (fun ch w'=>ch=iW∧∃ D',I9 D W gone D'∧vY w0 w' (bl (Ah m D W)) m (D') (W)):=by
 refine gB Tryz.func82 Tryz.ntmps82 Y<|cR Bj ?_
 have H:=H0
 obtain⟨hD,Ec,hrc,hrs,hrn,hpl,hpc,hps,hpn,Dh,hlong,hsize,hfin,Jl,hfirst,hturn,Jb,htold⟩:=id h
 have hkept:=hD.most
 refine Rq<|Xm Y<|Xc Y<|Xf B0 Y<|OV (EL oV Y (H.cell (i:=3) Y Y))<|Aa Bj<|OV (zL Y Y ((IntWalk.u64_in _ (by omega)).trans (show((W.turn:Int)+1)=((W.turn+1:Nat):Int) by omega)))<|Xa Y<|Xr Bj<|Rq<|M6 Tryz.underlying73 ty5 H Y Y (n:=64) (c:=64) (Nat.le_refl _) (by decide) (by decide)<|fun w1 gb H1 hgb=>Xa Y<|Xr Bj<|Rq<|Xm Y<|Xc Y<|Xf oA Y<|OV (EL ty3 Y (H1.cell (i:=3) Y Y))<|Aa Bj<|Xa Y<|Xr Bj<|J1<|Rq<|Xm Y<|Xm Y<|Xc Y<|Xf kQ Y<|Aa Bj<|OV (EL JN Y (H1.cell (i:=3) Y Y))<|OV (ES Tryz.underlying50 Y)<|OT (zQ Y Y) (fun hp25=>?_) (fun hp25=>?_)
 have hgl:gone < W.places.length:=by omega
 obtain⟨gpp,ZV⟩:∃ x,m.gp=some x:=by
  cases hx:m.gp with
  | none=>have:=hpn hx;omega
  | some x=>exact⟨x,rfl⟩
 have hst:W.start gone=W.places[gone]:=by unfold Wl.start;rw[List.getD_eq_getElem?_getD,List.getElem?_eq_getElem hgl];rfl
 have hplg:=Jl _ (List.getElem_mem hgl)
 refine Xr Bj<|J3 Y<|J2<|Xm Y<|Xc Y<|Xf kQ Y<|OV (EL JN Y (H1.cell (i:=3) Y Y))<|Aa Bj<|Xm Y<|OV (EI Tryz.underlying50 ty3 (a:=⟨gpp,0,none⟩) (congrArg (fun A=>some (Value.slice A W.places.length m.cp)) (show hd m.gp=some ⟨gpp,0,none⟩ by rw[ZV];rfl)) Y Y hgl (Nat.mul_one _)) ?_
 rw[fW]
 refine OV (EL ty3 Y (H1.cell (i:=5) (g:=gpp) (T:=3) (cs:=qX W.places++m.sq) (o:=gone) (by rw[← ZV];rfl) (by rw[List.getElem?_append_left (by rw[cK];exact hgl)];exact N1 hgl))) ?_
 refine Xa Y<|Xr Bj<|Rq<|Xm Y<|Xm Y<|OQ (EC iR Y) (qW gb 0 64 64 (W.turn+1) _ _ (H1.pick [6] (by decide)).here (by decide) (by simp) (by omega)) ?_
 rintro r w2 Hc
 have H2:=(H1.Am [6] rfl Hc).pick [0,1,2,3,4,5,7] (by decide)
 refine Xr Bj<|J1<|zR 9 [(true,0),(true,1),(true,2),(true,3),(true,4),(true,5),(true,6),(true,7),(true,8),(false,9)] H2 [3] yG (by decide) (by kernel_rfl) ?_
 rintro w3 hw3
 have H3:=Hp.drew H2;rw[← hw3]at H3
 refine Zm Y Y<|MP Y<|MV (fun wz hz=>vA Tryz.underlying73 ty5 Y Y ((by omega)))<|Zm Y Y<|Zc Y Y<|cZ Bj<|Zf Y qF Y<|MP Y<|MV (fun wz hz=>EL ty3 Y (hz.cell (i:=0) Y Y))<|Zm Y Y<|MP Y<|MV (fun wz hz=>zL Y Y ((IntWalk.i64_in _ (by omega)).trans (show((W.first:Int)+(gone:Int))=((W.first+gone:Nat):Int) by omega)))<|cZ Bj<|MP Y<|MV (fun wz hz=>xJ Tryz.underlying118 Tryz.underlying3 Y (IntWalk.u64_in _ (by omega)))<|MO Y<|OQ (EC iR Y) (qW gb 8 56 56 (W.first+gone) _ _ (H3.pick [6] (by decide)).here (by decide) (by simp[zH,zY,uO]) (by omega)) ?_
 rintro r w4 Hc
 have H4:=(H3.Am [6] rfl Hc).pick [0,1,2,3,4,5,7] (by decide)
 refine OE ?_
 refine⟨fun hne=>absurd Y hne,?_⟩
 refine cZ Bj<|ME<|cR Bj<|J1<|zR 5 [(true,0),(true,1),(true,2),(false,3),(true,4),(false,5)] H4 [3] yG (by decide) (by kernel_rfl) ?_
 rintro w5 hw5
 have H5:=Hp.drew H4;rw[← hw5]at H5
 refine Zm Y Y<|MP Y<|MV (fun wz hz=>vA Tryz.underlying73 ty5 Y Y ((by omega)))<|Zm Y Y<|MO Y<|OC (EC N8 Y) (lD m.gv W.first W.recs.length m.cr (hd m.gr) _ (H5.cell (i:=3) Y Y) (H5.cell (i:=3) Y Y) (by omega))<|fun w6 Hc=>?_
 have H6:=(H5.call0 Hc).pick [0,1,2,3,4,5,6] (by decide)
 refine OE ?_
 refine⟨fun hne=>H6.pick [3] (by decide),?_⟩
 refine cZ Bj<|MP Y<|MV (fun wz hz=>xJ Tryz.underlying118 Tryz.underlying3 Y (IntWalk.u64_in _ (by omega)))<|MO Y<|OQ (EC iR Y) (qW gb 16 48 48 (W.first+W.recs.length) _ _ (H6.pick [6] (by decide)).here (by decide) (by simp[zH,zY,uO]) (by omega)) ?_
 rintro r w7 Hc
 have H7:=(H6.Am [6] rfl Hc).pick [0,1,2,3,4,5,7] (by decide)
 refine OE ?_
 refine⟨fun hne=>absurd Y hne,?_⟩
 refine cZ Bj<|ME<|cR Bj<|Rq<|Xm Y<|OV (vA Tryz.underlying73 ty5 Y Y ((by omega)))<|Xm Y<|OV (xJ Tryz.underlying118 Tryz.underlying3 Y (IntWalk.u64_in _ (by omega)))<|Aa Bj<|OQ (EC iR Y) (qW gb 24 40 40 (W.places[gone]) _ _ (H7.pick [6] (by decide)).here (by decide) (by simp[zH,zY,uO]) (by omega)) ?_
 have m1:=()
 rotate_left 1
 have hst:W.start gone=W.fin:=by unfold Wl.start;rw[List.getD_eq_getElem?_getD,List.getElem?_eq_none (by omega)];rfl
 refine Xr Bj<|J4 Y<|J6<|Rq<|Xm Y<|Xm Y<|OQ (EC iR Y) (qW gb 0 64 64 (W.turn+1) _ _ (H1.pick [6] (by decide)).here (by decide) (by simp) (by omega)) ?_
 rintro r w2 Hc
 have H2:=(H1.Am [6] rfl Hc).pick [0,1,2,3,4,5,7] (by decide)
 refine Xr Bj<|J1<|zR 9 [(true,0),(true,1),(true,2),(true,3),(true,4),(true,5),(true,6),(true,7),(true,8),(false,9)] H2 [3] yG (by decide) (by kernel_rfl) ?_
 rintro w3 hw3
 have H3:=Hp.drew H2;rw[← hw3]at H3
 refine Zm Y Y<|MP Y<|MV (fun wz hz=>vA Tryz.underlying73 ty5 Y Y ((by omega)))<|Zm Y Y<|Zc Y Y<|cZ Bj<|Zf Y qF Y<|MP Y<|MV (fun wz hz=>EL ty3 Y (hz.cell (i:=0) Y Y))<|Zm Y Y<|MP Y<|MV (fun wz hz=>zL Y Y ((IntWalk.i64_in _ (by omega)).trans (show((W.first:Int)+(gone:Int))=((W.first+gone:Nat):Int) by omega)))<|cZ Bj<|MP Y<|MV (fun wz hz=>xJ Tryz.underlying118 Tryz.underlying3 Y (IntWalk.u64_in _ (by omega)))<|MO Y<|OQ (EC iR Y) (qW gb 8 56 56 (W.first+gone) _ _ (H3.pick [6] (by decide)).here (by decide) (by simp[zH,zY,uO]) (by omega)) ?_
 rintro r w4 Hc
 have H4:=(H3.Am [6] rfl Hc).pick [0,1,2,3,4,5,7] (by decide)
 refine OE ?_
 refine⟨fun hne=>absurd Y hne,?_⟩
 refine cZ Bj<|ME<|cR Bj<|J1<|zR 5 [(true,0),(true,1),(true,2),(false,3),(true,4),(false,5)] H4 [3] yG (by decide) (by kernel_rfl) ?_
 rintro w5 hw5
 have H5:=Hp.drew H4;rw[← hw5]at H5
 refine Zm Y Y<|MP Y<|MV (fun wz hz=>vA Tryz.underlying73 ty5 Y Y ((by omega)))<|Zm Y Y<|MO Y<|OC (EC N8 Y) (lD m.gv W.first W.recs.length m.cr (hd m.gr) _ (H5.cell (i:=3) Y Y) (H5.cell (i:=3) Y Y) (by omega))<|fun w6 Hc=>?_
 have H6:=(H5.call0 Hc).pick [0,1,2,3,4,5,6] (by decide)
 refine OE ?_
 refine⟨fun hne=>H6.pick [3] (by decide),?_⟩
 refine cZ Bj<|MP Y<|MV (fun wz hz=>xJ Tryz.underlying118 Tryz.underlying3 Y (IntWalk.u64_in _ (by omega)))<|MO Y<|OQ (EC iR Y) (qW gb 16 48 48 (W.first+W.recs.length) _ _ (H6.pick [6] (by decide)).here (by decide) (by simp[zH,zY,uO]) (by omega)) ?_
 rintro r w7 Hc
 have H7:=(H6.Am [6] rfl Hc).pick [0,1,2,3,4,5,7] (by decide)
 refine OE ?_
 refine⟨fun hne=>absurd Y hne,?_⟩
 refine cZ Bj<|ME<|cR Bj<|Rq<|Xm Y<|OV (vA Tryz.underlying73 ty5 Y Y ((by omega)))<|Xm Y<|OV (xJ Tryz.underlying118 Tryz.underlying3 Y (IntWalk.u64_in _ (by omega)))<|Aa Bj<|OQ (EC iR Y) (qW gb 24 40 40 (W.fin) _ _ (H7.pick [6] (by decide)).here (by decide) (by simp[zH,zY,uO]) (by omega)) ?_
 have m1:=()
 rotate_left 1
 any_goals
  clear m1
  rintro r w8 Hc
  have H8:=(H7.Am [6] rfl Hc).pick [0,1,2,3,4,5,7] (by decide)
  refine Xr Bj<|Rq<|Xm Y<|OV (vA Tryz.underlying73 ty5 Y Y ((by omega)))<|Xm Y<|OQ (EC iR Y) (qW gb 56 8 8 (W.turn+1) _ _ (H8.pick [6] (by decide)).here (by decide) (by simp[zH,zY,uO]) (by omega)) ?_
  rintro r w9 Hc
  have H9:=(H8.Am [6] rfl Hc).pick [0,1,2,3,4,5,7] (by decide)
  refine Xr Bj<|Rq<|Xm Y<|Xc Y<|Xf qY Y<|OV (EL AZ Y (H9.cell (i:=3) Y Y))<|Aa Bj<|Xm Y<|OV (fP Y Y (by omega) (aC (W.turn+1) 2))<|OV (xJ Tryz.underlying3 Tryz.underlying118 Y (IntWalk.i64_in _ (by omega)))<|Xm Y<|Aa Bj ?_
  rw[KP,← hst]at H9
  change Hp _ _ _ [_,_,_,_,_,_,(some gb,5,u8s (W.head gone))]at H9
  have hwr:=bY m.gd m.gk m.gw m.cw m.sp D _ (H9.pick [0,1,2] (by decide)).here hD (((W.turn+1) % 2:Nat):Int) (some ⟨gb,0,none⟩) (W.head gone) 64 (H9.rd (i:=6) (o:=some gb) (xs:=u8s (W.head gone)) (sp:=[]) (by rw[List.append_nil];rfl) (yV _) (by decide)) (fun a hx hy=>by cases hx;exact Bh H9 (i:=6) rfl (is:=[0,1,2]) (by decide) hy) (by omega)
  rw[show(W.head gone).length=64 from IB _ _ _ _]at hwr
  refine OQ (EC gf77 Y) hwr ?_
  rintro r w10 ⟨hr2,Uf,Uj,sp2,hD2,Hd⟩
  rw[hr2]
  have Ar:=(H9.Am [0,1,2] rfl Hd).pick [7,8,9,3,4,5,6] (by decide)
  have hb1:=CE D (((W.turn+1) % 2:Nat):Int) (W.head gone)
  refine rC (EC F0 Y) (pN _ _) ?_ ?_
  rintro ch wz ⟨hcd,rfl,rfl⟩
  have H9:=Ar.pick [0,1,2,3,4,5] (by decide)
  refine⟨rfl,_,.inl ⟨hcd,rfl⟩,{ m with gw:=Uf,cw:=Uj,sp:=sp2 },rfl,rfl,rfl,gH.refl _ _,?_,H9⟩
  exact { h with d:=hD2,lst:=(Ec.to Ar).less (fun x hx=>Df (is:=[0,1,2,3,4,5]) Ar x hx),size:=by rw[show(rU D W gone).1.kept.length=_ from hb1.2];exact hsize,fin:=by rw[show(rU D W gone).1.kept.length=_ from hb1.2];exact hfin }
  rintro r wz ⟨hcd1,rfl⟩
  refine Xr Bj<|Rq<|Xm Y<|Xc Y<|Xf qY Y<|OV (EL AZ Y (Ar.cell (i:=3) Y Y))<|Aa Bj<|OQ (EC VS Y) (dN m.gd m.gk Uf Uj sp2 (rU D W gone).1 _ (Ar.pick [0,1,2] (by decide)).here hD2 (by have:=hb1.1;show(Dk.write _ _ _).1.wait.length≤_;omega)) ?_
  rintro r Gm ⟨hr3,Ny,Oa,sp3,hD3,Hd⟩
  rw[hr3]
  have Bd:=(Ar.Am [0,1,2] rfl Hd).pick [7,8,9,3,4,5,6] (by decide)
  have hb2:=A4 (rU D W gone).1
  have hk2:(rU D W gone).1.sync.1.kept.length=D.kept.length:=by rw[hb2.2];exact hb1.2
  refine rC (EC F0 Y) (pN _ _) ?_ ?_
  rintro ch wz ⟨hcd,rfl,rfl⟩
  have H9:=Bd.pick [0,1,2,3,4,5] (by decide)
  refine⟨rfl,_,.inr ⟨hcd1,hcd,rfl⟩,{ m with gw:=Ny,cw:=Oa,sp:=sp3 },rfl,rfl,rfl,gH.refl _ _,?_,H9⟩
  exact { h with d:=hD3,lst:=(Ec.to Bd).less (fun x hx=>Df (is:=[0,1,2,3,4,5]) Bd x hx),size:=by rw[hk2];exact hsize,fin:=by rw[hk2];exact hfin }
  rintro r wz ⟨hcd2,rfl⟩
  refine Xr Bj<|J1<|Rq<|Xm Y<|Xc Y<|Xf sI Y<|OV (EL gQ Y (Bd.cell (i:=3) Y Y))<|Aa Bj<|Xm Y<|OV (iZ Tryz.underlying98 xK Y Y ((by omega)))<|OV (ES Tryz.underlying98 Y)<|Xm Y<|Xr Bj<|J7<|zU (fun nQ lQ w=>∃ (k:Nat) (y:Int),gone - k=nQ∧xN (Dj [(0,.pointer (some ⟨m.gv,0,none⟩)),(1,.int .i64 (gone:Int)),(4,.int .u64 ((W.turn+1:Nat):Int)),(82,.slice (hd m.gr) gone m.cr),(83,.int .i64 (gone:Int)),(84,.int .i64 y)] 0 140) lQ∧y=k∧k≤gone∧Hp w0 w (bl (Ah m D W)) (xC m.gd m.gk Ny Oa sp3 (rU D W gone).1.sync.1++[(some m.gv,120,[.pointer (some ⟨m.gd,0,none⟩),.bool W.dead,.int .u64 (W.turn:Int),.int .i64 (W.first:Int),.slice (hd m.gr) W.recs.length m.cr,.slice (hd m.gp) W.places.length m.cp,.int .i64 (W.fin:Int),.int .i64 ((used W.recs - used (W.recs.take k):Nat):Int),.int .i64 (W.told:Int)]),(m.gr,73,m.xs++m.sr),(m.gp,3,qX W.places++m.sq),(some gb,5,u8s (W.head gone))])) (gone) ?_ ?_
  refine⟨0,_,Y,(Pg Y Y Y Y Y Y Y),Y,Nat.zero_le _,?_⟩
  have e0:used W.recs - used (W.recs.take 0)=used W.recs:=by simp[used]
  rw[e0];exact Bd
  rintro nQ lQ w12 ⟨k,y,rfl,hfit,rfl,hk,Bc⟩
  obtain⟨j,rfl⟩:=hfit.open
  refine cR Bj ?_
  clear hfit
  refine Rq<|OT (zQ Y Y) (fun hp85=>?_) (fun hp85=>?_)
  have hkl:k < W.recs.length:=by omega
  obtain⟨Bk,ck,hxk,hrk,hak⟩:=Ec.2 k hkl
  obtain⟨grr,ZU⟩:∃ x,m.gr=some x:=by
   cases hx:m.gr with
   | none=>have:=hrn hx;omega
   | some x=>exact⟨x,rfl⟩
  have hlk:=hlong _ (List.getElem_mem hkl)
  have huk:=JL hkl
  have hud:=pA W.recs (k+1)
  refine Xr Bj<|J1<|J3 Y<|J6<|J1<|J7<|Rq<|OV (EI Tryz.underlying98 xK (a:=⟨grr,0,none⟩) (congrArg (fun A=>some (Value.slice A gone m.cr)) (show hd m.gr=some ⟨grr,0,none⟩ by rw[ZU];rfl)) Y Y (by omega) (Nat.mul_one _)) ?_
  rw[fW]
  refine OV (EL xK Y (Bc.cell (i:=4) (g:=grr) (T:=73) (cs:=m.xs++m.sr) (o:=k) (by rw[← ZU];rfl) (by rw[List.getElem?_append_left (lt_of_get hxk)];exact hxk))) ?_
  refine Xa Y<|Xr Bj<|zR 10 [(true,0),(true,1),(true,2),(true,3),(true,4),(true,5),(true,6),(true,7),(true,8),(true,9),(false,10)] Bc [3] yG (by decide) (by kernel_rfl) ?_
  rintro Io Oh
  have Ce:=Hp.drew Bc;rw[← Oh]at Ce
  refine Zm Y Y<|Zc Y Y<|Zf Y iV Y<|MP Y<|MV (fun wz hz=>EL ty3 Y (hz.cell (i:=0) Y Y))<|cZ Bj<|Zm Y Y<|MP Y<|MV (fun wz hz=>ES Tryz.underlying73 Y)<|MP Y<|rE (fun wz hz=>EC VV Y) (fun wz hz=>jI W.recs[k].length wz (by omega))<|MP Y<|MV (fun wz hz=>uW Y Y ((IntWalk.i64_in _ (by have:=AS hlk;omega)).trans (show(((used W.recs - used (W.recs.take k):Nat):Int) - (wgt W.recs[k].length:Int))=((used W.recs - used (W.recs.take (k+1)):Nat):Int) by omega)))<|cZ Bj<|Zc Y Y<|Zf Y iV Y<|MO Y<|OW ty3 Ce 3 Y Y Y Y (by simp) Y<|fun Md Ei=>OE<|⟨fun hne=>absurd Y hne,?_⟩
  refine cZ Bj<|ME<|cR Bj<|zA (zB ?_)
  refine J2<|OV (zL Y Y (IntWalk.i64_in _ (by omega)))<|Xm Y<|Xr Bj<|zA (zI ?_)
  exact⟨gone - (k+1),by omega,k+1,_,Y,(Pg Y Y Y Y Y Y Y),Y,by omega,Ei⟩
  have hkg:k=gone:=by omega
  subst hkg
  refine Xr Bj<|J1<|J4 Y<|J8<|zT<|zS<|Rq<|Xm Y<|Xm Y<|Xm Y<|Xm Y<|Aa Bj<|Xc Y<|Xf qF Y<|OV (EL ty3 Y (Bc.cell (i:=3) Y Y))<|Xm Y<|Aa Bj<|OV (zL Y Y ((IntWalk.i64_in _ (by omega)).trans (show((W.first:Int)+(k:Int))=((W.first+k:Nat):Int) by omega)))<|Xc Y<|Xf B0 Y<|OW oV Bc 3 Y Y Y Y (by simp) Y<|fun Io Ce=>Xc Y<|Aa Bj<|Xf qF Y<|OW ty3 Ce 3 Y Y Y Y (by simp) Y<|fun Md Ei=>Xr Bj<|J1<|MA 21 [(true,0),(true,1),(true,2),(true,3),(true,4),(true,6),(true,9),(true,10),(true,11),(true,12),(true,13),(true,14),(false,5),(true,7),(false,8),(false,15),(true,16),(true,17),(false,18),(true,19),(true,20),(false,21)] (fun wz=>∃ v,Hp w0 wz (bl (Ah m D W)) [(some m.gv,120,[.pointer (some ⟨m.gd,0,none⟩),.bool W.dead,.int .u64 ((W.turn+1:Nat):Int),.int .i64 ((W.first+k:Nat):Int),v,.slice (hd m.gp) W.places.length m.cp,.int .i64 (W.fin:Int),.int .i64 ((used W.recs - used (W.recs.take k):Nat):Int),.int .i64 (W.told:Int)])]) yG (by kernel_rfl) ?_
  rintro Mc Wn
  have Fa:=Hp.drew Ei;rw[← Wn]at Fa
  refine⟨⟨_,Fa.pick [3] (by decide)⟩,?_⟩
  refine Zm rfl rfl<|Zm rfl rfl<|Zm rfl rfl<|Zc rfl rfl<|cZ Bj<|Zf rfl sI rfl<|Zm rfl rfl<|Zm rfl rfl<|Zc rfl rfl<|cZ Bj<|Zf rfl kQ rfl<|MP rfl<|MV (fun wz hz=>EL JN rfl (by obtain⟨v,hz⟩:=hz;exact hz.cell (i:=0) rfl rfl))<|Zm rfl rfl<|MP rfl<|MV (fun wz hz=>vA Tryz.underlying50 ty3 rfl rfl ((by omega)))<|cZ Bj<|MO rfl<|OV (EL gQ rfl (Fa.cell (i:=3) rfl rfl))<|OE<|⟨fun hne=>⟨_,Fa.pick [3] (by decide)⟩,?_⟩
  refine cZ Bj<|MP Y<|MV (fun wz hz=>vA Tryz.underlying98 xK Y Y ((by omega)))<|MO Y ?_
  have hxr:Rd _ (wG (hd m.gr) k m.cr 1) (W.recs.length - k) 1 (m.xs.drop k):=(MJ (Fa.rd (i:=4) (xs:=m.xs) (sp:=m.sr) rfl (by rw[Ec.1,Nat.mul_one]) (by decide)) (by omega) hrc)
  refine OQ (EC gf61 Y) (eK (wG (hd m.gr) k m.cr 1) (W.recs.length - k) (m.cr - k) (m.xs.drop k) _ hxr (EV Ec.ones k) (by omega)) ?_
  rintro r w16 ⟨g7,c7,s7,hr7,Xv,hs7,XZ,Hc⟩
  rw[hr7]
  have Jf:=Fa.call0 Hc
  refine OE ?_
  refine⟨fun hne=>⟨_,Jf.pick [3] (by decide)⟩,?_⟩
  refine cZ Bj<|MO Y ?_
  have hpr:Rd _ (wG (hd m.gp) k m.cp 1) (W.places.length - k) 1 ((qX W.places).drop k):=(MJ (Jf.rd (i:=5) (xs:=qX W.places) (sp:=m.sq) rfl (by rw[cK,Nat.mul_one]) (by decide)) (by omega) hpc)
  refine OQ (EC gf125 Y) (GB (wG (hd m.gp) k m.cp 1) (W.places.length - k) (m.cp - k) ((qX W.places).drop k) _ hpr (EV (N0 _) k) (by omega)) ?_
  rintro r w17 ⟨g8,c8,s8,hr8,hc8,hs8,hn8,Hc⟩
  rw[hr8]
  have Qv:=Jf.call0 Hc
  refine OE ?_
  refine⟨fun hne=>⟨_,Qv.pick [3] (by decide)⟩,?_⟩
  refine cZ Bj<|Zc Y Y<|Zf Y sI Y<|MO Y<|OW gQ Qv 3 Y Y Y Y (by simp) Y<|fun w18 H18=>OE<|⟨fun hne=>⟨_,H18.pick [3] (by decide)⟩,?_⟩
  refine cZ Bj<|Zc Y Y<|Zf Y kQ Y<|MO Y<|OW JN H18 3 Y Y Y Y (by simp) Y<|fun w19 H19=>OE<|⟨fun hne=>absurd Y hne,?_⟩
  refine cZ Bj<|ME<|cR Bj<|J2<|Xm Y<|Xm Y<|Xc Y<|Xf sI Y<|Aa Bj<|OV (EL gQ Y (H19.cell (i:=3) Y Y))<|OV (ES Tryz.underlying98 Y)<|Xc Y<|Xf eY Y<|Aa Bj<|OW ty3 H19 3 Y Y Y Y (by simp) Y<|fun w20 Y9=>Xr Bj<|zA<|pC Y ?_
  have hu2:used W.recs - used (W.recs.take k)=used (W.recs.drop k):=by have:=pA W.recs k;omega
  have hle:used (W.recs.drop k)≤used W.recs:=by have:=pA W.recs k;omega
  rw[hu2]at Y9
  have hxl:=Ec.1
  have H9:Hp w0 w20 (bl (Ah m D W)) (Ah { m with gw:=Ny,cw:=Oa,sp:=sp3,gr:=g7,cr:=c7,xs:=m.xs.drop k,sr:=s7,gp:=g8,cp:=c8,sq:=s8 } (rU D W k).1.sync.1 (W.tell k)):=by
   have hz:=Y9.pick [0,1,2,3,7,8] (by decide)
   have e1:(W.tell k).recs.length=W.recs.length - k:=by simp[Wl.tell]
   have e2:(W.tell k).places.length=W.places.length - k:=by simp[Wl.tell]
   have e3:qX (W.tell k).places=(qX W.places).drop k:=by simp[Wl.tell,qX,List.map_drop]
   have e4:(W.tell k).told=W.recs.length - k:=by simp[Wl.tell]
   show Hp w0 w20 _ (xC _ _ _ _ _ _++jF _ _)
   unfold jF wcl
   rw[e1,e2,e3,e4]
   exact hz
  refine⟨⟨hcd1,hcd2,rfl⟩,{ m with gw:=Ny,cw:=Oa,sp:=sp3,gr:=g7,cr:=c7,xs:=m.xs.drop k,sr:=s7,gp:=g8,cp:=c8,sq:=s8 },rfl,rfl,rfl,gH.drop _ _ _,?_,H9⟩
  refine⟨hD3,?_,by simp[Wl.tell];omega,hs7,XZ,by simp[Wl.tell,hpl],by simp[Wl.tell];omega,by simpa[Wl.tell,qX,List.map_drop]using hs8,hn8,by simp[Wl.tell];omega,fun r hr=>hlong r (List.mem_of_mem_drop hr),by rw[hk2];exact hsize,by rw[hk2];exact hfin,fun p hp=>Jl p (List.mem_of_mem_drop hp),by show W.first+k≤_;omega,by show W.turn+1≤_;omega,by show used (W.recs.drop k)≤_;omega,by simp[Wl.tell];omega⟩
  exact Gg.less ((Ec.drop k).to Y9) (fun x hx=>Df (is:=[0,1,2,3,7,8]) Y9 x hx)
end Go.Proofs.YtjoeklkmnfaabaaGreat
namespace Go.Proofs.YtjoeklkmnfaabaaGreat
set_option maxRecDepth 100000
set_option maxHeartbeats 4000000
open Go Go.RowKit
set_option linter.unusedVariables false
attribute [local irreducible] yT Ops zP Cd
def nN (W:Wl) (gone:Nat):Bool:=decide (0 < gone∨W.told < W.recs.length)
def QC (D:Dk) (W:Wl) (gone:Nat) (D':Dk) (W':Wl):Prop:=D.sync.2=0∧((nN W gone=false∧D'=D.sync.1∧W'=W)∨(nN W gone=true∧P8 D.sync.1 W gone D'∧W'=W.tell gone))
def EZ (D:Dk) (W:Wl) (gone:Nat) (D':Dk):Prop:=(D.sync.2≠0∧D'=D.sync.1)∨(D.sync.2=0∧nN W gone=true∧I9 D.sync.1 W gone D')
theorem JQ (m:Mw) (D:Dk) (W:Wl) (w0:World) (H0:Hp w0 w0 (bl (Ah m D W)) (Ah m D W)) (h:Eo w0 m D W) (Qe:Nat) (hwx:w0.cell? ⟨Qe,0,none⟩=some (.pointer (some ⟨m.gv,0,none⟩))) (hwn:Qe∉bl (Ah m D W)) (hwt:D.wait.length≤1000000000) (hfl:W.first≤2^50) (htl:W.turn≤2^50):rV Tryz.prog 80 #[.pointer (some ⟨Qe,0,none⟩)] w0 (fun _ w'=>∃ D' W',QC D W 0 D' W'∧vY w0 w' (bl (Ah m D W)) m (D') (W')) (fun ch w'=>ch=iW∧∃ D',EZ D W 0 D'∧vY w0 w' (bl (Ah m D W)) m (D') (W)):=by
 refine gB Tryz.func80 Tryz.ntmps80 Y<|cR e19 ?_
 have H:=H0
 obtain⟨hD,Ec,hrc,hrs,hrn,hpl,hpc,hps,hpn,Dh,hlong,hsize,hfin,Jl,hfirst,hturn,Jb,htold⟩:=id h
 have hkept:=hD.most
 refine Rq<|OV (EL uC Y (xL hwx H hwn))<|Xc Y<|Xf qY Y<|OV (EL AZ Y (H.cell (i:=3) Y Y))<|Aa e19<|OQ (EC VS Y) (dN m.gd m.gk m.gw m.cw m.sp D _ (H.pick [0,1,2] (by decide)).here hD (by omega)) ?_
 rintro r w1 ⟨hr3,Ny,Oa,sp3,hD3,Hd⟩
 rw[hr3]
 have H1:=(H.Am [0,1,2] rfl Hd).pick [6,7,8,3,4,5] (by decide)
 have hb2:=A4 D
 refine rC (EC F0 Y) (pN _ _) ?_ ?_
 rintro ch wz ⟨hcd,rfl,rfl⟩
 have H9:=H1.pick [0,1,2,3,4,5] (by decide)
 refine⟨rfl,_,.inl ⟨hcd,rfl⟩,{ m with gw:=Ny,cw:=Oa,sp:=sp3 },rfl,rfl,rfl,gH.refl _ _,?_,H9⟩
 exact { h with d:=hD3,lst:=Ec.to H1,size:=by rw[hb2.2];exact hsize,fin:=by rw[hb2.2];exact hfin }
 rintro r wz ⟨hcd1,hwz⟩
 rw[hwz]
 have hw6:Eo w1 { m with gw:=Ny,cw:=Oa,sp:=sp3 } D.sync.1 W:={ h with d:=hD3,lst:=Ec.to H1,size:=by rw[hb2.2];exact hsize,fin:=by rw[hb2.2];exact hfin }
 have Hsy:=H1
 refine Xr e19<|J1<|sW [(true,0),(true,1),(true,2),(true,3),(true,4),(true,5),(true,6),(true,7),(true,8),(true,9)] H1 [3] yG (by decide) (by kernel_rfl) ?_
 rintro w2 hw2
 have H2:=Hp.drew H1;rw[← hw2]at H2
 refine zX Y<|MV (fun wz hz=>EL uC Y (xL hwx hz hwn))<|zX Y<|MV (fun wz hz=>yI Y)<|zX Y<|MV (fun wz hz=>EF eY Y)<|zX Y<|MV (fun wz hz=>EL ty3 Y (hz.cell (i:=0) Y Y))<|cM e19<|zX Y<|MV (fun wz hz=>EL uC Y (xL hwx hz hwn))<|zX Y<|MV (fun wz hz=>yI Y)<|zX Y<|MV (fun wz hz=>EF sI Y)<|zX Y<|MV (fun wz hz=>EL gQ Y (hz.cell (i:=0) Y Y))<|cM e19<|zX Y<|MV (fun wz hz=>ES Tryz.underlying98 Y)<|zX Y<|vU (fun wz hz=>zQ Y Y) (fun hp16=>?_) (fun hp16=>?_)
 refine tL<|cR e19<|J3 Y<|J2<|OV (EL uC Y (xL hwx H2 hwn)) ?_
 have Rz:nN W 0=true:=by unfold nN;exact decide_eq_true (by omega)
 have hw7:Eo w2 { m with gw:=Ny,cw:=Oa,sp:=sp3 } D.sync.1 W:={ hw6 with lst:=Ec.to H2 }
 refine rC (EC gf82 rfl) (CQ { m with gw:=Ny,cw:=Oa,sp:=sp3 } D.sync.1 W w2 H2.here hw7 0 (Nat.zero_le _) (by omega) hfl htl) ?_ ?_
 rintro ch wz ⟨rfl,D1,hB,m1,e1,e2,e3,e4,hok1,Hd⟩
 have hz:=(H2.Am [0,1,2,3,4,5] rfl Hd).pick [6,7,8,9,10,11] (by decide)
 exact⟨Y,D1,.inr ⟨hcd1,Rz,hB⟩,m1,e1,e2,e3,(gH.refl _ _).trans e4 H2.size,hok1,hz⟩
 rintro r w3 ⟨hT,m1,e1,e2,e3,e4,hok1,Hd⟩
 have H3:=(H2.Am [0,1,2,3,4,5] rfl Hd).pick [6,7,8,9,10,11] (by decide)
 have hP:vY w0 w3 (bl (Ah m D W)) m _ _:=⟨m1,e1,e2,e3,(gH.refl _ _).trans e4 H2.size,hok1,H3⟩
 refine Xr e19<|zA<|pC Y<|⟨_,_,⟨hcd1,.inr ⟨Rz,hT,Y⟩⟩,hP⟩
 refine tL<|cR e19<|J4 rfl<|J6<|zA<|pC rfl<|⟨_,_,⟨hcd1,.inl ⟨by unfold nN;exact decide_eq_false (by omega),rfl,rfl⟩⟩,{ m with gw:=Ny,cw:=Oa,sp:=sp3 },rfl,rfl,rfl,gH.refl _ _,{ hw6 with lst:=Ec.to H2 },H2⟩
theorem PM (m:Mw) (D:Dk) (W:Wl) (w0:World) (H0:Hp w0 w0 (bl (Ah m D W)) (Ah m D W)) (h:Eo w0 m D W) (Qe:Nat) (hwx:w0.cell? ⟨Qe,0,none⟩=some (.pointer (some ⟨m.gv,0,none⟩))) (hwn:Qe∉bl (Ah m D W)) (gax gone:Nat) (Np:gone≤W.recs.length) (hax:w0.cell? ⟨gax,0,none⟩=some (.int .i64 ((W.first+gone:Nat):Int))) (han:gax∉bl (Ah m D W)) (hwt:D.wait.length≤1000000000) (hfl:W.first≤2^50) (htl:W.turn≤2^50):rV Tryz.prog 83 #[.pointer (some ⟨Qe,0,none⟩),.pointer (some ⟨gax,0,none⟩)] w0 (fun _ w'=>∃ D' W',QC D W gone D' W'∧vY w0 w' (bl (Ah m D W)) m (D') (W')) (fun ch w'=>ch=iW∧∃ D',EZ D W gone D'∧vY w0 w' (bl (Ah m D W)) m (D') (W)):=by
 refine gB Tryz.func83 Tryz.ntmps83 Y<|cR e32 ?_
 have H:=H0
 obtain⟨hD,Ec,hrc,hrs,hrn,hpl,hpc,hps,hpn,Dh,hlong,hsize,hfin,Jl,hfirst,hturn,Jb,htold⟩:=id h
 have hkept:=hD.most
 refine Rq<|OV (EL uC Y (xL hwx H hwn))<|Xc Y<|Xf qY Y<|OV (EL AZ Y (H.cell (i:=3) Y Y))<|Aa e32<|OQ (EC VS Y) (dN m.gd m.gk m.gw m.cw m.sp D _ (H.pick [0,1,2] (by decide)).here hD (by omega)) ?_
 rintro r w1 ⟨hr3,Ny,Oa,sp3,hD3,Hd⟩
 rw[hr3]
 have H1:=(H.Am [0,1,2] rfl Hd).pick [6,7,8,3,4,5] (by decide)
 have hb2:=A4 D
 refine rC (EC F0 Y) (pN _ _) ?_ ?_
 rintro ch wz ⟨hcd,rfl,rfl⟩
 have H9:=H1.pick [0,1,2,3,4,5] (by decide)
 refine⟨rfl,_,.inl ⟨hcd,rfl⟩,{ m with gw:=Ny,cw:=Oa,sp:=sp3 },rfl,rfl,rfl,gH.refl _ _,?_,H9⟩
 exact { h with d:=hD3,lst:=Ec.to H1,size:=by rw[hb2.2];exact hsize,fin:=by rw[hb2.2];exact hfin }
 rintro r wz ⟨hcd1,hwz⟩
 rw[hwz]
 have hw6:Eo w1 { m with gw:=Ny,cw:=Oa,sp:=sp3 } D.sync.1 W:={ h with d:=hD3,lst:=Ec.to H1,size:=by rw[hb2.2];exact hsize,fin:=by rw[hb2.2];exact hfin }
 have Hsy:=H1
 refine Xr e32<|J1<|sW [(true,0),(true,1),(true,2),(true,3),(true,4),(true,5),(true,6)] H1 [3] yG (by decide) (by kernel_rfl) ?_
 rintro w2 hw2
 have H2:=Hp.drew H1;rw[← hw2]at H2
 refine zX Y<|MV (fun wz hz=>EL ty3 Y (xL hax hz han))<|zX Y<|MV (fun wz hz=>EL uC Y (xL hwx hz hwn))<|zX Y<|MV (fun wz hz=>yI Y)<|zX Y<|MV (fun wz hz=>EF qF Y)<|cM e32<|zX Y<|MV (fun wz hz=>EL ty3 Y (hz.cell (i:=0) Y Y))<|zX Y<|MV (fun wz hz=>uW Y Y ((IntWalk.i64_in _ (by omega)).trans (show(((W.first+gone:Nat):Int) - (W.first:Int))=((gone:Nat):Int) by omega)))<|zX Y<|MV (fun wz hz=>zO Y)<|tL<|cR e32<|J1<|sW [(true,0),(true,1),(true,2),(true,3),(true,4),(true,5),(true,6),(true,7),(true,8),(true,9),(true,10),(true,11),(true,12),(true,13)] H2 [3] yG (by decide) (by kernel_rfl) ?_
 rintro w3 hw3
 have H3:=Hp.drew H2;rw[← hw3]at H3
 refine zX Y<|MV (fun wz hz=>zK Y)<|zX Y<|vU (fun wz hz=>yO Y Y) (fun hp16=>?_) (fun hp16=>?_)
 refine zX Y<|MV (fun wz hz=>zK Y)<|zX Y<|MZ Y<|cM e32<|zX Y<|MZ Y<|zX Y<|MZ Y<|cM e32<|zX Y<|MZ Y<|zX Y<|MZ Y<|cM e32<|zX Y<|MZ Y<|zX Y<|MZ Y<|cM e32<|zX Y<|MZ Y<|zX Y<|MZ Y<|cM e32<|zX Y<|MZ Y<|zX Y<|MV (fun wz hz=>xS Y Y) ?_
 have m1:=()
 rotate_left 1
 refine zX Y<|MV (fun wz hz=>zK Y)<|zX Y<|MY Y<|MV (fun wz hz=>EL uC Y (xL hwx hz hwn))<|zX Y<|MY Y<|MV (fun wz hz=>yI Y)<|cM e32<|zX Y<|MY Y<|MV (fun wz hz=>EF eY Y)<|zX Y<|MY Y<|MV (fun wz hz=>EL ty3 Y (hz.cell (i:=0) Y Y))<|zX Y<|MY Y<|MV (fun wz hz=>EL uC Y (xL hwx hz hwn))<|zX Y<|MY Y<|MV (fun wz hz=>yI Y)<|cM e32<|zX Y<|MY Y<|MV (fun wz hz=>EF sI Y)<|zX Y<|MY Y<|MV (fun wz hz=>EL gQ Y (hz.cell (i:=0) Y Y))<|zX Y<|MY Y<|MV (fun wz hz=>ES Tryz.underlying98 Y)<|zX Y<|MY Y<|vU (fun wz hz=>zQ Y Y) (fun XV=>?_) (fun XV=>?_)
 refine zX Y<|MV (fun wz hz=>wT Y Y)<|cM e32 ?_
 have m1:=()
 rotate_left 1
 refine zX rfl<|MV (fun wz hz=>wT rfl rfl)<|cM e32<|tL<|cR e32<|J4 rfl<|J6<|zA<|pC rfl<|⟨_,_,⟨hcd1,.inl ⟨by unfold nN;exact decide_eq_false (by omega),rfl,rfl⟩⟩,{ m with gw:=Ny,cw:=Oa,sp:=sp3 },rfl,rfl,rfl,gH.refl _ _,{ hw6 with lst:=Ec.to H3 },H3⟩
 any_goals
  clear m1
  refine tL<|cR e32<|J3 Y<|J2<|OV (EL uC Y (xL hwx H3 hwn))<|Xm Y ?_
  have Rz:nN W gone=true:=by unfold nN;exact decide_eq_true (by omega)
  have hw7:Eo w3 { m with gw:=Ny,cw:=Oa,sp:=sp3 } D.sync.1 W:={ hw6 with lst:=Ec.to H3 }
  refine rC (EC gf82 rfl) (CQ { m with gw:=Ny,cw:=Oa,sp:=sp3 } D.sync.1 W w3 H3.here hw7 gone Np (by omega) hfl htl) ?_ ?_
  rintro ch wz ⟨rfl,D1,hB,m1,e1,e2,e3,e4,hok1,Hd⟩
  have hz:=(H3.Am [0,1,2,3,4,5] rfl Hd).pick [6,7,8,9,10,11] (by decide)
  exact⟨Y,D1,.inr ⟨hcd1,Rz,hB⟩,m1,e1,e2,e3,(gH.refl _ _).trans e4 H3.size,hok1,hz⟩
  rintro r w4 ⟨hT,m1,e1,e2,e3,e4,hok1,Hd⟩
  have H4:=(H3.Am [0,1,2,3,4,5] rfl Hd).pick [6,7,8,9,10,11] (by decide)
  have hP:vY w0 w4 (bl (Ah m D W)) m _ _:=⟨m1,e1,e2,e3,(gH.refl _ _).trans e4 H3.size,hok1,H4⟩
  refine Xr e32<|zA<|pC Y<|⟨_,_,⟨hcd1,.inr ⟨Rz,hT,Y⟩⟩,hP⟩
end Go.Proofs.YtjoeklkmnfaabaaGreat
namespace Go.Proofs.YtjoeklkmnfaabaaGreat
set_option maxRecDepth 100000
set_option maxHeartbeats 4000000
open Go Go.RowKit
set_option linter.unusedVariables false
attribute [local irreducible] yT Ops zP Cd
theorem K9 (a b:Nat) (ha:a < 2^62) (hb:b < 2^62):bits .or .i64 (a:Int) (b:Int)=((a ||| b:Nat):Int):=by
 have h1:a < 2^IntKind.i64.bits:=by show a < 2^64;omega
 have h2:b < 2^IntKind.i64.bits:=by show b < 2^64;omega
 simp only[bits,BitVec.toNat_or,rD .i64 a h1,rD .i64 b h2]
 have:=Nat.or_lt_two_pow ha hb
 exact IntWalk.i64_in _ (by omega)
theorem orp {a b k c:Nat} (h:a < 2^k) (hb:2^k*b < 2^62) (ha:a < 2^62) (hc:a+2^k*b=c):bits .or .i64 (a:Int) ((2^k*b:Nat):Int)=(c:Int):=by
 rw[K9 _ _ ha hb,Nat.or_comm,← Nat.two_pow_add_eq_or_of_lt h,Nat.add_comm,hc]
theorem shi (x k:Nat) (hk:k≤40) (h:2^k*x < 2^62):IntKind.i64.wrap ((x:Int)*2^(min ((k:Nat):Int).toNat IntKind.i64.bits))=((2^k*x:Nat):Int):=by
 have e:min ((k:Nat):Int).toNat IntKind.i64.bits=k:=by show min k 64=k;omega
 rw[e,show((x:Int)*2^k)=((2^k*x:Nat):Int) by rw[Nat.mul_comm];simp]
 exact IntWalk.i64_in _ (by omega)
theorem SB (n:Nat) (h:n < 2^31):n % 256+2^8*(n / 256 % 256)=n % 65536∧n % 65536+2^16*(n / 65536 % 256)=n % 16777216∧n % 16777216+2^24*(n / 16777216 % 256)=n:=by omega
def Na (b:Blk) (i:Nat):Blk:=((Dl b).take (64*i)).drop 4
theorem IU {b:Blk} {i:Nat} (h:i≤Eb b.length):(Na b i).length=64*i - 4:=by
 have:=iT b
 simp[Na];omega
theorem OM (b:Blk):Dl b=le4 b.length++(b++List.replicate (jQ b.length) 0):=by simp[Dl,mN]
theorem SR {b:Blk}:rB (Dl b) 0=le4 b.length++Na b 1:=by
 unfold rB Na
 rw[Nat.mul_zero,List.drop_zero,Nat.mul_one,OM]
 simp[le4]
theorem PB (b:Blk) {i:Nat} (h1:1≤i) (h:i < Eb b.length):Na b i++rB (Dl b) i=Na b (i+1):=by
 unfold Na rB
 have hl:=iT b
 have e:(Dl b).take (64*(i+1))=(Dl b).take (64*i)++((Dl b).drop (64*i)).take 64:=by rw[show 64*(i+1)=64*i+64 by omega,List.take_add]
 rw[e,List.drop_append_of_le_length (by simp;omega)]
theorem PA {b:Blk} {i:Nat} (h:b.length≤64*i - 4) (hi:1≤i):∃ t,Na b i=b++t:=by
 unfold Na
 rw[List.drop_take,OM,List.drop_append_of_le_length (by simp[le4]),show(le4 b.length).drop 4=[] by simp[le4],List.nil_append,show 64*i - 4=b.length+(64*i - 4 - b.length) by omega,List.take_length_add_append]
 exact⟨_,Y⟩
def Wl.Aw (W:Wl) (D:Dk) (rs:List Blk):Nat→Wl
 | 0=>W
 | k+1=>(W.Aw D rs k).took D (rs.getD k [])
theorem jK (W:Wl) (D:Dk) (rs:List Blk):∀ k,(W.Aw D rs k).dead=W.dead∧(W.Aw D rs k).turn=W.turn∧(W.Aw D rs k).first=W.first∧(W.Aw D rs k).told=W.told
 | 0=>⟨rfl,rfl,rfl,rfl⟩
 | k+1=>jK W D rs k
theorem jL (W:Wl) (D:Dk) (rs:List Blk):∀ k,k≤rs.length→(W.Aw D rs k).recs=W.recs++rs.take k
 | 0,_=>by simp[Wl.Aw]
 | k+1,h=>by
  show(W.Aw D rs k).recs++[rs.getD k []]=_
  rw[jL W D rs k (by omega),List.append_assoc,List.take_add_one,List.getD_eq_getElem?_getD,List.getElem?_eq_getElem (by omega)]
  rfl
def WC (D:Dk) (W:Wl) (rs:List Blk):Prop:=∀ k (h:k < rs.length),∀ j,j < Eb rs[k].length→D.show (2+((W.Aw D rs k).fin+j) % (D.kept.length - 2))=rB (Dl rs[k]) j
def Wl.found (W:Wl) (D:Dk) (rs:List Blk):Wl:={ W.Aw D rs rs.length with told:=(W.Aw D rs rs.length).recs.length }
theorem Hp.rdO {w0 w:World} {S:List Nat} {es:List Ent} (H:Hp w0 w S es) {i g o nn:Nat} {T:TypeId} {pre xs sp:List Value} (hi:es[i]? =some (some g,T,pre++(xs++sp))) (ho:pre.length=o) (hn:xs.length=nn*1):Rd w (some ⟨g,o,none⟩) nn 1 xs:=by
 refine⟨hn,fun a hx j u hu=>?_,by simp⟩
 simp only[Option.some.injEq]at hx
 subst hx
 rw[Addr.add_lit]
 refine H.cell (i:=i) hi ?_
 rw[List.getElem?_append_right (by omega),ho,Nat.add_sub_cancel_left,List.getElem?_append_left (lt_of_get hu)]
 exact hu
theorem aK (gd gk:Nat) (gw:Option Nat) (cw:Nat) (sp:List Value) (D:Dk) (w0:World) (H0:Hp w0 w0 (bl (xC gd gk gw cw sp D)) (xC gd gk gw cw sp D)) (hD:Hw D gw cw sp) (hdn:D.down=false) (n:Nat) (hn:n < D.kept.length) (hm:D.wait.length≤1000000000):zP Tryz.prog 56 #[.pointer (some ⟨gd,0,none⟩),.int .i64 (n:Int)] w0 (fun r w'=>∃ g cap s,r=.tuple #[.slice (some ⟨g,0,none⟩) 64 cap,.int .i64 ((0:Nat):Int)]∧64≤cap∧cap≤(u8s (D.show n)++s).length∧Hp w0 w' (bl (xC gd gk gw cw sp D)) (xC gd gk gw cw sp D++[(some g,5,u8s (D.show n)++s)])):=by
 refine(MH gd gk gw cw sp D w0 H0 hD (n:Int) (by omega)).mono ?_
 rw[RJ hdn hn]
 have e:(D.show n).length=64:=CU hD hn
 rintro r w' ⟨g,cap,s,h1,h2,h3,h4,h5⟩
 simp only[e]at h1 h2
 cases g with
 | none=>have:=h4 rfl;omega
 | some g=>exact⟨g,cap,s,h1,h2,by rw[Nat.mul_one]at h3;exact h3,h5⟩
theorem AL (m:Mw) (D:Dk) (W:Wl) (w0:World) (H0:Hp w0 w0 (bl (Ah m D W)) (Ah m D W)) (h:Eo w0 m D W) (hdn:D.down=false) (hwt:D.wait.length≤1000000000) (i:Nat) (hi:i < D.kept.length - 2):zP Tryz.prog 103 #[.pointer (some ⟨m.gv,0,none⟩),.int .i64 (i:Int)] w0 (fun r w'=>∃ g cap s,r=.slice (some ⟨g,0,none⟩) 64 cap∧64≤cap∧cap≤(u8s (D.show (2+i))++s).length∧Hp w0 w' (bl (Ah m D W)) (Ah m D W++[(some g,5,u8s (D.show (2+i))++s)])):=by
 refine zE Tryz.func103 Tryz.ntmps103 Y<|cR e20 ?_
 have H:=H0
 obtain⟨hD,Ec,hrc,hrs,hrn,hpl,hpc,hps,hpn,Dh,hlong,hsize,hfin,Jl,hfirst,hturn,Jb,htold⟩:=id h
 have hkept:=hD.most
 refine Rq<|Xa Y<|Xr e20<|Rq<|Xm Y<|Xc Y<|Xf qY Y<|OV (EL AZ Y (H.cell (i:=3) Y Y))<|Aa e20<|Xm Y<|OV (zL Y Y ((IntWalk.i64_in _ (by omega)).trans (show(2+(i:Int))=((2+i:Nat):Int) by omega)))<|OQ (EC gf56 Y) (aK m.gd m.gk m.gw m.cw m.sp D _ (H.pick [0,1,2] (by decide)).here hD hdn (2+i) (by omega) hwt) ?_
 rintro r w1 ⟨g,cap,s,hr,hcap,hcs,Hc⟩
 rw[hr]
 have H1:=(H.Am [0,1,2] rfl Hc).pick [6,7,8,3,4,5,9] (by decide)
 refine Xm Y<|Aa e20<|Xe Y Y<|Xe Y Y<|Xa Y<|Xa Y<|Xr e20<|Rq<|Xm Y<|OQ (EC F0 Y) ((pN 0 _).d (fun _ _ hx=>hx.1 Y)) ?_
 rintro r wz ⟨_,hwz⟩
 rw[hwz]
 refine Xr e20<|Rq<|Xm Y<|Xa Y<|Xr e20<|J5<|Ak Y Y<|⟨g,cap,s,Y,hcap,hcs,H1⟩
theorem O5 (m:Mw) (D:Dk) (W:Wl) (w0:World) (H0:Hp w0 w0 (bl (Ah m D W)) (Ah m D W)) (h:Eo w0 m D W) (hdn:D.down=false) (hwt:D.wait.length≤1000000000) (rs:List Blk) (hW:W.recs=[]) (hlaid:WC D W rs) (hrm:rs.length≤16384) (hrR:rs.length≤(D.kept.length - 2)) (hrl:∀ b∈rs,b.length≤16384) (hru:used rs≤2^39):zP Tryz.prog 59 #[.pointer (some ⟨m.gv,0,none⟩),.agg [.int .u64 (W.turn:Int),.int .i64 (W.first:Int),.int .i64 ((W.first+rs.length:Nat):Int),.int .i64 (W.fin:Int)].toArray] w0 (fun _ w'=>vY w0 w' (bl (Ah m D W)) m (D) (W.found D rs)):=by
 refine zE Tryz.func59 Tryz.ntmps59 Y<|cR e128 ?_
 have H:=H0
 obtain⟨hD,Ec,hrc,hrs,hrn,hpl,hpc,hps,hpn,Dh,hlong,hsize,hfin,Jl,hfirst,hturn,Jb,htold⟩:=id h
 have hkept:=hD.most
 have hlen0:W.recs.length=0:=by rw[hW];rfl
 refine Rq<|yA Y Y H<|fun w1 gh H1 hgh=>Xr e128<|Rq<|Xm Y<|wP (EC VT Y) (FK m.gv m.gd D.kept.length _ _ _ (H1.cell (i:=3) Y Y) (H1.cell (i:=0) Y Y) hkept)<|Xa Y<|Xr e128<|J1<|Rq<|Xm Y<|Dy (zQ Y Y) (by omega)<|Xm Y<|Aa e128<|OY Y<|Xf BY Y<|OY Y<|OV (EL ty3 Y (H1.cell (i:=6) Y Y))<|Aa e128<|OY Y<|Dy (zQ Y Y) (by omega)<|Xu Y Y<|Xm Y<|Aa e128<|OY Y<|Xf BY Y<|OY Y<|OV (EL ty3 Y (H1.cell (i:=6) Y Y))<|Aa e128<|OY Y<|Xm Y<|OY Y<|Dy (wL Y Y) (by omega)<|Xu Y Y ?_
 refine Xm Y<|Aa e128<|OY Y<|Xf BZ Y<|OY Y<|OV (EL ty3 Y (H1.cell (i:=6) Y Y))<|Aa e128<|OY Y<|Dy (zQ Y Y) (by omega)<|Xu Y Y<|Xm Y<|Aa e128<|OY Y<|Xf IQ Y<|OY Y<|OV (EL ty3 Y (H1.cell (i:=6) Y Y))<|Aa e128<|OY Y<|Xf BZ Y<|OY Y<|OV (EL ty3 Y (H1.cell (i:=6) Y Y))<|Aa e128<|OY Y<|Dy (zQ Y Y) (by omega)<|Xu Y Y<|Xr e128<|J4 Y<|J6<|J1<|J7<|zU (fun nQ lQ w=>∃ (k:Nat) (m1:Mw),rs.length - k=nQ∧xN (Dj [(0,.pointer (some ⟨m.gv,0,none⟩)),(3,.pointer (some ⟨gh,0,none⟩)),(4,.int .i64 ((D.kept.length:Int) - 2))] 0 128) lQ∧k≤rs.length∧m1.gd=m.gd∧m1.gk=m.gk∧m1.gv=m.gv∧gH w0 m.xs m1.xs∧Eo w m1 D (W.Aw D rs k)∧Gg w (Ah m1 D (W.Aw D rs k)++[(some gh,122,[.int .u64 (W.turn:Int),.int .i64 (W.first:Int),.int .i64 ((W.first+rs.length:Nat):Int),.int .i64 (W.fin:Int)])]) m1.xs (W.Aw D rs k).recs∧Hp w0 w (bl (Ah m D W)) (Ah m1 D (W.Aw D rs k)++[(some gh,122,[.int .u64 (W.turn:Int),.int .i64 (W.first:Int),.int .i64 ((W.first+rs.length:Nat):Int),.int .i64 (W.fin:Int)])])) (rs.length) ?_ ?_
 refine⟨0,m,Y,(Jc Y Y Y Y),Nat.zero_le _,Y,Y,Y,gH.refl _ _,h.move H1 [0,1,2,3,4,5] Y,Ec.to H1,H1⟩
 rintro nQ lQ w2 ⟨k,m1,rfl,hfit,hk,e1,e2,e3,hxs,hw1,hl,H2⟩
 obtain⟨j,rfl⟩:=hfit.open
 refine cR e128 ?_
 clear hfit
 obtain⟨gd1,gk1,Ug,Uk,sp1,gv1,Uh,Ul,xs1,Rj,Ui,Um,Rk⟩:=m1
 simp only at e1 e2 e3 hxs
 subst e1 e2 e3
 have hsm:=jK W D rs k
 have hrk:=jL W D rs k hk
 rw[hW,List.nil_append]at hrk
 have hlk:(W.Aw D rs k).recs.length=k:=by rw[hrk];simp;omega
 have hfk:=hw1.fin
 have HR:=H2
 have H2:=(H2.pick [0,1,2,3,4,5,6] (by decide)).here
 change Hp w2 w2 (bl (Ah ⟨m.gd,m.gk,Ug,Uk,sp1,m.gv,Uh,Ul,xs1,Rj,Ui,Um,Rk⟩ D (W.Aw D rs k)++[(some gh,122,[.int .u64 (W.turn:Int),.int .i64 (W.first:Int),.int .i64 ((W.first+rs.length:Nat):Int),.int .i64 (W.fin:Int)])])) (Ah ⟨m.gd,m.gk,Ug,Uk,sp1,m.gv,Uh,Ul,xs1,Rj,Ui,Um,Rk⟩ D (W.Aw D rs k)++[(some gh,122,[.int .u64 (W.turn:Int),.int .i64 (W.first:Int),.int .i64 ((W.first+rs.length:Nat):Int),.int .i64 (W.fin:Int)])])at H2
 refine J1<|J1<|sW [(true,0),(true,1),(true,2),(true,3),(true,4),(true,5),(true,6),(true,7),(true,8),(true,9),(true,10),(true,11),(true,12),(true,13),(true,14),(true,15),(true,16),(true,17),(true,18),(true,19),(true,20),(true,21)] H2 [3,6] yG (by decide) (by kernel_rfl) ?_
 rintro w3 hw3
 have H3:=Hp.drew H2;rw[← hw3]at H3
 refine zX Y<|MV (fun wz hz=>zK Y)<|zX Y<|MV (fun wz hz=>yI Y)<|zX Y<|MV (fun wz hz=>EF qF Y)<|zX Y<|MV (fun wz hz=>EL ty3 Y (hz.cell (i:=0) Y Y))<|cM e128<|zX Y<|MV (fun wz hz=>zK Y)<|zX Y<|MV (fun wz hz=>yI Y)<|zX Y<|MV (fun wz hz=>EF sI Y)<|zX Y<|MV (fun wz hz=>EL gQ Y (hz.cell (i:=0) Y Y))<|cM e128<|zX Y<|MV (fun wz hz=>ES Tryz.underlying98 Y)<|zX Y<|MV (fun wz hz=>zL Y Y ((IntWalk.i64_in _ (by rw[hlk,hsm.2.2.1];omega)).trans (show((W.Aw D rs k).first:Int)+((W.Aw D rs k).recs.length:Int)=((W.first+k:Nat):Int) by rw[hlk,hsm.2.2.1];omega)))<|zX Y<|MV (fun wz hz=>EF IQ Y)<|zX Y<|MV (fun wz hz=>EL ty3 Y (hz.cell (i:=1) Y Y))<|cM e128<|zX Y<|vU (fun wz hz=>zQ Y Y) (fun Sr=>?_) (fun Sr=>?_)
 have hkl:k < rs.length:=by omega
 have hlr:=hrl _ (List.getElem_mem hkl)
 refine zX Y<|MV (fun wz hz=>zK Y)<|zX Y<|MY Y<|MV (fun wz hz=>zK Y)<|zX Y<|MY Y<|MV (fun wz hz=>yI Y)<|zX Y<|MY Y<|MV (fun wz hz=>EF sI Y)<|cM e128<|zX Y<|MY Y<|MV (fun wz hz=>EL gQ Y (hz.cell (i:=0) Y Y))<|zX Y<|MY Y<|MV (fun wz hz=>ES Tryz.underlying98 Y)<|zX Y<|MY Y<|MV (fun wz hz=>zK Y)<|zX Y<|MY Y<|kJ (fun wz hz=>tB Y Y) (by rw[hlk];omega)<|cM e128<|zX Y<|MV (fun wz hz=>xS Y Y)<|tL<|cR e128<|J3 Y<|J6<|J7<|Rq<|Xm Y<|Xm Y<|Xc Y<|Xf oA Y<|Aa e128<|OV (EL ty3 Y (H3.cell (i:=3) Y Y)) ?_
 have hw2:Eo w3 ⟨m.gd,m.gk,Ug,Uk,sp1,m.gv,Uh,Ul,xs1,Rj,Ui,Um,Rk⟩ D (W.Aw D rs k):={ hw1 with lst:=(hl.to H3).less (fun x hx=>Df (is:=[0,1,2,3,4,5]) H3 x hx) }
 refine OQ (EC UH Y) (AL ⟨m.gd,m.gk,Ug,Uk,sp1,m.gv,Uh,Ul,xs1,Rj,Ui,Um,Rk⟩ D (W.Aw D rs k) w3 (H3.pick [0,1,2,3,4,5] (by decide)).here hw2 hdn hwt ((W.Aw D rs k).fin) hfk) ?_
 rintro r w4 ⟨g5,cap5,s5,hr5,hc5,hs5,Hc⟩
 rw[hr5]
 have H4:=(H3.Am [0,1,2,3,4,5] rfl Hc).pick [7,8,9,10,11,12,6,13] (by decide)
 have hnb:=R8 rs[k].length
 have hb0:=hlaid k hkl 0 hnb
 rw[Nat.add_zero,Nat.mod_eq_of_lt hfk,SR]at hb0
 rw[hb0]at H4 hs5
 have hc4:u8s (le4 rs[k].length++Na rs[k] 1)++s5=[Value.int .u8 ((rs[k].length % 256:Nat):Int),.int .u8 ((rs[k].length / 256 % 256:Nat):Int),.int .u8 ((rs[k].length / 65536 % 256:Nat):Int),.int .u8 ((rs[k].length / 16777216 % 256:Nat):Int)]++(u8s (Na rs[k] 1)++s5):=by rw[vD,← AB,List.append_assoc]
 rw[hc4]at H4 hs5
 have hls:=SB rs[k].length (by omega)
 have hl1:=IU (b:=rs[k]) (i:=1) (by omega)
 have hu5:cap5 - 4≤(u8s (Na rs[k] 1)++s5).length:=by rw[List.length_append]at hs5;simp only[List.length_cons,List.length_nil]at hs5;omega
 refine Xa Y<|Xr e128<|J1<|sW [(true,0),(true,1),(true,2),(true,3),(true,4),(true,5),(true,6),(true,7),(true,8),(true,9),(true,10),(true,11),(true,12),(true,13),(true,14),(true,15),(true,16),(true,17),(true,18),(true,19),(true,20),(true,21),(true,22)] H4 [7] yG (by decide) (by kernel_rfl) ?_
 rintro w5 hw5
 have H5:=Hp.drew H4;rw[← hw5]at H5
 refine zX Y<|MV (fun wz hz=>zK Y)<|zX Y<|MV (fun wz hz=>EI Tryz.underlying73 ty5 Y Y (i:=0) Y (by omega) (Nat.mul_one _))<|zX Y<|MV (fun wz hz=>EL ty5 Y (hz.cell (i:=0) Y Y))<|zX Y<|MV (fun wz hz=>xJ Tryz.underlying3 Tryz.underlying5 Y (IntWalk.i64_in _ (by omega)))<|cM e128<|zX Y<|MV (fun wz hz=>zK Y)<|zX Y<|MV (fun wz hz=>EI Tryz.underlying73 ty5 Y Y (i:=1) Y (by omega) (Nat.mul_one _))<|zX Y<|MV (fun wz hz=>EL ty5 Y (hz.cell (i:=0) Y Y))<|zX Y<|MV (fun wz hz=>xJ Tryz.underlying3 Tryz.underlying5 Y (IntWalk.i64_in _ (by omega)))<|cM e128<|zX Y<|MV (fun wz hz=>lN Y Y (by omega) (shi _ 8 (by decide) (by omega)))<|zX Y<|MV (fun wz hz=>eH Y Y (orp (by omega) (by omega) (by omega) hls.1))<|zX Y<|MV (fun wz hz=>zK Y)<|zX Y<|MV (fun wz hz=>EI Tryz.underlying73 ty5 Y Y (i:=2) Y (by omega) (Nat.mul_one _))<|cM e128<|zX Y<|MV (fun wz hz=>EL ty5 Y (hz.cell (i:=0) Y Y))<|zX Y<|MV (fun wz hz=>xJ Tryz.underlying3 Tryz.underlying5 Y (IntWalk.i64_in _ (by omega)))<|zX Y<|MV (fun wz hz=>lN Y Y (by omega) (shi _ 16 (by decide) (by omega)))<|zX Y<|MV (fun wz hz=>eH Y Y (orp (by omega) (by omega) (by omega) hls.2.1))<|cM e128<|zX Y<|MV (fun wz hz=>zK Y)<|zX Y<|MV (fun wz hz=>EI Tryz.underlying73 ty5 Y Y (i:=3) Y (by omega) (Nat.mul_one _)) ?_
 refine zX Y<|MV (fun wz hz=>EL ty5 Y (hz.cell (i:=0) Y Y))<|zX Y<|MV (fun wz hz=>xJ Tryz.underlying3 Tryz.underlying5 Y (IntWalk.i64_in _ (by omega)))<|cM e128<|zX Y<|MV (fun wz hz=>lN Y Y (by omega) (shi _ 24 (by decide) (by omega)))<|zX Y<|MV (fun wz hz=>eH Y Y (orp (by omega) (by omega) (by omega) hls.2.2))<|zX Y<|MV (fun wz hz=>zO Y)<|tL<|cR e128<|J1<|Rq<|Xm Y<|Dy (zQ Y Y) (by omega)<|Xm Y<|Aa e128<|OY Y<|Xm Y<|OY Y<|Dy (yO Y Y) (by omega)<|Xu Y Y<|Xr e128<|J4 Y<|J6<|Rq<|Xm Y ?_
 have hca:wG (some ⟨g5,0,none⟩) (Int.toNat 4) cap5 1=some ⟨g5,4,none⟩:=by unfold wG;rw[if_neg (by show ¬cap5=4;omega)];rfl
 refine OV (vA Tryz.underlying73 ty5 Y Y (by omega)) ?_
 rw[hca]
 refine Xa Y<|Xr e128<|J1<|Rq<|Xa Y<|Xr e128<|J7<|zU (fun nQ lQ w=>∃ (i g o cap nn:Nat) (pre sp:List Value) (y:Int),Eb rs[k].length - i=nQ∧xN (Dj [(0,.pointer (some ⟨m.gv,0,none⟩)),(3,.pointer (some ⟨gh,0,none⟩)),(4,.int .i64 ((D.kept.length:Int) - 2)),(5,.slice (some ⟨g,o,none⟩) nn cap),(6,.int .i64 (rs[k].length:Int)),(7,.int .i64 y)] 0 128) lQ∧y=(i:Int)∧nn=(Na rs[k] i).length∧1≤i∧i≤Eb rs[k].length∧pre.length=o∧(Na rs[k] i).length≤cap∧cap≤(u8s (Na rs[k] i)++sp).length∧Hp w2 w (bl (Ah ⟨m.gd,m.gk,Ug,Uk,sp1,m.gv,Uh,Ul,xs1,Rj,Ui,Um,Rk⟩ D (W.Aw D rs k)++[(some gh,122,[.int .u64 (W.turn:Int),.int .i64 (W.first:Int),.int .i64 ((W.first+rs.length:Nat):Int),.int .i64 (W.fin:Int)])])) ((Ah ⟨m.gd,m.gk,Ug,Uk,sp1,m.gv,Uh,Ul,xs1,Rj,Ui,Um,Rk⟩ D (W.Aw D rs k)++[(some gh,122,[.int .u64 (W.turn:Int),.int .i64 (W.first:Int),.int .i64 ((W.first+rs.length:Nat):Int),.int .i64 (W.fin:Int)])])++[(some g,5,pre++(u8s (Na rs[k] i)++sp))])) (Eb rs[k].length - 1) ?_ ?_
 exact⟨1,g5,4,cap5 - 4,_,_,s5,_,Y,(Pg Y Y Y Y Y Y Y),Y,hl1.symm,Nat.le_refl _,by omega,Y,by omega,hu5,H5⟩
 rintro nQ lQ w6 ⟨i,g,o,cap,nn,pre,sp,y,rfl,hfit,rfl,rfl,hi1,hin,hpo,hcl,hcs,H6⟩
 obtain⟨j,rfl⟩:=hfit.open
 refine cR e128 ?_
 clear hfit
 have hli:=IU hin
 refine J1<|Rq<|Xm Y<|OV (ES Tryz.underlying73 Y)<|Xm Y<|OT (zQ Y Y) (fun hp99=>?_) (fun hp99=>?_)
 have hil:i < Eb rs[k].length:=by unfold Eb;omega
 refine Xr e128<|J3 Y<|J6<|J1<|J7<|J2<|Xm Y<|Xm Y<|Xm Y<|Xc Y<|Aa e128<|Xf oA Y<|OV (EL ty3 Y (H6.cell (i:=3) Y Y))<|Xm Y<|OV (zL Y Y ((IntWalk.i64_in _ (by have:=fI hlr;omega)).trans (show(((W.Aw D rs k).fin:Int)+(i:Int))=(((W.Aw D rs k).fin+i:Nat):Int) by omega)))<|Aa e128<|Xm Y<|OV (fP Y Y (by omega) ((by rw[show((D.kept.length:Int) - 2)=((D.kept.length - 2:Nat):Int) by omega];exact aC _ _:(((W.Aw D rs k).fin+i:Nat):Int).tmod ((D.kept.length:Int) - 2)=((((W.Aw D rs k).fin+i) % (D.kept.length - 2):Nat):Int)))) ?_
 have hw3:Eo w6 ⟨m.gd,m.gk,Ug,Uk,sp1,m.gv,Uh,Ul,xs1,Rj,Ui,Um,Rk⟩ D (W.Aw D rs k):={ hw1 with lst:=(hl.to H6).less (fun x hx=>Df (is:=[0,1,2,3,4,5]) H6 x hx) }
 refine OQ (EC UH Y) (AL ⟨m.gd,m.gk,Ug,Uk,sp1,m.gv,Uh,Ul,xs1,Rj,Ui,Um,Rk⟩ D (W.Aw D rs k) w6 (H6.pick [0,1,2,3,4,5] (by decide)).here hw3 hdn hwt (((W.Aw D rs k).fin+i) % (D.kept.length - 2)) (Nat.mod_lt _ (by omega))) ?_
 rintro r w7 ⟨g5,cap5,s5,hr5,hc5,hs5,Hc⟩
 rw[hr5]
 have H7:=(H6.Am [0,1,2,3,4,5] rfl Hc).pick [8,9,10,11,12,13,6,7,14] (by decide)
 have hbi:=hlaid k hkl i hil
 rw[hbi]at H7
 have hMl:(rB (Dl rs[k]) i).length=64:=dB (by have:=iT rs[k];omega)
 have hrM:=H7.rd (i:=8) (o:=some g5) (xs:=u8s (rB (Dl rs[k]) i)) (sp:=s5) rfl (yV _) (by decide)
 rw[← hMl]
 refine M8 Tryz.underlying73 ty5 H7 7 (L:=Na rs[k] i) (M:=rB (Dl rs[k]) i) Y Y hpo hcs hcl Y hrM (by have:=fI hlr;omega)<|fun w8 g7 o7 pre7 cap7 sp7 H8 ho7 hl7 Xv=>?_
 rw[PB _ hi1 hil]at H8 hl7 Xv ⊢
 refine Aa e128<|Xa Y<|Xr e128<|zA (zB ?_)
 refine J2<|Xm Y<|OV (zL Y Y (IntWalk.i64_in _ (by omega)))<|Xa Y<|Xr e128<|zA (zI ?_)
 exact⟨Eb rs[k].length - (i+1),by omega,i+1,g7,o7,cap7,_,pre7,sp7,_,Y,(Pg Y Y Y Y Y Y Y),by omega,Y,by omega,by omega,ho7,hl7,Xv,H8.pick [0,1,2,3,4,5,6,7] (by decide)⟩
 obtain⟨t,ht⟩:=PA (b:=rs[k]) (i:=i) (by omega) hi1
 refine Xr e128<|J4 Y<|J8<|zT<|zS<|J2<|Xm Y<|Xm Y<|Xm Y<|OV (iZ Tryz.underlying73 ty5 Y Y (by omega))<|Aa e128 ?_
 have hap:u8s (Na rs[k] i)++sp=u8s rs[k]++(u8s t++sp):=by rw[ht,vD,List.append_assoc]
 rw[hap]at H6
 have hrd:=H6.rdO (i:=7) (g:=g) (o:=o) (pre:=pre) (xs:=u8s rs[k]) (sp:=u8s t++sp) rfl hpo (yV _)
 refine yW (EC kZ Y) (vI _ rs[k] cap _ hrd (by omega))<|fun w7 g11 c11 s11 X4 Xw Ua Py=>?_
 have hfr:∀ p,hd g11=some p→w2.heap.size≤p.block:=by
  intro p hp
  cases g11 with
  | none=>simp[hd]at hp
  | some gx=>
   simp only[hd,Option.map_some,Option.some.injEq]at hp
   subst hp
   have h1:=Py.place (i:=0) rfl
   have h2:=H6.size
   rcases h1 with h1 | h1
   · cases h1
   · show _≤gx
     omega
 have H7:=H6.call0 Py
 have hw4:Eo w7 ⟨m.gd,m.gk,Ug,Uk,sp1,m.gv,Uh,Ul,xs1,Rj,Ui,Um,Rk⟩ D (W.Aw D rs k):={ hw1 with lst:=(hl.to H7).less (fun x hx=>Df (is:=[0,1,2,3,4,5]) H7 x hx) }
 have hut:=pA rs k
 refine OQ (EC gf79 Y) (CO ⟨m.gd,m.gk,Ug,Uk,sp1,m.gv,Uh,Ul,xs1,Rj,Ui,Um,Rk⟩ D (W.Aw D rs k) w7 (H7.pick [0,1,2,3,4,5] (by decide)).here hw4 (hd g11) rs[k] c11 (H7.rd (i:=8) (xs:=u8s rs[k]) (sp:=s11) Y (yV _) (by decide)) (fun _ p hp hx=>by
  cases g11 with
  | none=>simp[hd]at hp
  | some gx=>simp only[hd,Option.map_some,Option.some.injEq]at hp;subst hp;exact Bh H7 (i:=8) rfl (is:=[0,1,2,3,4,5]) (by decide) hx) hlr (by rw[hlk];omega) (by rw[hrk];omega)) ?_
 rintro r w8 ⟨m3,e1,e2,e3,e4,Nl,H3⟩
 have e5:(W.Aw D rs k).took D rs[k]=W.Aw D rs (k+1):=by
  show _=(W.Aw D rs k).took D (rs.getD k [])
  rw[List.getD_eq_getElem?_getD,List.getElem?_eq_getElem hkl];rfl
 rw[e5]at Nl H3
 have H8:=H7.Am [0,1,2,3,4,5] rfl H3
 have hx3:gH w2 xs1 m3.xs:=by rw[e4];exact gH.snoc hfr
 have hgl:=HR.lt (i:=6) rfl
 have hl3:Gg w8 (Ah m3 D (W.Aw D rs (k+1))++[(some gh,122,[.int .u64 (W.turn:Int),.int .i64 (W.first:Int),.int .i64 ((W.first+rs.length:Nat):Int),.int .i64 (W.fin:Int)])]) m3.xs (W.Aw D rs (k+1)).recs:=Gg.frame hl hx3 Nl.lst (fun x hx=>by
  have hx2:x=gh:=by simpa[bl]using hx
  subst hx2
  exact⟨by simp[bl],hgl⟩)
 have hz3:=(HR.Am [0,1,2,3,4,5,6] rfl H8).pick [16,17,18,19,20,21,13] (by decide)
 refine Xr e128<|zA (zB ?_)
 refine zA (zI ?_)
 exact⟨rs.length - (k+1),by omega,k+1,m3,Y,(Jc Y Y Y Y),by omega,e1,e2,e3,hxs.trans hx3 HR.size,Nl,hl3,hz3⟩
 have hkl:k=rs.length:=by omega
 subst hkl
 refine zX Y<|MV (fun wz hz=>zK Y)<|zX Y<|MZ Y<|cM e128<|zX Y<|MZ Y<|zX Y<|MZ Y<|cM e128<|zX Y<|MZ Y<|zX Y<|MZ Y<|cM e128<|zX Y<|MZ Y<|zX Y<|MZ Y<|cM e128<|zX Y<|MV (fun wz hz=>wT Y Y)<|tL<|cR e128<|J4 Y<|J8<|zT<|zS<|J2<|Xm Y<|Xm Y<|Xc Y<|Xf sI Y<|Aa e128<|OV (EL gQ Y (H3.cell (i:=3) Y Y))<|OV (ES Tryz.underlying98 Y)<|Xc Y<|Xf eY Y<|Aa e128<|OW ty3 H3 3 Y Y Y Y (by simp) Y ?_
 intro w4 H4
 refine Xr e128<|zA<|yN Y ?_
 have hz:=(HR.Am [0,1,2,3,4,5,6] rfl H4).pick [7,8,9,10,11,12] (by decide)
 refine⟨⟨m.gd,m.gk,Ug,Uk,sp1,m.gv,Uh,Ul,xs1,Rj,Ui,Um,Rk⟩,Y,Y,Y,hxs,?_,hz⟩
 exact { hw1 with lst:=(hl.to H4).less (fun x hx=>Df (is:=[0,1,2,3,4,5]) H4 x hx),told:=by show(W.Aw D rs rs.length).recs.length≤_;omega }
end Go.Proofs.YtjoeklkmnfaabaaGreat
namespace Go.Proofs.YtjoeklkmnfaabaaGreat
set_option maxRecDepth 100000
set_option maxHeartbeats 4000000
open Go Go.RowKit
set_option linter.unusedVariables false
attribute [local irreducible] yT Ops zP Cd
def EW (D:Dk) (W:Wl) (gone:Nat) (x:Int) (D':Dk) (W':Wl):Prop:=
 ((W.dead || D.down)=true∧x=40∧D'=D∧W'={ W with dead:=true })∨
 ((W.dead || D.down)=false∧((x=0∧QC D W gone D' W')∨(x=40∧EZ D W gone D'∧W'={ W with dead:=true })))
theorem L0 (m:Mw) (D:Dk) (W:Wl) (w0:World) (H0:Hp w0 w0 (bl (Ah m D W)) (Ah m D W)) (h:Eo w0 m D W) (hwt:D.wait.length≤1000000000) (hfl:W.first≤2^50) (htl:W.turn≤2^50):zP Tryz.prog 36 #[.pointer (some ⟨m.gv,0,none⟩)] w0 (fun r w'=>∃ x D' W',r=.int .i64 x∧EW D W 0 x D' W'∧vY w0 w' (bl (Ah m D W)) m (D') (W')):=by
 refine zE Tryz.func36 Tryz.ntmps36 Y<|cR e8 ?_
 have H:=H0
 obtain⟨hD,Ec,hrc,hrs,hrn,hpl,hpc,hps,hpn,Dh,hlong,hsize,hfin,Jl,hfirst,hturn,Jb,htold⟩:=id h
 have hkept:=hD.most
 refine Rq<|yA Y Y H<|fun w1 g6 H1 hgg6=>Xa Y<|Xr e8<|J1<|Rq<|OV (EL uC Y (H1.cell (i:=6) Y Y))<|Dy (yE Tryz.underlying65 Y) (by simp)<|Xr e8<|J4 Y<|J6<|Rq<|OV (EL uC Y (H1.cell (i:=6) Y Y))<|OV (wK Y Y) ?_
 have hwk:Eo w1 m D W:=h.move H1 [0,1,2,3,4,5] rfl
 have H6:Hp w0 w1 _ (Ah m D W):=H1.pick [0,1,2,3,4,5] (by decide)
 have hc6:=H1.cell (i:=6) (o:=0) rfl rfl
 have WO:g6∉bl (Ah m D W):=Bh H1 (i:=6) rfl (is:=[0,1,2,3,4,5]) (by decide)
 have hg:=jT m D W w1 H6.here hwk 80 [.pointer (some ⟨g6,0,none⟩)] gf80 (QC D W 0) (EZ D W 0)
  (fun w1 Hw1 hw1=>JQ m D W w1 Hw1.here hw1 g6 (xL hc6 Hw1 WO) WO hwt hfl htl)
 refine lA (EC VU Y) hg ?_
 rintro w2 x ⟨D',W',hcase,hpost⟩
 refine Xa Y<|Xr e8<|J5<|Ak Y Y<|⟨x,D',W',Y,hcase,vY.of H6 [0,1,2,3,4,5] Y hpost⟩
theorem S1 (n:Int) (m:Mw) (D:Dk) (W:Wl) (w0:World) (H0:Hp w0 w0 (bl (Ah m D W)) (Ah m D W)) (h:Eo w0 m D W) (hwt:D.wait.length≤1000000000) (hfl:W.first≤2^50) (htl:W.turn≤2^50):zP Tryz.prog 41 #[.pointer (some ⟨m.gv,0,none⟩),.int .i64 n] w0 (fun r w'=>((n < (W.first:Int)∨((W.first+W.recs.length:Nat):Int) < n)∧r=.int .i64 1∧vY w0 w' (bl (Ah m D W)) m (D) (W))∨(∃ gone:Nat,n=((W.first+gone:Nat):Int)∧gone≤W.recs.length∧∃ x D' W',r=.int .i64 x∧EW D W gone x D' W'∧vY w0 w' (bl (Ah m D W)) m (D') (W'))):=by
 refine zE Tryz.func41 Tryz.ntmps41 Y<|cR e20 ?_
 have H:=H0
 obtain⟨hD,Ec,hrc,hrs,hrn,hpl,hpc,hps,hpn,Dh,hlong,hsize,hfin,Jl,hfirst,hturn,Jb,htold⟩:=id h
 have hkept:=hD.most
 refine Rq<|yA Y Y H<|fun w1 g6 H1 hgg6=>yA Y Y H1<|fun w2 g7 H2 hgg7=>Xa Y<|Xr e20<|J1<|Rq<|OV (EL uC Y (H2.cell (i:=6) Y Y))<|Dy (yE Tryz.underlying65 Y) (by simp)<|Xr e20<|J4 Y<|J6<|J1<|J1<|zR 9 [(true,0),(true,1),(true,2),(true,3),(true,4),(true,5),(true,6),(false,7),(true,8),(false,9)] H2 [0,1,2,3,4,5,6,7] yG (by decide) (by kernel_rfl) ?_
 rintro w3 hw3
 have H3:=Hp.drew H2;rw[← hw3]at H3
 refine MP Y<|MV (fun wz hz=>EL ty3 Y (hz.cell (i:=7) Y Y))<|MP Y<|MV (fun wz hz=>EL uC Y (hz.cell (i:=6) Y Y))<|MP Y<|rE (fun wz hz=>EC gf47 Y) (fun wz hz=>IT m.gv (W.first:Int) wz (hz.cell (i:=3) Y Y))<|MP Y<|vU (fun wz hz=>zQ Y Y) (fun hp10=>?_) (fun hp10=>?_)
 refine Zm Y Y<|cZ e20<|MP Y<|MZ Y<|MP Y<|MZ Y<|cZ e20<|MO Y<|OZ Y<|OE<|⟨fun hne=>H3.pick [0,1,2,3,4,5,6,7] (by decide),?_⟩
 refine MP Y<|MZ Y<|cZ e20<|MO Y<|Xt Y Y<|OE<|⟨fun hne=>absurd Y hne,?_⟩
 refine cZ e20<|ME<|cR e20<|J3 Y<|Rq<|Xa Y<|Xr e20<|J5<|Ak Y Y<|.inl ⟨.inl hp10,Y,dE h H3 [0,1,2,3,4,5] (by decide) Y⟩
 refine Zm Y Y<|cZ e20<|MP Y<|MY Y<|MV (fun wz hz=>EL ty3 Y (hz.cell (i:=7) Y Y))<|MP Y<|MY Y<|MV (fun wz hz=>EL uC Y (hz.cell (i:=6) Y Y))<|MO Y<|OY Y<|OC (EC N8 Y) (lD m.gv W.first W.recs.length m.cr (hd m.gr) _ (H3.cell (i:=3) Y Y) (H3.cell (i:=3) Y Y) (by omega))<|fun w4 Hc=>?_
 have H4:=(H3.call0 Hc).pick [0,1,2,3,4,5,6,7] (by decide)
 refine OE ?_
 refine⟨fun hne=>H4.pick [0,1,2,3,4,5,6,7] (by decide),?_⟩
 refine cZ e20<|MP Y<|MY Y<|vU (fun wz hz=>yO Y Y) (fun Gj=>?_) (fun Gj=>?_)
 refine MO Y<|Xu Y Y<|OE<|⟨fun hne=>absurd Y hne,?_⟩
 refine cZ e20<|ME<|cR e20<|J3 Y<|Rq<|Xa Y<|Xr e20<|J5<|Ak Y Y<|.inl ⟨.inr Gj,Y,dE h H4 [0,1,2,3,4,5] (by decide) Y⟩
 obtain⟨gone,rfl⟩:∃ gone:Nat,n=((W.first+gone:Nat):Int):=⟨(n - W.first).toNat,by omega⟩
 have Np:gone≤W.recs.length:=by omega
 refine MO Y<|Xu Y Y<|OE<|⟨fun hne=>absurd Y hne,?_⟩
 refine cZ e20<|ME<|cR e20<|J4 Y<|J6<|Rq<|OV (EL uC Y (H4.cell (i:=6) Y Y))<|OV (wK Y Y) ?_
 have hwk:Eo w4 m D W:=h.move H4 [0,1,2,3,4,5] rfl
 have H6:Hp w0 w4 _ (Ah m D W):=H4.pick [0,1,2,3,4,5] (by decide)
 have hc6:=H4.cell (i:=6) (o:=0) rfl rfl
 have WO:g6∉bl (Ah m D W):=Bh H4 (i:=6) rfl (is:=[0,1,2,3,4,5]) (by decide)
 have Xv:=H4.cell (i:=7) (o:=0) rfl rfl
 have XZ:g7∉bl (Ah m D W):=Bh H4 (i:=7) rfl (is:=[0,1,2,3,4,5]) (by decide)
 have hg:=jT m D W w4 H6.here hwk 83 [.pointer (some ⟨g6,0,none⟩),.pointer (some ⟨g7,0,none⟩)] gf83 (QC D W gone) (EZ D W gone)
  (fun w1 Hw1 hw1=>PM m D W w1 Hw1.here hw1 g6 (xL hc6 Hw1 WO) WO g7 gone Np (xL Xv Hw1 XZ) XZ hwt hfl htl)
 refine lA (EC VU Y) hg ?_
 rintro w5 x ⟨D',W',hcase,hpost⟩
 refine Xa Y<|Xr e20<|J5<|Ak Y Y<|.inr ⟨gone,Y,Np,x,D',W',Y,hcase,vY.of H6 [0,1,2,3,4,5] Y hpost⟩
end Go.Proofs.YtjoeklkmnfaabaaGreat
namespace Go.Proofs.YtjoeklkmnfaabaaGreat
set_option maxRecDepth 100000
set_option maxHeartbeats 4000000
open Go Go.RowKit
set_option linter.unusedVariables false
attribute [local irreducible] yT Ops zP Cd
def DR :List Value:=[.int .u64 (0:Int),.int .i64 (0:Int),.int .i64 (0:Int),.int .i64 (0:Int)]
def uF (p:Nat×List Value) (b:Blk):Nat×List Value:=if rd8 b=rd8 (b.drop 56)∧p.1 < rd8 b then(rd8 b,nE b) else p
def qQ (D:Dk):Nat→Nat×List Value
 | 0=>(0,DR)
 | i+1=>uF (qQ D i) (D.show i)
theorem AM (D:Dk):∀ i,∃ a b c,(qQ D i).2=[.int .u64 ((qQ D i).1:Int),a,b,c]
 | 0=>⟨_,_,_,rfl⟩
 | i+1=>by
  show ∃ a b c,(uF (qQ D i) (D.show i)).2=[.int .u64 ((uF (qQ D i) (D.show i)).1:Int),a,b,c]
  unfold uF
  split
  · exact⟨_,_,_,Y⟩
  · exact AM D i
theorem PX {D:Dk} {i:Nat} (h1:rd8 (D.show i)=rd8 ((D.show i).drop 56)) (h2:(qQ D i).1 < rd8 (D.show i)):(qQ D (i+1)).2=nE (D.show i):=by
 show(uF (qQ D i) (D.show i)).2=_
 unfold uF
 rw[if_pos ⟨h1,h2⟩]
theorem I2 {D:Dk} {i:Nat} (h:¬(rd8 (D.show i)=rd8 ((D.show i).drop 56)∧(qQ D i).1 < rd8 (D.show i))):(qQ D (i+1)).2=(qQ D i).2:=by
 show(uF (qQ D i) (D.show i)).2=_
 unfold uF
 rw[if_neg h]
@[reducible] def Wl.anew (t f s:Nat):Wl:=⟨false,t,f,[],[],s,0⟩
theorem TB {w:World} {gd gk:Nat} {gw:Option Nat} {cw:Nat} {sp:List Value} {D:Dk} (hD:Hw D gw cw sp) (hsize:64≤D.kept.length) {gv t f s:Nat} (ht:t≤2^60) (hf:f≤2^60) (hs:s < D.kept.length - 2):Eo w ⟨gd,gk,gw,cw,sp,gv,none,0,[],[],none,0,[]⟩ D (Wl.anew t f s):=
 ⟨hD,Gg.nil _ _,Nat.le_refl _,Nat.zero_le _,fun _=>rfl,rfl,Nat.le_refl _,Nat.zero_le _,fun _=>rfl,Nat.zero_le _,fun _ hx=>(by cases hx),hsize,hs,fun _ hx=>(by cases hx),hf,ht,by show used []≤_;simp[used],Nat.zero_le _⟩
theorem Yk :wY Tryz.prog 120=some [(0,1),(1,1),(2,1),(3,1),(4,1),(5,1),(6,1),(7,1),(8,1)]:=by kernel_rfl
theorem KH (g2 g3:Nat) (w0:World):CallsDIn (FR none) 0 Tryz.prog 54 #[.pointer (some ⟨g2,0,none⟩),.pointer (some ⟨g3,0,none⟩)] .returning w0 fun e u1 w'=>∃ r,e=.returned r∧u1=.returning∧w'=w0:=by
 have hz:=dS (k:=54) (w:=w0) (R:=fun _ w'=>w'=w0) Tryz.func54 Tryz.ntmps54 rfl (.inl ⟨rfl,rfl,rfl⟩) (args:=[.pointer (some ⟨g2,0,none⟩),.pointer (some ⟨g3,0,none⟩)]) rfl ?_
 exact hz
 refine cR e16<|Rq<|Xm Y<|OV (qK Tryz.underlying20 ⟨_,Y⟩ Y)<|Xr e16<|J4 Y<|J6<|zA<|yN Y<|rfl
namespace Rn
attribute [local irreducible] Cd
theorem open_any (gd gk:Nat) (gw:Option Nat) (cw:Nat) (sp:List Value) (D:Dk) (w0:World) (H0:Hp w0 w0 (bl (xC gd gk gw cw sp D)) (xC gd gk gw cw sp D)) (hD:Hw D gw cw sp) (hdn:D.down=false) (hsize:64≤D.kept.length) (hwt:D.wait.length≤1000000000) (t f s:Nat) (rs:List Blk) (Ze:(qQ D 2).2=[.int .u64 (t:Int),.int .i64 (f:Int),.int .i64 ((f+rs.length:Nat):Int),.int .i64 (s:Int)]) (ht:t≤2^60) (hf:f≤2^60) (hs:s < D.kept.length - 2) (hlaid:WC D (Wl.anew t f s) rs) (hrm:rs.length≤16384) (hrR:rs.length≤D.kept.length - 2) (hrl:∀ b∈rs,b.length≤16384) (hru:used rs≤2^39):rV Tryz.prog 28 #[.pointer (some ⟨gd,0,none⟩)] w0 (fun r w'=>∃ m:Mw,r=.tuple #[.pointer (some ⟨m.gv,0,none⟩),.int .i64 0]∧m.gd=gd∧m.gk=gk∧w0.heap.size≤m.gv∧gH w0 [] m.xs∧Eo w' m D (Wl.found (Wl.anew t f s) D rs)∧Hp w0 w' (bl (xC gd gk gw cw sp D)) (Ah m D (Wl.found (Wl.anew t f s) D rs))) (fun _ _=>False):=by
 refine EA Tryz.func28 Tryz.ntmps28 Y ?_
 change Run _ _ _ _ [.pointer (some ⟨gd,0,none⟩),undef,undef,undef,undef,undef,undef,undef,undef,undef,undef,undef,undef,undef,undef,undef,undef,undef,undef,undef,undef,undef,undef,undef,undef,undef,undef,undef,undef,undef,undef,undef,undef,undef,undef,undef,undef,undef,undef,undef,undef,undef,undef,undef,undef,undef,undef,undef,undef,undef,undef,undef,undef,undef,undef,undef,undef,undef,undef,undef,undef,undef,undef,undef,undef,undef,undef,undef,undef] _
 have H:=H0
 have hkept:=hD.most
 refine zN<|zJ Y (fun _ _ h=>h)<|OA uC H<|fun w1 g2 H1 hg2=>OA pR H1<|fun w2 g3 H2 hg3=>OE ?_
 change Run _ _ _ _ [_,_,_,_,_,_,_,_,_,_,_,_,_,_,_,_,_,_,_,_,_,_,_,_,_,_,_,_,_,_,_,_,_,_,_,_,_,_,_,_,_,_,_,_,_,_,_,_,_,_,_,_,_,_,_,_,_,_,_,_,_,_,_,_,_,_,_,_,_] _
 refine zN<|zN<|zJ Y (fun _ _ h=>h)<|Xm Y<|Dy (yE Tryz.underlying27 Y) (by simp)<|OE ?_
 change Run _ _ _ _ [_,_,_,_,_,_,_,_,_,_,_,_,_,_,_,_,_,_,_,_,_,_,_,_,_,_,_,_,_,_,_,_,_,_,_,_,_,_,_,_,_,_,_,_,_,_,_,_,_,_,_,_,_,_,_,_,_,_,_,_,_,_,_,_,_,_,_,_,_] _
 refine zW Y<|xH<|zN<|zN<|zJ Y (fun _ _ h=>h)<|Xm Y<|wP (EC gf52 Y) (PJ gd false _ (by have hz:=H2.cell (i:=0) (o:=2) (v:=.bool D.down) Y Y;rw[hdn]at hz;exact hz))<|OE ?_
 change Run _ _ _ _ [_,_,_,_,_,_,_,_,_,_,_,_,_,_,_,_,_,_,_,_,_,_,_,_,_,_,_,_,_,_,_,_,_,_,_,_,_,_,_,_,_,_,_,_,_,_,_,_,_,_,_,_,_,_,_,_,_,_,_,_,_,_,_,_,_,_,_,_,_] _
 refine zW Y<|xH<|zN<|aH Y Y ?_
 change Run _ _ _ _ [_,_,_,_,_,_,_,_,_,_,_,_,_,_,_,_,_,_,_,_,_,_,_,_,_,_,_,_,_,_,_,_,_,_,_,_,_,_,_,_,_,_,_,_,_,_,_,_,_,_,_,_,_,_,_,_,_,_,_,_,_,_,_,_,_,_,_,_,_] _
 refine zN<|zJ Y (fun _ _ h=>h)<|Xm Y<|OV (EB ty120 Yk Y Y)<|yA Y Y H2 ?_
 intro w3 g17 H3 hg17
 have hgv:w0.heap.size≤g17:=by rw[hg17];exact H2.size
 refine OW uC H3 3 Y Y Y Y (by first|exact NL Y|simp[zH]) Y<|fun w4 H4=>OE ?_
 change Run _ _ _ _ [_,_,_,_,_,_,_,_,_,_,_,_,_,_,_,_,_,_,_,_,_,_,_,_,_,_,_,_,_,_,_,_,_,_,_,_,_,_,_,_,_,_,_,_,_,_,_,_,_,_,_,_,_,_,_,_,_,_,_,_,_,_,_,_,_,_,_,_,_] _
 refine zN<|zJ Y (fun _ _ h=>h)<|OA pF H4<|fun w5 g4 H5 hg4=>OE ?_
 change Run _ _ _ _ [_,_,_,_,_,_,_,_,_,_,_,_,_,_,_,_,_,_,_,_,_,_,_,_,_,_,_,_,_,_,_,_,_,_,_,_,_,_,_,_,_,_,_,_,_,_,_,_,_,_,_,_,_,_,_,_,_,_,_,_,_,_,_,_,_,_,_,_,_] _
 refine zN<|zN<|zJ Y (fun _ _ h=>h)<|Xa Y<|OE ?_
 change Run _ _ _ _ [_,_,_,_,_,_,_,_,_,_,_,_,_,_,_,_,_,_,_,_,_,_,_,_,_,_,_,_,_,_,_,_,_,_,_,_,_,_,_,_,_,_,_,_,_,_,_,_,_,_,_,_,_,_,_,_,_,_,_,_,_,_,_,_,_,_,_,_,_] _
 refine wH<|zU (fun nQ lQ w=>∃ (i:Nat) (bv:List Value) (y:Int),2 - i=nQ∧xN (Dj [(0,.pointer (some ⟨gd,0,none⟩)),(2,.pointer (some ⟨g2,0,none⟩)),(3,.pointer (some ⟨g3,0,none⟩)),(4,.pointer (some ⟨g4,0,none⟩)),(5,.int .i64 y)] 0 69) lQ∧y=(i:Int)∧i≤2∧bv=(qQ D i).2∧Hp w0 w (bl (xC gd gk gw cw sp D)) (xC gd gk gw cw sp D++[(some g2,65,[.pointer (some ⟨g17,0,none⟩)]),(some g3,24,[.int .i64 (0:Int)]),(some g17,120,[.pointer (some ⟨gd,0,none⟩),.bool false,.int .u64 (0:Int),.int .i64 (0:Int),.slice none 0 0,.slice none 0 0,.int .i64 (0:Int),.int .i64 (0:Int),.int .i64 (0:Int)]),(some g4,122,bv)])) (2) ?_ ?_
 exact⟨0,_,_,Y,(Ez Y Y Y Y Y Y),Y,by omega,Y,H5⟩
 rintro nQ lQ w6 ⟨i,bv,y,rfl,hfit,rfl,hi,rfl,H6⟩
 obtain⟨j,rfl⟩:=hfit.open
 change Run _ _ _ _ [_,_,_,_,_,_,_,_,_,_,_,_,_,_,_,_,_,_,_,_,_,_,_,_,_,_,_,_,_,_,_,_,_,_,_,_,_,_,_,_,_,_,_,_,_,_,_,_,_,_,_,_,_,_,_,_,_,_,_,_,_,_,_,_,_,_,_,_,_] _
 clear hfit
 obtain⟨ba,bb,bc,hbv⟩:=AM D i
 rw[hbv]at H6
 refine zN<|zN<|zJ Y (fun _ _ h=>h)<|Xm Y<|OT (zQ Y Y) (fun hp19=>?_) (fun hp19=>?_)
 have hi2:i < 2:=by omega
 refine Xm Y<|Aa Nz<|OY Y<|Xm Y<|OY Y<|Xm Y<|Aa Nz<|OY Y<|wP (EC VW Y) (FG gd D.kept.length _ _ _ (H6.cell (i:=0) Y Y))<|OY Y<|Ij (zQ Y Y) (by omega)<|Xt Y Y<|OE ?_
 change Run _ _ _ _ [_,_,_,_,_,_,_,_,_,_,_,_,_,_,_,_,_,_,_,_,_,_,_,_,_,_,_,_,_,_,_,_,_,_,_,_,_,_,_,_,_,_,_,_,_,_,_,_,_,_,_,_,_,_,_,_,_,_,_,_,_,_,_,_,_,_,_,_,_] _
 refine yL Y<|xH<|zN<|wH<|zN<|zJ Y (fun _ _ h=>h)<|Xm Y<|Xm Y<|OQ (EC gf56 Y) (aK gd gk gw cw sp D _ (H6.pick [0,1,2] (by decide)).here hD hdn i (by omega) hwt) ?_
 rintro r w7 ⟨g,cap,s5,hr,hcap,hcs,Hc⟩
 rw[hr]
 have H7:=(H6.Am [0,1,2] rfl Hc).pick [7,8,9,3,4,5,6,10] (by decide)
 refine Xm Y<|Aa Nz<|Xe Y Y<|Xe Y Y<|Xa Y<|Xa Y<|OE ?_
 change Run _ _ _ _ [_,_,_,_,_,_,_,_,_,_,_,_,_,_,_,_,_,_,_,_,_,_,_,_,_,_,_,_,_,_,_,_,_,_,_,_,_,_,_,_,_,_,_,_,_,_,_,_,_,_,_,_,_,_,_,_,_,_,_,_,_,_,_,_,_,_,_,_,_] _
 refine zN<|zJ Y (fun _ _ h=>h)<|Xm Y<|OQ (EC F0 Y) ((pN 0 _).d (fun _ _ hx=>hx.1 Y)) ?_
 rintro r wz ⟨_,hwz⟩
 rw[hwz]
 refine OE ?_
 change Run _ _ _ _ [_,_,_,_,_,_,_,_,_,_,_,_,_,_,_,_,_,_,_,_,_,_,_,_,_,_,_,_,_,_,_,_,_,_,_,_,_,_,_,_,_,_,_,_,_,_,_,_,_,_,_,_,_,_,_,_,_,_,_,_,_,_,_,_,_,_,_,_,_] _
 refine zN<|zJ Y (fun _ _ h=>h)<|Xm Y ?_
 have e64:(D.show i).length=64:=CU hD (by omega)
 have hrh:=BD (some ⟨g,0,none⟩) (D.show i) cap w7 (H7.rd (i:=7) (o:=some g) (xs:=u8s (D.show i)) (sp:=s5) rfl (yV _) (by decide)) e64 (by omega)
 rw[e64]at hrh
 refine OQ (EC gf58 Y) hrh ?_
 rintro r w8 ⟨hr2,Hc⟩
 rw[hr2]
 have H8:=(H7.call0 Hc).pick [0,1,2,3,4,5,6,7] (by decide)
 refine Xm Y<|Xe Y Y<|Aa Nz<|Xe Y Y ?_
 rcases Bool.eq_false_or_eq_true (decide (rd8 (D.show i)=rd8 ((D.show i).drop 56)))with hok | hok <;>rw[hok]
 refine OA pF H8<|fun w9 g8 H9 hg8=>OS pF H9 8 Y Y Y Y Y (by exact Nat.le_refl 4) Y<|fun w10 Ar=>Xa Y<|OE ?_
 change Run _ _ _ _ [_,_,_,_,_,_,_,_,_,_,_,_,_,_,_,_,_,_,_,_,_,_,_,_,_,_,_,_,_,_,_,_,_,_,_,_,_,_,_,_,_,_,_,_,_,_,_,_,_,_,_,_,_,_,_,_,_,_,_,_,_,_,_,_,_,_,_,_,_] _
 refine zN<|zJ Y (fun _ _ h=>h)<|Xm Y<|Xm Y<|Aa Nz<|OY Y<|Xf eX Y<|OY Y<|OV (EL oV Y (Ar.cell (i:=8) (o:=0) Y Y))<|Aa Nz<|OY Y<|Xf eX Y<|OY Y<|OV (EL oV Y (Ar.cell (i:=6) (o:=0) Y Y))<|Aa Nz<|OY Y<|OT (yO Y Y) (fun Gf=>?_) (fun Gf=>?_)
 refine Xt Y Y<|OE ?_
 change Run _ _ _ _ [_,_,_,_,_,_,_,_,_,_,_,_,_,_,_,_,_,_,_,_,_,_,_,_,_,_,_,_,_,_,_,_,_,_,_,_,_,_,_,_,_,_,_,_,_,_,_,_,_,_,_,_,_,_,_,_,_,_,_,_,_,_,_,_,_,_,_,_,_] _
 refine yL Y<|zJ Y (fun _ _ h=>h)<|OV (EN pF Y (vs:=nE (D.show i)) Y (sD Ar (i:=8) (o:=0) Y (fun j u hu=>by rw[Nat.zero_add];exact hu)))<|OS pF Ar 6 Y Y Y Y Y (by exact Nat.le_refl 4) Y<|fun Gm Bd=>OE ?_
 change Run _ _ _ _ [_,_,_,_,_,_,_,_,_,_,_,_,_,_,_,_,_,_,_,_,_,_,_,_,_,_,_,_,_,_,_,_,_,_,_,_,_,_,_,_,_,_,_,_,_,_,_,_,_,_,_,_,_,_,_,_,_,_,_,_,_,_,_,_,_,_,_,_,_] _
 refine zA (zB ?_)
 refine zJ Y (fun _ _ h=>h)<|Xm Y<|OV (zL Y Y (IntWalk.i64_in _ (by omega)))<|Xa Y<|OE ?_
 change Run _ _ _ _ [_,_,_,_,_,_,_,_,_,_,_,_,_,_,_,_,_,_,_,_,_,_,_,_,_,_,_,_,_,_,_,_,_,_,_,_,_,_,_,_,_,_,_,_,_,_,_,_,_,_,_,_,_,_,_,_,_,_,_,_,_,_,_,_,_,_,_,_,_] _
 refine zA (zI ?_)
 refine⟨Y,?_⟩
 exact⟨2 - (i+1),by omega,i+1,nE (D.show i),_,Y,(Ez Y Y Y Y Y Y),by omega,by omega,(PX (of_decide_eq_true hok) (by omega)).symm,Bd.pick [0,1,2,3,4,5,6] (by decide)⟩
 refine Xt Y Y<|OE ?_
 change Run _ _ _ _ [_,_,_,_,_,_,_,_,_,_,_,_,_,_,_,_,_,_,_,_,_,_,_,_,_,_,_,_,_,_,_,_,_,_,_,_,_,_,_,_,_,_,_,_,_,_,_,_,_,_,_,_,_,_,_,_,_,_,_,_,_,_,_,_,_,_,_,_,_] _
 refine zW Y<|xH<|zA (zB ?_)
 refine zJ Y (fun _ _ h=>h)<|Xm Y<|OV (zL Y Y (IntWalk.i64_in _ (by omega)))<|Xa Y<|OE ?_
 change Run _ _ _ _ [_,_,_,_,_,_,_,_,_,_,_,_,_,_,_,_,_,_,_,_,_,_,_,_,_,_,_,_,_,_,_,_,_,_,_,_,_,_,_,_,_,_,_,_,_,_,_,_,_,_,_,_,_,_,_,_,_,_,_,_,_,_,_,_,_,_,_,_,_] _
 refine zA (zI ?_)
 refine⟨Y,?_⟩
 exact⟨2 - (i+1),by omega,i+1,_,_,Y,(Ez Y Y Y Y Y Y),by omega,by omega,((I2 (fun hx=>by omega)).trans hbv).symm,Ar.pick [0,1,2,3,4,5,6] (by decide)⟩
 refine OA pF H8<|fun w9 g8 H9 hg8=>OS pF H9 8 Y Y Y Y Y (by exact Nat.le_refl 4) Y<|fun w10 Ar=>Xa Y<|OE ?_
 change Run _ _ _ _ [_,_,_,_,_,_,_,_,_,_,_,_,_,_,_,_,_,_,_,_,_,_,_,_,_,_,_,_,_,_,_,_,_,_,_,_,_,_,_,_,_,_,_,_,_,_,_,_,_,_,_,_,_,_,_,_,_,_,_,_,_,_,_,_,_,_,_,_,_] _
 refine zN<|zJ Y (fun _ _ h=>h)<|Xm Y<|Xm Y<|Aa Nz<|Oz 5 Y<|Aa Nz<|Xu Y Y<|OE ?_
 change Run _ _ _ _ [_,_,_,_,_,_,_,_,_,_,_,_,_,_,_,_,_,_,_,_,_,_,_,_,_,_,_,_,_,_,_,_,_,_,_,_,_,_,_,_,_,_,_,_,_,_,_,_,_,_,_,_,_,_,_,_,_,_,_,_,_,_,_,_,_,_,_,_,_] _
 refine zW Y<|xH<|zA (zB ?_)
 refine zJ Y (fun _ _ h=>h)<|Xm Y<|OV (zL Y Y (IntWalk.i64_in _ (by omega)))<|Xa Y<|OE ?_
 change Run _ _ _ _ [_,_,_,_,_,_,_,_,_,_,_,_,_,_,_,_,_,_,_,_,_,_,_,_,_,_,_,_,_,_,_,_,_,_,_,_,_,_,_,_,_,_,_,_,_,_,_,_,_,_,_,_,_,_,_,_,_,_,_,_,_,_,_,_,_,_,_,_,_] _
 refine zA (zI ?_)
 refine⟨Y,?_⟩
 exact⟨2 - (i+1),by omega,i+1,_,_,Y,(Ez Y Y Y Y Y Y),by omega,by omega,((I2 (fun hx=>of_decide_eq_false hok hx.1)).trans hbv).symm,Ar.pick [0,1,2,3,4,5,6] (by decide)⟩
 have hi2:i=2:=by omega
 subst hi2
 rw[hbv.symm.trans Ze]at H6
 refine Xm Y<|Aa Nz<|Oz 4 Y<|Aa Nz<|Xu Y Y<|OE ?_
 change Run _ _ _ _ [_,_,_,_,_,_,_,_,_,_,_,_,_,_,_,_,_,_,_,_,_,_,_,_,_,_,_,_,_,_,_,_,_,_,_,_,_,_,_,_,_,_,_,_,_,_,_,_,_,_,_,_,_,_,_,_,_,_,_,_,_,_,_,_,_,_,_,_,_] _
 refine zW Y<|tD<|zT<|zS<|zN<|zR 17 [(true,0),(true,1),(true,2),(true,3),(true,4),(true,5),(true,6),(true,7),(true,8),(true,9),(true,10),(false,11),(true,12),(true,13),(false,14),(true,15),(true,16),(false,17)] H6 [3,6] yG (by decide) (by kernel_rfl) Y ?_
 rintro w7 hw7
 have H7:=Hp.drew H6;rw[← hw7]at H7
 refine MP Y<|MV (fun wz hz=>EL uC Y (hz.cell (i:=0) Y Y))<|MP Y<|MV (fun wz hz=>EL uC Y (hz.cell (i:=0) Y Y))<|MP Y<|MV (fun wz hz=>EL uC Y (hz.cell (i:=0) Y Y))<|Zf Y eX Y<|cZ Nz<|MP Y<|MV (fun wz hz=>EL oV Y (hz.cell (i:=1) Y Y))<|Zf Y BZ Y<|MP Y<|MV (fun wz hz=>EL ty3 Y (hz.cell (i:=1) Y Y))<|Zf Y BY Y<|cZ Nz<|MP Y<|MV (fun wz hz=>EL ty3 Y (hz.cell (i:=1) Y Y))<|Zc Y Y<|Zf Y B0 Y<|MO Y<|OW oV H7 5 Y Y Y Y (by first|exact NL Y|simp[zH]) Y<|fun w8 H8=>OE<|⟨fun hne=>H8.pick [3,6] (by decide),?_⟩
 refine cZ Nz<|Zc Y Y<|Zf Y qF Y<|MO Y<|OW ty3 H8 5 Y Y Y Y (by first|exact NL Y|simp[zH]) Y<|fun w9 H9=>OE<|⟨fun hne=>H9.pick [3,6] (by decide),?_⟩
 refine cZ Nz<|Zc Y Y<|Zf Y oA Y<|MO Y<|OW ty3 H9 5 Y Y Y Y (by first|exact NL Y|simp[zH]) Y<|fun w10 Ar=>OE<|⟨fun hne=>absurd Y hne,?_⟩
 refine cZ Nz<|ME ?_
 change Run _ _ _ _ [_,_,_,_,_,_,_,_,_,_,_,_,_,_,_,_,_,_,_,_,_,_,_,_,_,_,_,_,_,_,_,_,_,_,_,_,_,_,_,_,_,_,_,_,_,_,_,_,_,_,_,_,_,_,_,_,_,_,_,_,_,_,_,_,_,_,_,_,_] _
 refine zN<|zJ Y (fun _ _ h=>h)<|OV (EL uC Y (Ar.cell (i:=3) Y Y))<|OV (EN pF Y (vs:=[.int .u64 (t:Int),.int .i64 (f:Int),.int .i64 ((f+rs.length:Nat):Int),.int .i64 (s:Int)]) Y (sD Ar (i:=6) (o:=0) Y (fun j u hu=>by rw[Nat.zero_add];exact hu))) ?_
 have Hn:=(Ar.nil 73).nil 3
 have hw0:Eo w10 ⟨gd,gk,gw,cw,sp,g17,none,0,[],[],none,0,[]⟩ D (Wl.anew t f s):=TB hD hsize ht hf hs
 have hF8:∀ x∈bl [((some g2,65,[.pointer (some ⟨g17,0,none⟩)]):Ent),(some g3,24,[.int .i64 (0:Int)])],x∈bl (Ah ⟨gd,gk,gw,cw,sp,g17,none,0,[],[],none,0,[]⟩ D (Wl.anew t f s)++[((some g2,65,[.pointer (some ⟨g17,0,none⟩)]):Ent),(some g3,24,[.int .i64 (0:Int)])])∧x < w10.heap.size:=by
  intro x hx
  have h2:=Ar.lt (i:=3) rfl
  have h3:=Ar.lt (i:=4) rfl
  refine⟨by unfold bl at hx ⊢;rw[List.filterMap_append];exact List.mem_append.2 (.inr hx),?_⟩
  have hx2:x=g2∨x=g3:=by simpa[bl]using hx
  rcases hx2 with rfl | rfl
  · exact h2
  · exact h3
 have hsz0:=Ar.size
 refine OQ (EC gf59 Y) (O5 ⟨gd,gk,gw,cw,sp,g17,none,0,[],[],none,0,[]⟩ D (Wl.anew t f s) w10 (Hn.pick [0,1,2,5,7,8] (by decide)).here hw0 hdn hwt rs Y hlaid hrm hrR hrl hru) ?_
 rintro r Gm ⟨m1,e1,e2,e3,e4,hok1,Hd⟩
 have hlz:=Gg.frame (Gg.nil w10 (Ah ⟨gd,gk,gw,cw,sp,g17,none,0,[],[],none,0,[]⟩ D (Wl.anew t f s)++[((some g2,65,[.pointer (some ⟨g17,0,none⟩)]):Ent),(some g3,24,[.int .i64 (0:Int)])])) e4 hok1.lst hF8
 have Hold:=(Hn.Am [0,1,2,5,7,8] rfl Hd).pick [9,10,11,12,13,14,3,4] (by decide)
 have Bd:=Hold.here
 refine OE ?_
 change Run _ _ _ _ [_,_,_,_,_,_,_,_,_,_,_,_,_,_,_,_,_,_,_,_,_,_,_,_,_,_,_,_,_,_,_,_,_,_,_,_,_,_,_,_,_,_,_,_,_,_,_,_,_,_,_,_,_,_,_,_,_,_,_,_,_,_,_,_,_,_,_,_,_] _
 refine zN<|zJ Y (fun _ _ h=>h)<|OV (EL uC Y (Bd.cell (i:=6) Y Y))<|OW uC Bd 6 Y Y Y Y (by simp) Y<|fun w12 Bc=>OW pR Bc 7 Y Y Y Y (by simp) Y<|fun Io Ce=>OE ?_
 change Run _ _ _ _ [_,_,_,_,_,_,_,_,_,_,_,_,_,_,_,_,_,_,_,_,_,_,_,_,_,_,_,_,_,_,_,_,_,_,_,_,_,_,_,_,_,_,_,_,_,_,_,_,_,_,_,_,_,_,_,_,_,_,_,_,_,_,_,_,_,_,_,_,_] _
 refine wF<|jS gf54 (.inl ⟨Y,Y,Y⟩) ?_
 obtain⟨hx1,hx2⟩:=KH g2 g3 Io
 refine⟨hx1,fun c cs hu hr=>?_⟩
 obtain⟨e,u1,w',fr,⟨r,he,hu1,hww⟩,hrest⟩:=hx2 c cs hu hr
 rw[hww]at hrest
 have Hend:=(Hold.Am [0,1,2,3,4,5,6,7] rfl Ce).pick [8,9,10,11,12,13] (by decide)
 refine⟨e,u1,Io,fr,⟨r,he,hu1,_,jB Y uC pR Y Y (Ce.cell (i:=6) (o:=0) Y Y) (Ce.cell (i:=7) (o:=0) Y Y),m1,by rw[e3],e1,e2,by rw[e3];exact hgv,fun v hv=>?_,?_,Hend⟩,hrest⟩
 rcases e4 v hv with h1 | h1
 exact .inl h1
 exact .inr fun p n c he=>Nat.le_trans hsz0 (h1 p n c he)
 exact { hok1 with lst:=(hlz.to Ce).less (fun x hx=>Df (is:=[0,1,2,3,4,5]) Ce x hx) }
end Rn
end Go.Proofs.YtjoeklkmnfaabaaGreat
namespace Go.Proofs.YtjoeklkmnfaabaaGreat
set_option maxRecDepth 100000
set_option maxHeartbeats 4000000
open Go Go.RowKit
set_option linter.unusedVariables false
attribute [local irreducible] yT Ops zP Cd
theorem Hp.widen {w0 w:World} {S S':List Nat} {es:List Ent} (H:Hp w0 w S es) (h:∀ b∈S,b∈S'):Hp w0 w S' es:=by
 refine⟨H.os,H.tape,H.output,H.size,fun k hk hn=>H.frame k hk (fun hx=>hn (h _ hx)),fun i e he=>?_,H.apart⟩
 have h1:=H.ent i e he
 unfold qR at h1 ⊢
 split
 rename_i hn;rw[hn]at h1;exact h1
 rename_i g hg
 rw[hg]at h1
 exact⟨h1.1,h1.2.elim (fun hx=> .inl (h _ hx)) .inr⟩
theorem Hp.past {w0 W W':World} {S T:List Nat} {es:List Ent} (H:Hp w0 W S es) (H':Hp W W' T []) (hT:∀ b∈T,b∈S∨w0.heap.size≤b) (hne:∀ b∈bl es,b∉T):Hp w0 W' S es:=by
 refine⟨H'.os.trans H.os,H'.tape.trans H.tape,H'.output.trans H.output,Nat.le_trans H.size H'.size,?_,?_,H.apart⟩
 intro k hk Je
 rw[H'.frame k (by have:=H.size;omega) (fun hx=>by rcases hT k hx with h1 | h1;exact Je h1;omega)]
 exact H.frame k hk Je
 intro i e he
 have h:=H.ent i e he
 unfold qR at h ⊢
 split
 rename_i hn;rw[hn]at h;exact h
 rename_i g hg
 rw[hg]at h
 have hb:g∈bl es:=List.mem_filterMap.2 ⟨e,List.mem_of_getElem? he,hg⟩
 exact⟨by rw[H'.frame g (Array.getElem?_eq_some_iff.1 h.1).1 (hne g hb)];exact h.1,h.2⟩
def RI :Value→Option Nat
 | .slice (some p) (_+1) _=>some p.block
 | _=>none
def Nc (xs:List Value):List Nat:=xs.filterMap RI
theorem KM {xs:List Value} {i n c:Nat} {p:Addr} (h:xs[i]? =some (.slice (some p) n c)) (h0:0 < n):p.block∈Nc xs:=by
 cases n with
 | zero=>omega
 | succ n=>exact List.mem_filterMap.2 ⟨_,List.mem_of_getElem? h,rfl⟩
theorem MG {w:World} {es:List Ent} {xs:List Value} {bs:List Blk} (h:Gg w es xs bs):∀ b∈Nc xs,b < w.heap.size:=by
 intro b hb
 obtain⟨v,hv,hr⟩:=List.mem_filterMap.1 hb
 obtain⟨i,hi⟩:=List.getElem?_of_mem hv
 have hlt:i < bs.length:=by rw[← h.1];exact lt_of_get hi
 obtain⟨B,c,h1,h2,_⟩:=h.2 i hlt
 rw[hi]at h1
 simp only[Option.some.injEq]at h1
 subst h1
 cases B with
 | none=>simp[RI]at hr
 | some p=>
  cases hn:bs[i]with
  | nil=>rw[hn]at hr;simp[RI]at hr
  | cons x l=>
   rw[hn]at hr
   simp only[List.length_cons,RI,Option.some.injEq]at hr
   rw[← hr]
   exact MI h2 (by rw[hn];simp) Y
def US (z:Nat) (W:Wl) (k:Nat) (w:World) (args:List Value) (G:List Nat):Prop:=
 ∃ (b:Blk) (g:Option Nat) (cap:Nat) (sp:List Value),W.recs[k]? =some b∧args=[.int .i64 ((W.first+k:Nat):Int),.slice (hd g) b.length cap]∧b.length≤cap∧cap≤(u8s b++sp).length∧(g=none→cap=0)∧G=bl [(g,5,u8s b++sp)]∧Hp w w G [(g,5,u8s b++sp)]∧∀ x∈G,z≤x
theorem TD (v:Value) (w0:World) (hv:v.cells=[v].toArray):zP Tryz.prog 30 #[v] w0 (fun r w'=>∃ gb,r=.func (.func 60) #[] [.pointer (some ⟨gb,0,none⟩)].toArray∧Hp w0 w' [] [(some gb,65,[v])]):=by
 refine zE Tryz.func30 Tryz.ntmps30 Y<|cR e4 ?_
 have H:=Hp.refl w0
 refine Rq<|yA Y hv H<|fun w1 gb H1 hgb=>Xa Y<|Xr e4<|Rq<|OV (wK Y Y)<|Xa Y<|Xr e4<|J5<|Ak Y Y<|⟨gb,Y,H1⟩
namespace Rn
attribute [local irreducible] Cd
theorem P6 (gb:Nat) (m:Mw) (D:Dk) (W:Wl) (wA:World) (HA:Hp wA wA (bl (Ah m D W)) (Ah m D W)) (h:Eo wA m D W) (hb:wA.cell? ⟨gb,0,none⟩=some (.pointer (some ⟨m.gv,0,none⟩))) (z:Nat) (hz:z≤wA.heap.size):WD Tryz.prog 60 [.pointer (some ⟨gb,0,none⟩)] W.recs.length (gb::m.gv::Nc m.xs) (US z W) wA:=by
 intro L J X XP O0 hO YD hJs Y0 hY h0
 refine zE Tryz.func60 Tryz.ntmps60 Y ?_
 change Run _ _ _ _ [.func (.yield L) #[] #[],.pointer (some ⟨gb,0,none⟩),undef,undef,undef,undef,undef,undef,undef,undef,undef,undef,undef,undef,undef,undef,undef,undef,undef,undef,undef,undef,undef,undef,undef,undef,undef,undef,undef,undef] _
 have Dh:=h.most
 have hfirst:=h.first
 have hlr:Rd wA (hd m.gr) W.recs.length 1 m.xs:=HA.rd (i:=4) (xs:=m.xs) (sp:=m.sr) rfl (by rw[h.lst.1,Nat.mul_one]) (by decide)
 refine zN<|zN<|zJ Y (fun _ _ h=>h)<|OV (EL uC Y (hb))<|Dy (yE Tryz.underlying65 Y) (by simp)<|OE ?_
 change Run _ _ _ _ [_,_,_,_,_,_,_,_,_,_,_,_,_,_,_,_,_,_,_,_,_,_,_,_,_,_,_,_,_,_] _
 refine zW Y<|xH<|zN<|zJ Y (fun _ _ h=>h)<|OV (EL uC Y (hb))<|Xc Y<|Xf sI Y<|OV (EL gQ Y (HA.cell (i:=3) Y Y))<|Aa e30<|OQ (EC gf61 Y) (eK (hd m.gr) W.recs.length m.cr m.xs wA hlr h.lst.ones (by omega)) ?_
 rintro r w1 ⟨gl,cl,sl,hr,hc1,hc2,hc3,Hc⟩
 rw[hr]
 have H1:=Hp.widen Hc (S':=O0) (by simp)
 have hJ0:J 0 w1 O0:=hJs 0 wA O0 w1 h0 Hc.Ac
 have hO0:∀ b∈O0,(b∈O0∨wA.heap.size≤b)∧b∉bl [((gl,73,m.xs++sl):Ent)]:=fun b hx=>⟨.inl hx,fun hx2=>by
  have h1:=YD 0 wA O0 h0 b hx
  rcases bl_place Hc b hx2 with h2 | h2
  · cases h2
  · omega⟩
 refine OV (ES Tryz.underlying98 Y)<|Xm Y<|OE ?_
 change Run _ _ _ _ [_,_,_,_,_,_,_,_,_,_,_,_,_,_,_,_,_,_,_,_,_,_,_,_,_,_,_,_,_,_] _
 refine wH<|zU (fun nQ lQ w=>∃ (k:Nat) (y:Int) (O:List Nat),W.recs.length - k=nQ∧xN (Dj [(0,.func (.yield L) #[] #[]),(1,.pointer (some ⟨gb,0,none⟩)),(11,.slice (hd gl) W.recs.length cl),(12,.int .i64 (W.recs.length:Int)),(13,.int .i64 y)] 0 30) lQ∧y=(k:Int)∧k≤W.recs.length∧J k w O∧(∀ b∈O,(b∈O0∨wA.heap.size≤b)∧b∉bl [((gl,73,m.xs++sl):Ent)])∧Hp wA w O0 [(gl,73,m.xs++sl)]) (W.recs.length) ?_ ?_
 exact⟨0,_,O0,Y,(Ez Y Y Y Y Y Y),Y,Nat.zero_le _,hJ0,hO0,H1⟩
 rintro nQ lQ w2 ⟨k,y,O,rfl,hfit,rfl,hk,hJ,hOk,H2⟩
 obtain⟨j,rfl⟩:=hfit.open
 change Run _ _ _ _ [_,_,_,_,_,_,_,_,_,_,_,_,_,_,_,_,_,_,_,_,_,_,_,_,_,_,_,_,_,_] _
 clear hfit
 have HR:=H2
 have H2:=Hp.refl w2
 refine zN<|zJ Y (fun _ _ h=>h)<|OT (zQ Y Y) (fun hp14=>?_) (fun hp14=>?_)
 have hkl:k < W.recs.length:=by omega
 obtain⟨Bk,ck,hxk,hrk,hak⟩:=h.lst.2 k hkl
 have hlk:=h.long _ (List.getElem_mem hkl)
 obtain⟨gx,hgx⟩:∃ x,gl=some x:=by
  cases hx:gl with
  | none=>have:=hc3 hx;omega
  | some x=>exact⟨x,rfl⟩
 have hbk:w2.cell? ⟨gb,0,none⟩=some (.pointer (some ⟨m.gv,0,none⟩)):=xL hb HR (fun hx=>hO _ hx (by simp))
 have hfk:w2.cell? ⟨m.gv,3,none⟩=some (.int .i64 (W.first:Int)):=xL (HA.cell (i:=3) (o:=3) rfl rfl) HR (fun hx=>hO _ hx (by simp))
 have hlx:w2.cell? ⟨gx,k,none⟩=some (.slice Bk W.recs[k].length ck):=HR.cell (i:=0) (g:=gx) (T:=73) (cs:=m.xs++sl) (o:=k) (by rw[← hgx];rfl) (by rw[List.getElem?_append_left (lt_of_get hxk)];exact hxk)
 have hrd:Rd w2 Bk W.recs[k].length 1 (u8s W.recs[k]):=Rd.WX hrk HR (fun h0 p hp hx=>by subst hp;exact hO _ hx (by simp only[List.mem_cons];exact .inr (.inr (KM hxk h0))))
 have hJOk:=YD k w2 O hJ
 have hHRs:=HR.size
 have Xi:∀ b∈bl [((gl,73,m.xs++sl):Ent)],b < w2.heap.size:=fun b hx=>by
  obtain⟨arr,T,z,hz⟩:=sE HR b hx
  exact(Array.getElem?_eq_some_iff.1 hz).1
 refine OE ?_
 change Run _ _ _ _ [_,_,_,_,_,_,_,_,_,_,_,_,_,_,_,_,_,_,_,_,_,_,_,_,_,_,_,_,_,_] _
 refine zN<|yL Y<|xH<|zN<|wH<|zN<|zJ Y (fun _ _ h=>h)<|Xm Y<|OV (EI Tryz.underlying98 xK (a:=⟨gx,0,none⟩) (congrArg (fun A=>some (Value.slice A W.recs.length cl)) (show hd gl=some ⟨gx,0,none⟩ by rw[hgx];rfl)) Y Y hkl (Nat.mul_one _)) ?_
 rw[fW]
 refine OV (EL xK Y (hlx))<|Xa Y<|Aa e30<|Xa Y<|OE ?_
 change Run _ _ _ _ [_,_,_,_,_,_,_,_,_,_,_,_,_,_,_,_,_,_,_,_,_,_,_,_,_,_,_,_,_,_] _
 refine zN<|MB 9 [(true,0),(true,1),(true,2),(true,3),(true,4),(true,5),(true,6),(true,7),(false,8)] H2 [] yG (by decide) (by kernel_rfl) Y (fun _ _ h=>h) ?_
 rintro w3 hw3
 have H3:=Hp.drew H2;rw[← hw3]at H3
 refine zX Y<|MV (fun wz hz=>zK Y)<|zX Y<|MV (fun wz hz=>EL uC Y (xL hbk hz (by simp)))<|zX Y<|MV (fun wz hz=>yI Y)<|zX Y<|MV (fun wz hz=>EF qF Y)<|cM e30<|zX Y<|MV (fun wz hz=>EL ty3 Y (xL hfk hz (by simp)))<|zX Y<|MV (fun wz hz=>zK Y)<|zX Y<|MV (fun wz hz=>zL Y Y ((IntWalk.i64_in _ (by omega)).trans (show((W.first:Int)+(k:Int))=((W.first+k:Nat):Int) by omega)))<|zX Y<|MV (fun wz hz=>zK Y)<|cM e30<|G9 Y<|yW (EC kZ Y) (vI Bk W.recs[k] ck _ (Rd.WX hrd H3 (by simp)) (by omega))<|fun w4 g11 c11 s11 X4 Xw Ua Py=>have H4:=H3.call0 Py;OE<|⟨H4.pick [] (by decide),?_⟩
 refine cM e30<|tL ?_
 have hJ2:J k w4 O:=hJs k _ O w4 hJ H4.Ac
 have hpl:=bl_place (H4.pick [0] (by decide))
 have hown:=(H4.pick [0] (by decide)).here
 have hGO:∀ b∈bl [((g11,5,u8s W.recs[k]++s11):Ent)],b∉O:=fun b hx hx2=>by
  have h1:=hJOk b hx2
  rcases hpl b hx with h2 | h2
  · cases h2
  · omega
 have hHs:=H4.size
 have HM:=HR.past H4.Ac (fun b hx=>by cases hx) (fun b _ hx=>by cases hx)
 have hHd:=YD k w4 O hJ2
 refine⟨27,_,_,_,_,_,_,L,_,_,_,Y,Y,Y,hY k w4 O [.int .i64 ((W.first+k:Nat):Int),.slice (hd g11) W.recs[k].length c11] (bl [((g11,5,u8s W.recs[k]++s11):Ent)]) hkl hJ2 ⟨W.recs[k],g11,c11,s11,List.getElem?_eq_getElem hkl,Y,X4,(by rw[← Nat.mul_one c11];exact Xw),Ua,Y,hown,fun x hx=>by
  rcases hpl x hx with h2 | h2
  · cases h2
  · omega⟩ hGO,?_,fun ch wz hz=>hz⟩
 rintro v wy ⟨O',Zh,hOy,hcase⟩
 have HRy:=HM.past Zh (fun b hx=>by
  rcases List.mem_append.1 hx with h1 | h1
  · exact(hOk b h1).1
  · rcases hpl b h1 with h2 | h2
    · cases h2
    · exact .inr (by omega)) (fun b hx hx2=>by
  rcases List.mem_append.1 hx2 with h1 | h1
  · exact(hOk b h1).2 hx
  · have h3:=Xi b hx
    rcases hpl b h1 with h2 | h2
    · cases h2
    · omega)
 have YC:∀ b∈O',(b∈O0∨wA.heap.size≤b)∧b∉bl [((gl,73,m.xs++sl):Ent)]:=by
  intro b hx
  rcases hOy b hx with h1 | h1
  · rcases List.mem_append.1 h1 with h1 | h1
    · exact hOk b h1
    · rcases hpl b h1 with h2 | h2
      · cases h2
      · exact⟨.inr (by omega),fun h3=>by have:=Xi b h3;omega⟩
  · exact⟨.inr (by omega),fun h3=>by have:=Xi b h3;omega⟩
 rcases hcase with ⟨rfl,hJy⟩ | ⟨rfl,hXy⟩
 refine Xn Y<|OE ?_
 change Run _ _ _ _ [_,_,_,_,_,_,_,_,_,_,_,_,_,_,_,_,_,_,_,_,_,_,_,_,_,_,_,_,_,_] _
 refine zW Y<|xH<|zA (zB ?_)
 refine zJ Y (fun _ _ h=>h)<|OV (zL Y Y (IntWalk.i64_in _ (by omega)))<|Xm Y<|OE ?_
 change Run _ _ _ _ [_,_,_,_,_,_,_,_,_,_,_,_,_,_,_,_,_,_,_,_,_,_,_,_,_,_,_,_,_,_] _
 refine zA (zI ?_)
 refine⟨Y,?_⟩
 exact⟨W.recs.length - (k+1),by omega,k+1,_,O',Y,(Ez Y Y Y Y Y Y),by omega,by omega,hJy,YC,HRy⟩
 refine Xn Y<|OE ?_
 change Run _ _ _ _ [_,_,_,_,_,_,_,_,_,_,_,_,_,_,_,_,_,_,_,_,_,_,_,_,_,_,_,_,_,_] _
 refine yL Y<|wF<|vG<|yR<|vG<|⟨_,mY Y _ _,.inr hXy⟩
 have hkN:k=W.recs.length:=by omega
 subst hkN
 refine OE ?_
 change Run _ _ _ _ [_,_,_,_,_,_,_,_,_,_,_,_,_,_,_,_,_,_,_,_,_,_,_,_,_,_,_,_,_,_] _
 refine zN<|zW Y<|tD<|zT<|zS<|zA<|⟨_,mY Y _ _,.inl ⟨O,hJ⟩⟩
end Rn
end Go.Proofs.YtjoeklkmnfaabaaGreat
