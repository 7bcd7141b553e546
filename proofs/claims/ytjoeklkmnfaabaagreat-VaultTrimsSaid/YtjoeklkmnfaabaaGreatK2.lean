/-
  Parts of the walk, one behind the other.
-/
import Derived.Test.YtjoeklkmnfaabaaGreatK1
import Derived.Laws.CopyRow
namespace Go.Proofs.YtjoeklkmnfaabaaGreat
open Go Go.RowKit
set_option linter.unusedVariables false
set_option linter.unusedSimpArgs false
section
variable {P:Program} {k:FuncId} {w:World}
abbrev dfr (k:FuncId) (vs:List Value):Deferred:={ target:=.fn (.func k) vs.toArray,args:=#[] }
def Rec (u:FrameMode) (v:Value) (u':FrameMode):Prop:=
 (u=.returning∧v=.nilIface∧u'=.returning)∨(∃ x,u=.panicking [{ v:=x,recovered:=false }]∧v=x∧u'=.panicking [{ v:=x,recovered:=true }])
theorem Rec.settle {u:FrameMode} {v:Value} {u':FrameMode} (h:Rec u v u'):settle u'=.returning:=by
 rcases h with ⟨_,_,rfl⟩ | ⟨x,_,_,rfl⟩ <;>rfl
theorem Rec.run {u:FrameMode} {v:Value} {u':FrameMode} (h:Rec u v u'):u≠ .run:=by
 rcases h with ⟨rfl,_,_⟩ | ⟨x,rfl,_,_⟩ <;>simp
theorem bZ (ρ:Operand→Value) (d:Option Tmp) (ty:TypeId) (pos:String) (af:Array Edge) (ats:Array TypeId):(execOp ρ ⟨d,.call { callee:=.builtin .recover,args:=#[],argTypes:=ats },ty,pos,af,none⟩).run P w=.ok .recover w:=by
 simp[execOp,resolve,invoke,builtin]
theorem cS {fn:Func} {n m:Nat} {rest:Code} {d1 d2:Tmp} {t1 t2:TypeId} {p1 p2:String} {a1 a2:Array Edge} {args:List Value} {u u':FrameMode} {v:Value} {R:Value→World→Prop} (hf:P.funcs[k]? =some fn) (hn:fn.ntmps=m)
 (hb:fn.body=some (.seq (.region n #[⟨some d1,.call { callee:=.builtin .recover,args:=#[],argTypes:=#[] },t1,p1,a1,none⟩,⟨some d2,.assign (.tmp d1),t2,p2,a2,none⟩] false) rest))
 (hrec:Rec u v u') (hv:nth ((args++List.replicate (m - args.length) undef).set d1 v) d1=some v) (h:Run P [] [rest] (fin P fn R) (((args++List.replicate (m - args.length) undef).set d1 v).set d2 v) w):
 CallsDIn (FR none) 0 P k args.toArray u w fun e u1 w'=>∃ r,e=.returned r∧u1=u'∧R r w':=by
 refine⟨trivial,fun c₀ cs hu _=>?_⟩
 show ∃ e u1 w' fr,_∧ComesIn (Machine.fenced P Fence.wide) P _ _ e∧_∧_∧_
 let b:Frame:={ (default:Frame)with fn:=k,kind:=.deferred }
 have e1:(args.toArray++Array.replicate (fn.ntmps - args.toArray.size) undef)=(args++List.replicate (m - args.length) undef).toArray:=by
  rw[hn];simp
 have henter:Frame.enter P k args.toArray .deferred=
  b.at ⟨(args++List.replicate (m - args.length) undef).toArray,[]⟩ [.code (.seq (.region n #[⟨some d1,.call { callee:=.builtin .recover,args:=#[],argTypes:=#[] },t1,p1,a1,none⟩,⟨some d2,.assign (.tmp d1),t2,p2,a2,none⟩] false) rest)]:=by
  have e1':(args.toArray++Array.replicate (m - args.toArray.size) undef)=(args++List.replicate (m - args.length) undef).toArray:=by simp
  simp[Frame.enter,Frame.at,hf,hb,hn,b]
 have hS:(Code.seq (.region n #[⟨some d1,.call { callee:=.builtin .recover,args:=#[],argTypes:=#[] },t1,p1,a1,none⟩,⟨some d2,.assign (.tmp d1),t2,p2,a2,none⟩] false) rest).wpS P
  (fun e a cs' w'=>(e=.normal∨e=.ret)∧a.defers=[]∧cs'={ c₀ with mode:=u' }::cs∧∃ r,(results fn a.tmps).run P w'=.ok r w'∧R r w') ⟨(args++List.replicate (m - args.length) undef).toArray,[]⟩ (c₀::cs) w:=by
  refine wpS_seq (wpS_region ?_)
  generalize hl:args++List.replicate (m - args.length) undef=l at hv h ⊢
  have hrest:∀ cs',cs'={ c₀ with mode:=u' }::cs→wpOpsS P #[⟨some d1,.call { callee:=.builtin .recover,args:=#[],argTypes:=#[] },t1,p1,a1,none⟩,⟨some d2,.assign (.tmp d1),t2,p2,a2,none⟩]
   (Exit.thenS (rest.wpS P (fun e a cs' w'=>(e=.normal∨e=.ret)∧a.defers=[]∧cs'={ c₀ with mode:=u' }::cs∧∃ r,(results fn a.tmps).run P w'=.ok r w'∧R r w')) (fun e a cs' w'=>(e=.normal∨e=.ret)∧a.defers=[]∧cs'={ c₀ with mode:=u' }::cs∧∃ r,(results fn a.tmps).run P w'=.ok r w'∧R r w')) [1] ((⟨l.toArray,[]⟩:Act).put (some d1) v) cs' w:=by
   intro cs' hcs
   have hx:(execOp ((⟨l.toArray,[]⟩:Act).put (some d1) v).eval ⟨some d2,.assign (.tmp d1),t2,p2,a2,none⟩).run P w=.ok (.value v) w:=by
    rw[tI]
    have:(⟨(l.set d1 v).toArray,[]⟩:Act).eval (.tmp d1)=v:=jN (x:=.tmp d1) (by simpa[ev]using hv)
    simp[execOp,this]
   simp only[wpOpsS,Gv,Kq,Jq,Region.wanted,if_true,hx]
   rw[Oper.upon_value,tI,tI]
   refine wpS_of_wp (Go.wp_mono h ?_)
   rintro e ⟨t,d⟩ w' ⟨hd,hq⟩
   simp only at hd
   subst hd
   have fin':∀ {e:Exit},(e=.normal∨e=.ret)→(∃ r,(results fn t).run P w'=.ok r w'∧R r w')→(e=.normal∨e=.ret)∧(⟨t,[]⟩:Act).defers=[]∧cs'={ c₀ with mode:=u' }::cs∧∃ r,(results fn (⟨t,[]⟩:Act).tmps).run P w'=.ok r w'∧R r w':=fun h1 h2=>⟨h1,rfl,hcs,h2⟩
   cases e with
   | normal=>exact fin' (.inl rfl) (by simpa[uQ,Run,fin]using hq)
   | ret=>exact fin' (.inr rfl) (by simpa[uQ,Run,fin]using hq)
   | exit i=>exact hq.elim
   | goto t=>exact hq.elim
   | panic ch=>exact hq.elim
   | outgrown=>exact hq.elim
  show wpOpsS P _ _ [0,1] _ _ _
  unfold wpOpsS
  simp only[Gv,Jq,Region.wanted,if_true,bZ]
  rcases hrec with ⟨h1,h2,h3⟩ | ⟨x,h1,h2,h3⟩
  · have:recoverD (c₀::cs)=none:=by simp[recoverD,hu,h1]
    rw[this]
    subst h2
    refine hrest _ ?_
    rw[h3,← h1,← hu]
  have:recoverD (c₀::cs)=some (x,{ c₀ with mode:=u' }::cs):=by simp[recoverD,hu,h1,h3]
  rw[this]
  subst h2
  exact hrest _ Y
 obtain⟨e,a',cs',w',hq,harr⟩:=hS b [] rfl rfl
 rw[← henter]at harr
 obtain⟨hcase,hd,rfl,v',hr,hR⟩:=hq
 rcases hcase with rfl | rfl
 · exact⟨.returned v',u',w',_,⟨v',Y,Y,hR⟩,comesIn_wide.2 (Steps.trans harr (.one step_end)),Y,Y,Y,hd,fn,hf,hr⟩
 obtain⟨todo,hs⟩:=harr
 exact⟨.returned v',u',w',_,⟨v',Y,Y,hR⟩,comesIn_wide.2 hs,Y,Y,Y,hd,fn,hf,hr⟩
end
namespace Rn
section
variable {f:FuncId} {P:Program} {ds:List Deferred} {Q:rY} {l:List Value} {w:World} {cs:List Code}
theorem AI {n:Nat} {d:Tmp} {k:FuncId} {caps:List Operand} {vs:List Value} {t1 t2:TypeId} {p1 p2:String} {a1 a2:Array Edge} (h1:evs l caps=some vs) (hn:nth (l.set d (.func (.func k) #[] vs.toArray)) d=some (.func (.func k) #[] vs.toArray))
 (h:Run (f:=f) (ro:=none) P (dfr k vs::ds) cs Q (l.set d (.func (.func k) #[] vs.toArray)) w):
 Run (f:=f) (ro:=none) P ds (.region n #[⟨some d,.makeFunc (.func k) #[] caps.toArray,t1,p1,a1,none⟩,⟨none,.defer { callee:=.value (.tmp d),args:=#[],argTypes:=#[] },t2,p2,a2,none⟩] false::cs) Q l w:=by
 refine lC (wpIn_region_lit (l:=[⟨some d,.makeFunc (.func k) #[] caps.toArray,t1,p1,a1,none⟩,⟨none,.defer { callee:=.value (.tmp d),args:=#[],argTypes:=#[] },t2,p2,a2,none⟩]) ?_)
 have e1:=wL (P:=P) (ty:=t1) (w:=w) (fn:=.func k) (ys:=caps) (xs:=[]) (us:=[]) rfl h1 (some d) p1 a1 none
 have e2:(execOp (rho (l.set d (.func (.func k) #[] vs.toArray))) ⟨none,.defer { callee:=.value (.tmp d),args:=#[],argTypes:=#[] },t2,p2,a2,none⟩).run P w=.ok (.defer (dfr k vs)) w:=by
  have:rho (l.set d (.func (.func k) #[] vs.toArray)) (.tmp d)=.func (.func k) #[] vs.toArray:=zW (by simpa[ev]using hn)
  simp[execOp,resolve,Deferred.ofValue,this]
 refine wpListIn_plain Y fun K hK=>⟨fun _ _=>trivial,?_⟩
 rw[Oper.semAt_eq _ _ _ (fun c hc=>(by cases hc)),sA,e1]
 refine hK _ _ ?_
 rw[tI]
 refine wpListIn_plain Y fun K2 hK2=>⟨fun _ _=>trivial,?_⟩
 rw[show ∀ (ρ:Operand→Value) (o:Oper),Oper.semAt (FR none).round ρ o=execOp ρ o from fun ρ o=>Oper.semAt_none ρ o,sA,e2]
 refine hK2 _ _ ?_
 exact h
def QJ (R:Value→World→Prop) (RP:rO→World→Prop):Ending→World→Prop
 | .returned v,w=>R v w
 | .panicked ch,w=>RP ch w
 | .outgrown,_=>False
def QA (P:Program) (fn:Func) (R:Value→World→Prop) (RP:rO→World→Prop):rY
 | .normal,ds,l,w=>LeavesInM (FR none) 0 P fn l.toArray (QJ R RP) ds .returning w
 | .ret,ds,l,w=>LeavesInM (FR none) 0 P fn l.toArray (QJ R RP) ds .returning w
 | .panic ch,ds,l,w=>LeavesInM (FR none) 0 P fn l.toArray (QJ R RP) ds (.panicking ch) w
 | _,_,_,_=>False
theorem FO {fn:Func} {c:Code} {args:List Value} {R:Value→World→Prop} {RP:rO→World→Prop} {n:Nat} (hf:P.funcs[f]? =some fn) (hn:fn.ntmps=n) (hb:fn.body=some c)
 (h:Run (f:=f) (ro:=none) P [] [c] (QA P fn R RP) (args++List.replicate (n - args.length) undef) w):qA P f args.toArray w R RP:=by
 refine Calls.mono (R:=QJ R RP) (FY hf hb ?_) (fun e w h=>by cases e <;>exact h)
 have e:(args.toArray++Array.replicate (fn.ntmps - args.toArray.size) undef)=(args++List.replicate (n - args.length) undef).toArray:=by
  rw[hn];simp
 rw[e]
 refine qN h ?_
 intro e a w' hq
 have e2:a.tmps.toList.toArray=a.tmps:=by simp
 cases e with
 | normal=>unfold uQ jS QA at hq;simp only[e2]at hq;exact hq
 | ret=>unfold uQ QA at hq;simp only[e2]at hq;exact hq
 | panic ch=>unfold uQ QA at hq;simp only[e2]at hq;exact hq
 | exit id=>exact hq.elim
 | goto l=>exact hq.elim
 | outgrown=>exact hq.elim
theorem P9 {fn:Func} {R:Value→World→Prop} {RP:rO→World→Prop} {v:Value} (h:(results fn l.toArray).run P w=.ok v w) (hR:R v w):QA P fn R RP .ret [] l w:=⟨v,h,hR⟩
theorem iM {fn:Func} {k:FuncId} {vs:List Value} {R:Value→World→Prop} {RP:rO→World→Prop} {u u':FrameMode} {v:Value} (hgo:yC P k=true) (hrec:Rec u v u')
 (h:CallsDIn (FR none) 0 P k vs.toArray u w fun e u1 w'=>∃ r,e=.returned r∧u1=u'∧∃ v,(results fn l.toArray).run P w'=.ok v w'∧R v w'):LeavesInM (FR none) 0 P fn l.toArray (QJ R RP) [dfr k vs] u w:=by
 refine⟨hrec.run,.inr ⟨fun hd=>(by cases hd),.func k,vs.toArray,k,vs.toArray,Y,?_,fun _ _=>trivial,?_⟩⟩
 · simp[invoke,hU hgo]
 refine⟨trivial,fun c cs hu hr=>?_⟩
 obtain⟨e,u1,w',fr,⟨r,he,hu1,v',h1,h2⟩,h3⟩:=h.2 c cs hu (IS _ _)
 refine⟨e,u1,w',fr,?_,h3⟩
 rw[he,hu1]
 show LeavesInM _ _ _ _ _ _ [] (Go.settle u') w'
 rw[hrec.settle]
 exact⟨v',h1,h2⟩
end
end Rn
section round
variable {P:Program} {f:FuncId} {w:World}
def R9 (P:Program) (L:Nat) (R:Ending→World→Prop):Exit→Act→World→Prop
 | .normal,_,w=>∃ v w',(Instr.endRound L none).run P w=.ok v w'∧R (.returned v) w'
 | .ret,_,w=>∃ v w',(Instr.endRound L (some .ret)).run P w=.ok v w'∧R (.returned v) w'
 | .exit id,_,w=>∃ v w',(Instr.endRound L (some (.exit id))).run P w=.ok v w'∧R (.returned v) w'
 | .panic ch,a,w=>a.defers=[]∧R (.panicked ch) w
 | _,_,_=>False
theorem GQ {L:Nat} {tmps:Array Value} {assign body:Code} {R:Ending→World→Prop} {fn:Func} (hf:P.funcs[f]? =some fn)
 (h:Ub f (some L) P assign (Exit.then (fun a₁ w₁=>∃ w₂,(Instr.beginRound L).run P w₁=.ok () w₂∧Ub f (some L) P body (R9 P L R) a₁ w₂) (fun _ _ _=>False)) { tmps:=tmps,defers:=[] } w):
 RoundIn (FR none) 0 P L f tmps assign body w R:=by
 refine⟨trivial,fun c cs _=>?_⟩
 show ∃ e w',R e w'∧ComesIn (Machine.fenced P Fence.wide) P _ _ e
 have hw:∀ m,Machine.fenced P Fence.wide m:=fenced_wide P
 let b:Frame:={ (default:Frame)with fn:=f,kind:=.normal,roundOf:=some L }
 have hb0:Frame.round L f tmps assign body .normal=b.atR { tmps:=tmps,defers:=[] } [.code assign,.beginRound,.code body]:=by
  simp[Frame.round,Frame.atR,b]
 obtain⟨e,a₁,w₁,hq,harr⟩:=h b [.beginRound,.code body] (c::cs) rfl rfl
 rw[← hb0]at harr
 cases e with
 | normal=>
  obtain⟨w₂,hbr,hbody⟩:=hq
  have s1:StepsIn (Machine.fenced P Fence.wide) P (lone (b.atR a₁ [.beginRound,.code body]) (c::cs) w₁) (lone (b.atR a₁ [.code body]) (c::cs) w₂):=
   .one (hw _) (stepR_beginRound rfl hbr)
  obtain⟨e₂,a₂,w₃,hq₂,harr₂⟩:=hbody b [] (c::cs) rfl rfl
  cases e₂ with
  | normal=>
   obtain⟨v,w₄,hend,hR⟩:=hq₂
   exact⟨.returned v,w₄,hR,(StepsIn.trans harr s1).trans (StepsIn.trans harr₂ (.one (hw _) (stepR_round_end Y Y hend)))⟩
  | ret=>
   obtain⟨v,w₄,hend,hR⟩:=hq₂
   obtain⟨k₁,hs⟩:=harr₂.2 rfl
   exact⟨.returned v,w₄,hR,(StepsIn.trans harr s1).trans (StepsIn.trans hs (.one (hw _) (stepR_round_ret Y Y hend)))⟩
  | exit id=>
   obtain⟨v,w₄,hend,hR⟩:=hq₂
   obtain⟨k₁,hk,hs⟩:=harr₂.2 rfl rfl
   exact⟨.returned v,w₄,hR,(StepsIn.trans harr s1).trans (StepsIn.trans hs (.one (hw _) (stepR_round_exit Y Y hk hend)))⟩
  | panic ch=>
   obtain⟨hd,hR⟩:=hq₂
   obtain⟨todo,hs⟩:=harr₂
   refine⟨.panicked ch,w₃,hR,(StepsIn.trans harr s1).trans (StepsIn.trans hs (.one (hw _) ?_))⟩
   exact step_leave_panicked ⟨Y,hd,fn,hf⟩
  | goto t=>exact hq₂.elim
  | outgrown=>exact hq₂.elim
 | exit id=>exact hq.elim
 | goto t=>exact hq.elim
 | ret=>exact hq.elim
 | panic chain=>exact hq.elim
 | outgrown=>exact hq.elim
def R8 (f:FuncId) (P:Program) (l:Nat) (Q:Exit→Act→World→Prop) (a':Act):Ending→World→Prop
 | .returned _,w₃=>∃ jump w₄,(Instr.endLoop l).run P w₃=.ok jump w₄∧
  (match jump with
   | none=>Q .normal a' w₄
   | some c=>Ub f none P c Q a' w₄)
 | .panicked chain,w₃=>Q (.panic chain) a' w₃
 | .outgrown,_=>False
theorem aN {g:Operand} {ps:Array Tmp} {assign body:Code} {Q:Exit→Act→World→Prop} {a:Act}
 (h:∃ (l:Nat) (mark:List Deferred) (w₁:World) (d:Deferred) (w₁':World) (g':FuncId) (args:Array Value) (w₂:World),
  (Instr.enterLoop f a.tmps ps assign body none).run P w=.ok (l,mark) w₁∧
  (resolve a.eval (rangeCall g l) 0).run P w₁=.ok d w₁'∧
  (invoke d.target d.args).run P w₁'=.ok (.enter g' args) w₂∧
  Calls P g' args w₂ (R8 f P l Q { a with defers:=mark++a.defers })):
 Ub f none P (.rangeFunc g ps assign body) Q a w:=by
 intro b k cs hro hb
 have hw:∀ m,Machine.fenced P Fence.wide m:=fenced_wide P
 obtain⟨l,mark,w₁,d,w₁',g',args,w₂,he,hres,hinv,hcall⟩:=h
 rw[← hro,← hb]at he
 have henter:=stepR_rangeFunc (P:=P) (b:=b) (a:=a) (k:=k) (cs:=cs) (w:=w) he hres hinv
 obtain⟨e,w₃,fr,hR,hsteps,hfn,hleave⟩:=((callsIn_wide (n:=0)).2 hcall).2 (b.atR { a with defers:=mark++a.defers } (.inRangeFunc l::k)::cs) (room_wide _)
 cases e with
 | outgrown=>exact hR.elim
 | returned v=>
  obtain⟨jump,w₄,hend,hj⟩:=hR
  have sback:StepsIn (Machine.fenced P Fence.wide) P (lone (b.atR a (.code (.rangeFunc g ps assign body)::k)) cs w) (lone (b.atR { a with defers:=mark++a.defers } ((jump.map Item.code).toList++k)) cs w₄):=by
   refine .head (hw _) henter (StepsIn.trans hsteps (.head (hw _) ?_ (.one (hw _) (stepR_endRangeFunc hend))))
   rw[← finish_atR_inRangeFunc l v];exact step_leave_returned hleave
  cases jump with
  | none=>exact⟨.normal,_,w₄,hj,sback⟩
  | some c=>
   obtain⟨e',a'',w₅,hq,harr⟩:=hj b k cs hro hb
   exact⟨e',a'',w₅,hq,.of_steps sback harr⟩
 | panicked chain=>
  refine⟨.panic chain,_,w₃,hR,.inRangeFunc l::k,.head (hw _) henter (StepsIn.trans hsteps (.one (hw _) ?_))⟩
  rw[← Frame.raise_atR];exact step_leave_panicked hleave
end round
def IC (P:Program) (L:Nat) (args:Array Value) (W:World) (R:Value→World→Prop) (RP:rO→World→Prop):Prop:=
 ∃ fn tmps assign body,(Instr.yield L args).run P W=.ok (.round L fn tmps assign body) W∧
  RoundIn (FR none) 0 P L fn tmps assign body W fun e W'=>match e with | .returned v=>R v W' | .panicked ch=>RP ch W' | .outgrown=>False
def XV (P:Program) (gf:FuncId) (lb:List Value) (N:Nat) (B:List Nat) (It:Nat→World→List Value→List Nat→Prop) (w1:World):Prop:=
 ∀ (L:Nat) (J:Nat→World→List Nat→Prop) (X:World→Prop) (XP:rO→World→Prop) (O0:List Nat),
  (∀ b∈O0,b∉B)→(∀ k W O,J k W O→∀ b∈O,b < W.heap.size)→(∀ k W O W',J k W O→Hp W W' [] []→J k W' O)→(∀ W W',X W→Hp W W' [] []→X W')→
  (∀ k W O args G,k < N→J k W O→It k W args G→(∀ b∈G,b∉O)→IC P L args.toArray W (fun v W'=>∃ O',Hp W W' (O++G) []∧(∀ b∈O',b∈O++G∨W.heap.size≤b)∧((v=.bool true∧J (k+1) W' O')∨(v=.bool false∧X W'))) XP)→
  J 0 w1 O0→qA P gf ((.func (.yield L) #[] #[])::lb).toArray w1 (fun _ W'=>(∃ O,J N W' O)∨X W') XP
theorem Hp.Vw {W:World} {L:Nat} {r:Loop} (o:Obj) (_:W.heap[L]? =some (.loop r)):Hp W (W.putObj L o) [L] []:=
 ⟨rfl,rfl,rfl,by simp,fun k _ hk=>World.putObj_heap_other (fun e=>hk (by simp[e])),by simp,by simp⟩
theorem Hp.Zt (W:World) (o:Obj):Hp W (W.alloc o) [] []:=
 ⟨rfl,rfl,rfl,by simp,fun k hk _=>heap_alloc_old W _ hk,by simp,by simp⟩
theorem Hp.loop {w0 W W':World} {S:List Nat} {es:List Ent} {L:Nat} (H:Hp w0 W S es) (H':Hp W W' [L] []) (hL:∀ arr T z,W.heap[L]?≠some (.cells arr T z)) (hS:w0.heap.size≤L):Hp w0 W' S es:=by
 refine⟨H'.os.trans H.os,H'.tape.trans H.tape,H'.output.trans H.output,Ce H.size H'.size,?_,?_,H.apart⟩
 · intro k hk Ug
   rw[H'.frame k (by have:=H.size;omega) (by simp;omega)]
   exact H.frame k hk Ug
 intro i e he
 have h:=H.ent i e he
 unfold qX at h ⊢
 split
 · rename_i hn;rw[hn]at h;exact h
 rename_i g hg
 rw[hg]at h
 have hne:g≠L:=by rintro rfl;exact hL _ _ _ h.1
 exact⟨by rw[H'.frame g (Dw.1 h.1).1 (by simp[hne])];exact h.1,h.2⟩
namespace Rn
section code
variable {f:FuncId} {P:Program} {ds:List Deferred} {Q:rY} {l:List Value} {w:World} {cs:List Code}
def bodyQ (J:World→List Nat→Prop) (X:Code→World→Prop) (XP:rO→World→Prop) (W:World) (O G:List Nat):rY
 | .normal,ds,_,W'=>ds=[]∧Hp W W' (O++G) []∧∃ O',(∀ b∈O',b∈O++G∨W.heap.size≤b)∧J W' O'
 | .ret,ds,_,W'=>ds=[]∧Hp W W' (O++G) []∧X .ret W'
 | .exit n,ds,_,W'=>ds=[]∧Hp W W' (O++G) []∧X (.exit n) W'
 | .panic ch,ds,_,W'=>ds=[]∧Hp W W' (O++G) []∧XP ch W'
 | _,_,_,_=>False
def iH (l:List Value):List Tmp→List Value→List Value
 | p::ps,v::vs=>iH (l.set p v) ps vs
 | _,_=>l
theorem ED :∀ (ps:List Tmp) (vs l:List Value),(ps.zip vs).foldl (fun(t:Array Value) (x:Tmp×Value)=>t.setIfInBounds x.1 x.2) l.toArray=(iH l ps vs).toArray
 | [],_,_=>by simp[iH]
 | _::_,[],_=>by simp[iH]
 | p::ps,v::vs,l=>by
  have:=ED ps vs (l.set p v)
  simp only[iH,← this,List.zip_cons_cons,List.foldl_cons,List.setIfInBounds_toArray]
theorem K8 (ps:List Tmp) (vs l:List Value):(ps.toArray.zip vs.toArray).foldl (fun(t:Array Value) (x:Tmp×Value)=>t.setIfInBounds x.1 x.2) l.toArray=(iH l ps vs).toArray:=by
 rw[← ED,← Array.foldl_toList]
 simp
abbrev Vy (D:Nat):Deferred:={ target:=.collected D,args:=#[] }
theorem AH {g:Operand} {ps:List Tmp} {assign body:Code} {gf:FuncId} {lb:List Value} {fn:Func} (hf:P.funcs[f]? =some fn) (hg:ev l g=some (.func (.func gf) #[] lb.toArray)) (hgo:yC P gf=true)
 {N:Nat} {B:List Nat} {It:Nat→World→List Value→List Nat→Prop} (hit:∀ w1,Hp w w1 [] []→XV P gf lb N B It w1) (hB:∀ b∈B,b < w.heap.size)
 (J:Nat→World→List Nat→Prop) (X:Code→World→Prop) (XP:rO→World→Prop) (O0:List Nat) (hO:∀ b∈O0,b∉B) (l1:List Value→List Value→List Value)
 (hJO:∀ k W O,J k W O→∀ b∈O,∃ arr T z,W.heap[b]? =some (.cells arr T z))
 (hJs:∀ k W O W' L,J k W O→w.heap.size≤L→Hp W W' [L] []→(∀ arr T z,W.heap[L]?≠some (.cells arr T z))→J k W' O)
 (hXs:∀ c W W' L,X c W→w.heap.size≤L→Hp W W' [L] []→(∀ arr T z,W.heap[L]?≠some (.cells arr T z))→X c W')
 (hIt:∀ k W args G,It k W args G→args.length=ps.length∧(∀ b∈G,∃ arr T z,W.heap[b]? =some (.cells arr T z))∧(∀ W' L,Hp W W' [L] []→w.heap.size≤L→(∀ arr T z,W.heap[L]?≠some (.cells arr T z))→It k W' args G))
 (h0:J 0 w O0)
 (hasg:∀ k W args G L,It k W args G→Run (f:=f) (ro:=some L) P [] [assign] (fun e ds l' W1=>e=.normal∧ds=[]∧l'=l1 l args∧W1=W) (iH l ps args) W)
 (hbody:∀ k W O args G L,k < N→J k W O→It k W args G→(∀ b∈G,b∉O)→Run (f:=f) (ro:=some L) P [] [body] (bodyQ (J (k+1)) X XP W O G) (l1 l args) W)
 (hdone:∀ D W O,J N W O→W.heap[D]? =some (.deferred (some []))→w.heap.size≤D→Run (f:=f) (ro:=none) P (Vy D::ds) cs Q l W)
 (hjump:∀ D c W,X c W→W.heap[D]? =some (.deferred (some []))→w.heap.size≤D→Run (f:=f) (ro:=none) P (Vy D::ds) (c::cs) Q l W)
 (hpan:∀ D ch W,XP ch W→W.heap[D]? =some (.deferred (some []))→w.heap.size≤D→Q (.panic ch) (Vy D::ds) l W):
 Run (f:=f) (ro:=none) P ds (.rangeFunc g ps.toArray assign body::cs) Q l w:=by
 obtain⟨rec,hrec⟩:∃ rec:LoopState→Option Code→Loop,rec=fun st pe=>{ state:=st,pending:=pe,fn:=f,tmps:=l.toArray,params:=ps.toArray,assign,body,defers:=w.heap.size }:=⟨_,rfl⟩
 obtain⟨W1,hW1⟩:∃ W1,(w.alloc (.deferred (some []))).alloc (.loop (rec .ready none))=W1:=⟨_,rfl⟩
 have H1:Hp w W1 [] []:=by
  rw[← hW1]
  have:=(Hp.Zt w (.deferred (some []))).call0 (Hp.Zt (w.alloc (.deferred (some []))) (.loop (rec .ready none)))
  exact this
 have hL1:W1.heap[w.heap.size+1]? =some (.loop (rec .ready none)):=by
  rw[← hW1];have:=World.alloc_heap_new (w.alloc (.deferred (some []))) (.loop (rec .ready none));rwa [World.size_alloc]at this
 have hD1:W1.heap[w.heap.size]? =some (.deferred (some [])):=by
  rw[← hW1];exact(Below.heap_alloc _ _ _ (by simp)).trans (World.alloc_heap_new w _)
 have nl:∀ {W:World} {r:Loop},W.heap[w.heap.size+1]? =some (.loop r)→∀ arr T z,W.heap[w.heap.size+1]?≠some (.cells arr T z):=fun h arr T z h2=>by rw[h]at h2;cases h2
 have nn:∀ {W:World} {L:Nat},W.heap.size≤L→∀ arr T z,W.heap[L]?≠some (.cells arr T z):=fun h arr T z h2=>by have:=(Dw.1 h2).1;omega
 have wide:∀ {W W':World} (L:Nat),Hp W W' [] []→Hp W W' [L] []:=fun L h=>⟨h.os,h.tape,h.output,h.size,fun k hk _=>h.frame k hk (by simp),by simp,by simp⟩
 refine aN ⟨w.heap.size+1,[Vy w.heap.size],W1,{ target:=.fn (.func gf) lb.toArray,args:=#[.func (.yield (w.heap.size+1)) #[] #[]] },W1,gf,
  ((.func (.yield (w.heap.size+1)) #[] #[])::lb).toArray,W1,?_,?_,?_,?_⟩
 · rw[← hW1,hrec];exact run_enterLoop_outer _ _ _ _ _
 · simp[resolve,jN hg,Deferred.ofValue]
   rfl
 · simp[invoke,hU hgo]
 have hcall:=hit W1 H1 (w.heap.size+1)
  (fun k W O=>∃ O1,O=(w.heap.size+1)::O1∧J k W O1∧W.heap[w.heap.size+1]? =some (.loop (rec .ready none))∧W.heap[w.heap.size]? =some (.deferred (some [])))
  (fun W=>∃ c,X c W∧W.heap[w.heap.size+1]? =some (.loop (rec .done (some c)))∧W.heap[w.heap.size]? =some (.deferred (some [])))
  (fun ch W=>XP ch W∧W.heap[w.heap.size]? =some (.deferred (some [])))
  ((w.heap.size+1)::O0) ?_ ?_ ?_ ?_ ?_ ⟨O0,rfl,hJs 0 w O0 W1 w.heap.size h0 (Ak _) (wide _ H1) (nn (Ak _)),hL1,hD1⟩
 · refine Calls.mono hcall ?_
   intro e W hR
   cases e with
   | outgrown=>exact hR
   | panicked ch=>exact hpan _ _ _ hR.1 hR.2 (Ak _)
   | returned v=>
    rcases hR with ⟨O,O1,rfl,hJ,hL,hD⟩ | ⟨c,hX,hL,hD⟩
    · refine⟨none,W.putObj (w.heap.size+1) (.loop (rec .exhausted none)),?_,hdone w.heap.size _ O1 (hJs _ _ _ _ (w.heap.size+1) hJ (by omega) (Hp.Vw _ hL) (nl hL)) ((World.putObj_heap_other (by omega)).trans hD) (Ak _)⟩
      have:=run_endLoop (P:=P) hL (by rw[hrec];simp)
      rw[hrec]at this ⊢
      exact this
    refine⟨some c,W.putObj (w.heap.size+1) (.loop (rec .exhausted (some c))),?_,hjump w.heap.size c _ (hXs _ _ _ (w.heap.size+1) hX (by omega) (Hp.Vw _ hL) (nl hL)) ((World.putObj_heap_other (by omega)).trans hD) (Ak _)⟩
    have:=run_endLoop (P:=P) hL (by rw[hrec];simp)
    rw[hrec]at this ⊢
    exact this
 · intro b hb
   rcases Cj.1 hb with rfl | h
   · intro hb2;have:=hB _ hb2;omega
   exact hO b h
 · rintro k W O ⟨O1,rfl,hJ,hL,hD⟩ b hb
   rcases Cj.1 hb with rfl | h
   · exact(Dw.1 hL).1
   obtain⟨arr,T,z,h2⟩:=hJO k W O1 hJ b h
   exact(Dw.1 h2).1
 · rintro k W O W' ⟨O1,rfl,hJ,hL,hD⟩ H
   exact⟨O1,Y,hJs k W O1 W' (w.heap.size+1) hJ (by omega) (wide _ H) (nl hL),(H.frame _ (Dw.1 hL).1 (by simp)).trans hL,(H.frame _ (Dw.1 hD).1 (by simp)).trans hD⟩
 · rintro W W' ⟨c,hX,hL,hD⟩ H
   exact⟨c,hXs c W W' (w.heap.size+1) hX (by omega) (wide _ H) (nl hL),(H.frame _ (Dw.1 hL).1 (by simp)).trans hL,(H.frame _ (Dw.1 hD).1 (by simp)).trans hD⟩
 rintro k W O args G hk ⟨O1,rfl,hJ,hL,hD⟩ hI hG
 obtain⟨hlen,hGc,hIs⟩:=hIt k W args G hI
 have hlt:w.heap.size+1 < W.heap.size:=(Dw.1 hL).1
 have hy:=run_yield (P:=P) (args:=args.toArray) hL (by rw[hrec];simp[hlen])
 rw[hrec]at hy
 simp only[K8]at hy
 refine⟨f,_,assign,body,hy,?_⟩
 refine GQ hf (qN (hasg k W args G (w.heap.size+1) hI) ?_)
 rintro e ⟨t,d⟩ W2 h2
 cases e with
 | normal=>
  obtain⟨_,hd,hl,hw⟩:=h2
  simp only at hd hl
  subst hd hw
  have hl':t=(l1 l args).toArray:=by rw[← hl]
  subst hl'
  refine⟨_,run_beginRound hL (by rw[hrec]),?_⟩
  have hP:=Hp.Vw (.loop { rec .ready none with state:=.busy }) hL
  have hL2:(W2.putObj (w.heap.size+1) (.loop { rec .ready none with state:=.busy })).heap[w.heap.size+1]? =some (.loop { rec .ready none with state:=.busy }):=World.putObj_heap_same hlt
  have hD2:(W2.putObj (w.heap.size+1) (.loop { rec .ready none with state:=.busy })).heap[w.heap.size]? =some (.deferred (some [])):=(World.putObj_heap_other (by omega)).trans hD
  have hJ2:=hJs k W2 O1 _ (w.heap.size+1) hJ (by omega) hP (nl hL)
  have hI2:=hIs _ (w.heap.size+1) hP (by omega) (nl hL)
  have hsz:(W2.putObj (w.heap.size+1) (.loop { rec .ready none with state:=.busy })).heap.size=W2.heap.size:=by simp
  generalize W2.putObj (w.heap.size+1) (.loop { rec .ready none with state:=.busy })=W3 at hP hL2 hD2 hJ2 hI2 hsz ⊢
  have hGO:∀ b∈G,b∉O1:=fun b hb hb2=>hG b hb (Eu _ hb2)
  have hnot:∀ b∈O1++G,b≠w.heap.size∧b≠w.heap.size+1:=by
   intro b hb
   have hc:∃ arr T z,W3.heap[b]? =some (.cells arr T z):=by
    rcases Bq.1 hb with h | h
    · exact hJO k W3 O1 hJ2 b h
    exact(hIt k W3 args G hI2).2.1 b h
   obtain⟨arr,T,z,h⟩:=hc
   exact⟨(by rintro rfl;rw[hD2]at h;cases h),(by rintro rfl;rw[hL2]at h;cases h)⟩
  refine qN (hbody k W3 O1 args G (w.heap.size+1) hk hJ2 hI2 hGO) ?_
  have keep:∀ {W4:World},Hp W3 W4 (O1++G) []→W4.heap[w.heap.size+1]? =some (.loop { rec .ready none with state:=.busy })∧W4.heap[w.heap.size]? =some (.deferred (some [])):=by
   intro W4 h
   exact⟨(h.frame _ (Dw.1 hL2).1 (fun hb=>(hnot _ hb).2 Y)).trans hL2,(h.frame _ (Dw.1 hD2).1 (fun hb=>(hnot _ hb).1 Y)).trans hD2⟩
  have big:∀ {W4 W5:World},Hp W3 W4 (O1++G) []→Hp W4 W5 [w.heap.size+1] []→Hp W2 W5 ((w.heap.size+1)::O1++G) []:=by
   intro W4 W5 h4 h5
   refine⟨h5.os.trans (h4.os.trans hP.os),h5.tape.trans (h4.tape.trans hP.tape),h5.output.trans (h4.output.trans hP.output),Ce hP.size (Ce h4.size h5.size),?_,by simp,by simp⟩
   intro x hx hxn
   simp only[Jf,Cj,Bq,not_or]at hxn
   rw[h5.frame x (by have:=h4.size;have:=hP.size;omega) (by simp;exact hxn.1),h4.frame x (by have:=hP.size;omega) (by simp;exact⟨hxn.2.1,hxn.2.2⟩)]
   exact hP.frame x hx (by simp;exact hxn.1)
  rintro e ⟨t4,d4⟩ W4 h4
  cases e with
  | normal=>
   obtain⟨_,hH,O',hO',hJ'⟩:=h4
   obtain⟨k1,k2⟩:=keep hH
   have hq:=Hp.Vw (.loop (rec .ready none)) k1
   refine⟨.bool true,W4.putObj (w.heap.size+1) (.loop (rec .ready none)),?_,(w.heap.size+1)::O',big hH hq,?_,.inl ⟨Y,O',Y,?_,?_,?_⟩⟩
   · have:=run_endRound (P:=P) none k1
     rw[hrec]at this ⊢
     exact this
   · intro b hb
     rcases Cj.1 hb with rfl | h
     · exact .inl (by simp)
     rcases hO' b h with h | h
     · exact .inl (by simp only[Jf,Cj];exact .inr h)
     exact .inr (by omega)
   · exact hJs _ _ _ _ (w.heap.size+1) hJ' (by omega) hq (nl k1)
   · exact World.putObj_heap_same (Dw.1 k1).1
   exact(World.putObj_heap_other (by omega)).trans k2
  | ret=>
   obtain⟨_,hH,hX⟩:=h4
   obtain⟨k1,k2⟩:=keep hH
   have hq:=Hp.Vw (.loop (rec .done (some .ret))) k1
   refine⟨.bool false,W4.putObj (w.heap.size+1) (.loop (rec .done (some .ret))),?_,[],big hH hq,by simp,.inr ⟨Y,.ret,?_,?_,?_⟩⟩
   · have:=run_endRound (P:=P) (some .ret) k1
     rw[hrec]at this ⊢
     exact this
   · exact hXs _ _ _ (w.heap.size+1) hX (by omega) hq (nl k1)
   · exact World.putObj_heap_same (Dw.1 k1).1
   exact(World.putObj_heap_other (by omega)).trans k2
  | exit id=>
   obtain⟨_,hH,hX⟩:=h4
   obtain⟨k1,k2⟩:=keep hH
   have hq:=Hp.Vw (.loop (rec .done (some (.exit id)))) k1
   refine⟨.bool false,W4.putObj (w.heap.size+1) (.loop (rec .done (some (.exit id)))),?_,[],big hH hq,by simp,.inr ⟨Y,.exit id,?_,?_,?_⟩⟩
   · have:=run_endRound (P:=P) (some (.exit id)) k1
     rw[hrec]at this ⊢
     exact this
   · exact hXs _ _ _ (w.heap.size+1) hX (by omega) hq (nl k1)
   · exact World.putObj_heap_same (Dw.1 k1).1
   exact(World.putObj_heap_other (by omega)).trans k2
  | panic ch=>
   obtain⟨hd,hH,hX⟩:=h4
   exact⟨hd,hX,(keep hH).2⟩
  | goto t=>exact h4.elim
  | outgrown=>exact h4.elim
 | exit id=>exact absurd h2.1 (by simp)
 | goto t=>exact absurd h2.1 (by simp)
 | ret=>exact absurd h2.1 (by simp)
 | panic chain=>exact absurd h2.1 (by simp)
 | outgrown=>exact absurd h2.1 (by simp)
end code
end Rn
section yield
variable {ro:Option Nat} {n:Nat} {P:Program} {l:List Value} {ds:List Deferred} {w:World}
theorem GC {ops:Array Oper} {d:Tmp} {y:Operand} {xs:List Operand} {ats:Array TypeId} {ty:TypeId} {pos:String} {af:Array Edge} {L:Nat} {vs:List Value} {R:Value→World→Prop} {RP:rO→World→Prop} {rest:List Oper} {Q:Exit→Act→World→Prop}
 (hy:ev l y=some (.func (.yield L) #[] #[])) (hx:evs l xs=some vs) (hY:IC P L vs.toArray w R RP) (h:∀ v w',R v w'→wpListIn (FR ro) n P ops Q rest ⟨(l.set d v).toArray,ds⟩ w') (hp:∀ ch w',RP ch w'→Q (.panic ch) ⟨l.toArray,ds⟩ w'):
 wpListIn (FR ro) n P ops Q (⟨some d,.call { callee:=.value y,args:=xs.toArray,argTypes:=ats },ty,pos,af,none⟩::rest) ⟨l.toArray,ds⟩ w:=by
 obtain⟨fn,tmps,assign,body,h1,h2⟩:=hY
 have he:(execOp (⟨l.toArray,ds⟩:Act).eval ⟨some d,.call { callee:=.value y,args:=xs.toArray,argTypes:=ats },ty,pos,af,none⟩).run P w=.ok (.round L fn tmps assign body) w:=by
  rw[sA]
  simp[execOp,resolve,Deferred.ofValue,invoke,mA hx,zW hy,h1]
 refine wpListIn_plain Y fun K hK=>⟨fun _ _=>trivial,?_⟩
 rw[Oper.semAt_eq _ _ _ (fun c hc=>(by cases hc)),he]
 refine⟨fun hd=>(by cases hd),trivial,fun c cs _=>?_⟩
 obtain⟨e,w',hR,hs⟩:=h2.2 c cs (IS _ _)
 refine⟨e,w',?_,hs⟩
 cases e with
 | returned v=>exact hK _ _ (by rw[tI];exact h v w' hR)
 | panicked ch=>exact hp ch w' hR
 | outgrown=>exact hR.elim
end yield
section head
variable {P:Program} {ops:Array Oper} {S:World→Prop} {n:Nat} {L:Array Bool→Act→World→Prop}
def KI (P:Program) (ops:Array Oper) (S:World→Prop) (L:Array Bool→Act→World→Prop):Nat→Array Bool→Act→World→Prop
 | 0,listed,a,w=>L listed a w
 | f+1,listed,a,w=>Region.ready .any ops listed≠[]∧∀ i∈Region.ready .any ops listed,wpOp P ops (fun _ _ _=>False) i (fun a' w'=>S w'∧KI P ops S L f (listed.setIfInBounds i true) a' w') a w
theorem RD {i:Nat} {oi:Oper} {v:Value} (hi:ops[i]? =some oi) (hsel:∀ (j:Nat) (o:Oper) cs b,ops[j]? =some o→o.op≠ .select cs b)
 (hw:∀ listed,HeadInv .any ops n listed→listed.getD i true=false→∀ t,n≤t→t∉Region.ready .any ops listed) (hL:∀ listed a w,L listed a w→∀ j∈Region.ready .any ops listed,n≤j):
 ∀ (f:Nat) (listed:Array Bool) (a:Act) (w:World),HeadInv .any ops n listed→
  (∀ j oj,ops[j]? =some oj→j≠i→listed.getD j true=false→(∀ e∈oj.after,Region.binds .any e=true→e.on≠i)→oi.apart ops oj=true)→
  i∈Region.ready .any ops listed→tX P ops S oi v a→S w→
  KI P ops S L f (listed.setIfInBounds i true) (a.put oi.dst v) w→KI P ops S L (f+1) listed a w:=by
 intro f
 induction f with
 | zero=>
  intro listed a w inv _ hr hy hS H
  refine⟨fun h=>(by rw[h]at hr;cases hr),fun j hj=>?_⟩
  by_cases hji:j=i
  · rw[hji];exact hy.wpOp hi hS ⟨hS,H⟩
  have h1:=hL _ _ _ H j (ready_mono hj hji)
  exact absurd hj (hw listed inv (mem_ready.1 hr).1 j h1)
 | succ f ih=>
  intro listed a w inv hfree hr hy hS H
  refine⟨fun h=>(by rw[h]at hr;cases hr),fun j hj=>?_⟩
  by_cases hji:j=i
  · rw[hji];exact hy.wpOp hi hS ⟨hS,H⟩
  have h1:=H.2 j (ready_mono hj hji)
  obtain⟨hjun,oj,hoj,hall⟩:=mem_ready.1 hj
  have Wp:=(mem_ready.1 hr).1
  have hjn:j < n:=by
   rcases Jj j n with h | h
   · exact h
   exact absurd hj (hw listed inv Wp j h)
  have hnot:∀ e∈oj.after,Region.binds .any e=true→e.on≠i:=fun e he hb heq=>by
   have h2:=hall e he hb
   rw[heq,getD_both Wp]at h2
   cases h2
  have h2:=kJ hoj (hfree j oj hoj hji hjun hnot) (fun cs b=>hsel i oi cs b hi) (fun cs b=>hsel j oj cs b hoj) (fun _ _ _ h=>h) hy h1
  refine wpOp_mono (fun a' w' h3=>⟨h3.2.1,ih (listed.setIfInBounds j true) a' w' (inv.set hj hjn) (fun k ok hk hki hun hno=>?_) (ready_mono hr (Ne.symm hji)) h3.1 h3.2.1 ?_⟩) h2
  · refine hfree k ok hk hki ?_ hno
    by_cases hjk:j=k
    · rw[← hjk];exact hjun
    rw[getD_set_ne true hjk]at hun;exact hun
  rw[Qe _ _ hji]
  exact h3.2.2
def hdB (ops:Array Oper) (n g:Nat):List (Bool×Nat)→Array Bool→Bool
 | [],listed=>Region.seqB .any ops g n listed
 | (true,i)::s,listed=>decide (i < n) && (Region.ready .any ops listed).contains i && Region.free .any ops listed i && hdB ops n g s (listed.setIfInBounds i true)
 | (false,i)::s,listed=>decide (i < n) && decide (Region.ready .any ops listed=[i]) && hdB ops n g s (listed.setIfInBounds i true)
theorem WU {all:List Oper} {ds:List Deferred} {g:Nat} {K:List Value→World→Prop} (hsel:Region.noSelect all.toArray=true) (hs:Region.sinkB .any all.toArray n=true) (hc:fF .any all.toArray n=true) (hn:n < all.toArray.size):
 ∀ (s:List (Bool×Nat)) (listed:Array Bool) (l:List Value) (w:World),HeadInv .any all.toArray n listed→hdB all.toArray n g s listed=true→S w→rZ P ds all S K s l w→
  KI P all.toArray S (fun listed' a w=>Region.seqB .any all.toArray g n listed'=true∧a.defers=ds∧K a.tmps.toList w) s.length listed ⟨l.toArray,ds⟩ w:=by
 intro s
 induction s with
 | nil=>intro listed l w _ hB _ h;exact⟨by simpa[hdB]using hB,rfl,h⟩
 | cons x s IH=>
  obtain⟨b,i⟩:=x
  cases b
  · rintro listed l w inv hB hS ⟨o,ho,h⟩
    simp only[hdB,Ci,decide_eq_true_eq]at hB
    obtain⟨⟨hin,hr⟩,hB'⟩:=hB
    have Ho:i∈Region.ready .any all.toArray listed:=by rw[hr];simp
    refine⟨fun h0=>(by rw[hr]at h0;cases h0),fun k hk=>?_⟩
    have hki:k=i:=by rw[hr]at hk;simpa using hk
    rw[hki]
    unfold Ops wpList at h
    unfold wpOp
    rw[Gv,ho]
    simp only
    have ih:∀ (a:Act) w',(a.defers=ds∧S w'∧rZ P ds all S K s a.tmps.toList w')→(S w'∧KI P all.toArray S (fun listed' a w=>Region.seqB .any all.toArray g n listed'=true∧a.defers=ds∧K a.tmps.toList w) s.length (listed.setIfInBounds i true) a w'):=by
     rintro⟨t,d⟩ w' ⟨hd,hS',h2⟩
     simp only at hd
     subst hd
     exact⟨hS',IH _ _ _ (inv.set Ho hin) hB' hS' h2⟩
    have hq:∀ (e:Exit) (a:Act) w',e≠ .normal→Exit.then (fun(a:Act) w'=>a.defers=ds∧S w'∧rZ P ds all S K s a.tmps.toList w') (fun _ a _=>a.defers=ds∧False) e a w'→False:=by
     intro e a w' he h
     cases e <;>first | exact absurd rfl he | exact h.2.elim
    split
    · rename_i hw
      rw[if_pos hw]at h
      rcases h with h | ⟨h1,a1,w1,h2⟩
      · exact .inl (Oper.wp_mono ih (lB hq h))
      exact .inr ⟨h1,a1,w1,hq _ _ _ (by simp) h2⟩
    rename_i hw
    rw[if_neg hw]at h
    exact ih _ _ h
  rintro listed l w inv hB hS ⟨o,ho,v,hv,hK⟩
  simp only[hdB,Ci,decide_eq_true_eq]at hB
  obtain⟨⟨⟨hin,hr⟩,hf⟩,hB'⟩:=hB
  have hi:all.toArray[i]? =some o:=by rw[Gv];exact ho
  have Ho:i∈Region.ready .any all.toArray listed:=by simpa using hr
  refine RD (oi:=o) (v:=v) hi (Ot hsel) (fun listed inv hun=>bQ hs hc hn inv hin hun) (fun listed a w h=>seqB_ready h.1) s.length listed _ w inv (Oq hi hf) Ho ?_ hS ?_
  · rcases hv with ⟨h1,h2⟩ | ⟨h1,h2⟩
    · exact .inl ⟨h1,by rw[sA];exact h2⟩
    exact .inr ⟨h1,h2⟩
  rw[nL]
  exact IH _ _ _ (inv.set Ho hin) hB' hS hK
theorem BK {ro:Option Nat} {m g:Nat} {Q:Exit→Act→World→Prop} (hL:∀ listed a w,L listed a w→wpAnyIn (FR ro) m P .any ops Q g listed a w) (hd:∀ (i:Nat) (o:Oper),ops[i]? =some o→i < n→sY o=true)
 (hin:∀ listed,HeadInv .any ops n listed→True):∀ (f:Nat) (listed:Array Bool) (a:Act) (w:World),(∀ i∈Region.ready .any ops listed,True)→KI P ops S L f listed a w→(∀ (i:Nat) (o:Oper),ops[i]? =some o→sY o=true)→wpAnyIn (FR ro) m P .any ops Q (f+g) listed a w
 | 0,listed,a,w,_,h,_=>by rw[Ba];exact hL listed a w h
 | f+1,listed,a,w,_,h,hnd=>by
  rw[show f+1+g=(f+g)+1 by omega]
  exact⟨fun h0=>absurd h0 h.1,fun i hi=>UR (Q:=fun _ _ _=>False) (fun a' w' h'=>BK hL hd hin f _ a' w' (fun _ _=>trivial) h'.2 hnd) (fun _ _ h=>h) (fun _ _ _ _ h=>h.elim) (hnd i) (h.2 i hi)⟩
theorem eS {ro:Option Nat} {m:Nat} {Q:Exit→Act→World→Prop}:∀ (l:List Oper) (k:Nat) (listed:Array Bool) (a:Act) (w:World),(∀ j,l[j]? =ops[k+j]?)→
 Region.seqB .any ops l.length k listed=true→wpListIn (FR ro) m P ops Q l a w→wpAnyIn (FR ro) m P .any ops Q l.length listed a w
 | [],_,_,_,_,_,hB,h=>⟨by simpa[Region.seqB]using hB,h⟩
 | o::l,k,listed,a,w,hl,hB,h=>by
  have h0:ops[k]? =some o:=by simpa using(hl 0).symm
  simp only[Bj,Region.seqB,Ci,decide_eq_true_eq]at hB
  obtain⟨hr,hB'⟩:=hB
  refine⟨fun h1=>(by rw[hr]at h1;cases h1),fun i hi=>?_⟩
  have hik:i=k:=by rw[hr]at hi;simpa using hi
  subst hik
  have ih:=fun a w=>eS (ro:=ro) (m:=m) (Q:=Q) l (i+1) (listed.setIfInBounds i true) a w (fun j=>by have:=hl (j+1);simpa[Fz,Kv 1 j]using this) hB'
  unfold wpListIn at h
  unfold wpOpIn
  rw[h0]
  simp only
  split
  · rename_i hw;rw[if_pos hw]at h;exact Oper.wpIn_mono ih h
  rename_i hw;rw[if_neg hw]at h;exact⟨h.1,ih _ _ h.2⟩
end head
namespace Rn
section code
variable {f:FuncId} {ro:Option Nat} {P:Program} {ds:List Deferred} {Q:rY} {l:List Value} {w:World} {cs:List Code}
def DB (f:FuncId) (ro:Option Nat) (P:Program) (ds:List Deferred) (cs:List Code) (Q:rY) (os:List Oper) (k:Nat) (l:List Value) (w:World):Prop:=
 ∃ (d:Tmp) (y:Operand) (xs:List Operand) (ats:Array TypeId) (ty:TypeId) (pos:String) (af:Array Edge) (L:Nat) (vs:List Value) (R:Value→World→Prop) (RP:rO→World→Prop),
  os[k]? =some ⟨some d,.call { callee:=.value y,args:=xs.toArray,argTypes:=ats },ty,pos,af,none⟩∧ev l y=some (.func (.yield L) #[] #[])∧evs l xs=some vs∧IC P L vs.toArray w R RP∧
  (∀ v w',R v w'→Ops P ds os (fun l w=>Run (f:=f) (ro:=ro) P ds cs Q l w) (QO Q ds) (os.drop (k+1)) (l.set d v) w')∧(∀ ch w',RP ch w'→Q (.panic ch) ds l w')
theorem KX {os:List Oper} {rest:List Oper} (hd:rest.all sY=true) (hq:∀ l w,¬Q .outgrown ds l w) (h:Ops P ds os (fun l w=>Run (f:=f) (ro:=ro) P ds cs Q l w) (QO Q ds) rest l w):
 wpListIn (FR ro) 0 P os.toArray (fun e a w'=>uQ (jS f ro P cs Q) Q e a.defers a.tmps.toList w') rest ⟨l.toArray,ds⟩ w:=by
 have:=dH (ro:=ro) (n:=0) (P:=P) (ops:=os.toArray) (Q:=fun e a w'=>a.defers=ds∧QO Q ds e a.tmps.toList w') (Q':=fun e a w'=>uQ (jS f ro P cs Q) Q e a.defers a.tmps.toList w')
  (fun a w h=>hq _ _ h.2) (fun e a w he h=>by cases e <;>first | exact absurd rfl he | (obtain⟨h1,h2⟩:=h;rw[h1];exact h2)) rest [] ⟨l.toArray,ds⟩ w hd ?_
 · simpa using this
 unfold Ops at h
 refine rQ ?_ _ _ _ h
 rintro a w ⟨hd,h2⟩
 show jS f ro P cs Q a.defers a.tmps.toList w
 rw[hd]
 exact h2
theorem KA {os:List Oper} {k:Nat} (hd:(os.drop (k+1)).all sY=true) (hq:∀ l w,¬Q .outgrown ds l w) (h:DB f ro P ds cs Q os k l w):
 wpListIn (FR ro) 0 P os.toArray (fun e a w'=>uQ (jS f ro P cs Q) Q e a.defers a.tmps.toList w') (os.drop k) ⟨l.toArray,ds⟩ w:=by
 obtain⟨d,y,xs,ats,ty,pos,af,L,vs,R,RP,ho,hy,hx,hY,h1,h2⟩:=h
 have e:os.drop k=⟨some d,.call { callee:=.value y,args:=xs.toArray,argTypes:=ats },ty,pos,af,none⟩::os.drop (k+1):=by
  obtain⟨hlt,hk⟩:=Ec.1 ho
  rw[Ol hlt,hk]
 rw[e]
 exact GC hy hx hY (fun v w' hR=>KX hd hq (h1 v w' hR)) (fun ch w' hR=>h2 ch w' hR)
theorem run_yield {n:Nat} {os:List Oper} (k:Nat) (hd:(os.take k).all sY=true) (hd2:(os.drop (k+1)).all sY=true) (hq:∀ l w,¬Q .outgrown ds l w)
 (h:Ops P ds os (DB f ro P ds cs Q os k) (fun _ _ _=>False) (os.take k) l w):Run (f:=f) (ro:=ro) P ds (.region n os.toArray false::cs) Q l w:=by
 refine lC (wpIn_region_lit ?_)
 have:=dH (ro:=ro) (n:=0) (P:=P) (ops:=os.toArray) (Q:=fun e a w'=>a.defers=ds∧(fun _ _ _=>False:vQ) e a.tmps.toList w') (Q':=fun e a w'=>uQ (jS f ro P cs Q) Q e a.defers a.tmps.toList w')
  (fun a w h=>h.2) (fun e a w he h=>h.2.elim) (os.take k) (os.drop k) ⟨l.toArray,ds⟩ w hd ?_
 · rw[Fg]at this
   exact this
 unfold Ops at h
 refine rQ ?_ _ _ _ h
 rintro⟨t,d⟩ w ⟨hd',h2⟩
 simp only at hd'
 subst hd'
 exact KA hd2 hq h2
theorem NG {n:Nat} {all:List Oper} {w0:World} {SS:List Nat} {es:List Ent} (k:Nat) (s:List (Bool×Nat)) (H:Hp w0 w SS es) (idx:List Nat) (hm:P.follows .mixedOrders=true) (hnd:idx.Nodup)
 (hB:(Region.noSelect all.toArray && decide (s.length=k) && decide (k < all.length) && Region.sinkB .any all.toArray k && fF .any all.toArray k && hdB all.toArray k (all.length - k) s (Array.replicate all.length false))=true) (hd:all.all sY=true) (hq:∀ l w,¬Q .outgrown ds l w)
 (h:∀ w',w'={ w with drawn:=w.drawn+1 }→rZ P ds all (fun wz=>Hp w0 wz SS (idx.map fun i=>es.getD i (none,0,[]))) (DB f ro P ds cs Q all k) s l w'):Run (f:=f) (ro:=ro) P ds (.region n all.toArray true::cs) Q l w:=by
 simp only[Ci,decide_eq_true_eq]at hB
 obtain⟨⟨⟨⟨⟨hsel,hlen⟩,hk⟩,hs⟩,hc⟩,hB⟩:=hB
 have hk':k < all.toArray.size:=by simpa using hk
 have inv0:HeadInv .any all.toArray k (Array.replicate all.length false):=
  ⟨by simp,fun j oj _ hl=>(by rw[getD_replicate_false]at hl;cases hl),fun t _ ht=>getD_in (by simpa using ht) (getD_replicate_false _ _)⟩
 have hh:=WU (g:=all.length - k) hsel hs hc hk' s _ l _ inv0 hB (H.drew.pick idx hnd) (h _ rfl)
 have hd2:(all.drop (k+1)).all sY=true:=by
  rw[Et]at hd ⊢
  exact fun o ho=>hd o (Es ho)
 have hdl:(all.drop k).length=all.length - k:=by simp
 refine lC (wpIn_region_any hm ?_)
 have:=BK (ro:=ro) (m:=0) (n:=k) (g:=all.length - k) (Q:=fun e a w'=>uQ (jS f ro P cs Q) Q e a.defers a.tmps.toList w') (fun listed a w hL=>by
  obtain⟨h1,h2,h3⟩:=hL
  obtain⟨t,d⟩:=a
  simp only at h2
  subst h2
  have:=eS (ro:=ro) (m:=0) (ops:=all.toArray) (all.drop k) k listed ⟨t,d⟩ w (fun j=>by simp[Em]) (by rw[hdl];exact h1) (KA hd2 hq h3)
  rwa [hdl]at this) (fun i o hi _=>eB hd i o hi) (fun _ _=>trivial) _ _ _ _ (fun _ _=>trivial) hh (eB hd)
 rw[hlen,show k+(all.length - k)=all.length by omega]at this
 simpa using this
end code
end Rn
section laws
variable {P:Program} {ds:List Deferred} {Q:vQ} {K:List Value→World→Prop} {all os:List Oper} {l:List Value} {w0 w w':World} {S S':List Nat} {es es':List Ent} {ty t:TypeId} {pos:String} {af:Array Edge} {d:Tmp} {v:Value} {op:Op}
 {x y:Operand} {zs cs:List Value} {sz bytes:Nat} {agg:Bool}
theorem FK {n:Nat} {e:TypeId} (ht:P.underlying t=some (.array n e)) {A:Option Addr} {len c:Nat} (hx:ev l x=some (Ac A len c)) (h:n≤len):
 Ex P l (.sliceToArrayPointer t x) ty w (.value (.pointer A)) w:=fun _ _ _ _=>by
 have h2:¬len < n:=by omega
 simp[execOp,zW hx,Instr.arrayAt,run_underlying ht,h2]
theorem eO {n:Nat} {e:TypeId} (ht:P.underlying t=some (.array n e)) (he:xU P e zs sz bytes agg) {a:Addr} {hi:Int} {kh:IntKind} {xh:Operand} (hx:ev l x=some (.pointer (some a))) (hh:ev l xh=some (.int kh hi)) (h:0≤hi∧hi≤n) (_:0 < n):
 Ex P l (.slice t x none (some xh) none) ty w (.value (Ac (some a) hi.toNat n)) w:=fun _ _ _ _=>by
 obtain⟨b,rfl⟩:=Kw (show 0≤hi by omega)
 have h2:b≤n:=by omega
 simp[execOp,zW hx,zW hh,Instr.sliceAt,run_underlying ht,vJ he,Instr.sliceBounds,Instr.sliceBound,asIntOf,h2,Instr.sureAddr,Iw]
theorem BG {n:Nat} {e:TypeId} (ht:P.underlying t=some (.array n e)) (he:xU P e zs sz bytes agg) {a:Addr} (hx:ev l x=some (.pointer (some a))) (_:0 < n):
 Ex P l (.slice t x none none none) ty w (.value (Ac (some a) n n)) w:=fun _ _ _ _=>by
 simp[execOp,zW hx,Instr.sliceAt,run_underlying ht,vJ he,Instr.sliceBounds,Instr.sureAddr,Iw]
end laws
structure Dk where
 kept:List Blk
 wait:List (Nat×Blk)
 down:Bool
 armed:Nat
 kcap:Nat
 ksp:List Value
def kc (ks:List Blk):List Value:=ks.flatMap u8s
def rF (p:Nat×Blk):List Value:=.int .i64 (p.1:Int)::u8s p.2
def wc (ws:List (Nat×Blk)):List Value:=ws.flatMap rF
@[reducible] def QN (gk:Nat) (gw:Option Nat) (n kq m cw:Nat) (dn:Bool) (ar:Nat):List Value:=[.slice (some ⟨gk,0,none⟩) n kq,.slice (hd gw) m cw,.bool dn,.int .i64 (ar:Int)]
@[reducible] def xD (gd gk:Nat) (gw:Option Nat) (cw:Nat) (sp:List Value) (D:Dk):List Ent:=
 [(some gd,89,QN gk gw D.kept.length D.kcap D.wait.length cw D.down D.armed),(some gk,91,kc D.kept++D.ksp),(gw,93,wc D.wait++sp)]
structure Ri (D:Dk) (gw:Option Nat) (cw:Nat) (sp:List Value):Prop where
 pos:0 < D.kept.length
 most:D.kept.length≤16384
 k64:∀ b∈D.kept,b.length=64
 w64:∀ p∈D.wait,p.2.length=64∧p.1 < D.kept.length
 wcap:D.wait.length≤cw
 cap:cw*65≤(wc D.wait++sp).length
 nil:gw=none→cw=0
 armed:D.armed < 2^63
def BO (w0 w':World) (S:List Nat) (gd gk:Nat) (D:Dk):Prop:=∃ gw cw sp,Ri D gw cw sp∧Hp w0 w' S (xD gd gk gw cw sp D)
theorem jG {ks:List Blk} (h:∀ b∈ks,b.length=64):(kc ks).length=ks.length*64:=by
 induction ks with
 | nil=>rfl
 | cons b ks ih=>
  have h1:=h b (by simp)
  have h2:=ih fun b hb=>h b (Eu _ hb)
  simp only[kc,Jp,Ae,Bj,zZ]at h2 ⊢
  omega
theorem KK {ws:List (Nat×Blk)} {n:Nat} (h:∀ p∈ws,p.2.length=64∧p.1 < n):(wc ws).length=ws.length*65:=by
 induction ws with
 | nil=>rfl
 | cons b ks ih=>
  have h1:=(h b (by simp)).1
  have h2:=ih fun b hb=>h b (Eu _ hb)
  simp only[wc,rF,Jp,Ae,Bj,zZ]at h2 ⊢
  omega
theorem RJ (ws:List (Nat×Blk)):(wc ws).all (·.oneCell')=true:=by
 simp only[wc,List.all_flatMap,Et]
 intro p _ x hx
 rcases Cj.1 hx with rfl | h
 · rfl
 exact Et.1 (uJ _) x h
def tN :Blk:=List.replicate 64 0
theorem TE (n:Nat):kc (List.replicate n tN)=initL (u8s tN) n:=by simp[kc,initL,List.flatMap]
theorem FZ {zs:List Value} (h:zs.length=65) {n:Nat} {b:Blk} (hb:b.length=64):
 kA (fun i=>[(0,1),(1,64)][i]?) zs [(0,Aa (n:Int)),(1,.agg (u8s b).toArray)]=some (rF (n,b)):=by
 have e1:(Aa (n:Int)).cells.toList=[Aa (n:Int)]:=rfl
 have e2:(Value.agg (u8s b).toArray).cells.toList=u8s b:=by simp[Value.cells]
 simp only[kA,Jq,Kq,e1,e2]
 have h1:(zJ zs 0 [Aa (n:Int)]).length=65:=by simp[zJ,h]
 rw[decide_eq_true (by rfl),decide_eq_true (by simp[h])]
 simp only
 rw[decide_eq_true (by rw[zZ,hb]),decide_eq_true (by rw[h1,zZ,hb];decide)]
 simp only
 congr 1
 simp only[zJ,rF,Bj,Dq]
 rw[List.take_zero,Gp,Qc (by simp),Ej (by simp),Gn (by simp[h,zZ,hb])]
 simp
def Dk.hit (D:Dk):Dk×Bool:=if D.armed < 1 then(D,false) else({ D with armed:=D.armed - 1 },decide (D.armed - 1=0))
theorem Ri.hit {D:Dk} {gw:Option Nat} {cw:Nat} {sp:List Value} (h:Ri D gw cw sp):Ri D.hit.1 gw cw sp:=by
 obtain⟨h1,h2,h3,h4,h5,h6,h7,h8⟩:=h
 unfold Dk.hit
 split
 · exact⟨h1,h2,h3,h4,h5,h6,h7,h8⟩
 exact⟨h1,h2,h3,h4,h5,h6,h7,by show D.armed - 1 < 2^63;omega⟩
theorem Ri.fall {D:Dk} {gw:Option Nat} {cw:Nat} {sp:List Value} (h:Ri D gw cw sp) (x:Bool):Ri { D with down:=x } gw cw sp:=
 ⟨h.1,h.2,h.3,h.4,h.5,h.6,h.7,h.8⟩
def Dk.put (D:Dk) (n:Nat) (b:Blk):Dk:={ D with wait:=D.wait++[(n,b)] }
def Dk.write (D:Dk) (a:Int) (b:Blk):Dk×Nat:=
 if D.down=true then(D,40) else if a < 0∨(D.kept.length:Int)≤a then(D,41) else if b.length≠64 then(D,1)
 else if(D.put a.toNat b).hit.2=true then({ (D.put a.toNat b).hit.1 with down:=true },40) else((D.put a.toNat b).hit.1,0)
theorem IG (ws:List (Nat×Blk)) (n:Nat) (b:Blk):wc (ws++[(n,b)])=wc ws++rF (n,b):=by simp[wc]
theorem rR {n:Nat} {b:Blk} (h:b.length=64):(rF (n,b)).length=65:=by simp[rF,zZ,h]
theorem iC (n:Nat) (b:Blk):(rF (n,b)).all (·.oneCell')=true:=by
 have:=RJ [(n,b)]
 rwa [show wc [(n,b)]=rF (n,b) from Dt _]at this
theorem GO {w0 w:World} {S:List Nat} {es es1:List Ent} (H:Hp w0 w S es) (i:Nat) (is:List Nat) {g:Option Nat} {T:TypeId} {cs:List Value} (he:es[i]? =some (g,T,cs)) (h1:es1=is.map fun j=>es.getD j (none,0,[])) (hi:i∉is):∀ p,hd g=some p→p.block∉bl es1:=by
 intro p hp hb
 obtain⟨j,hj,T',cs',hj2⟩:=JZ h1 _ hb
 cases g with
 | none=>simp[hd]at hp
 | some x=>
  simp only[hd,Ig,Option.some.injEq]at hp
  subst hp
  have:=H.apart i j _ _ x he hj2 rfl rfl
  subst this
  exact hi hj
def Dk.start (D:Dk):Dk:=if D.down=true then { D with wait:=[],armed:=0,down:=false } else D
def Dk.arm (D:Dk) (n:Int):Dk×Nat:=if D.down=true then(D,40) else({ D with armed:=(max n 0).toNat },0)
def flush (ks:List Blk) (ws:List (Nat×Blk)):List Blk:=ws.foldl (fun ks p=>ks.set p.1 p.2) ks
def Dk.sync (D:Dk):Dk×Nat:=if D.down=true then(D,40) else if D.hit.2=true then({ D.hit.1 with down:=true },40) else({ D.hit.1 with kept:=flush D.hit.1.kept D.hit.1.wait,wait:=[] },0)
theorem Gj (ks:List Blk) (ws:List (Nat×Blk)):(flush ks ws).length=ks.length:=by
 unfold flush
 induction ws generalizing ks with
 | nil=>rfl
 | cons p ws ih=>simp only[List.foldl_cons];rw[ih];simp
theorem bV {ks:List Blk} {ws:List (Nat×Blk)} {n:Nat} (h:∀ b∈ks,b.length=64) (hw:∀ p∈ws,p.2.length=64∧p.1 < n):∀ b∈flush ks ws,b.length=64:=by
 unfold flush
 induction ws generalizing ks with
 | nil=>exact h
 | cons p ws ih=>
  simp only[List.foldl_cons]
  refine ih (fun b hb=>?_) (fun q hq=>hw q (Eu _ hq))
  rcases List.mem_or_eq_of_mem_set hb with h1 | h1
  · exact h b h1
  rw[h1];exact(hw p (by simp)).1
theorem bT {ks:List Blk} {ws:List (Nat×Blk)} {q:Nat} (h:q < ws.length):flush ks (ws.take (q+1))=(flush ks (ws.take q)).set ws[q].1 ws[q].2:=by
 unfold flush
 rw[Jo,Cb h,List.foldl_append]
 rfl
theorem TH {ks:List Blk} (h:∀ b∈ks,b.length=64) {n:Nat} (hn:n < ks.length):((kc ks).drop (n*64)).take 64=u8s ks[n]:=by
 induction ks generalizing n with
 | nil=>simp at hn
 | cons b ks ih=>
  have hb:=h b (by simp)
  cases n with
  | zero=>
   simp only[Jr,Ep,kc,Jp,List.getElem_cons_zero]
   rw[Ii (by rw[zZ,hb])]
  | succ n=>
   have:=ih (fun b hb=>h b (Eu _ hb)) (n:=n) (by simpa using hn)
   simp only[kc,Jp,List.getElem_cons_succ]at this ⊢
   rw[show(n+1)*64=64+n*64 by omega,← Fq,Gh (by rw[zZ,hb])]
   exact this
theorem WM {ks:List Blk} (h:∀ b∈ks,b.length=64) {n:Nat} (hn:n < ks.length) (j:Nat) (u:Value) (hu:(u8s ks[n])[j]? =some u):(kc ks)[n*64+j]? =some u:=by
 rw[← TH h hn]at hu
 rw[Ic]at hu
 split at hu
 · rwa [Em]at hu
 cases hu
theorem WL {ks:List Blk} (h:∀ b∈ks,b.length=64) {n:Nat} (hn:n < ks.length) {b:Blk} (hb:b.length=64):zJ (kc ks) (n*64) (u8s b)=kc (ks.set n b):=by
 induction ks generalizing n with
 | nil=>simp at hn
 | cons c ks ih=>
  have hc:=h c (by simp)
  have hcl:(u8s c).length=64:=by rw[zZ,hc]
  have hbl:(u8s b).length=64:=by rw[zZ,hb]
  cases n with
  | zero=>
   simp only[zJ,Jr,List.take_zero,Gp,Ba,kc,Jp,List.set_cons_zero,hbl]
   rw[Gh hcl]
  | succ n=>
   have:=ih (fun b hb=>h b (Eu _ hb)) (n:=n) (by simpa using hn)
   simp only[zJ,kc,Jp,List.set_cons_succ]at this ⊢
   rw[show(n+1)*64=64+n*64 by omega,show 64+n*64+(u8s b).length=64+(n*64+(u8s b).length) by omega,← Fq,Gh hcl,Oo,hcl,Ej (by omega),Hr,Bh,Bh]
   rw[Bh]at this
   rw[this]
theorem BT {ws:List (Nat×Blk)} {n:Nat} (h:∀ p∈ws,p.2.length=64∧p.1 < n) {q:Nat} (hq:q < ws.length) (j:Nat) (u:Value) (hu:(rF ws[q])[j]? =some u):(wc ws)[q*65+j]? =some u:=by
 induction ws generalizing q with
 | nil=>simp at hq
 | cons p ws ih=>
  have hp:=(h p (by simp)).1
  have hl:(rF p).length=65:=by obtain⟨a,b⟩:=p;exact rR hp
  cases q with
  | zero=>
   have hj:j < (rF p).length:=(Ec.1 hu).1
   simp only[wc,Jp,Jr,Ba]
   rw[Di hj]
   exact hu
  | succ q=>
   have:=ih (fun p hp=>h p (Eu _ hp)) (q:=q) (by simpa using hq) hu
   simp only[wc,Jp]at this ⊢
   rw[Eb (by omega),← this]
   congr 1
   omega
theorem pV {n:Nat}:∀ {ws:List (Nat×Blk)} {ks:List Blk},(∀ p∈ws,p.1≠n)→(flush ks ws)[n]? =ks[n]?
 | [],ks,_=>rfl
 | p::ws,ks,h=>by
  show(flush (ks.set p.1 p.2) ws)[n]? =_
  rw[pV (fun q hq=>h q (Eu _ hq)),List.getElem?_set_ne (h p (by simp))]
theorem mM (ks:List Blk) (a b:List (Nat×Blk)):flush ks (a++b)=flush (flush ks a) b:=by simp[flush]
theorem bU {ks:List Blk} {ws:List (Nat×Blk)} {q n:Nat} (hq:q < ws.length) (hn:n < ks.length) (he:ws[q].1=n) (h:∀ p∈ws.drop (q+1),p.1≠n):(flush ks ws)[n]? =some ws[q].2:=by
 have h2:(flush ks (ws.take (q+1)++ws.drop (q+1)))[n]? =some ws[q].2:=by
  rw[mM,pV h,bT hq,he,List.getElem?_set_self (by rw[Gj];exact hn)]
 rwa [Fg]at h2
def Dk.show (D:Dk) (n:Nat):Blk:=(flush D.kept D.wait).getD n []
def Dk.read (D:Dk) (a:Int):Blk×Nat:=if D.down=true then([],40) else if a < 0∨(D.kept.length:Int)≤a then([],41) else(D.show a.toNat,0)
def clampK (keep:List Int) (q:Nat):Nat:=(min (max (keep.getD q 0) 0) 64).toNat
theorem eP (keep:List Int) (q:Nat):clampK keep q≤64:=by unfold clampK;omega
def tears (ks:List Blk) (ws:List (Nat×Blk)) (keep:List Int):Nat→List Blk
 | 0=>ks
 | q+1=>match ws[q]? with
  | some p=>(tears ks ws keep q).set p.1 (p.2.take (clampK keep q)++((tears ks ws keep q).getD p.1 []).drop (clampK keep q))
  | none=>tears ks ws keep q
theorem qY (ks:List Blk) (ws:List (Nat×Blk)) (keep:List Int) (q:Nat):(tears ks ws keep q).length=ks.length:=by
 induction q with
 | zero=>rfl
 | succ q ih=>simp only[tears];split <;>simp[ih]
theorem DQ {ks:List Blk} {ws:List (Nat×Blk)} {keep:List Int} (h:∀ b∈ks,b.length=64) (hw:∀ p∈ws,p.2.length=64∧p.1 < ks.length) (q:Nat):∀ b∈tears ks ws keep q,b.length=64:=by
 induction q with
 | zero=>exact h
 | succ q ih=>
  simp only[tears]
  split
  · rename_i p hp
    intro b hb
    rcases List.mem_or_eq_of_mem_set hb with h1 | h1
    · exact ih b h1
    have hpw:=hw p (Fe hp)
    have hc:=eP keep q
    have hlt:p.1 < (tears ks ws keep q).length:=by rw[qY];exact hpw.2
    have h64:=ih _ (Jm hlt)
    rw[h1,Ea,Cb hlt,Option.getD_some,Ae,Aw,Bl]
    omega
  exact ih
def Dk.crash (D:Dk) (keep:List Int):Dk:={ D with kept:=tears D.kept D.wait keep D.wait.length,wait:=[],down:=true }
theorem TG {ks:List Blk} (h:∀ b∈ks,b.length=64) {n:Nat} (hn:n < ks.length) {b:Blk} (hb:b.length≤64):zJ (kc ks) (n*64) (u8s b)=kc (ks.set n (b++(ks.getD n []).drop b.length)):=by
 induction ks generalizing n with
 | nil=>simp at hn
 | cons c ks ih=>
  have hc:=h c (by simp)
  have hcl:(u8s c).length=64:=by rw[zZ,hc]
  cases n with
  | zero=>
   simp only[zJ,Jr,List.take_zero,Gp,Ba,kc,Jp,List.set_cons_zero,zZ,List.getD_cons_zero,vH,Bh]
   rw[Qr (by omega)]
   congr 2
   simp[u8s,List.map_drop]
  | succ n=>
   have:=ih (fun b hb=>h b (Eu _ hb)) (n:=n) (by simpa using hn)
   simp only[zJ,kc,Jp,List.set_cons_succ,List.getD_cons_succ]at this ⊢
   rw[show(n+1)*64=64+n*64 by omega,show 64+n*64+(u8s b).length=64+(n*64+(u8s b).length) by omega,← Fq,Gh hcl,Oo,hcl,Ej (by omega),Hr,Bh,Bh]
   rw[Bh]at this
   rw[this]
def aS (l:List Int):List Value:=l.map fun n=> .int .i64 n
theorem PB {l:List Int} {i:Nat} (h:i < l.length):(aS l)[i]? =some (Aa l[i]):=by simp[aS,h]
section
variable {P:Program} {ds:List Deferred} {Q:vQ} {K:List Value→World→Prop} {all os:List Oper} {l:List Value} {w0 w w':World} {S:List Nat} {es:List Ent} {ty t:TypeId} {pos:String} {af:Array Edge} {d:Tmp} {x y:Operand} {zs:List Value} {bytes:Nat} {agg:Bool}
theorem N5 {e:TypeId} (ht:P.underlying t=some (.slice e)) (he:xU P e zs 1 bytes agg) (H:Hp w0 w S es) (i:Nat) {g o n dc sc:Nat} {a:Addr} {T:TypeId} {cs vs:List Value} (hx:ev l x=some (Ac (some ⟨g,o,none⟩) n dc)) (hy:ev l y=some (Ac (some a) n sc))
 (hi:es[i]? =some (some g,T,cs)) (hn:vs.length=n) (hsrc:∀ j u,vs[j]? =some u→w.cell? (a.add j)=some u) (hfit:o+n≤cs.length) (h1:vs.all (·.oneCell')=true)
 (k:∀ w',Hp w0 w' S (es.set i (some g,T,zJ cs o vs))→Ops P ds all K Q os (l.set d (Aa (n:Int))) w'):
 Ops P ds all K Q (⟨some d,.call { callee:=.builtin .copy,args:=#[x,y],argTypes:=#[t,t] },ty,pos,af,none⟩::os) l w:=by
 obtain⟨inf,z,dd,hinf,hz,hzs,hsz,hby,_,_⟩:=he.ex
 have hr:=run_copy_row (P:=P) w t t ty e g o n dc a n sc cs.toArray T vs ht (by rw[hinf];simp[hsz]) (H.at hi) (by rw[hn];simp) hsrc (by rw[hn];simpa using hfit) (fun v hv=>Et.1 h1 v hv)
 have e1:(cs.toArray.toList.take o++vs++cs.toArray.toList.drop (o+vs.length)).toArray=(zJ cs o vs).toArray:=by simp[zJ]
 rw[e1,hn]at hr
 refine zD (w':=w.setRow g (zJ cs o vs).toArray) ?_ (k _ (H.setRow hi _))
 intro _ _ _ _
 simp[execOp,resolve,invoke,builtin,zW hx,zW hy,hr,goInt]
end
section
variable {P:Program} {ds:List Deferred} {Q:vQ} {K:List Value→World→Prop} {all os:List Oper} {l:List Value} {w0 w w':World} {S:List Nat} {es:List Ent} {ty t:TypeId} {pos:String} {af:Array Edge} {d:Tmp} {x y:Operand} {zs:List Value} {sz bytes:Nat} {agg:Bool}
end
theorem B4 (D:Dk):D.sync.1.wait.length≤D.wait.length∧D.sync.1.kept.length=D.kept.length:=by
 have h1:D.hit.1.wait=D.wait:=by unfold Dk.hit;split <;>rfl
 have h2:D.hit.1.kept=D.kept:=by unfold Dk.hit;split <;>rfl
 unfold Dk.sync
 split
 · exact⟨Ak _,Y⟩
 split
 · exact⟨by show D.hit.1.wait.length≤_;rw[h1];exact Ak _,by show D.hit.1.kept.length=_;rw[h2]⟩
 exact⟨Am _,by show(flush _ _).length=_;rw[Gj,h2]⟩
theorem DD (D:Dk) (a:Int) (b:Blk):(D.write a b).1.wait.length≤D.wait.length+1∧(D.write a b).1.kept.length=D.kept.length:=by
 have h1:∀ E:Dk,E.hit.1.wait=E.wait:=fun E=>by unfold Dk.hit;split <;>rfl
 have h2:∀ E:Dk,E.hit.1.kept=E.kept:=fun E=>by unfold Dk.hit;split <;>rfl
 have h3:(D.put a.toNat b).wait.length=D.wait.length+1:=by simp[Dk.put]
 unfold Dk.write
 split
 · exact⟨by simp,Y⟩
 split
 · exact⟨by simp,Y⟩
 split
 · exact⟨by simp,Y⟩
 split
 · exact⟨by show(D.put a.toNat b).hit.1.wait.length≤_;rw[h1,h3];exact Ak _,by show(D.put a.toNat b).hit.1.kept.length=_;rw[h2];rfl⟩
 exact⟨by show(D.put a.toNat b).hit.1.wait.length≤_;rw[h1,h3];exact Ak _,by show(D.put a.toNat b).hit.1.kept.length=_;rw[h2];rfl⟩
theorem M9 (D:Dk):D.start.down=false:=by
 unfold Dk.start
 split
 · rfl
 rename_i h;simpa using h
theorem E7 {D:Dk} (h:D.armed=0):D.hit=(D,false):=by
 unfold Dk.hit
 rw[if_pos (by omega)]
theorem XT {D:Dk} {n:Int} (hd:D.down=false):D.arm n=({ D with armed:=(max n 0).toNat },0):=if_neg (by rw[hd];exact Oh)
theorem aJ {w w':World} {es es':List Ent} {B:Option Addr} {n:Nat} {xs:List Value} (hr:Rd w B n 1 xs) (hn:0 < n) (ha:∀ p,B=some p→p.block∉bl es) (H:Hp w w' (bl es) es'):∀ p,B=some p→p.block∉bl es':=by
 intro p hp hb
 obtain⟨e,he,hg⟩:=Ew.1 hb
 obtain⟨i,hi⟩:=Dh he
 obtain⟨g,T,cs⟩:=e
 simp only at hg
 subst hg
 have h1:=H.place hi
 have h2:0 < xs.length:=by rw[hr.len];omega
 have h3:=Iy w _ (hr.cells p hp 0 _ (Cb h2))
 rw[Iw]at h3
 rcases h1 with h1 | h1
 · exact ha p hp h1
 omega
theorem DT {D:Dk} {gw:Option Nat} {cw:Nat} {sp:List Value} (h:Ri D gw cw sp) {n:Nat} (hn:n < D.kept.length):(D.show n).length=64:=by
 unfold Dk.show
 have h1:=bV h.k64 h.w64
 have h2:n < (flush D.kept D.wait).length:=by rw[Gj];exact hn
 rw[Ea,Cb h2]
 exact h1 _ (Jm h2)
theorem SE {D:Dk} {n:Nat} (hd:D.down=false) (hn:n < D.kept.length):D.read (n:Int)=(D.show n,0):=by
 unfold Dk.read
 rw[if_neg (by rw[hd];exact Oh),if_neg (by omega)]
 rfl
theorem AG {D:Dk} (hd:D.down=false) (h:D.armed=0):D.sync=({ D with kept:=flush D.kept D.wait,wait:=[],down:=false,armed:=0 },0):=by
 unfold Dk.sync
 rw[if_neg (by rw[hd];exact Oh),E7 h]
 simp only[Bool.false_eq_true,if_false]
 congr 2
theorem GB {D:Dk} {a:Int} {b:Blk} (hd:D.down=false) (h:D.armed=0) (h0:0≤a) (ha:a < D.kept.length) (hb:b.length=64):D.write a b=(D.put a.toNat b,0):=by
 unfold Dk.write
 rw[if_neg (by rw[hd];exact Oh),if_neg (by omega),if_neg (by omega),E7 (D:=D.put a.toNat b) h]
 rfl
theorem NR {D:Dk} {n:Nat} {b:Blk} (hn:n < D.kept.length):(D.put n b).show n=b:=by
 unfold Dk.show Dk.put
 simp only
 rw[mM]
 show((flush D.kept D.wait).set n b).getD n []=b
 rw[Ea,List.getElem?_set_self (by rw[Gj];exact hn)]
 rfl
theorem AS {cs sp vs:List Value} {o:Nat} (h:o+vs.length≤cs.length):zJ (cs++sp) o vs=zJ cs o vs++sp:=by
 simp only[zJ]
 rw[Qc (by omega),Qr h,Bh,Bh,Bh]
theorem TF {ks:List Blk} {sp:List Value} (h:∀ b∈ks,b.length=64) {n:Nat} (hn:n < ks.length) {b:Blk} (hb:b.length=64):zJ (kc ks++sp) (n*64) (u8s b)=kc (ks.set n b)++sp:=by
 rw[AS (by rw[jG h,zZ,hb];omega),WL h hn hb]
theorem O8 {ks:List Blk} {sp:List Value} (h:∀ b∈ks,b.length=64) {n:Nat} (hn:n < ks.length) {b:Blk} (hb:b.length≤64):zJ (kc ks++sp) (n*64) (u8s b)=kc (ks.set n (b++(ks.getD n []).drop b.length))++sp:=by
 rw[AS (by rw[jG h,zZ];omega),TG h hn hb]
end Go.Proofs.YtjoeklkmnfaabaaGreat
namespace Go.Proofs.YtjoeklkmnfaabaaGreat
open Go Go.RowKit
set_option linter.unusedVariables false
set_option linter.unusedSimpArgs false
attribute [local irreducible] yW Ops zP Cd
set_option maxRecDepth 100000
set_option maxHeartbeats 4000000
theorem pl89 :wY Tryz.prog 89=some [(0,1),(1,1),(2,1),(3,1)]:=by kernel_rfl
theorem pl93 :wY Tryz.prog 93=some [(0,1),(1,64)]:=by kernel_rfl
theorem kW (gd gk:Nat) (gw:Option Nat) (cw:Nat) (sp:List Value) (D:Dk) (w0:World) (H0:Hp w0 w0 (bl (xD gd gk gw cw sp D)) (xD gd gk gw cw sp D)) (hD:Ri D gw cw sp):Aj 51 #[Ah gd] w0 (fun r w'=>r=Aa (if D.down=true then 40 else 0:Int)∧Hp w0 w' (bl (xD gd gk gw cw sp D)) (xD gd gk gw cw sp D)):=by
 refine zG Tryz.func51 Tryz.ntmps51 Y<|cR e11 ?_
 have H:=H0
 obtain⟨hpos,Gx,Qg,hw64,Ov,hcap,hnil,harm⟩:=hD
 refine Rq<|Xa Y<|Xr e11<|J1<|J7<|Rq<|Xm Y<|Jw (yF U27 Y) (by simp)<|Xa Y<|Xr e11<|J4 Y<|Rq<|Xm Y<|Xc Y<|Xf iP Y<|OV (EL ty4 Y (H.cell (i:=0) Y Y))<|Ag e11<|Xa Y<|Xr e11<|wU Y (fun hb6=>?_) (fun hb6=>?_)
 rw[if_pos hb6]
 refine Rq<|Xa Y<|Xr e11<|J5<|BR<|Cm Y Y<|⟨Y,H⟩
 rw[if_neg (by rw[hb6];decide)]
 refine J6<|zA (zB ?_)
 refine Rq<|Xa Y<|Xr e11<|J5<|Cm Y Y<|⟨Y,H⟩
theorem JA (gd gk:Nat) (gw:Option Nat) (cw:Nat) (sp:List Value) (D:Dk) (w0:World) (H0:Hp w0 w0 (bl (xD gd gk gw cw sp D)) (xD gd gk gw cw sp D)) (hD:Ri D gw cw sp):Aj 123 #[Ah gd] w0 (fun r w'=>r=.bool D.hit.2∧Hp w0 w' (bl (xD gd gk gw cw sp D)) (xD gd gk gw cw sp D.hit.1)):=by
 refine zG Tryz.func123 Tryz.ntmps123 Y<|cR e20 ?_
 have H:=H0
 obtain⟨hpos,Gx,Qg,hw64,Ov,hcap,hnil,harm⟩:=hD
 refine Rq<|Xa Y<|Xr e20<|J1<|Rq<|Xm Y<|Xc Y<|Xf eI Y<|OV (EL ty3 Y (H.cell (i:=0) Y Y))<|Ag e20<|OT (zQ Y Y) (fun Ua=>?_) (fun Ua=>?_)
 have hh:D.hit=(D,false):=if_pos (by omega)
 refine Xr e20<|J3 Y<|Rq<|Xa Y<|Xr e20<|J5<|Cm Y Y ?_
 rw[hh]
 exact⟨Y,H⟩
 have hh:D.hit=({ D with armed:=D.armed - 1 },decide (D.armed - 1=0)):=if_neg (by omega)
 refine Xr e20<|J4 Y<|J6<|Rq<|Xm Y<|Xc Y<|Xf eI Y<|OV (EL ty3 Y (H.cell (i:=0) Y Y))<|Ag e20<|OV (tA Y Y ((Ad _ (by omega)).trans (show((D.armed:Int) - 1)=((D.armed - 1:Nat):Int) by omega)))<|Xc Y<|Xf eI Y<|OW ty3 H 0 Y Y Y Y (by first|exact NL Y|simp[zJ]) Y<|fun w1 H1=>Xr e20<|Rq<|Xm Y<|Xc Y<|Xf eI Y<|OV (EL ty3 Y (H1.cell (i:=0) Y Y))<|Ag e20<|OV (xR Y Y)<|Xa Y<|Xr e20<|J5<|Cm Y Y ?_
 rw[hh]
 exact⟨congrArg Value.bool (decide_eq_decide.2 (by omega)),H1⟩
theorem OI (n:Nat) (w0:World) (h1:1≤n) (h2:n≤16384):Aj 8 #[Aa (n:Int)] w0 (fun r w'=>∃ gd gk,r=.tuple #[Ah gd,Aa 0]∧Hp w0 w' [] (xD gd gk none 0 [] ⟨List.replicate n tN,[],false,0,n,[]⟩)):=by
 refine zG Tryz.func8 Tryz.ntmps8 Y<|cR e14 ?_
 have H:=Hp.refl w0
 refine Rq<|Xa Y<|Xa Y<|Xr e14<|J1<|Rq<|Xm Y<|Jw (zQ Y Y) (by omega)<|Xm Y<|Ag e14<|OY Y<|Xm Y<|OY Y<|Jw (yS Y Y) (by omega)<|Xu Y Y<|Xr e14<|J4 Y<|J6<|Rq<|Xm Y<|jB U86 fQ H Y Y (n:=n) (c:=n) (Ak _) (by omega) (by omega)<|fun w1 gk H1 hgk=>OV (EB ty89 pl89 Y Y)<|yA Y Y H1<|fun w2 gd H2 hgd=>Ag e14<|Xa Y<|Xa Y<|Xr e14<|J5<|Kz Y Y Y ?_
 have e1:kc (List.replicate n tN)=initL (u8s tN) n:=TE n
 refine⟨gd,gk,Y,?_⟩
 have HH:=(H2.pick [1,0] (by decide)).nil 93
 simp only[xD,List.length_replicate,Dt]
 rw[e1]
 exact HH
theorem newOk {n:Nat} (h1:1≤n) (h2:n≤16384):Ri ⟨List.replicate n tN,[],false,0,n,[]⟩ none 0 []:=
 ⟨by simp;omega,by simpa using h2,fun b hb=>by rw[(List.mem_replicate.1 hb).2];rfl,fun p hp=>(by cases hp),Ak _,by simp,fun _=>rfl,by show 0 < 2^63;decide⟩
theorem aY (gd gk:Nat) (gw:Option Nat) (cw:Nat) (sp:List Value) (D:Dk) (w0:World) (H0:Hp w0 w0 (bl (xD gd gk gw cw sp D)) (xD gd gk gw cw sp D)) (hD:Ri D gw cw sp) (a:Int) (A:Option Addr) (b:Blk) (c:Nat) (hr:Rd w0 A b.length 1 (u8s b)) (hsep:∀ p,A=some p→p.block∉bl (xD gd gk gw cw sp D)) (hm:D.wait.length≤2932000000000):Aj 77 #[Ah gd,Aa a,Ac A b.length c] w0 (fun r w'=>r=Aa ((D.write a b).2:Int)∧BO w0 w' (bl (xD gd gk gw cw sp D)) gd gk (D.write a b).1):=by
 refine zG Tryz.func77 Tryz.ntmps77 Y<|cR e46 ?_
 have H:=H0
 obtain⟨hpos,Gx,Qg,hw64,Ov,hcap,hnil,harm⟩:=hD
 have hD:Ri D gw cw sp:=⟨hpos,Gx,Qg,hw64,Ov,hcap,hnil,harm⟩
 refine Rq<|Xa Y<|Xr e46<|J1<|Rq<|Xm Y<|OC (EC TS Y) (kW gd gk gw cw sp D _ H.here hD)<|fun w1 Hd=>?_
 have H1:=(H.Du [0,1,2] rfl Hd).pick [3,4,5] (by decide)
 refine Xa Y<|Xr e46<|Rq<|Xm Y<|OT (yR Y Y) (fun hp11=>?_) (fun hp11=>?_)
 have hdn:D.down=true:=by
  by_cases h:D.down=true
  · exact h
  rw[if_neg h]at hp11;omega
 refine Xr e46<|J3 Y<|Rq<|Xm Y<|Xa Y<|Xr e46<|J5<|Cm Y Y ?_
 have hw:D.write a b=(D,40):=if_pos hdn
 rw[hw,if_pos hdn]
 exact⟨Y,gw,cw,sp,hD,H1⟩
 have hdn:¬D.down=true:=fun h=>by rw[if_pos h]at hp11;omega
 refine Xr e46<|J4 Y<|J6<|J1<|Rq<|Xm Y<|OT (zQ Y Y) (fun hp14=>?_) (fun hp14=>?_)
 refine Xm Y<|Ag e46<|Oz 7 Y<|Ag e46<|Xt Y Y<|Xr e46<|J3 Y<|Rq<|Xa Y<|Xr e46<|J5<|Cm Y Y ?_
 have hw:D.write a b=(D,41):=by
  unfold Dk.write
  rw[if_neg hdn,if_pos (by omega)]
 rw[hw]
 exact⟨Y,gw,cw,sp,hD,H1⟩
 obtain⟨n,rfl⟩:=Kw (show 0≤a by omega)
 refine Xm Y<|Ag e46<|OY Y<|Xm Y<|OY Y<|Xm Y<|Ag e46<|OY Y<|Xc Y<|OY Y<|Xf iQ Y<|Ag e46<|OY Y<|OV (EL GG Y (H1.cell (i:=0) Y Y))<|OY Y<|OV (ES U86 Y)<|Ag e46<|OY Y<|OT (wM Y Y) (fun Oy=>?_) (fun Oy=>?_)
 refine Xu Y Y<|Xr e46<|J3 Y<|Rq<|Xa Y<|Xr e46<|J5<|Cm Y Y ?_
 have hw:D.write (n:Int) b=(D,41):=by
  unfold Dk.write
  rw[if_neg hdn,if_pos (by omega)]
 rw[hw]
 exact⟨Y,gw,cw,sp,hD,H1⟩
 refine Xu Y Y<|Xr e46<|J4 Y<|J6<|J1<|Rq<|Xm Y<|OV (ES Gz Y)<|OT (yR Y Y) (fun Qs=>?_) (fun Qs=>?_)
 refine Xr e46<|J3 Y<|Rq<|Xa Y<|Xr e46<|J5<|Cm Y Y ?_
 have hw:D.write (n:Int) b=(D,1):=by
  unfold Dk.write
  rw[if_neg hdn,if_neg (by omega),if_pos (by omega)]
 rw[hw]
 exact⟨Y,gw,cw,sp,hD,H1⟩
 have hb64:b.length=64:=by omega
 obtain⟨p,rfl⟩:=hr.some_ (by omega)
 refine Xr e46<|J4 Y<|J6<|J1<|zR 14 [(true,0),(true,1),(true,2),(true,3),(true,4),(true,5),(true,6),(true,7),(true,8),(true,9),(false,10),(false,11),(true,12),(true,13),(false,14)] H1 [0] yE (by decide) (by kernel_rfl) ?_
 rintro w2 hw2
 have H2:=Hp.drew H1;rw[← hw2]at H2
 refine Zm Y Y<|Zm Y Y<|Zc Y Y<|Zf Y oW Y<|cZ e46<|MP Y<|MV (fun wz hz=>EL aP Y (hz.cell (i:=0) Y Y))<|Zm Y Y<|Zm Y Y<|MP Y<|MV (fun wz hz=>FK U91 Y (by omega))<|cZ e46<|MP Y<|MV (fun wz hz=>EN fQ Y (vs:=u8s b) (by rw[zZ];omega) (fun j u hu=>(hr.to hz hsep).cells p Y j u hu))<|MP Y<|MV (fun wz hz=>EB fP pl93 Y (FZ Y hb64))<|MO Y<|zE U87 fP H2 Y (by decide) (QB (v:=.agg (rF (n,b)).toArray) (rR hb64) Y)<|fun w3 gb H3 hgb=>OE<|⟨fun hne=>H3.pick [0] (by decide),?_⟩
 refine cZ e46<|MO Y<|xC U87 fP (by decide) H3 2 (g:=gw) (xs:=wc D.wait) (sp:=sp) Y Y (KK hw64) hcap Ov hnil Y (H3.rd (i:=3) (o:=some gb) (xs:=rF (n,b)) (sp:=[]) (n:=1) (sz:=65) (by rw[Dt];rfl) (rR hb64) (by decide)) (iC n b) (by omega) (by omega) (by decide)<|fun w4 g3 cap3 sp3 H4 hcap3 hmc3 hg3=>OE<|⟨fun hne=>H4.pick [0] (by decide),?_⟩
 refine cZ e46<|Zc Y Y<|Zf Y oW Y<|MO Y<|OW aP H4 0 Y Y Y Y (by first|exact NL Y|simp[zJ]) Y<|fun w5 H5=>OE<|⟨fun hne=>absurd Y hne,?_⟩
 refine cZ e46<|ME<|cR e46<|J1<|Rq<|Xm Y ?_
 have HD:Hp w0 w5 (bl (xD gd gk gw cw sp D)) (xD gd gk g3 cap3 sp3 (D.put n b)):=by
  simp only[xD,Dk.put,Ae,Bj,Dq,IG]
  exact H5.pick [0,1,2] (by decide)
 have hO:Ri (D.put n b) g3 cap3 sp3:=by
  refine⟨hpos,Gx,Qg,fun q hq=>?_,by simp only[Dk.put,Ae,Bj,Dq];exact hmc3,by simp only[Dk.put,IG];exact hcap3,hg3,harm⟩
  rcases Bq.1 hq with h | h
  · exact hw64 q h
  rw[Az.1 h]
  exact⟨hb64,by show n < D.kept.length;omega⟩
 refine OC (EC VI Y) (JA gd gk g3 cap3 sp3 _ _ HD.here hO)<|fun w6 Hd=>?_
 have H6:=(HD.Du [0,1,2] rfl Hd).pick [3,4,5] (by decide)
 refine Xr e46<|wU Y (fun hb42=>?_) (fun hb42=>?_)
 have hw:D.write (n:Int) b=({ (D.put n b).hit.1 with down:=true },40):=by
  unfold Dk.write
  rw[if_neg hdn,if_neg (by omega),if_neg (by omega)]
  exact if_pos hb42
 refine Rq<|Xm Y<|Xc Y<|Xf iP Y<|OW ty4 H6 0 Y Y Y Y (by first|exact NL Y|simp[zJ]) Y<|fun w7 H7=>Xr e46<|Rq<|Xa Y<|Xr e46<|J5<|Cm Y Y ?_
 rw[hw]
 first | exact⟨rfl,g3,cap3,sp3,hO.hit.fall true,H7⟩ | exact⟨rfl,g3,cap3,sp3,hO.hit,H7⟩
 have hw:D.write (n:Int) b=((D.put n b).hit.1,0):=by
  unfold Dk.write
  rw[if_neg hdn,if_neg (by omega),if_neg (by omega)]
  exact if_neg (fun hh=>by have h2:(D.put n b).hit.2=true:=hh;rw[hb42]at h2;cases h2)
 refine J6<|Rq<|Xa Y<|Xr e46<|J5<|Cm Y Y ?_
 rw[hw]
 first | exact⟨rfl,g3,cap3,sp3,hO.hit.fall true,H6⟩ | exact⟨rfl,g3,cap3,sp3,hO.hit,H6⟩
theorem KZ (gd gk:Nat) (gw:Option Nat) (cw:Nat) (sp:List Value) (D:Dk) (w0:World) (H0:Hp w0 w0 (bl (xD gd gk gw cw sp D)) (xD gd gk gw cw sp D)) (hD:Ri D gw cw sp):Aj 19 #[Ah gd] w0 (fun r w'=>r=Aa 0∧BO w0 w' (bl (xD gd gk gw cw sp D)) gd gk D.start):=by
 refine zG Tryz.func19 Tryz.ntmps19 Y<|cR e18 ?_
 have H:=H0
 obtain⟨hpos,Gx,Qg,hw64,Ov,hcap,hnil,harm⟩:=hD
 have hD:Ri D gw cw sp:=⟨hpos,Gx,Qg,hw64,Ov,hcap,hnil,harm⟩
 refine Rq<|Xa Y<|Xr e18<|J1<|Rq<|Xm Y<|Jw (yF U27 Y) (by simp)<|Xr e18<|J4 Y<|J6<|J1<|Rq<|Xm Y<|Xc Y<|Xf iP Y<|OV (EL ty4 Y (H.cell (i:=0) Y Y))<|Xr e18<|wU Y (fun hb8=>?_) (fun hb8=>?_)
 refine Rq<|Xm Y<|Xc Y<|Xf oW Y<|OW aP H 0 Y Y Y Y (by first|exact NL Y|simp[zJ]) Y<|fun w1 H1=>Xr e18<|Rq<|Xm Y<|Xc Y<|Xf eI Y<|OW ty3 H1 0 Y Y Y Y (by first|exact NL Y|simp[zJ]) Y<|fun w2 H2=>Xr e18<|J2<|Xm Y<|Xc Y<|Xf iP Y<|OW ty4 H2 0 Y Y Y Y (by first|exact NL Y|simp[zJ]) Y<|fun w3 H3=>Xr e18<|Rq<|Xa Y<|Xr e18<|J5<|Cm Y Y ?_
 have hs:D.start={ D with wait:=[],armed:=0,down:=false }:=if_pos hb8
 rw[hs]
 exact⟨Y,none,0,[],⟨hpos,Gx,Qg,fun p hp=>(by cases hp),Ak _,by simp,fun _=>Y,by show 0 < 2^63;omega⟩,(H3.pick [0,1] (by decide)).nil 93⟩
 refine J6<|Rq<|Xa Y<|Xr e18<|J5<|Cm Y Y ?_
 have hs:D.start=D:=if_neg (by rw[hb8];decide)
 rw[hs]
 exact⟨Y,gw,cw,sp,hD,H⟩
theorem UM (gd gk:Nat) (gw:Option Nat) (cw:Nat) (sp:List Value) (D:Dk) (w0:World) (H0:Hp w0 w0 (bl (xD gd gk gw cw sp D)) (xD gd gk gw cw sp D)) (hD:Ri D gw cw sp) (n:Int) (hlo:-9223372036854775808≤n) (hhi:n≤9223372036854775807):Aj 23 #[Ah gd,Aa n] w0 (fun r w'=>r=Aa ((D.arm n).2:Int)∧BO w0 w' (bl (xD gd gk gw cw sp D)) gd gk (D.arm n).1):=by
 refine zG Tryz.func23 Tryz.ntmps23 Y<|cR e16 ?_
 have H:=H0
 obtain⟨hpos,Gx,Qg,hw64,Ov,hcap,hnil,harm⟩:=hD
 have hD:Ri D gw cw sp:=⟨hpos,Gx,Qg,hw64,Ov,hcap,hnil,harm⟩
 refine Rq<|Xa Y<|Xr e16<|J1<|Rq<|Xm Y<|OC (EC TS Y) (kW gd gk gw cw sp D _ H.here hD)<|fun w1 Hd=>?_
 have H1:=(H.Du [0,1,2] rfl Hd).pick [3,4,5] (by decide)
 refine Xa Y<|Xr e16<|Rq<|Xm Y<|OT (yR Y Y) (fun hp9=>?_) (fun hp9=>?_)
 have hdn:D.down=true:=by
  by_cases h:D.down=true
  · exact h
  rw[if_neg h]at hp9;omega
 refine Xr e16<|J3 Y<|Rq<|Xm Y<|Xa Y<|Xr e16<|J5<|Cm Y Y ?_
 have hs:D.arm n=(D,40):=if_pos hdn
 rw[hs,if_pos hdn]
 exact⟨Y,gw,cw,sp,hD,H1⟩
 have hdn:¬D.down=true:=fun h=>by rw[if_pos h]at hp9;omega
 refine Xr e16<|J4 Y<|J6<|Rq<|Xm Y<|Xm Y<|OV (HK Y Y) ?_
 rw[show max n 0=(((max n 0).toNat:Nat):Int) by omega]
 refine Xc Y<|Ag e16<|Xf eI Y<|OW ty3 H1 0 Y Y Y Y (by first|exact NL Y|simp[zJ]) Y<|fun w2 H2=>Xr e16<|Rq<|Xa Y<|Xr e16<|J5<|Cm Y Y ?_
 have hs:D.arm n=({ D with armed:=(max n 0).toNat },0):=if_neg hdn
 rw[hs]
 exact⟨Y,gw,cw,sp,⟨hpos,Gx,Qg,hw64,Ov,hcap,hnil,by show(max n 0).toNat < 2^63;omega⟩,H2⟩
theorem lW (D:Dk):D.hit.1.wait=D.wait:=by unfold Dk.hit;split <;>rfl
theorem gO (D:Dk):D.hit.1.kept=D.kept:=by unfold Dk.hit;split <;>rfl
theorem PQ {α:Type} {l m:List α} {n:Nat} {u:α} (h:l[n]? =some u):(l++m)[n]? =some u:=by
 rw[Di (Ec.1 h).1];exact h
theorem cK (gd gk:Nat) (gw:Option Nat) (cw:Nat) (sp:List Value) (D:Dk) (w0:World) (H0:Hp w0 w0 (bl (xD gd gk gw cw sp D)) (xD gd gk gw cw sp D)) (hD:Ri D gw cw sp) (hm:D.wait.length≤2932000000000):Aj 81 #[Ah gd] w0 (fun r w'=>r=Aa ((D.sync).2:Int)∧BO w0 w' (bl (xD gd gk gw cw sp D)) gd gk (D.sync).1):=by
 refine zG Tryz.func81 Tryz.ntmps81 Y<|cR e38 ?_
 have H:=H0
 obtain⟨hpos,Gx,Qg,hw64,Ov,hcap,hnil,harm⟩:=hD
 have hD:Ri D gw cw sp:=⟨hpos,Gx,Qg,hw64,Ov,hcap,hnil,harm⟩
 refine Rq<|Xa Y<|Xr e38<|J1<|Rq<|Xm Y<|OC (EC TS Y) (kW gd gk gw cw sp D _ H.here hD)<|fun w1 Hd=>?_
 have H1:=(H.Du [0,1,2] rfl Hd).pick [3,4,5] (by decide)
 refine Xa Y<|Xr e38<|Rq<|Xm Y<|OT (yR Y Y) (fun hp9=>?_) (fun hp9=>?_)
 have hdn:D.down=true:=by
  by_cases h:D.down=true
  · exact h
  rw[if_neg h]at hp9;omega
 refine Xr e38<|J3 Y<|Rq<|Xm Y<|Xa Y<|Xr e38<|J5<|Cm Y Y ?_
 have hs:D.sync=(D,40):=if_pos hdn
 rw[hs,if_pos hdn]
 exact⟨Y,gw,cw,sp,hD,H1⟩
 have hdn:¬D.down=true:=fun h=>by rw[if_pos h]at hp9;omega
 refine Xr e38<|J4 Y<|J6<|J1<|Rq<|Xm Y<|OC (EC VI Y) (JA gd gk gw cw sp D _ H1.here hD)<|fun w2 Hd=>?_
 have H2:=(H1.Du [0,1,2] rfl Hd).pick [3,4,5] (by decide)
 have hE:=hD.hit
 have hew:=congrArg List.length (lW D)
 generalize hEE:D.hit=EE at*
 obtain⟨E,hb⟩:=EE
 dsimp only at*
 refine Xr e38<|wU Y (fun hb12=>?_) (fun hb12=>?_)
 have hs:D.sync=({ E with down:=true },40):=by
  unfold Dk.sync
  rw[if_neg hdn,hEE]
  exact if_pos hb12
 refine Rq<|Xm Y<|Xc Y<|Xf iP Y<|OW ty4 H2 0 Y Y Y Y (by first|exact NL Y|simp[zJ]) Y<|fun w3 H3=>Xr e38<|Rq<|Xa Y<|Xr e38<|J5<|Cm Y Y ?_
 rw[hs]
 exact⟨Y,gw,cw,sp,hE.fall true,H3⟩
 have hs:D.sync=({ E with kept:=flush E.kept E.wait,wait:=[] },0):=by
  unfold Dk.sync
  rw[if_neg hdn,hEE]
  exact if_neg (by rw[hb12];exact Oh)
 obtain⟨epos,emost,ek64,ew64,ewcap,ecap,enil,earm⟩:=hE
 refine J6<|J1<|Rq<|Xm rfl<|Xc rfl<|Xf oW rfl<|OV (EL aP rfl (H2.cell (i:=0) rfl rfl))<|Ag e38<|OV (ES U87 rfl)<|Xm rfl<|Xr e38<|J7<|zV (fun nQ lQ w=>∃ (q:Nat) (y:Int) (ks:List Blk),E.wait.length - q=nQ∧xM (Hy [(0,Ah gd),(19,Ac (hd gw) E.wait.length cw),(20,Aa E.wait.length),(21,Aa y)] 0 38) lQ∧y=q∧q≤E.wait.length∧ks=flush E.kept (E.wait.take q)∧Hp w0 w (bl (xD gd gk gw cw sp D)) (xD gd gk gw cw sp { E with kept:=ks })) (E.wait.length) ?_ ?_
 exact⟨0,_,_,Y,(Jg Y Y Y Y Y),Y,Am _,Y,H2⟩
 rintro nQ lQ w3 ⟨q,y,ks,rfl,hfit,rfl,hq,hks,H3⟩
 obtain⟨j,rfl⟩:=hfit.open
 refine cR e38 ?_
 clear hfit
 have hkl:ks.length=E.kept.length:=by rw[hks,Gj]
 have hk6:∀ b∈ks,b.length=64:=by rw[hks];exact bV ek64 (fun p hp=>ew64 p (Gg hp))
 refine Rq<|OT (zQ Y Y) (fun Oy=>?_) (fun Oy=>?_)
 have Gi:q < E.wait.length:=by omega
 have hwq:=ew64 E.wait[q] (Jm Gi)
 obtain⟨g7,rfl⟩:∃ x,gw=some x:=by
  cases gw with
  | none=>have:=enil rfl;omega
  | some x=>exact⟨x,rfl⟩
 have hcl:(rF E.wait[q]).length=65:=rR hwq.1
 refine Xr e38<|J1<|J3 Y<|J6<|J1<|J7<|Rq<|OV (EI U87 fP Y Y Y Gi Y) ?_
 rw[eR]
 refine OV (EN fP Y (vs:=rF E.wait[q]) hcl (sO H3 (i:=2) Y (fun j u hu=>PQ (BT ew64 Gi j u hu))))<|OA fP H3<|fun w4 g4 H4 hg4=>OS fP H4 3 Y Y Y (by simp[Value.cells]) hcl (by rw[hcl];decide) (iC _ _)<|fun w5 H5=>?_
 change Hp _ _ _ [_,_,_,_]at H5
 rw[qG (by rw[hcl];rfl)]at H5
 refine Xr e38<|zR 9 [(true,0),(true,1),(true,2),(true,3),(true,4),(true,5),(true,6),(true,7),(true,8),(false,9)] H5 [0,3] yE (by decide) (by kernel_rfl) ?_
 rintro w6 hw6
 have H6:=Hp.drew H5;rw[← hw6]at H6
 refine Zm Y Y<|Zc Y Y<|Zf Y iQ Y<|MP Y<|MV (fun wz hz=>EL GG Y (hz.cell (i:=0) Y Y))<|cZ e38<|Zf Y CT Y<|MP Y<|MV (fun wz hz=>EL ty3 Y ((hz.cell (i:=1) Y (show(rF E.wait[q])[0]? =_ from Y))))<|Zf Y CS Y<|MP Y<|MV (fun wz hz=>EN fQ Y (vs:=u8s E.wait[q].2) (by rw[zZ];exact hwq.1) (sO hz (i:=1) (o:=1) Y (fun j u hu=>by rw[Kv];exact hu)))<|cZ e38<|MP Y<|MV (fun wz hz=>EI U86 fQ Y Y Y (show E.wait[q].1 < ks.length by omega) Y)<|MO Y ?_
 rw[eR]
 refine OS fQ H6 1 (vs:=u8s E.wait[q].2) Y Y Y Y (by rw[zZ];exact hwq.1) (show _≤(kc ks++E.ksp).length by rw[Ae,jG hk6,zZ,hwq.1];omega) (uJ _)<|fun w7 H7=>?_
 change Hp _ _ _ [_,_,_,_]at H7
 rw[TF hk6 (by omega) hwq.1]at H7
 refine OE ?_
 refine⟨fun hne=>absurd Y hne,?_⟩
 refine cZ e38<|ME<|cR e38<|zA (zB ?_)
 refine J2<|OV (zL Y Y (Ad _ (by omega)))<|Xm Y<|Xr e38<|zA (zH ?_)
 have hks2:ks.set E.wait[q].1 E.wait[q].2=flush E.kept (E.wait.take (q+1)):=by rw[bT Gi,hks]
 refine⟨E.wait.length - (q+1),by omega,q+1,_,ks.set E.wait[q].1 E.wait[q].2,Y,(Jg Y Y Y Y Y),Y,by omega,hks2,?_⟩
 have HF:=H7.pick [0,1,2] (by decide)
 simp only[xD,Kt]
 exact HF
 have hqe:q=E.wait.length:=by omega
 rw[hqe,Bz]at hks
 refine Xr e38<|J1<|J4 Y<|J8<|zU<|zS<|Rq<|Xm Y<|Xc Y<|Xf oW Y<|OW aP H3 0 Y Y Y Y (by first|exact NL Y|simp[zJ]) Y<|fun w4 H4=>Xr e38<|Rq<|Xa Y<|Xr e38<|J5<|Cm Y Y ?_
 have hkl:ks.length=E.kept.length:=by rw[hks,Gj]
 have hk6:∀ b∈ks,b.length=64:=by rw[hks];exact bV ek64 ew64
 rw[hs]
 subst hks
 exact⟨Y,none,0,[],⟨by show 0 < (flush _ _).length;omega,by show(flush _ _).length≤_;omega,hk6,fun p hp=>(by cases hp),Ak _,by simp,fun _=>Y,earm⟩,(H4.pick [0,1] (by decide)).nil 93⟩
theorem NN (gd gk:Nat) (gw:Option Nat) (cw:Nat) (sp:List Value) (D:Dk) (w0:World) (H0:Hp w0 w0 (bl (xD gd gk gw cw sp D)) (xD gd gk gw cw sp D)) (hD:Ri D gw cw sp) (a:Int) (hm:D.wait.length≤2932000000000):Aj 56 #[Ah gd,Aa a] w0 (fun r w'=>∃ g cap s,r=.tuple #[.slice (hd g) (D.read a).1.length cap,Aa ((D.read a).2:Int)]∧(D.read a).1.length≤cap∧cap*1≤(u8s (D.read a).1++s).length∧(g=none→cap=0)∧Hp w0 w' (bl (xD gd gk gw cw sp D)) (xD gd gk gw cw sp D++[(g,5,u8s (D.read a).1++s)])):=by
 refine zG Tryz.func56 Tryz.ntmps56 Y<|cR e62 ?_
 have H:=H0
 obtain⟨hpos,Gx,Qg,hw64,Ov,hcap,hnil,harm⟩:=hD
 have hD:Ri D gw cw sp:=⟨hpos,Gx,Qg,hw64,Ov,hcap,hnil,harm⟩
 refine Rq<|Xa Y<|Xa Y<|Xr e62<|J1<|Rq<|Xm Y<|OC (EC TS Y) (kW gd gk gw cw sp D _ H.here hD)<|fun w1 Hd=>?_
 have H1:=(H.Du [0,1,2] rfl Hd).pick [3,4,5] (by decide)
 refine Xa Y<|Xr e62<|Rq<|Xm Y<|OT (yR Y Y) (fun Pg=>?_) (fun Pg=>?_)
 have hdn:D.down=true:=by
  by_cases h:D.down=true
  · exact h
  rw[if_neg h]at Pg;omega
 refine Xr e62<|J3 Y<|Rq<|Xm Y<|Xa Y<|Xa Y<|Xr e62<|J5<|Kz Y Y Y ?_
 have hs:D.read a=([],40):=if_pos hdn
 rw[hs,if_pos hdn]
 exact⟨none,0,[],Y,Ak _,by simp,fun _=>Y,H1.nil 5⟩
 have hdn:¬D.down=true:=fun h=>by rw[if_pos h]at Pg;omega
 refine Xr e62<|J4 Y<|J6<|J1<|Rq<|Xm Y<|OT (zQ Y Y) (fun Js=>?_) (fun Js=>?_)
 refine Xm Y<|Ag e62<|Oz 7 Y<|Ag e62<|Xt Y Y<|Xr e62<|J3 Y<|Rq<|Xa Y<|Xa Y<|Xr e62<|J5<|Kz Y Y Y ?_
 have hs:D.read a=([],41):=by unfold Dk.read;rw[if_neg hdn,if_pos (by omega)]
 rw[hs]
 exact⟨none,0,[],Y,Ak _,by simp,fun _=>Y,H1.nil 5⟩
 obtain⟨nb,rfl⟩:=Kw (show 0≤a by omega)
 refine Xm Y<|Ag e62<|OY Y<|Xm Y<|OY Y<|Xm Y<|Ag e62<|OY Y<|Xc Y<|OY Y<|Xf iQ Y<|Ag e62<|OY Y<|OV (EL GG Y (H1.cell (i:=0) Y Y))<|OY Y<|OV (ES U86 Y)<|Ag e62<|OY Y<|OT (wM Y Y) (fun hp23=>?_) (fun hp23=>?_)
 refine Xu Y Y<|Xr e62<|J3 Y<|Rq<|Xa Y<|Xa Y<|Xr e62<|J5<|Kz Y Y Y ?_
 have hs:D.read (nb:Int)=([],41):=by unfold Dk.read;rw[if_neg hdn,if_pos (by omega)]
 rw[hs]
 exact⟨none,0,[],Y,Ak _,by simp,fun _=>Y,H1.nil 5⟩
 have hn:nb < D.kept.length:=by omega
 have hv64:D.kept[nb].length=64:=Qg _ (Jm hn)
 refine Xu Y Y<|Xr e62<|J4 Y<|J6<|Rq<|Xm Y<|Xc Y<|Xf iQ Y<|OV (EL GG Y (H1.cell (i:=0) Y Y))<|Ag e62<|Xm Y<|OV (EI U86 fQ Y Y Y hn Y) ?_
 rw[eR]
 refine OV (EN fQ Y (vs:=u8s D.kept[nb]) (by rw[zZ];exact hv64) (sO H1 (i:=1) Y (fun j u hu=>PQ (WM Qg hn j u hu))))<|OA fQ H1<|fun w2 g7 H2 hg7=>Ag e62<|OS fQ H2 3 (vs:=u8s D.kept[nb]) Y Y Y Y (by rw[zZ];exact hv64) (by rw[zZ,hv64];exact Ak _) (uJ _)<|fun w3 H3=>?_
 change Hp _ _ _ [_,_,_,_]at H3
 rw[qG (by rw[zZ,hv64];rfl)]at H3
 refine Xr e62<|J1<|Rq<|Xm Y<|Xc Y<|Xf oW Y<|OV (EL aP Y (H3.cell (i:=0) Y Y))<|Ag e62<|OV (ES U87 Y)<|OV (tA Y Y (Ad _ (by omega)))<|Xa Y<|Xr e62<|J7<|zV (fun nQ lQ w=>∃ (r:Nat) (y:Int),r=nQ∧xM (Hy [(0,Ah gd),(1,Aa (nb:Int)),(7,Ah g7),(8,Aa y)] 0 62) lQ∧y=(r:Int) - 1∧r≤D.wait.length∧(∀ p∈D.wait.drop r,p.1≠nb)∧Hp w0 w (bl (xD gd gk gw cw sp D)) [(some gd,89,QN gk gw D.kept.length D.kcap D.wait.length cw D.down D.armed),(some gk,91,kc D.kept++D.ksp),(gw,93,wc D.wait++sp),(some g7,91,u8s (D.kept[nb]))]) (D.wait.length) ?_ ?_
 exact⟨D.wait.length,_,Y,(Jg Y Y Y Y Y),Y,Ak _,(fun p hp=>by rw[List.drop_length]at hp;cases hp),H3⟩
 rintro nQ lQ w4 ⟨r,y,rfl,hfit,rfl,hr,hno,H4⟩
 obtain⟨j,rfl⟩:=hfit.open
 refine cR e62 ?_
 clear hfit
 refine J1<|Rq<|Xm Y<|OT (wM Y Y) (fun Rj=>?_) (fun Rj=>?_)
 have Gi:r - 1 < D.wait.length:=by omega
 have hwq:=hw64 D.wait[r - 1] (Jm Gi)
 obtain⟨g8,rfl⟩:∃ x,gw=some x:=by
  cases gw with
  | none=>have:=hnil rfl;omega
  | some x=>exact⟨x,rfl⟩
 refine Xr e62<|J3 Y<|J6<|J1<|J7<|Rq<|Xm Y<|Xc Y<|Xf oW Y<|OV (EL aP Y (H4.cell (i:=0) Y Y))<|Ag e62<|Xm Y<|OV (EI U87 fP (i:=r - 1) Y Y (by omega) Gi Y) ?_
 rw[eR]
 refine Xf CT Y<|OV (EL ty3 Y (H4.cell (i:=2) Y (PQ (BT hw64 Gi 0 _ Y))))<|Ag e62<|Xm Y<|OT (xR Y Y) (fun ZU=>?_) (fun ZU=>?_)
 have X8:D.show nb=D.wait[r - 1].2:=by
  unfold Dk.show
  rw[Ea,bU Gi hn (by omega) (by rw[show r - 1+1=r by omega];exact hno)]
  rfl
 refine Xr e62<|J3 Y<|Rq<|Xm Y<|Xc Y<|Xf oW Y<|OV (EL aP Y (H4.cell (i:=0) Y Y))<|Ag e62<|Xm Y<|OV (EI U87 fP (i:=r - 1) Y Y (by omega) Gi Y) ?_
 rw[eR]
 refine Xf CS Y<|OV (EN fQ Y (vs:=u8s D.wait[r - 1].2) (by rw[zZ];exact hwq.1) (sO H4 (i:=2) (o:=(r - 1)*65+1) Y (fun j u hu=>by rw[Fz];exact PQ (BT hw64 Gi (1+j) u (by rw[Kv];exact hu)))))<|Ag e62<|OS fQ H4 3 (vs:=u8s D.wait[r - 1].2) Y Y Y Y (by rw[zZ];exact hwq.1) (by rw[zZ,zZ,hwq.1,hv64];exact Ak _) (uJ _)<|fun w5 H5=>?_
 change Hp _ _ _ [_,_,_,_]at H5
 rw[qG (by rw[zZ,zZ,hwq.1,hv64])]at H5
 refine Xr e62<|J8<|L7 Y<|zU<|zS<|Rq<|OV (BG U91 ty5 Y (by decide)) ?_
 have hk:=vO (some ⟨g7,0,none⟩) (D.wait[r - 1].2) 64 w5 (H5.rd (i:=3) (o:=some g7) (xs:=u8s (D.wait[r - 1].2)) (sp:=[]) (by rw[Dt];rfl) (yY _) (by decide)) (by rw[hwq.1];decide)
 rw[← X8]at hk
 have h64:(D.show nb).length=64:=by rw[X8];exact hwq.1
 rw[h64]at hk
 refine yZ (EC jR Y) hk<|fun w6 g9 c9 s9 hm9 hc9 hg9 Hd=>?_
 have H6:=(H5.call0 Hd).pick [0,1,2,4] (by decide)
 refine Xa Y<|Xa Y<|Xr e62<|J5<|Kz Y Y Y ?_
 have hs:D.read (nb:Int)=(D.show nb,0):=by unfold Dk.read;rw[if_neg hdn,if_neg (by omega)];rfl
 rw[hs]
 exact⟨g9,c9,s9,Y,hm9,hc9,hg9,H6⟩
 refine Xr e62<|J4 Y<|J6<|zA (zB ?_)
 refine J2<|Xm Y<|OV (tA Y Y (Ad _ (by omega)))<|Xa Y<|Xr e62<|zA (zH ?_)
 refine⟨r - 1,by omega,r - 1,_,Y,(Jg Y Y Y Y Y),by omega,by omega,?_,H4⟩
 intro p hp
 rw[Ol Gi,show r - 1+1=r by omega]at hp
 rcases Cj.1 hp with h | h
 rw[h];omega
 exact hno p h
 have hr0:r=0:=by omega
 subst hr0
 have X8:D.show nb=D.kept[nb]:=by
  unfold Dk.show
  rw[Ea,pV (by simpa using hno),Cb hn]
  rfl
 refine Xr e62<|J4 Y<|J8<|zU<|zS<|Rq<|OV (BG U91 ty5 Y (by decide)) ?_
 have hk:=vO (some ⟨g7,0,none⟩) (D.kept[nb]) 64 w4 (H4.rd (i:=3) (o:=some g7) (xs:=u8s (D.kept[nb])) (sp:=[]) (by rw[Dt];rfl) (yY _) (by decide)) (by rw[hv64];decide)
 rw[← X8]at hk
 have h64:(D.show nb).length=64:=by rw[X8];exact hv64
 rw[h64]at hk
 refine yZ (EC jR Y) hk<|fun w5 g9 c9 s9 hm9 hc9 hg9 Hd=>?_
 have H5:=(H4.call0 Hd).pick [0,1,2,4] (by decide)
 refine Xa Y<|Xa Y<|Xr e62<|J5<|Kz Y Y Y ?_
 have hs:D.read (nb:Int)=(D.show nb,0):=by unfold Dk.read;rw[if_neg hdn,if_neg (by omega)];rfl
 rw[hs]
 exact⟨g9,c9,s9,Y,hm9,hc9,hg9,H5⟩
theorem L0 (gd gk:Nat) (gw:Option Nat) (cw:Nat) (sp:List Value) (D:Dk) (w0:World) (H0:Hp w0 w0 (bl (xD gd gk gw cw sp D)) (xD gd gk gw cw sp D)) (hD:Ri D gw cw sp) (B:Option Addr) (keep:List Int) (c:Nat) (hr:Rd w0 B keep.length 1 (aS keep)) (hsep:0 < keep.length→∀ p,B=some p→p.block∉bl (xD gd gk gw cw sp D)) (hm:D.wait.length≤2932000000000):Aj 9 #[Ah gd,Ac B keep.length c] w0 (fun r w'=>r=Aa 0∧BO w0 w' (bl (xD gd gk gw cw sp D)) gd gk (D.crash keep)):=by
 refine zG Tryz.func9 Tryz.ntmps9 Y<|cR e50 ?_
 have H:=H0
 obtain⟨hpos,Gx,Qg,hw64,Ov,hcap,hnil,harm⟩:=hD
 have hD:Ri D gw cw sp:=⟨hpos,Gx,Qg,hw64,Ov,hcap,hnil,harm⟩
 refine Rq<|Xa rfl<|Xr e50<|J1<|Rq<|Xm rfl<|Jw (yF U27 rfl) (by simp)<|Xr e50<|J4 rfl<|J6<|J1<|Rq<|Xm rfl<|Xc rfl<|Xf oW rfl<|OV (EL aP rfl (H.cell (i:=0) rfl rfl))<|Ag e50<|OV (ES U87 rfl)<|Xm rfl<|Xr e50<|J7<|zV (fun nQ lQ w=>∃ (q:Nat) (y:Int) (ks:List Blk),D.wait.length - q=nQ∧xM (Hy [(0,Ah gd),(1,Ac B keep.length c),(13,Ac (hd gw) D.wait.length cw),(14,Aa D.wait.length),(15,Aa y)] 0 50) lQ∧y=q∧q≤D.wait.length∧ks=tears D.kept D.wait keep q∧Hp w0 w (bl (xD gd gk gw cw sp D)) (xD gd gk gw cw sp { D with kept:=ks })) (D.wait.length) ?_ ?_
 exact⟨0,_,_,Y,(Oc Y Y Y Y Y Y),Y,Am _,Y,H⟩
 rintro nQ lQ w1 ⟨q,y,ks,rfl,hfit,rfl,hq,hks,H1⟩
 obtain⟨j,rfl⟩:=hfit.open
 refine cR e50 ?_
 clear hfit
 have hkl:ks.length=D.kept.length:=by rw[hks,qY]
 have hk6:∀ b∈ks,b.length=64:=by rw[hks];exact DQ Qg hw64 _
 refine Rq<|OT (zQ Y Y) (fun hp16=>?_) (fun hp16=>?_)
 have Gi:q < D.wait.length:=by omega
 have hwq:=hw64 D.wait[q] (Jm Gi)
 obtain⟨g7,rfl⟩:∃ x,gw=some x:=by
  cases gw with
  | none=>have:=hnil rfl;omega
  | some x=>exact⟨x,rfl⟩
 have hcl:(rF D.wait[q]).length=65:=rR hwq.1
 have hcle:=eP keep q
 refine Xr e50<|J1<|J3 Y<|J6<|J1<|J7<|Rq<|Xm Y<|OV (EI U87 fP Y Y Y Gi Y) ?_
 rw[eR]
 refine OV (EN fP Y (vs:=rF D.wait[q]) hcl (sO H1 (i:=2) Y (fun j u hu=>PQ (BT hw64 Gi j u hu))))<|OA fP H1<|fun w2 g2 H2 hg2=>Ag e50<|Xa Y<|OS fP H2 3 Y Y Y (by simp[Value.cells]) hcl (by rw[hcl];decide) (iC _ _)<|fun w3 H3=>?_
 change Hp _ _ _ [_,_,_,_]at H3
 rw[qG (by rw[hcl];rfl)]at H3
 refine Xr e50<|Rq<|Xa Y<|Xr e50<|J1<|Rq<|Xm Y<|Xm Y<|OV (ES Yw Y)<|OT (zQ Y Y) (fun hp23=>?_) (fun hp23=>?_)
 have hqk:q < keep.length:=by omega
 obtain⟨kb,rfl⟩:=hr.some_ (by omega)
 have hck:min (max keep[q] 0) 64=((clampK keep q:Nat):Int):=by unfold clampK;rw[Ea,Cb hqk,Option.getD_some];omega
 refine Xr e50<|J3 Y<|J2<|Xm Y<|Xm Y<|OV (EI Yw ty3 Y Y Y hqk (Cc _))<|OV (EL ty3 Y ((hr.to H3 (hsep (by omega))).cells kb Y q _ (PB hqk)))<|Ag e50<|OV (HK Y Y)<|OV (QF Y Y) ?_
 rw[hck]
 refine Xa Y<|Xr e50<|zR 12 [(true,0),(true,1),(true,2),(true,3),(true,4),(true,5),(true,6),(true,7),(true,8),(true,9),(true,10),(true,11),(false,12)] H3 [0,3] yE (by decide) (by kernel_rfl) ?_
 rintro w4 hw4
 have H4:=Hp.drew H3;rw[← hw4]at H4
 refine Zm Y Y<|Zc Y Y<|Zf Y iQ Y<|MP Y<|MV (fun wz hz=>EL GG Y (hz.cell (i:=0) Y Y))<|cZ e50<|Zf Y CT Y<|MP Y<|MV (fun wz hz=>EL ty3 Y ((hz.cell (i:=1) Y (show(rF D.wait[q])[0]? =_ from Y))))<|MP Y<|MV (fun wz hz=>EI U86 fQ Y Y Y (show D.wait[q].1 < ks.length by omega) Y) ?_
 rw[eR]
 refine Zm Y Y<|cZ e50<|MP Y<|MV (fun wz hz=>eO U91 ty5 Y Y (by omega) (by decide))<|Zf Y CS Y<|Zm Y Y ?_
 have m1:=()
 rotate_left 1
 have hck:(0:Int)=((clampK keep q:Nat):Int):=by unfold clampK;rw[Ea,Lj (by omega)];rfl
 refine Xr e50<|J4 Y<|J6<|zR 12 [(true,0),(true,1),(true,2),(true,3),(true,4),(true,5),(true,6),(true,7),(true,8),(true,9),(true,10),(true,11),(false,12)] H3 [0,3] yE (by decide) (by kernel_rfl) ?_
 rintro w4 hw4
 have H4:=Hp.drew H3;rw[← hw4]at H4
 refine Zm Y Y<|Zc Y Y<|Zf Y iQ Y<|MP Y<|MV (fun wz hz=>EL GG Y (hz.cell (i:=0) Y Y))<|cZ e50<|Zf Y CT Y<|MP Y<|MV (fun wz hz=>EL ty3 Y ((hz.cell (i:=1) Y (show(rF D.wait[q])[0]? =_ from Y))))<|MP Y<|MV (fun wz hz=>EI U86 fQ Y Y Y (show D.wait[q].1 < ks.length by omega) Y) ?_
 rw[eR]
 refine MP Y<|MV (v:=Aa ((clampK keep q:Nat):Int)) (fun wz hz=>zI (by rw[← hck];rfl))<|cZ e50<|MP Y<|MV (fun wz hz=>eO U91 ty5 Y Y (by omega) (by decide))<|Zf Y CS Y<|MP Y<|MV (v:=Aa ((clampK keep q:Nat):Int)) (fun wz hz=>zI (by rw[← hck];rfl)) ?_
 have m1:=()
 rotate_left 1
 have hqe:q=D.wait.length:=by omega
 rw[hqe]at hks
 refine Xr e50<|J1<|J4 Y<|J8<|zU<|zS<|Rq<|Xm Y<|Xc Y<|Xf oW Y<|OW aP H1 0 Y Y Y Y (by first|exact NL Y|simp[zJ]) Y<|fun w2 H2=>Xr e50<|Rq<|Xm Y<|Xc Y<|Xf iP Y<|OW ty4 H2 0 Y Y Y Y (by first|exact NL Y|simp[zJ]) Y<|fun w3 H3=>Xr e50<|Rq<|Xa Y<|Xr e50<|J5<|Cm Y Y ?_
 have hkl:ks.length=D.kept.length:=by rw[hks,qY]
 have hk6:∀ b∈ks,b.length=64:=by rw[hks];exact DQ Qg hw64 _
 subst hks
 exact⟨Y,none,0,[],⟨by show 0 < (tears _ _ _ _).length;omega,by show(tears _ _ _ _).length≤_;omega,hk6,fun p hp=>(by cases hp),Ak _,by simp,fun _=>Y,harm⟩,(H3.pick [0,1] (by decide)).nil 93⟩
 any_goals
  clear m1
  refine MP Y<|MV (fun wz hz=>eO U91 ty5 Y Y (by omega) (by decide))<|cZ e50<|MO Y ?_
  have hcpl:(D.wait[q].2.take (clampK keep q)).length=clampK keep q:=by rw[Aw];omega
  refine N5 Gz ty5 H4 1 (vs:=u8s (D.wait[q].2.take (clampK keep q))) Y Y Y (by rw[zZ,hcpl];rfl) (sO H4 (i:=3) (o:=1) Y (fun j u hu=>?_)) (show _≤(kc ks++D.ksp).length by rw[Ae,jG hk6,Int.toNat_natCast];omega) (uJ _) ?_
  rw[cG,Ic]at hu
  split at hu
  rw[Kv];exact hu
  cases hu
  intro w5 H5
  change Hp _ _ _ [_,_,_,_]at H5
  rw[O8 hk6 (by omega) (by omega),hcpl]at H5
  refine OE ?_
  refine⟨fun hne=>absurd Y hne,?_⟩
  refine cZ e50<|ME<|cR e50<|zA (zB ?_)
  refine J2<|OV (zL Y Y (Ad _ (by omega)))<|Xm Y<|Xr e50<|zA (zH ?_)
  have hks2:ks.set D.wait[q].1 (D.wait[q].2.take (clampK keep q)++(ks.getD D.wait[q].1 []).drop (clampK keep q))=tears D.kept D.wait keep (q+1):=by simp only[tears];rw[Cb Gi,hks]
  refine⟨D.wait.length - (q+1),by omega,q+1,_,ks.set D.wait[q].1 (D.wait[q].2.take (clampK keep q)++(ks.getD D.wait[q].1 []).drop (clampK keep q)),Y,(Oc Y Y Y Y Y Y),Y,by omega,hks2,?_⟩
  have HF:=H5.pick [0,1,2] (by decide)
  simp only[xD,Kt]
  exact HF
end Go.Proofs.YtjoeklkmnfaabaaGreat
namespace Go.Proofs.YtjoeklkmnfaabaaGreat
open Go Go.RowKit
set_option linter.unusedVariables false
set_option linter.unusedSimpArgs false
section plain
variable {P:Program} {ds:List Deferred} {Q:vQ} {K:List Value→World→Prop} {all os:List Oper} {l:List Value} {w:World} {ty:TypeId} {pos:String} {af:Array Edge} {d:Tmp} {x y:Operand}
theorem Ye {T:TypeId} {v:Value} (hx:ev l x=some (.iface T v)) (h:Q (.panic [{ v:=.iface T v,recovered:=false }]) l w):Ops P ds all K Q (⟨none,.panic x,ty,pos,af,none⟩::os) l w:=by
 refine wpList_plain Y fun K' hK=>?_
 unfold Oper.wp
 have hr:(Instr.panic (.iface T v)).run P w=.halt (.panic (.iface T v)) w:=rfl
 have:(execOp (rho l) ⟨none,.panic x,ty,pos,af,none⟩).run P w=.halt (.panic (.iface T v)) w:=by
  simp[execOp,zW hx,hr]
 rw[sA,this,Oper.upon_panic]
 exact⟨Y,h⟩
theorem eM {T:TypeId} {u:TypeDesc} {v:Value} (hu:P.underlying T=some u) (hn:∀ ms,u≠ .interface ms) (hx:ev l x=some v):Ex P l (.makeInterface T x) ty w (.value (.iface T v)) w:=fun _ _ _ _=>by
 have hm:(Instr.makeInterface T v).run P w=.ok (.iface T v) w:=by
  simp only[Instr.makeInterface,Sem.run_bind,run_underlying hu,Result.andThen_ok]
  cases u <;>first | exact absurd rfl (hn _) | rfl
 simp[execOp,zW hx,hm]
theorem aU {T xt:TypeId} {u:TypeDesc} {v:Value} (hu:P.underlying T=some u) (hn:∀ ms,u≠ .interface ms) (hx:ev l x=some (.iface T v)):Ex P l (.typeAssert x xt T true) ty w (.value (.tuple [v,.bool true].toArray)) w:=fun _ _ _ _=>by
 have hm:(Instr.typeAssert (.iface T v) xt T true).run P w=.ok (.tuple [v,.bool true].toArray) w:=by
  simp only[Instr.typeAssert,Sem.run_bind,run_underlying hu,Result.andThen_ok]
  cases u <;>first | exact absurd rfl (hn _) | simp
 simp[execOp,zW hx,hm]
theorem kC {t t' T:TypeId} {u:TypeDesc} {v:Value} (ht:P.underlying t=some u) (hi:∃ m,u=.interface m) (hx:ev l x=some (.iface T v)):Ex P l (.binOp .neq t x (.const .nilIface) t') ty w (.value (.bool true)) w:=by
 obtain⟨m,rfl⟩:=hi
 exact eL (b:=false) hx Y Y Y fun d=>by simp[Op.equalIn,run_underlying ht]
theorem qP {t t':TypeId} {u:TypeDesc} (ht:P.underlying t=some u) (hi:∃ m,u=.interface m) (hx:ev l x=some .nilIface):Ex P l (.binOp .neq t x (.const .nilIface) t') ty w (.value (.bool false)) w:=by
 obtain⟨m,rfl⟩:=hi
 exact eL (b:=true) hx Y (by simp[eqGuard]) Y fun d=>by simp[Op.equalIn,run_underlying ht]
variable {fn:Func} {R:Value→World→Prop} {RP:rO→World→Prop} {v1 v2 v3:Value} {r1 r2 r3:Tmp}
def finP (P:Program) (fn:Func) (R:Value→World→Prop) (RP:rO→World→Prop):vQ
 | .normal,l,w=>∃ v,(results fn l.toArray).run P w=.ok v w∧R v w
 | .ret,l,w=>∃ v,(results fn l.toArray).run P w=.ok v w∧R v w
 | .panic ch,_,w=>RP ch w
 | _,_,_=>False
theorem fB {f:FuncId} {c:Code} {args:List Value} {n:Nat} (hf:P.funcs[f]? =some fn) (hn:fn.ntmps=n) (hb:fn.body=some c)
 (h:Run P [] [c] (finP P fn R RP) (args++List.replicate (n - args.length) undef) w):qA P f args.toArray w R RP:=by
 refine calls_of_wp hf hb ?_
 have e:(args.toArray++Array.replicate (fn.ntmps - args.toArray.size) undef)=(args++List.replicate (n - args.length) undef).toArray:=by
  rw[hn];simp
 rw[e]
 refine Go.wp_mono h ?_
 intro e a w' hq
 obtain⟨hd,hq⟩:=hq
 have e2:a.tmps.toList.toArray=a.tmps:=by simp
 cases e with
 | normal=>obtain⟨v,h1,h2⟩:=hq;rw[e2]at h1;exact⟨hd,v,h1,h2⟩
 | ret=>obtain⟨v,h1,h2⟩:=hq;rw[e2]at h1;exact⟨hd,v,h1,h2⟩
 | panic ch=>exact⟨hd,hq⟩
 | exit i=>exact hq.elim
 | goto t=>exact hq.elim
 | outgrown=>exact hq.elim
theorem pK (hr:fn.results=#[]) (h:R (.tuple #[]) w):finP P fn R RP .normal l w:=yQ (P:=P) (R:=R) hr h
end plain
section app
variable {P:Program} {ds:List Deferred} {Q:vQ} {K:List Value→World→Prop} {all os:List Oper} {l:List Value} {w0 w:World} {S:List Nat} {es:List Ent} {ty t:TypeId} {pos:String} {af:Array Edge} {d:Tmp} {x y:Operand} {zs:List Value} {agg:Bool}
theorem N6 {e:TypeId} (ht:P.underlying t=some (.slice e)) (he:xU P e zs 1 1 agg) (H:Hp w0 w S es) (i:Nat) {g o cap:Nat} {pre sp:List Value} {L M:List UInt8} (hx:ev l x=some (Ac (some ⟨g,o,none⟩) L.length cap))
 (hi:es[i]? =some (some g,e,pre++(u8s L++sp))) (ho:pre.length=o) (hc:cap≤(u8s L++sp).length) (_:L.length≤cap) {A:Option Addr} {c:Nat} (hy:ev l y=some (Ac A M.length c)) (hr:Rd w A M.length 1 (u8s M)) (hb:L.length+M.length≤211106232532992)
 (k:∀ w' g' o' pre' cap' sp',Hp w0 w' S (es.set i (some g',e,pre'++(u8s (L++M)++sp')))→pre'.length=o'→(L++M).length≤cap'→cap'≤(u8s (L++M)++sp').length→Ops P ds all K Q os (l.set d (Ac (some ⟨g',o',none⟩) (L++M).length cap')) w'):
 Ops P ds all K Q (⟨some d,.call { callee:=.builtin .append,args:=#[x,y],argTypes:=#[t,t] },ty,pos,af,none⟩::os) l w:=by
 obtain⟨inf,z,dd,hinf,hz,hzs,hsz,hby,_,_⟩:=he.ex
 by_cases hroom:L.length+M.length≤cap
 · have hfc:(Builtin.firstCells 1 M.length (Ac A M.length c)).run P w=.ok (u8s M).toArray w:=by
    cases A with
    | none=>
     have h0:=hr.nil rfl
     have hM:M=[]:=Ee h0
     subst hM
     exact run_firstCells_none w _ _ _ _
    | some a=>exact run_firstCells_some w 1 M.length a M.length c (u8s M) (by rw[zZ,Cc]) (hr.cells a rfl)
   have hst:=run_storeCells_at (P:=P) g (o+L.length) e (u8s M) 0 (pre++(u8s L++sp)).toArray w (H.at hi) (by
    simp only[Ia,Ib,Ae,zZ]at hc ⊢
    omega) (by simpa using uJ M)
   simp only[Ia]at hst
   have hrun:(Builtin.append_ #[t,t] ty #[Ac (some ⟨g,o,none⟩) L.length cap,Ac A M.length c]).run P w=
    .ok (Ac (some ⟨g,o,none⟩) (L++M).length cap) (w.setRow g (zJ (pre++(u8s L++sp)) (o+L.length) (u8s M)).toArray):=by
    simp[Builtin.append_,run_underlying ht,sizeOf,typeInfo,hinf,hsz,Builtin.lenOf,hroom,hfc,Lm,hst,zJ]
   have hp:zJ (pre++(u8s L++sp)) (o+L.length) (u8s M)=pre++(u8s (L++M)++sp.drop M.length):=by
    have e1:(pre++(u8s L++sp)).take (o+L.length)=pre++u8s L:=by
     rw[← Bh,Ii (by rw[Ae,zZ,ho])]
    have e2:(pre++(u8s L++sp)).drop (o+L.length+M.length)=sp.drop M.length:=by
     rw[← Bh,List.drop_append,Gn (by rw[Ae,zZ,ho];omega),Gp]
     congr 1
     rw[Ae,zZ,ho];omega
    rw[zJ,zZ,e1,e2,vH]
    simp
   refine zD (w':=_) ?_ (k _ g o pre cap (sp.drop M.length) (by rw[← hp];exact H.setRow hi _) ho (by simpa using hroom) ?_)
   · intro _ _ _ _
     simp[execOp,resolve,invoke,builtin,zW hx,zW hy,hrun]
   simp only[Ae,zZ,Bl]at hc hroom ⊢
   omega
 refine bF ht he H hx (xs:=u8s L) ⟨yY L,fun a ha j u hu=>?_,by simp⟩ hy hr (by omega) (by omega) (by omega) (by decide) ?_
 · simp only[Option.some.injEq]at ha
   subst ha
   rw[Lm]
   refine H.cell hi ?_
   rw[← ho,Eb (by omega),Hr,Di (lt_of_get hu)]
   exact hu
 intro w' g' cap' sp' H' h1 h2
 rw[← Ae]at h2 ⊢
 have hlt:=lt_of_get hi
 have hpick:(((List.range es.length).set i es.length).map fun j=>(es++[(some g',e,(u8s L++u8s M)++sp')]).getD j (none,0,[]))=es.set i (some g',e,(u8s L++u8s M)++sp'):=by
  apply Om
  intro j
  rw[Nb,Ky,Ky]
  by_cases hij:i=j
  · subst hij
    simp[hlt]
  simp only[hij,if_false]
  rcases Jj j es.length with hj | hj
  · rw[List.getElem?_range hj,Ig,Ea,Di hj,Cb hj]
    rfl
  rw[Lj (by simpa using hj),Lj hj]
  rfl
 have H2:=H'.pick ((List.range es.length).set i es.length) (by
  rw[List.nodup_iff_pairwise_ne,Qj]
  intro a b ha hb hab
  simp only[Kt,List.length_range]at ha hb
  rw[List.getElem_set,List.getElem_set]
  split <;>split <;>simp <;>omega)
 rw[hpick]at H2
 refine k w' g' 0 [] cap' sp' (by simpa[vH]using H2) Y h2 (by rw[Cc]at h1;simpa[vH]using h1)
end app
section
def Qa (w:World) (es:List Ent) (xs:List Value) (bs:List Blk):Prop:=
 xs.length=bs.length∧∀ i (h:i < bs.length),∃ (B:Option Addr) (c:Nat),xs[i]? =some (.slice B bs[i].length c)∧Rd w B bs[i].length 1 (u8s bs[i])∧(0 < bs[i].length→∀ p,B=some p→p.block∉bl es)
variable {w w' w0 w1:World} {B:Option Addr} {n c sz bytes:Nat} {xs l zs ys:List Value} {es es' es2:List Ent} {bs:List Blk} {S:List Nat} {b:Blk} {p:Addr} {D:Dk} {P:Program} {r:Tmp} {ty:TypeId} {v:Value}
theorem Rd.empty (h:Rd w B n 1 xs) (h0:n=0):Rd w' B n 1 xs:=by
 subst h0
 have hx:xs=[]:=Ee (by simpa using h.len)
 subst hx
 exact⟨Y,by simp,fun _=>Y⟩
theorem Qa.to (h:Qa w es xs bs) (H:Hp w w' (bl es) es'):Qa w' es' xs bs:=by
 refine⟨h.1,fun i hi=>?_⟩
 obtain⟨B,c,h1,h2,h3⟩:=h.2 i hi
 by_cases h0:bs[i].length=0
 · exact⟨B,c,h1,h2.empty h0,fun h=>absurd h (by omega)⟩
 exact⟨B,c,h1,h2.to H (h3 (by omega)),fun hp=>aJ h2 (by omega) (h3 (by omega)) H⟩
theorem Qa.keep (h:Qa w es xs bs) (H:Hp w w' S es2) (hS:∀ b∈S,b∈bl es) (hn:∀ b∈bl es',b∈bl es∨w.heap.size≤b):Qa w' es' xs bs:=by
 refine⟨h.1,fun i hi=>?_⟩
 obtain⟨B,c,h1,h2,h3⟩:=h.2 i hi
 by_cases h0:bs[i].length=0
 · exact⟨B,c,h1,h2.empty h0,fun h=>absurd h (by omega)⟩
 refine⟨B,c,h1,h2.to H (fun p hp hb=>h3 (by omega) p hp (hS _ hb)),fun _ p hp hb=>?_⟩
 rcases hn _ hb with h4 | h4
 · exact h3 (by omega) p hp h4
 have h5:0 < (u8s bs[i]).length:=by rw[zZ];omega
 have h6:=Iy w _ (h2.cells p hp 0 _ (Cb h5))
 rw[Iw]at h6
 omega
theorem Qa.less (h:Qa w es xs bs) (hs:∀ b∈bl es',b∈bl es):Qa w es' xs bs:=by
 refine⟨h.1,fun i hi=>?_⟩
 obtain⟨B,c,h1,h2,h3⟩:=h.2 i hi
 exact⟨B,c,h1,h2,fun h0 p hp hb=>h3 h0 p hp (hs _ hb)⟩
theorem Qa.snoc (h:Qa w es xs bs) (hr:Rd w B b.length 1 (u8s b)) (ha:0 < b.length→∀ p,B=some p→p.block∉bl es):Qa w es (xs++[Ac B b.length c]) (bs++[b]):=by
 refine⟨by simp[h.1],fun i hi=>?_⟩
 by_cases hin:i < bs.length
 · rw[List.getElem_append_left hin]
   obtain⟨B',c',h1,h2,h3⟩:=h.2 i hin
   exact⟨B',c',by rw[Di (by rw[h.1];exact hin)];exact h1,h2,h3⟩
 have hi2:i=bs.length:=by simp at hi;omega
 subst hi2
 rw[List.getElem_append_right (Ak _)]
 simp only[Lh,List.getElem_cons_zero]
 exact⟨B,c,by rw[Eb (by rw[h.1];exact Ak _),h.1,Lh];rfl,hr,ha⟩
theorem Qa.drop (h:Qa w es xs bs) (n:Nat):Qa w es (xs.drop n) (bs.drop n):=by
 refine⟨by simp[h.1],fun i hi=>?_⟩
 have hi':n+i < bs.length:=by simp at hi;omega
 obtain⟨B,c,h1,h2,h3⟩:=h.2 (n+i) hi'
 rw[List.getElem_drop]
 exact⟨B,c,by rw[Em];exact h1,h2,h3⟩
theorem Qa.nil (w:World) (es:List Ent):Qa w es [] []:=⟨rfl,fun i hi=>absurd hi (by simp)⟩
theorem Qa.ones (h:Qa w es xs bs):xs.all (·.oneCell')=true:=by
 rw[Et]
 intro v hv
 obtain⟨i,hi⟩:=Dh hv
 obtain⟨B,c,h1,_⟩:=h.2 i (by rw[← h.1];exact lt_of_get hi)
 have e:v=_:=(Option.some.inj (h1.symm.trans hi)).symm
 rw[e];rfl
theorem xP {u:Value} (h:w.cell? p=some u) (H:Hp w w' S es) (hp:p.block∉S):w'.cell? p=some u:=by
 have hlt:=Iy w _ h
 rw[World.cell?_of_block (w:=w)]
 · exact h
 exact H.frame _ hlt hp
theorem Hp.two {w:World} {g1 g2:Nat} {T1 T2:TypeId} {c1 c2:List Value} (h1:w.heap[g1]? =some (.cells c1.toArray T1 (0,0))) (h2:w.heap[g2]? =some (.cells c2.toArray T2 (0,0))) (hne:g1≠g2):Hp w w [g1,g2] [(some g1,T1,c1),(some g2,T2,c2)]:=by
 refine⟨Y,Y,Y,Ak _,fun _ _ _=>Y,?_,?_⟩
 · intro i e he
   match i,he with
   | 0,he=>simp at he;subst he;exact⟨h1,.inl (by simp)⟩
   | 1,he=>simp at he;subst he;exact⟨h2,.inl (by simp)⟩
   | n+2,he=>simp at he
 intro i j e f g hi hj hge hgf
 match i,j,hi,hj with
 | 0,0,_,_=>rfl
 | 1,1,_,_=>rfl
 | 0,1,hi,hj=>simp at hi hj;subst hi hj;simp at hge hgf;omega
 | 1,0,hi,hj=>simp at hi hj;subst hi hj;simp at hge hgf;omega
 | n+2,_,hi,_=>simp at hi
 | 0,n+2,_,hj=>simp at hj
 | 1,n+2,_,hj=>simp at hj
theorem dQ (H:Hp w0 w S es) {g:Nat} (hlt:g < w0.heap.size) (hg:g∉S):g∉bl es:=by
 intro hb
 obtain⟨e,he,hg2⟩:=Ew.1 hb
 obtain⟨i,hi⟩:=Dh he
 obtain⟨g',T,cs⟩:=e
 simp only at hg2
 subst hg2
 rcases H.place hi with h | h
 · exact hg h
 omega
theorem Hp.Yc {W:World} {D:Nat} {o:Obj} (o':Obj) (_:W.heap[D]? =some o):Hp W (W.putObj D o') [D] []:=
 ⟨rfl,rfl,rfl,by simp,fun k _ hk=>World.putObj_heap_other (fun e=>hk (by simp[e])),by simp,by simp⟩
theorem OG {W:World} {D:Nat} {x:Option (List Deferred)} (h:W.heap[D]? =some (.deferred x)):∀ arr T z,W.heap[D]?≠some (.cells arr T z):=fun arr T z h2=>by rw[h]at h2;cases h2
theorem NO {A:Option Addr} (hr:Rd w A b.length 1 (u8s b)) (h0:0 < b.length) (hp:A=some p):p.block < w.heap.size:=by
 have h5:0 < (u8s b).length:=by rw[zZ];omega
 have h6:=Iy w _ (hr.cells p hp 0 _ (Cb h5))
 rw[Iw]at h6
 exact h6
theorem aH {w:World} {a:Addr} {v:Value} (h:w.cell? a=some v):∃ arr T z,w.heap[a.block]? =some (.cells arr T z):=by
 unfold World.cell? at h
 cases ho:w.heap[a.block]? with
 | none=>simp[ho]at h
 | some o=>cases o <;>simp_all
theorem Qa.loop {L:Nat} (h:Qa w es xs bs) (H:Hp w w' [L] []) (hL:∀ arr T z,w.heap[L]?≠some (.cells arr T z)):Qa w' es xs bs:=by
 refine⟨h.1,fun i hi=>?_⟩
 obtain⟨B,c,h1,h2,h3⟩:=h.2 i hi
 by_cases h0:bs[i].length=0
 · exact⟨B,c,h1,h2.empty h0,fun h=>absurd h (by omega)⟩
 refine⟨B,c,h1,h2.to H (fun p hp hb=>?_),h3⟩
 have h5:0 < (u8s bs[i]).length:=by rw[zZ];omega
 have h6:=h2.cells p hp 0 _ (Cb h5)
 rw[Iw]at h6
 obtain⟨arr,T,z,h7⟩:=aH h6
 rw[Az.1 hb]at h7
 exact hL _ _ _ h7
theorem oS {fn:Func} (hr:fn.results=#[.cell r ty]) (ht:xU P ty zs sz bytes false) (hn:nth l r=some (.pointer (some p))) (hc:w.cell? p=some v):(results fn l.toArray).run P w=.ok v w:=by
 have h1:=pB ht hc
 rw[pP]at hn
 simp[results,hr,hn,asAddr,h1]
theorem jT {fn:Func} {r2:Tmp} {ty2:TypeId} {zs2:List Value} {sz2 bytes2:Nat} {p2:Addr} {v2:Value} (hr:fn.results=#[.cell r ty,.cell r2 ty2]) (ht:xU P ty zs sz bytes false) (ht2:xU P ty2 zs2 sz2 bytes2 false) (hn:nth l r=some (.pointer (some p))) (hn2:nth l r2=some (.pointer (some p2))) (hc:w.cell? p=some v) (hc2:w.cell? p2=some v2):(results fn l.toArray).run P w=.ok (.tuple #[v,v2]) w:=by
 have h1:=pB ht hc
 have h3:=pB ht2 hc2
 rw[pP]at hn hn2
 simp[results,hr,hn,hn2,asAddr,h1,h3]
theorem Rd.fcw {s:Blk} (h:Rd w0 B s.length 1 (u8s s)) (H:Hp w0 w S es) (ha:0 < s.length→∀ p,B=some p→p.block∉S):Rd w B s.length 1 (u8s s):=by
 by_cases h0:s.length=0
 · exact h.empty h0
 exact h.to H (ha (by omega))
theorem lN {fn:Func} (hr:fn.results=#[]) (t:Array Value) (w:World):(results fn t).run P w=.ok (.tuple #[]) w:=by simp[results,hr]
def wgt (n:Nat):Nat:=(n+63) / 64+2
def La (n:Nat):Nat:=(n+4+63) / 64
structure Wl where
 dead:Bool
 turn:Nat
 first:Nat
 recs:List Blk
 places:List Nat
 fin:Nat
 told:Nat
variable {W W':Wl}
@[reducible] def Nr:=fun (a:Wl) b=>([.int .u64 (a.turn:Int),Aa (a.first:Int),Aa ((a.first+b:Nat):Int),Aa (a.fin:Int)]:List Value)
def used (rs:List Blk):Nat:=(rs.map fun r=>wgt r.length).sum
theorem uI (a b:List Blk):used (a++b)=used a+used b:=by simp[used]
theorem iY (r:Blk):used [r]=wgt r.length:=by simp[used]
theorem BZ (rs:List Blk):2*rs.length≤used rs:=by
 induction rs with
 | nil=>simp[used]
 | cons r rs ih=>
  have h:2≤wgt r.length:=by unfold wgt;omega
  simp only[used,Je,List.sum_cons,Bj]at ih ⊢;omega
theorem pI (rs:List Blk) (n:Nat):used (rs.take n)+used (rs.drop n)=used rs:=by rw[← uI,Fg]
def pE (l:List Nat):List Value:=l.map fun(n:Nat)=> .int .i64 (n:Int)
theorem PD {l:List Nat} {i:Nat} (h:i < l.length):(pE l)[i]? =some (Aa (l[i]:Int)):=by simp[pE,h]
theorem bP (l:List Nat):(pE l).length=l.length:=by simp[pE]
theorem PC (l:List Nat):(pE l).all (·.oneCell')=true:=by simp[pE,Value.oneCell']
structure Mw where
 gd:Nat
 gk:Nat
 gw:Option Nat
 cw:Nat
 sp:List Value
 gv:Nat
 gr:Option Nat
 cr:Nat
 xs:List Value
 sr:List Value
 gp:Option Nat
 cp:Nat
 sq:List Value
variable {m:Mw}
@[reducible] def wcl (m:Mw) (W:Wl):List Value:=[.pointer (some ⟨m.gd,0,none⟩),.bool W.dead,.int .u64 (W.turn:Int),.int .i64 (W.first:Int),.slice (hd m.gr) W.recs.length m.cr,.slice (hd m.gp) W.places.length m.cp,.int .i64 (W.fin:Int),.int .i64 (used W.recs:Int),.int .i64 (W.told:Int)]
@[reducible] def jY (m:Mw) (W:Wl):List Ent:=[(some m.gv,120,wcl m W),(m.gr,73,m.xs++m.sr),(m.gp,3,pE W.places++m.sq)]
@[reducible] def Bf (m:Mw) (D:Dk) (W:Wl):List Ent:=xD m.gd m.gk m.gw m.cw m.sp D++jY m W
structure Mc (w:World) (m:Mw) (D:Dk) (W:Wl):Prop where
 d:Ri D m.gw m.cw m.sp
 lst:Qa w (Bf m D W) m.xs W.recs
 rc:W.recs.length≤m.cr
 rs:m.cr≤(m.xs++m.sr).length
 rn:m.gr=none→m.cr=0
 pl:W.places.length=W.recs.length
 pc:W.places.length≤m.cp
 ps:m.cp≤(pE W.places++m.sq).length
 pn:m.gp=none→m.cp=0
 most:W.recs.length≤16384
 long:∀ r∈W.recs,r.length≤16384
 size:64≤D.kept.length
 fin:W.fin < D.kept.length - 2
 plb:∀ p∈W.places,p < 16384
 first:W.first≤2^60
 turn:W.turn≤2^60
 used:used W.recs≤2^40
 told:W.told≤16384
def fH (w0:World) (xs ys:List Value):Prop:=∀ v∈ys,v∈xs∨∀ p n c,v=.slice (some p) n c→w0.heap.size≤p.block
theorem fH.refl (w0:World) (xs:List Value):fH w0 xs xs:=fun _ h=> .inl h
theorem fH.trans (h:fH w0 xs ys) (h2:fH w1 ys zs) (hs:w0.heap.size≤w1.heap.size):fH w0 xs zs:=by
 intro v hv
 rcases h2 v hv with h3 | h3
 · exact h v h3
 exact .inr fun p n c he=>Ce hs (h3 p n c he)
theorem fH.snoc {g:Option Nat} (h:∀ p,hd g=some p→w0.heap.size≤p.block):fH w0 xs (xs++[Ac (hd g) n c]):=by
 intro v hv
 rcases Bq.1 hv with h1 | h1
 · exact .inl h1
 refine .inr fun p n' c' he=>?_
 rw[Az.1 h1]at he
 simp only[Value.slice.injEq]at he
 exact h p he.1
theorem fH.drop (w0:World) (xs:List Value) (n:Nat):fH w0 xs (xs.drop n):=fun _ hv=> .inl (Es hv)
def vV (w0 w':World) (S:List Nat) (m:Mw) (D:Dk) (W:Wl):Prop:=∃ m':Mw,m'.gd=m.gd∧m'.gk=m.gk∧m'.gv=m.gv∧fH w0 m.xs m'.xs∧Mc w' m' D W∧Hp w0 w' S (Bf m' D W)
theorem Qa.frame {w2:World} {es1 F:List Ent} {rs rs':List Blk} (h1:Qa w1 es1 xs rs) (hx:fH w1 xs ys) (h2:Qa w2 es2 ys rs') (hF:∀ b∈bl F,b∈bl es1∧b < w1.heap.size):Qa w2 (es2++F) ys rs':=by
 refine⟨h2.1,fun i hi=>?_⟩
 obtain⟨B,c,a1,a2,a3⟩:=h2.2 i hi
 refine⟨B,c,a1,a2,fun h0 p hp hb=>?_⟩
 have hb':p.block∈bl es2∨p.block∈bl F:=by
  unfold bl at hb ⊢
  rw[List.filterMap_append]at hb
  exact Bq.1 hb
 rcases hb' with hb | hb
 · exact a3 h0 p hp hb
 obtain⟨hf1,hf2⟩:=hF _ hb
 rcases hx _ (Fe a1)with hv | hv
 · obtain⟨j,hj⟩:=Dh hv
   obtain⟨B',c',b1,b2,b3⟩:=h1.2 j (by rw[← h1.1];exact lt_of_get hj)
   rw[hj]at b1
   simp only[Option.some.injEq,Value.slice.injEq]at b1
   exact b3 (by rw[← b1.2.1];exact h0) p (by rw[← b1.1];exact hp) hf1
 have:=hv p _ c (by rw[hp])
 omega
theorem Mc.move (h:Mc w0 m D W) (H:Hp w0 w (bl (Bf m D W)) es) (is:List Nat) (e:Bf m D W=is.map fun i=>es.getD i (none,0,[])):Mc w m D W:=
 { h with lst:=(h.lst.to H).less (fun b hb=>by rw[e]at hb;exact Hw H b hb) }
theorem vV.of {D':Dk} (H:Hp w0 w S es) (is:List Nat) (e:Bf m D W=is.map fun i=>es.getD i (none,0,[])) (h:vV w w' (bl (Bf m D W)) m D' W'):vV w0 w' S m D' W':=by
 obtain⟨m',e1,e2,e3,e4,hok,H'⟩:=h
 exact⟨m',e1,e2,e3,(fH.refl _ _).trans e4 H.size,hok,(H.Du is e H').right⟩
theorem vV.here (h:Mc w0 m D W) (H:Hp w0 w S es) (hS:S=bl (Bf m D W)) (is:List Nat) (hnd:is.Nodup) (e:Bf m D W'=is.map fun i=>es.getD i (none,0,[])) (hb:bl (Bf m D W')=bl (Bf m D W)) (h2:Mc w0 m D W→Mc w0 m D W'):vV w0 w S m D W':=by
 subst hS
 refine⟨m,Y,Y,Y,fH.refl _ _,?_,by rw[e];exact H.pick is hnd⟩
 have hk:=h2 h
 have hl:Qa w0 (Bf m D W) m.xs W'.recs:=hk.lst.less (fun b hx=>by rw[hb];exact hx)
 exact { hk with lst:=(hl.to H).less (fun b hx=>by rw[e]at hx;exact Hw H b hx) }
theorem Mc.ring (h:Mc w m D W):D.kept.length≤16384:=h.d.most
end
end Go.Proofs.YtjoeklkmnfaabaaGreat
namespace Go.Proofs.YtjoeklkmnfaabaaGreat
open Go Go.RowKit
set_option linter.unusedVariables false
set_option linter.unusedSimpArgs false
attribute [local irreducible] yW Ops zP Cd
set_option maxRecDepth 100000
set_option maxHeartbeats 4000000
theorem wq (n:Nat) (h:n≤2^60):IntKind.i64.wrap (((n:Int)+64 - 1).tdiv 64)=(((n+63) / 64:Nat):Int):=by
 rw[show((n:Int)+64 - 1)=((n+63:Nat):Int) by omega,show(((n+63:Nat):Int)).tdiv 64=(((n+63) / 64:Nat):Int) from rfl]
 exact Ad _ (by omega)
theorem wq4 (n:Nat) (h:n≤2^60):IntKind.i64.wrap ((4+(n:Int)+64 - 1).tdiv 64)=((La n:Nat):Int):=by
 rw[show(4+(n:Int)+64 - 1)=((n+4+63:Nat):Int) by omega,show(((n+4+63:Nat):Int)).tdiv 64=(((n+4+63) / 64:Nat):Int) from rfl]
 exact Ad _ (by omega)
theorem iB (n:Nat) (w0:World) (hn:n≤2^60):Aj 73 #[Aa (n:Int)] w0 (fun r w'=>r=Aa (wgt n:Int)∧w'=w0):=by
 refine zG Tryz.func73 Tryz.ntmps73 Y<|cR e8 ?_
 have H:=Hp.refl w0
 refine Rq<|Xa Y<|Xr e8<|Rq<|Xm Y<|OV (zL Y Y (Ad _ (by omega)))<|OV (tA Y Y (Ad _ (by omega)))<|OV (aA Y Y (by omega) (wq n hn))<|Ag e8<|OV (zL Y Y (Ad _ (by omega)))<|Xa Y<|Xr e8<|J5<|Cm Y Y<|⟨by unfold wgt;rfl,Y⟩
theorem GN (gd n c:Nat) (A:Option Addr) (w0:World) (hc:w0.cell? ⟨gd,0,none⟩=some (Ac A n c)):Aj 55 #[Ah gd] w0 (fun r w'=>r=Aa (n:Int)∧w'=w0):=by
 refine zG Tryz.func55 Tryz.ntmps55 Y<|cR e10 ?_
 have H:=Hp.refl w0
 refine Rq<|Xa Y<|Xr e10<|J1<|Rq<|Xm Y<|Jw (yF U27 Y) (by simp)<|Xr e10<|J4 Y<|J6<|Rq<|Xm Y<|Xc Y<|Xf iQ Y<|OV (EL GG Y (hc))<|Ag e10<|OV (ES U86 Y)<|Xa Y<|Xr e10<|J5<|Cm Y Y<|⟨Y,Y⟩
theorem QL (gd:Nat) (x:Bool) (w0:World) (hc:w0.cell? ⟨gd,2,none⟩=some (.bool x)):Aj 52 #[Ah gd] w0 (fun r w'=>r=.bool x∧w'=w0):=by
 refine zG Tryz.func52 Tryz.ntmps52 Y<|cR e11 ?_
 have H:=Hp.refl w0
 refine Rq<|Xa Y<|Xr e11<|Rq<|Xm Y<|Ui (uV U27 Y) (by simp)<|Xm Y<|Ag e11<|OY Y<|Xm Y<|OY Y<|Xc Y<|Ag e11<|OY Y<|Xf iP Y<|OY Y<|OV (EL ty4 Y (hc))<|Xt Y Y<|Xa Y<|Xr e11<|J5<|Cm Y Y<|⟨Y,Y⟩
theorem TY (gv:Nat) (n:Int) (w0:World) (hc:w0.cell? ⟨gv,3,none⟩=some (Aa n)):Aj 47 #[Ah gv] w0 (fun r w'=>r=Aa n∧w'=w0):=by
 refine zG Tryz.func47 Tryz.ntmps47 Y<|cR e9 ?_
 have H:=Hp.refl w0
 refine Rq<|Xa Y<|Xr e9<|J1<|Rq<|Xm Y<|Jw (yF U65 Y) (by simp)<|Xr e9<|J4 Y<|J6<|Rq<|Xm Y<|Xc Y<|Xf qM Y<|OV (EL ty3 Y (hc))<|Ag e9<|Xa Y<|Xr e9<|J5<|Cm Y Y<|⟨Y,Y⟩
theorem GR (gv gd n c:Nat) (A:Option Addr) (w0:World) (hc:w0.cell? ⟨gv,0,none⟩=some (Ah gd)) (hd:w0.cell? ⟨gd,0,none⟩=some (Ac A n c)) (hn:n≤16384):Aj 78 #[Ah gv] w0 (fun r w'=>r=Aa ((n:Int) - 2)∧w'=w0):=by
 refine zG Tryz.func78 Tryz.ntmps78 Y<|cR e9 ?_
 have H:=Hp.refl w0
 refine Rq<|Xa Y<|Xr e9<|Rq<|Xm Y<|Xc Y<|Xf pF Y<|OV (EL B0 Y (hc))<|Ag e9<|wR (EC XA Y) (GN gd n c A _ hd)<|OV (tA Y Y (Ad _ (by omega)))<|Xa Y<|Xr e9<|J5<|Cm Y Y<|⟨Y,Y⟩
abbrev Y8 :Value:=.iface 116 (.agg #[])
abbrev gV :rO:=[{ v:=Y8,recovered:=false }]
theorem pl116 :wY Tryz.prog 116=some []:=by kernel_rfl
theorem pS (n:Nat) (w0:World):qA Tryz.prog 57 #[Aa (n:Int)] w0 (fun _ w'=>n=0∧w'=w0) (fun ch w'=>n≠0∧ch=gV∧w'=w0):=by
 refine fB Tryz.func57 Tryz.ntmps57 Y<|cR e6 ?_
 have H:=Hp.refl w0
 refine Rq<|Xm Y<|OT (yR Y Y) (fun hp3=>?_) (fun hp3=>?_)
 have hn:n≠0:=by omega
 refine Xr e6<|J3 Y<|J2<|OV (EB ty116 pl116 Y Y)<|OV (eM Tryz.underlying116 (fun ms h=>(by cases h)) Y)<|Ye Y ⟨hn,Y,Y⟩
 have hn:n=0:=by omega
 refine Xr e6<|J4 Y<|J6<|zA<|pK Y<|⟨hn,Y⟩
section
variable {n:Nat}
theorem B9 (m:Mw) (D:Dk) (W:Wl) (w0:World) (H0:Hp w0 w0 (bl (Bf m D W)) (Bf m D W)) (h:Mc w0 m D W) (hx:W.dead=true):Aj 72 #[Ah m.gv] w0 (fun r w'=>r=.bool (W.dead || D.down)∧Hp w0 w' (bl (Bf m D W)) (Bf m D { W with dead:=W.dead || D.down })):=by
 refine zG Tryz.func72 Tryz.ntmps72 Y<|cR e21 ?_
 have H:=H0
 refine Rq<|Xa Y<|Xr e21<|Rq<|Xm Y<|Xm Y<|Xc Y<|Xf mQ Y<|Ag e21<|OV (v:=.bool true) (EL ty4 Y (by have hz:=H.cell (i:=3) (o:=1) (v:=.bool W.dead) Y Y;rw[hx]at hz;exact hz))<|Xm Y<|Ag e21<|Oz 5 Y<|Ag e21<|Xt Y Y<|Xc Y<|Xf mQ Y<|Ag e21<|OW ty4 H 3 Y Y Y Y (by first|exact NL Y|simp[zJ]) Y<|fun w1 H1=>Xr e21<|Rq<|Xm Y<|Xc Y<|Xf mQ Y<|OV (EL ty4 Y (H1.cell (i:=3) Y Y))<|Ag e21<|Xa Y<|Xr e21 ?_
 refine J5<|Cm Y Y ?_
 rw[hx]
 exact⟨Y,H1⟩
theorem B8 (m:Mw) (D:Dk) (W:Wl) (w0:World) (H0:Hp w0 w0 (bl (Bf m D W)) (Bf m D W)) (h:Mc w0 m D W) (hx:W.dead=false):Aj 72 #[Ah m.gv] w0 (fun r w'=>r=.bool (W.dead || D.down)∧Hp w0 w' (bl (Bf m D W)) (Bf m D { W with dead:=W.dead || D.down })):=by
 refine zG Tryz.func72 Tryz.ntmps72 Y<|cR e21 ?_
 have H:=H0
 refine Rq<|Xa Y<|Xr e21<|Rq<|Xm Y<|Xm Y<|Xc Y<|Xf mQ Y<|Ag e21<|OV (v:=.bool false) (EL ty4 Y (by have hz:=H.cell (i:=3) (o:=1) (v:=.bool W.dead) Y Y;rw[hx]at hz;exact hz))<|Xm Y<|Ag e21<|OY Y<|Xm Y<|OY Y<|Xc Y<|Ag e21<|OY Y<|Xf pF Y<|OY Y<|OV (EL B0 Y (H.cell (i:=3) Y Y))<|Ag e21<|OY Y<|wR (EC gf52 Y) (QL m.gd D.down _ (H.cell (i:=0) Y Y))<|Xu Y Y<|Xc Y<|Xf mQ Y<|Ag e21<|OW ty4 H 3 Y Y Y Y (by first|exact NL Y|simp[zJ]) Y<|fun w1 H1=>Xr e21<|Rq<|Xm Y<|Xc Y<|Xf mQ Y ?_
 refine OV (EL ty4 Y (H1.cell (i:=3) Y Y))<|Ag e21<|Xa Y<|Xr e21<|J5<|Cm Y Y ?_
 rw[hx]
 exact⟨Y,H1⟩
theorem eX (m:Mw) (D:Dk) (W:Wl) (w0:World) (H0:Hp w0 w0 (bl (Bf m D W)) (Bf m D W)) (h:Mc w0 m D W):Aj 72 #[Ah m.gv] w0 (fun r w'=>r=.bool (W.dead || D.down)∧Hp w0 w' (bl (Bf m D W)) (Bf m D { W with dead:=W.dead || D.down })):=by
 cases hx:W.dead
 simpa only[hx]using B8 m D W w0 H0 h hx
 simpa only[hx]using B9 m D W w0 H0 h hx
def Wl.took (W:Wl) (D:Dk) (b:Blk):Wl:={ W with recs:=W.recs++[b],places:=W.places++[W.fin],fin:=(W.fin+La b.length) % (D.kept.length - 2) }
theorem wmod {a b:Nat} (ha:a < 2^40) (hb:b < 2^40) (hn:2 < n):((a:Int)+(b:Int)).tmod ((n:Int) - 2)=(((a+b) % (n - 2):Nat):Int):=by
 rw[show((n:Int) - 2)=((n - 2:Nat):Int) by omega,show((a:Int)+(b:Int))=((a+b:Nat):Int) by omega]
 exact AD _ _
theorem BS (h:n≤16384):wgt n≤300:=by unfold wgt;omega
theorem eC (h:n≤16384):La n≤300:=by unfold La;omega
theorem S6 (n:Nat):0 < La n:=by unfold La;omega
theorem DN (m:Mw) (D:Dk) (W:Wl) (w0:World) (H0:Hp w0 w0 (bl (Bf m D W)) (Bf m D W)) (h:Mc w0 m D W) (A:Option Addr) (b:Blk) (c:Nat) (hr:Rd w0 A b.length 1 (u8s b)) (ha:0 < b.length→∀ p,A=some p→p.block∉bl (Bf m D W)) (hb:b.length≤16384) (hn:W.recs.length < 16384) (hu0:used W.recs≤2^39):Aj 79 #[Ah m.gv,Ac A b.length c] w0 (fun _ w'=>∃ m':Mw,m'.gd=m.gd∧m'.gk=m.gk∧m'.gv=m.gv∧m'.xs=m.xs++[Ac A b.length c]∧Mc w' m' D (W.took D b)∧Hp w0 w' (bl (Bf m D W)) (Bf m' D (W.took D b))):=by
 refine zG Tryz.func79 Tryz.ntmps79 Y<|cR e54 ?_
 have H:=H0
 obtain⟨hD,Ls,hrc,hrs,hrn,hpl,hpc,hps,hpn,Gx,hlong,hsize,hfin,Us,hfirst,hturn,Uc,htold⟩:=h
 have hkept:=hD.most
 refine Rq<|Xm Y<|Xm Y<|Xc Y<|Xf sU Y<|Ag e54<|OV (EL fO Y (H.cell (i:=3) Y Y))<|Xm Y<|zE Ve xO H Y (by decide) Y<|fun w1 g1 H1 hg1=>xC Ve xO (by decide) H1 4 (g:=m.gr) (n:=W.recs.length) (cap:=m.cr) (xs:=m.xs) (sp:=m.sr) Y Y (by rw[Ls.1,Cc]) (by rw[Cc];exact hrs) hrc hrn Y (H1.rd (i:=6) (o:=some g1) (xs:=[Ac A b.length c]) (sp:=[]) Y Y (by decide)) Y (by omega) (by omega) (by decide)<|fun w2 g3 cap3 sp3 H2 hcap3 hmc3 hg3=>?_
 rw[Cc]at hcap3
 refine Ag e54<|Xc Y<|Xf sU Y<|OW fO H2 3 Y Y Y Y (by first|exact NL Y|simp[zJ]) Y<|fun w3 H3=>Xr e54<|J1<|zR 13 [(true,0),(true,1),(true,2),(true,3),(true,4),(true,5),(true,6),(true,7),(true,8),(false,9),(false,10),(true,11),(true,12),(false,13)] H3 [3] yE (by decide) (by kernel_rfl) ?_
 rintro w4 hw4
 have H4:=Hp.drew H3;rw[← hw4]at H4
 refine Zm Y Y<|Zm Y Y<|Zc Y Y<|Zf Y jK Y<|cZ e54<|MP Y<|MV (fun wz hz=>EL KU Y (hz.cell (i:=0) Y Y))<|Zm Y Y<|Zc Y Y<|Zf Y oI Y<|cZ e54<|MP Y<|MV (fun wz hz=>EL ty3 Y (hz.cell (i:=0) Y Y))<|MO Y<|zE Yw ty3 H4 Y (by decide) Y<|fun w5 g5 H5 hg5=>OE<|⟨fun hne=>H5.pick [3] (by decide),?_⟩
 refine cZ e54<|MO Y<|xC Yw ty3 (by decide) H5 5 (g:=m.gp) (n:=W.places.length) (cap:=m.cp) (xs:=pE W.places) (sp:=m.sq) Y Y (by rw[bP,Cc]) (by rw[Cc];exact hps) hpc hpn Y (H5.rd (i:=7) (o:=some g5) (xs:=[Aa (W.fin:Int)]) (sp:=[]) Y Y (by decide)) Y (by omega) (by omega) (by decide)<|fun w6 g4 cap4 sp4 H6 hcap4 hmc4 hg4=>?_
 rw[Cc]at hcap4
 refine OE ?_
 refine⟨fun hne=>H6.pick [3] (by decide),?_⟩
 refine cZ e54<|Zc Y Y<|Zf Y jK Y<|MO Y<|OW KU H6 3 Y Y Y Y (by first|exact NL Y|simp[zJ]) Y<|fun w7 H7=>OE<|⟨fun hne=>absurd Y hne,?_⟩
 refine cZ e54<|ME<|cR e54<|J1<|zR 17 [(true,0),(true,1),(true,2),(true,3),(true,4),(true,5),(true,6),(true,7),(true,8),(true,9),(true,10),(true,11),(true,12),(false,13),(true,14),(true,15),(true,16),(false,17)] H7 [0,3] yE (by decide) (by kernel_rfl) ?_
 rintro w8 hw8
 have H8:=Hp.drew H7;rw[← hw8]at H8
 refine Zm Y Y<|Zm Y Y<|Zc Y Y<|Zf Y oI Y<|cZ e54<|MP Y<|MV (fun wz hz=>EL ty3 Y (hz.cell (i:=1) Y Y))<|Zm Y Y<|MP Y<|MV (fun wz hz=>ES Gz Y)<|MP Y<|MV (fun wz hz=>zL Y Y (Ad _ (by omega)))<|cZ e54<|MP Y<|MV (fun wz hz=>zL Y Y (Ad _ (by omega)))<|MP Y<|MV (fun wz hz=>tA Y Y (Ad _ (by omega)))<|MP Y<|MV (fun wz hz=>aA Y Y (by omega) (wq4 b.length (by omega)))<|MP Y<|MV (fun wz hz=>zL Y Y (Ad _ (by have:=eC hb;omega)))<|cZ e54<|Zm Y Y<|MO Y<|wR (EC WZ Y) (GR m.gv m.gd D.kept.length _ _ _ (H8.cell (i:=3) Y Y) (H8.cell (i:=0) Y Y) hkept)<|OE<|⟨fun hne=>H8.pick [0,3] (by decide),?_⟩
 refine cZ e54<|MP Y<|MV (fun wz hz=>eK Y Y (by omega) (wmod (by omega) (by have:=eC hb;omega) (by omega)))<|Zc Y Y<|Zf Y oI Y<|MO Y<|OW ty3 H8 3 Y Y Y Y (by first|exact NL Y|simp[zJ]) Y<|fun w9 H9=>OE<|⟨fun hne=>absurd Y hne,?_⟩
 refine cZ e54<|ME<|cR e54<|zR 10 [(true,0),(true,1),(true,2),(true,3),(true,4),(true,5),(false,6),(true,7),(true,8),(true,9),(false,10)] H9 [3] yE (by decide) (by kernel_rfl) ?_
 rintro w10 Me
 have Df:=Hp.drew H9;rw[← Me]at Df
 refine Zm Y Y<|Zc Y Y<|Zf Y gU Y<|MP Y<|MV (fun wz hz=>EL ty3 Y (hz.cell (i:=0) Y Y))<|cZ e54<|Zm Y Y<|MP Y<|MV (fun wz hz=>ES Gz Y)<|MO Y<|wR (EC W8 Y) (iB b.length _ (by omega))<|OE<|⟨fun hne=>Df.pick [3] (by decide),?_⟩
 refine cZ e54<|MP Y<|MV (fun wz hz=>zL Y Y (Ad _ (by have:=BS hb;omega)))<|Zc Y Y<|Zf Y gU Y<|MO Y<|OW ty3 Df 3 Y Y Y Y (by first|exact NL Y|simp[zJ]) Y<|fun Oa Ei=>OE<|⟨fun hne=>absurd Y hne,?_⟩
 refine cZ e54<|ME<|cR e54<|zA<|yQ Y ?_
 have hw:=BS hb
 have hu:used (W.recs++[b])=used W.recs+wgt b.length:=by rw[uI,iY]
 refine⟨{ m with gr:=g3,cr:=cap3,xs:=m.xs++[Ac A b.length c],sr:=sp3,gp:=g4,cp:=cap4,sq:=sp4 },rfl,rfl,rfl,rfl,?_,?_⟩
 have hP:pE W.places++[Aa (W.fin:Int)]=pE (W.places++[W.fin]):=by simp[pE]
 have HZ:=Ei
 have hbl:∀ p∈bl (Bf { m with gr:=g3,cr:=cap3,xs:=m.xs++[Ac A b.length c],sr:=sp3,gp:=g4,cp:=cap4,sq:=sp4 } D (W.took D b)),p∈bl _:=fun p hp=>Hw (is:=[0,1,2,3,4,5]) HZ p (by simpa[bl,hP]using hp)
 refine⟨hD,?_,by simp[Wl.took];omega,by simpa[Wl.took]using hcap3,hg3,by simp[Wl.took,hpl],by simp[Wl.took];omega,by rw[show(W.took D b).places=W.places++[W.fin] from Y,← hP];exact hcap4,hg4,by simp[Wl.took];omega,?_,hsize,Hq _ (by omega),?_,hfirst,hturn,by rw[show(W.took D b).recs=W.recs++[b] from Y,hu];omega,htold⟩
 exact Qa.less (Qa.snoc (Ls.to HZ) (Rd.fcw hr HZ ha) (fun h0=>aJ hr h0 (ha h0) HZ)) hbl
 intro r hr2
 rcases Bq.1 hr2 with h | h
 exact hlong r h
 simp at h;rw[h];exact hb
 intro p hp
 rcases Bq.1 hp with h | h
 exact Us p h
 simp at h;omega
 have hP:pE W.places++[Aa (W.fin:Int)]=pE (W.places++[W.fin]):=by simp[pE]
 have HZ:=Ei.pick [0,1,2,3,4,5] (by decide)
 have e1:(W.took D b).recs.length=W.recs.length+1:=by simp[Wl.took]
 have e2:(W.took D b).places.length=W.places.length+1:=by simp[Wl.took]
 rw[hP]at HZ
 unfold Bf jY wcl
 rw[e1,e2,show(W.took D b).recs=W.recs++[b] from rfl,hu]
 exact HZ
end
end Go.Proofs.YtjoeklkmnfaabaaGreat
namespace Go.Proofs.YtjoeklkmnfaabaaGreat
set_option maxRecDepth 100000
set_option maxHeartbeats 4000000
open Go Go.RowKit
set_option linter.unusedVariables false
attribute [local irreducible] yW Ops zP Cd
theorem L6 (A:Option Addr) (n c:Nat) (w0:World):Aj 76 #[Ac A n c,Aa 64] w0 (fun r w'=>∃ g1 g2,r=.func (.func 122) #[] [Ah g1,Ah g2].toArray∧Hp w0 w' [] [(some g1,73,[Ac A n c]),(some g2,3,[Aa 64])]):=by
 refine zG Tryz.func76 Tryz.ntmps76 Y<|cR e9 ?_
 have H:=Hp.refl w0
 refine Rq<|yA Y Y H<|fun w1 g1 H1 hg1=>yA Y Y H1<|fun w2 g2 H2 hg2=>Xa Y<|Xr e9<|J1<|Rq<|OV (EL ty3 Y (H2.cell (i:=1) Y Y))<|Jw (zQ Y Y) (by decide)<|Xr e9<|J4 Y<|J6<|Rq<|OV (wL Y Y)<|Xa Y<|Xr e9<|J5<|Cm Y Y<|⟨g1,g2,Y,H2⟩
namespace Rn
attribute [local irreducible] Cd
theorem IB (g1 g2 ga N c:Nat) (hN:N≤1000) (hc:64*N≤c) (w1:World) (h1:w1.heap[g1]? =some (.cells [Ac (some ⟨ga,0,none⟩) (64*N) c].toArray 73 (0,0))) (h2:w1.heap[g2]? =some (.cells [Aa 64].toArray 3 (0,0))) (hne:g1≠g2):XV Tryz.prog 122 [Ah g1,Ah g2] N [g1,g2] (fun k _ args G=>args=[Ac (some ⟨ga,64*k,none⟩) 64 64]∧G=[]) w1:=by
 intro L J X XP O0 hO hJO hJs hXs hY h0
 refine zG Tryz.func122 Tryz.ntmps122 Y ?_
 change Run _ _ _ _ [.func (.yield L) #[] #[],Ah g1,Ah g2,undef,undef,undef,undef,undef,undef,undef,undef,undef,undef,undef,undef,undef,undef,undef,undef,undef,undef,undef,undef,undef,undef,undef,undef,undef,undef,undef,undef] _
 refine zN<|zK Y (fun _ _ h=>h)<|Xa Y<|OE ?_
 change Run _ _ _ _ [_,_,_,_,_,_,_,_,_,_,_,_,_,_,_,_,_,_,_,_,_,_,_,_,_,_,_,_,_,_,_] _
 refine wJ<|zV (fun nQ lQ w=>∃ (k:Nat) (y:Int) (O:List Nat),N - k=nQ∧xM (Hy [(0,.func (.yield L) #[] #[]),(1,Ah g1),(2,Ah g2),(4,Aa y)] 0 31) lQ∧y=((64*k:Nat):Int)∧k≤N∧w.heap[g1]? =some (.cells [Ac (some ⟨ga,0,none⟩) (64*N) c].toArray 73 (0,0))∧w.heap[g2]? =some (.cells [Aa 64].toArray 3 (0,0))∧J k w O∧(∀ b∈O,b∉[g1,g2])) (N) ?_ ?_
 exact⟨0,_,O0,Y,(Jg Y Y Y Y Y),Y,Am _,h1,h2,h0,hO⟩
 rintro nQ lQ w1 ⟨k,y,O,rfl,hfit,rfl,hk,hg1,hg2,hJ,hOn⟩
 obtain⟨j,rfl⟩:=hfit.open
 change Run _ _ _ _ [_,_,_,_,_,_,_,_,_,_,_,_,_,_,_,_,_,_,_,_,_,_,_,_,_,_,_,_,_,_,_] _
 clear hfit
 have H1:=Hp.two hg1 hg2 hne
 refine zN<|zN<|zK Y (fun _ _ h=>h)<|Xm Y<|OV (EL xO Y (H1.cell (i:=0) Y Y))<|OV (ES Gz Y)<|OT (zQ Y Y) (fun hp9=>?_) (fun hp9=>?_)
 have hkl:k < N:=by omega
 refine OE ?_
 change Run _ _ _ _ [_,_,_,_,_,_,_,_,_,_,_,_,_,_,_,_,_,_,_,_,_,_,_,_,_,_,_,_,_,_,_] _
 refine yP Y<|xK<|zN<|wJ<|zN<|rG [(true,0),(true,1),(true,2),(true,3),(true,4),(true,5),(true,6)] H1 [0,1] yE (by decide) (by kernel_rfl) Y ?_
 rintro w2 hw2
 have H2:=Hp.drew H1;rw[← hw2]at H2
 have hJ2:J k w2 O:=hJs k _ O w2 hJ (by rw[‹w2=_›];exact Hp.drewW _)
 have hq1:w2.heap[g1]? =some (.cells [Ac (some ⟨ga,0,none⟩) (64*N) c].toArray 73 (0,0)):=H2.at (i:=0) rfl
 have hq2:w2.heap[g2]? =some (.cells [Aa 64].toArray 3 (0,0)):=H2.at (i:=1) rfl
 refine zY Y<|MV (fun wz hz=>EL ty3 Y (hz.cell (i:=1) Y Y))<|zY Y<|MV (fun wz hz=>EL xO Y (hz.cell (i:=0) Y Y))<|zY Y<|MV (fun wz hz=>zI Y)<|zY Y<|MV (fun wz hz=>vD Gz ty5 Y Y (by omega))<|cM e31<|zY Y<|MV (fun wz hz=>ES Gz Y)<|zY Y<|MV (fun wz hz=>QF Y Y) ?_
 rw[show min (64:Int) ((64*N - (((64*k:Nat):Int)).toNat:Nat):Int)=64 by omega]
 refine zY Y<|MV (fun wz hz=>zO Y)<|tS ?_
 change Run _ _ _ _ [_,_,_,_,_,_,_,_,_,_,_,_,_,_,_,_,_,_,_,_,_,_,_,_,_,_,_,_,_,_,_] _
 refine zN<|run_yield 10 Y Y (fun _ _ h=>h)<|Xm Y<|OV (EL xO Y (H2.cell (i:=0) Y Y))<|Xm Y<|Xm Y<|Ag e31<|Xm Y<|OV (zL Y Y ((Ad _ (by omega)).trans (show(((64*k:Nat):Int)+64)=((64*(k+1):Nat):Int) by omega)))<|Xm Y<|Xm Y<|Ag e31<|OV (zL Y Y ((Ad _ (by omega)).trans (show(((64*k:Nat):Int)+64)=((64*(k+1):Nat):Int) by omega)))<|OV (aD Gz ty5 Y Y Y Y (by omega) (n:=64) (m:=64) (by omega) (by omega)) ?_
 rw[show wH (some ⟨ga,0,none⟩) (64*k) (64*(k+1)) 1=some ⟨ga,64*k,none⟩ by unfold wH;rw[if_neg (by omega),Cc];exact congrArg some (eR _ _)]
 refine OE ?_
 refine⟨29,_,_,_,_,_,_,L,_,_,_,Y,Y,Y,hY k w2 O [Ac (some ⟨ga,64*k,none⟩) 64 64] [] hkl hJ2 ⟨Y,Y⟩ (by simp),?_,fun ch wz hz=>hz⟩
 rintro v wy ⟨O',hHy,hOy,hcase⟩
 rw[Dt]at hHy
 have hy1:wy.heap[g1]? =some (.cells [Ac (some ⟨ga,0,none⟩) (64*N) c].toArray 73 (0,0)):=(hHy.frame g1 (Dw.1 hq1).1 (fun hb=>hOn _ hb (by simp))).trans hq1
 have hy2:wy.heap[g2]? =some (.cells [Aa 64].toArray 3 (0,0)):=(hHy.frame g2 (Dw.1 hq2).1 (fun hb=>hOn _ hb (by simp))).trans hq2
 have hl1:=(Dw.1 hq1).1
 have hl2:=(Dw.1 hq2).1
 have hOy2:∀ b∈O',b∉[g1,g2]:=by
  intro b hb
  rcases hOy b hb with h | h
  · exact hOn b (by simpa using h)
  simp;omega
 rcases hcase with ⟨rfl,hJy⟩ | ⟨rfl,hXy⟩
 refine Xn Y<|OE ?_
 change Run _ _ _ _ [_,_,_,_,_,_,_,_,_,_,_,_,_,_,_,_,_,_,_,_,_,_,_,_,_,_,_,_,_,_,_] _
 refine zX Y<|xK<|zA (zB ?_)
 refine zK Y (fun _ _ h=>h)<|Xm Y<|OV (EL ty3 Y ((Hp.two hy1 hy2 hne).cell (i:=1) Y Y))<|OV (zL Y Y ((Ad _ (by omega)).trans (show(((64*k:Nat):Int)+64)=((64*(k+1):Nat):Int) by omega)))<|Xa Y<|OE ?_
 change Run _ _ _ _ [_,_,_,_,_,_,_,_,_,_,_,_,_,_,_,_,_,_,_,_,_,_,_,_,_,_,_,_,_,_,_] _
 refine zA (zH ?_)
 refine⟨Y,?_⟩
 exact⟨N - (k+1),by omega,k+1,_,O',Y,(Jg Y Y Y Y Y),Y,by omega,hy1,hy2,hJy,hOy2⟩
 refine Xn Y<|OE ?_
 change Run _ _ _ _ [_,_,_,_,_,_,_,_,_,_,_,_,_,_,_,_,_,_,_,_,_,_,_,_,_,_,_,_,_,_,_] _
 refine yP Y<|wG<|vM<|yN<|vM<|⟨_,lN Y _ _,.inr hXy⟩
 have hkN:k=N:=by omega
 subst hkN
 refine OE ?_
 change Run _ _ _ _ [_,_,_,_,_,_,_,_,_,_,_,_,_,_,_,_,_,_,_,_,_,_,_,_,_,_,_,_,_,_,_] _
 refine zX Y<|tF<|zU<|zS<|zA<|⟨_,lN Y _ _,.inl ⟨O,hJ⟩⟩
end Rn
end Go.Proofs.YtjoeklkmnfaabaaGreat
namespace Go.Proofs.YtjoeklkmnfaabaaGreat
set_option maxRecDepth 100000
set_option maxHeartbeats 4000000
open Go Go.RowKit
set_option linter.unusedVariables false
attribute [local irreducible] yW Ops zP Cd
def le4 (n:Nat):Blk:=[UInt8.ofNat (n % 256),UInt8.ofNat (n / 256 % 256),UInt8.ofNat (n / 65536 % 256),UInt8.ofNat (n / 16777216 % 256)]
variable {b:Blk} {k:Nat} {D:Dk}
theorem BA (n:Nat):[Value.int .u8 ((n % 256:Nat):Int),.int .u8 ((n / 256 % 256:Nat):Int),.int .u8 ((n / 65536 % 256:Nat):Int),.int .u8 ((n / 16777216 % 256:Nat):Int)]=u8s (le4 n):=by
 have h:∀ k:Nat,(UInt8.ofNat (k % 256)).toNat=k % 256:=fun k=>u8n (Hq _ (by decide))
 simp only[le4,u8s,Je,List.map_nil,h]
def mZ (b:Blk) (q:Nat):Blk:=le4 b.length++b++List.replicate q 0
theorem LD (b:Blk):le4 b.length++b=mZ b 0:=by simp[mZ]
theorem LE (b:Blk) (q:Nat):mZ b q++[0]=mZ b (q+1):=by simp[mZ,List.replicate_succ']
theorem EP (b:Blk) (q:Nat):(mZ b q).length=4+b.length+q:=by simp[mZ,le4];omega
def iK (n:Nat):Nat:=(64 - (n+4) % 64) % 64
def Iq (b:Blk):Blk:=mZ b (iK b.length)
theorem gS (b:Blk):(Iq b).length=64*La b.length:=by unfold Iq;rw[EP];unfold iK La;omega
def rJ (b:Blk) (k:Nat):Blk:=(b.drop (64*k)).take 64
theorem dZ (h:64*(k+1)≤b.length):(rJ b k).length=64:=by simp[rJ];omega
def wP (R fin:Nat) (b:Blk) (D:Dk):Nat→Dk
 | 0=>D
 | k+1=>((wP R fin b D k).write ((2+(fin+k) % R:Nat):Int) (rJ b k)).1
def ZG (R fin:Nat) (b:Blk) (D:Dk) (k:Nat):Prop:=∀ j,j < k→((wP R fin b D j).write ((2+(fin+j) % R:Nat):Int) (rJ b j)).2=0
theorem N9 {R fin:Nat} (h:ZG R fin b D k) (h2:((wP R fin b D k).write ((2+(fin+k) % R:Nat):Int) (rJ b k)).2=0):ZG R fin b D (k+1):=by
 intro j hj
 by_cases hjk:j=k
 subst hjk;exact h2
 exact h j (by omega)
theorem nK (R fin:Nat) (b:Blk) (D:Dk):∀ k,(wP R fin b D k).wait.length≤D.wait.length+k∧(wP R fin b D k).kept.length=D.kept.length
 | 0=>⟨Ak _,rfl⟩
 | k+1=>by
  have h:=nK R fin b D k
  have h2:=DD (wP R fin b D k) ((2+(fin+k) % R:Nat):Int) (rJ b k)
  exact⟨by show(Dk.write _ _ _).1.wait.length≤_;omega,by show(Dk.write _ _ _).1.kept.length=_;rw[h2.2,h.2]⟩
theorem US {a n:Nat} (hn:2 < n) (ha:a < 2^40) (hk:k < 2^40):(((a+k) % (n - 2):Nat):Int)+1=(((a+k) % (n - 2)+1:Nat):Int)∧((((a+k) % (n - 2)+1:Nat):Int)).tmod ((n:Int) - 2)=(((a+(k+1)) % (n - 2):Nat):Int):=by
 refine⟨by omega,?_⟩
 rw[show((n:Int) - 2)=((n - 2:Nat):Int) by omega,AD,← Fz,Nl]
theorem IN {W:Wl} {D':Dk} (h:D.kept.length=D'.kept.length) (b:Blk):W.took D b=W.took D' b:=by unfold Wl.took;rw[h]
namespace Rn
attribute [local irreducible] Cd
theorem VT (m:Mw) (D:Dk) (W:Wl) (w0:World) (H0:Hp w0 w0 (bl (Bf m D W)) (Bf m D W)) (h:Mc w0 m D W) (gbx Y7:Nat) (A:Option Addr) (b:Blk) (c:Nat) (hbx:w0.cell? ⟨gbx,0,none⟩=some (Ac A b.length c)) (hbn:gbx∉bl (Bf m D W)) (hwx:w0.cell? ⟨Y7,0,none⟩=some (Ah m.gv)) (hwn:Y7∉bl (Bf m D W)) (hr:Rd w0 A b.length 1 (u8s b)) (ha:0 < b.length→∀ p,A=some p→p.block∉bl (Bf m D W)) (hb:b.length≤16384) (hn:W.recs.length < 16384) (hu0:used W.recs≤2^39) (hwt:D.wait.length≤1000000000):qA Tryz.prog 75 #[Ah gbx,Ah Y7] w0 (fun _ w'=>ZG (D.kept.length - 2) W.fin (Iq b) D (La b.length)∧vV w0 w' (bl (Bf m D W)) m (wP (D.kept.length - 2) W.fin (Iq b) D (La b.length)) (W.took D b)) (fun ch w'=>ch=gV∧∃ k,k < La b.length∧ZG (D.kept.length - 2) W.fin (Iq b) D k∧((wP (D.kept.length - 2) W.fin (Iq b) D k).write ((2+(W.fin+k) % (D.kept.length - 2):Nat):Int) (rJ (Iq b) k)).2≠0∧vV w0 w' (bl (Bf m D W)) m (wP (D.kept.length - 2) W.fin (Iq b) D (k+1)) (W)):=by
 refine zG Tryz.func75 Tryz.ntmps75 Y ?_
 change Run _ _ _ _ [Ah gbx,Ah Y7,undef,undef,undef,undef,undef,undef,undef,undef,undef,undef,undef,undef,undef,undef,undef,undef,undef,undef,undef,undef,undef,undef,undef,undef,undef,undef,undef,undef,undef,undef,undef,undef,undef,undef,undef,undef,undef,undef,undef,undef,undef,undef,undef,undef,undef,undef,undef,undef,undef,undef,undef,undef] _
 have H:=H0
 obtain⟨hD,Ls,hrc,hrs,hrn,hpl,hpc,hps,hpn,Gx,hlong,hsize,hfin,Us,hfirst,hturn,Uc,htold⟩:=id h
 have hkept:=hD.most
 refine zN<|zK Y (fun _ _ h=>h)<|OV (EL xO Y (xP hbx H hbn))<|OV (ES Gz Y)<|Xa Y<|OE ?_
 change Run _ _ _ _ [_,_,_,_,_,_,_,_,_,_,_,_,_,_,_,_,_,_,_,_,_,_,_,_,_,_,_,_,_,_,_,_,_,_,_,_,_,_,_,_,_,_,_,_,_,_,_,_,_,_,_,_,_,_] _
 refine zN<|zK Y (fun _ _ h=>h)<|Xm Y<|OV (xN Tryz.underlying5 Tryz.underlying3 Y (u8w b.length))<|Xm Y<|OV (pW Y Y (by omega) ((show _=((b.length / 256:Nat):Int) from qZ b.length 8 64)))<|Ag e54<|OV (xN Tryz.underlying5 Tryz.underlying3 Y (u8w (b.length / 256)))<|Xm Y<|OV (pW Y Y (by omega) ((show _=((b.length / 65536:Nat):Int) from qZ b.length 16 64)))<|OV (xN Tryz.underlying5 Tryz.underlying3 Y (u8w (b.length / 65536)))<|Ag e54<|Xm Y<|OV (pW Y Y (by omega) ((show _=((b.length / 16777216:Nat):Int) from qZ b.length 24 64)))<|OV (xN Tryz.underlying5 Tryz.underlying3 Y (u8w (b.length / 16777216)))<|zE Gz ty5 H Y (by decide) Y<|fun w1 g1 H1 hg1=>Ag e54<|OV (EL xO Y (xP hbx H1 hbn))<|lS Gz ty5 H1 6 (g:=some g1) (cap:=4) (L:=le4 b.length) (sp:=[]) Y (by rw[Dt,← BA];rfl) (by rw[Dt,zZ];exact Ak _) (Ak _) (by simp) Y (Rd.fcw hr H1 ha) (by simp[le4];omega)<|fun w2 g3 cap3 sp3 H2 hl3 hc3 hg3=>?_
 rw[LD b]at H2 hl3 hc3 ⊢
 refine Xa Y<|OE ?_
 change Run _ _ _ _ [_,_,_,_,_,_,_,_,_,_,_,_,_,_,_,_,_,_,_,_,_,_,_,_,_,_,_,_,_,_,_,_,_,_,_,_,_,_,_,_,_,_,_,_,_,_,_,_,_,_,_,_,_,_] _
 refine zN<|wJ<|zV (fun nQ lQ w=>∃ (q cap:Nat) (g:Option Nat) (spo:List Value),iK b.length - q=nQ∧xM (Hy [(0,Ah gbx),(1,Ah Y7),(2,Aa (b.length:Int)),(3,Ac (hd g) (mZ b q).length cap)] 0 54) lQ∧q≤iK b.length∧(mZ b q).length≤cap∧cap*1≤(u8s (mZ b q)++spo).length∧(g=none→cap=0)∧Hp w0 w (bl (Bf m D W)) (Bf m D W++[(g,5,u8s (mZ b q)++spo)])) (iK b.length) ?_ ?_
 exact⟨0,cap3,g3,sp3,Y,(Jg Y Y Y Y Y),Am _,hl3,hc3,hg3,by have hz:=H2.pick [0,1,2,3,4,5,6] (by decide);exact hz⟩
 rintro nQ lQ w3 ⟨q,cap,g,spo,rfl,hfit,hq,hcl,hcs,hcn,H3⟩
 obtain⟨j,rfl⟩:=hfit.open
 change Run _ _ _ _ [_,_,_,_,_,_,_,_,_,_,_,_,_,_,_,_,_,_,_,_,_,_,_,_,_,_,_,_,_,_,_,_,_,_,_,_,_,_,_,_,_,_,_,_,_,_,_,_,_,_,_,_,_,_] _
 clear hfit
 have hol:=EP b q
 have hpn:iK b.length < 64:=Hq _ (by decide)
 refine zN<|zN<|zK Y (fun _ _ h=>h)<|Xm Y<|OV (ES Gz Y)<|OV (eK Y Y (by omega) (AD (mZ b q).length 64))<|OT (yR Y Y) (fun hp25=>?_) (fun hp25=>?_)
 have hqp:q < iK b.length:=by unfold iK at hq ⊢;omega
 refine OE ?_
 change Run _ _ _ _ [_,_,_,_,_,_,_,_,_,_,_,_,_,_,_,_,_,_,_,_,_,_,_,_,_,_,_,_,_,_,_,_,_,_,_,_,_,_,_,_,_,_,_,_,_,_,_,_,_,_,_,_,_,_] _
 refine yP Y<|xK<|wJ<|zK Y (fun _ _ h=>h)<|Xm Y<|zE Gz ty5 H3 Y (by decide) Y<|fun w4 g4 H4 hg4=>lS Gz ty5 H4 6 (g:=g) (cap:=cap) (L:=mZ b q) (M:=[0]) (sp:=spo) Y Y hcs hcl hcn Y (H4.rd (i:=7) (o:=some _) (xs:=u8s [0]) (sp:=[]) Y Y (by decide)) (by simp;omega)<|fun w5 g4 cap4 sp4 H5 hl4 hc4 hg4=>?_
 rw[LE b q]at H5 hl4 hc4 ⊢
 refine Xa Y<|OE ?_
 change Run _ _ _ _ [_,_,_,_,_,_,_,_,_,_,_,_,_,_,_,_,_,_,_,_,_,_,_,_,_,_,_,_,_,_,_,_,_,_,_,_,_,_,_,_,_,_,_,_,_,_,_,_,_,_,_,_,_,_] _
 refine zA (zB ?_)
 refine zA (zH ?_)
 refine⟨Y,?_⟩
 exact⟨iK b.length - (q+1),by omega,q+1,cap4,g4,sp4,Y,(Jg Y Y Y Y Y),by omega,hl4,hc4,hg4,by have hz:=H5.pick [0,1,2,3,4,5,6] (by decide);exact hz⟩
 have hqp:q=iK b.length:=by unfold iK at hq ⊢;omega
 subst hqp
 obtain⟨go,rfl⟩:∃ go,g=some go:=by
  cases g with
  | none=>have:=hcn rfl;omega
  | some go=>exact⟨go,rfl⟩
 refine OE ?_
 change Run _ _ _ _ [_,_,_,_,_,_,_,_,_,_,_,_,_,_,_,_,_,_,_,_,_,_,_,_,_,_,_,_,_,_,_,_,_,_,_,_,_,_,_,_,_,_,_,_,_,_,_,_,_,_,_,_,_,_] _
 refine zX Y<|tF<|zU<|zS<|zN<|zK Y (fun _ _ h=>h)<|OV (EL uN Y (xP hwx H3 hwn))<|Xc Y<|Xf oI Y<|OV (EL ty3 Y (H3.cell (i:=3) Y Y))<|Ag e54<|OA ty3 H3<|fun w4 Ym H4 hgat=>OW ty3 H4 7 Y Y Y Y (by first|exact NL Y|simp[zJ]) Y<|fun w5 H5=>OE ?_
 change Run _ _ _ _ [_,_,_,_,_,_,_,_,_,_,_,_,_,_,_,_,_,_,_,_,_,_,_,_,_,_,_,_,_,_,_,_,_,_,_,_,_,_,_,_,_,_,_,_,_,_,_,_,_,_,_,_,_,_] _
 refine zN<|zN<|zK Y (fun _ _ h=>h)<|Xm Y<|OQ (EC gf76 Y) (L6 (hd (some go)) (mZ b (iK b.length)).length cap _) ?_
 rintro r w6 ⟨g1,g2,hr1,Hc⟩
 rw[hr1]
 have H6:=H5.call0 Hc
 refine OE ?_
 change Run _ _ _ _ [_,_,_,_,_,_,_,_,_,_,_,_,_,_,_,_,_,_,_,_,_,_,_,_,_,_,_,_,_,_,_,_,_,_,_,_,_,_,_,_,_,_,_,_,_,_,_,_,_,_,_,_,_,_] _
 refine wJ ?_
 have hfl:=gS b
 have hnb:=eC hb
 have hR:0 < (D.kept.length - 2):=by omega
 have e0:(W.fin+0) % (D.kept.length - 2)=W.fin:=by rw[Ia];exact Il hfin
 have hg1:=H6.at (i:=8) rfl
 have hg2:=H6.at (i:=9) rfl
 have hne:g1≠g2:=H6.ne (i:=8) (j:=9) rfl rfl (by decide)
 have hcap64:64*La b.length≤cap:=by rw[← hfl];exact hcl
 have hbxl:=Iy w0 _ hbx
 have hwxl:=Iy w0 _ hwx
 have hwsz:=H6.size
 have hq0:Hp w0 w6 (bl (Bf m D W)) (xD m.gd m.gk m.gw m.cw m.sp (wP (D.kept.length - 2) W.fin (Iq b) D 0)++jY m W++[(some go,5,u8s (Iq b)++spo),(some Ym,3,[Aa (((W.fin+0) % (D.kept.length - 2):Nat):Int)])]):=by
  have hz:=H6.pick [0,1,2,3,4,5,6,7] (by decide)
  rw[← e0]at hz
  exact hz
 rw[show Ac (hd (some go)) (mZ b (iK b.length)).length cap=Value.slice (some ⟨go,0,none⟩) (64*La b.length) cap by rw[show mZ b (iK b.length)=Iq b from rfl,hfl];rfl]at hg1
 refine AH (ps:=[35]) (gf:=122) (lb:=[Ah g1,Ah g2]) (N:=La b.length) (B:=[g1,g2]) Tryz.func75 Y gf122
  (fun w1 Hw1=>IB g1 g2 go (La b.length) cap (by omega) hcap64 w1 ((Hw1.frame g1 (Dw.1 hg1).1 (by simp)).trans hg1) ((Hw1.frame g2 (Dw.1 hg2).1 (by simp)).trans hg2) hne)
  (fun x hx=>by
   rcases Cj.1 hx with rfl | hx
   · exact(Dw.1 hg1).1
   rw[Az.1 hx];exact(Dw.1 hg2).1)
  (fun k W1 O=>ZG (D.kept.length - 2) W.fin (Iq b) D k∧∃ (gw:Option Nat) (cw:Nat) (sp:List Value),O=bl (xD m.gd m.gk gw cw sp (wP (D.kept.length - 2) W.fin (Iq b) D k)++[(some Ym,3,[Aa (((W.fin+k) % (D.kept.length - 2):Nat):Int)])])∧Ri (wP (D.kept.length - 2) W.fin (Iq b) D k) gw cw sp∧Hp w0 W1 (bl (Bf m D W)) (xD m.gd m.gk gw cw sp (wP (D.kept.length - 2) W.fin (Iq b) D k)++jY m W++[(some go,5,u8s (Iq b)++spo),(some Ym,3,[Aa (((W.fin+k) % (D.kept.length - 2):Nat):Int)])]))
  (fun _ _=>False)
  (fun ch W1=>ch=gV∧∃ k,k < La b.length∧ZG (D.kept.length - 2) W.fin (Iq b) D k∧((wP (D.kept.length - 2) W.fin (Iq b) D k).write ((2+(W.fin+k) % (D.kept.length - 2):Nat):Int) (rJ (Iq b) k)).2≠0∧∃ (gw:Option Nat) (cw:Nat) (sp:List Value),Ri (wP (D.kept.length - 2) W.fin (Iq b) D (k+1)) gw cw sp∧Hp w0 W1 (bl (Bf m D W)) (xD m.gd m.gk gw cw sp (wP (D.kept.length - 2) W.fin (Iq b) D (k+1))++jY m W))
  (bl (xD m.gd m.gk m.gw m.cw m.sp (wP (D.kept.length - 2) W.fin (Iq b) D 0)++[(some Ym,3,[Aa (((W.fin+0) % (D.kept.length - 2):Nat):Int)])]))
  (fun x hx hx2=>by
   rcases Cj.1 hx2 with rfl | hx2
   · exact Fa H6 (i:=8) Y (is:=[0,1,2,7]) (by decide) (by simpa[bl]using hx)
   rw[Az.1 hx2]at hx;exact Fa H6 (i:=9) rfl (is:=[0,1,2,7]) (by decide) (by simpa[bl]using hx))
  (fun l args=>(l.set 35 (args.getD 0 undef)).set 5 (args.getD 0 undef))
  (fun k W1 O hJ=>by obtain⟨_,gw,cw,sp,rfl,_,HJ⟩:=hJ;exact sP (HJ.pick [0,1,2,7] (by decide)))
  (fun k W1 O W2 L hJ hL HL hnl=>by obtain⟨h1,gw,cw,sp,h2,h3,HJ⟩:=hJ;exact⟨h1,gw,cw,sp,h2,h3,HJ.loop HL hnl (by omega)⟩)
  (fun _ _ _ _ hx=>hx.elim)
  (fun k W1 args G hI=>by obtain⟨rfl,rfl⟩:=hI;exact⟨rfl,by simp,fun _ _ _ _ _=>⟨rfl,rfl⟩⟩)
  ⟨fun j hj=>absurd hj (by omega),m.gw,m.cw,m.sp,rfl,hD,hq0⟩ ?_ ?_ ?_ (fun _ _ _ hx=>hx.elim) ?_
 rintro k W1 args G L ⟨rfl,rfl⟩
 change Run _ _ _ _ [_,_,_,_,_,_,_,_,_,_,_,_,_,_,_,_,_,_,_,_,_,_,_,_,_,_,_,_,_,_,_,_,_,_,_,_,_,_,_,_,_,_,_,_,_,_,_,_,_,_,_,_,_,_] _
 refine zK Y (fun _ _ h=>(by cases h.1))<|Xa Y<|OE ?_
 change Run _ _ _ _ [_,_,_,_,_,_,_,_,_,_,_,_,_,_,_,_,_,_,_,_,_,_,_,_,_,_,_,_,_,_,_,_,_,_,_,_,_,_,_,_,_,_,_,_,_,_,_,_,_,_,_,_,_,_] _
 refine zA<|⟨Y,Y,Y,Y⟩
 rintro k W1 O args G L hk ⟨hok,gw,cw,sp,rfl,hDk,HJ⟩ ⟨rfl,rfl⟩ _
 have hbd:=nK (D.kept.length - 2) W.fin (Iq b) D k
 have hmk:=hDk.most
 have HB:=(HJ.pick [0,1,2,7] (by decide)).here
 change Hp W1 W1 (bl (xD m.gd m.gk gw cw sp (wP (D.kept.length - 2) W.fin (Iq b) D k)++[(some Ym,3,[Aa (((W.fin+k) % (D.kept.length - 2):Nat):Int)])])) (xD m.gd m.gk gw cw sp (wP (D.kept.length - 2) W.fin (Iq b) D k)++[(some Ym,3,[Aa (((W.fin+k) % (D.kept.length - 2):Nat):Int)])])at HB
 have hwx1:=xP hwx HJ hwn
 have hwxn:Y7∉bl (xD m.gd m.gk gw cw sp (wP (D.kept.length - 2) W.fin (Iq b) D k)++[(some Ym,3,[Aa (((W.fin+k) % (D.kept.length - 2):Nat):Int)])]):=dQ (HJ.pick [0,1,2,7] (by decide)) hwxl hwn
 have Si:=HJ.cell (i:=3) (o:=0) rfl rfl
 have hgvn:m.gv∉bl (xD m.gd m.gk gw cw sp (wP (D.kept.length - 2) W.fin (Iq b) D k)++[(some Ym,3,[Aa (((W.fin+k) % (D.kept.length - 2):Nat):Int)])]):=Fa HJ (i:=3) rfl (is:=[0,1,2,7]) (by decide)
 have hgon:go∉bl (xD m.gd m.gk gw cw sp (wP (D.kept.length - 2) W.fin (Iq b) D k)++[(some Ym,3,[Aa (((W.fin+k) % (D.kept.length - 2):Nat):Int)])]):=Fa HJ (i:=6) rfl (is:=[0,1,2,7]) (by decide)
 have e64:(rJ (Iq b) k).length=64:=dZ (by rw[hfl];omega)
 have hck:Rd W1 (some ⟨go,64*k,none⟩) (rJ (Iq b) k).length 1 (u8s (rJ (Iq b) k)):=by
  refine⟨yY _,fun a hx j u hu=>?_,by simp⟩
  simp only[Option.some.injEq]at hx
  subst hx
  rw[Lm]
  refine HJ.cell (i:=6) Y ?_
  have hj:j < 64:=by have:=lt_of_get hu;rw[zZ,e64]at this;exact this
  have h2:(u8s (Iq b))[64*k+j]? =some u:=by
   rw[← hu];simp[rJ,u8s,hj]
  rw[Di (lt_of_get h2)]
  exact h2
 change Run _ _ _ _ [_,_,_,_,_,_,_,_,_,_,_,_,_,_,_,_,_,_,_,_,_,_,_,_,_,_,_,_,_,_,_,_,_,_,_,_,_,_,_,_,_,_,_,_,_,_,_,_,_,_,_,_,_,_] _
 refine wJ<|zN<|NE 7 yE (by kernel_rfl) Y (fun _ _ h=>h) ?_
 rintro w7 hw7
 have H7:=Hp.drew HB;rw[← hw7]at H7
 refine SV (EL uN Y (xP hwx1 H7 hwxn))<|SV (yJ Y)<|SV (EF pF Y)<|SV (EL B0 Y (xP Si H7 hgvn))<|wX e54<|SV (EL ty3 Y (H7.cell (i:=3) Y Y))<|SV (zL Y Y ((Ad _ (by have:=Hq (W.fin+k) hR;omega)).trans (show(2:Int)+(((W.fin+k) % (D.kept.length - 2):Nat):Int)=((2+(W.fin+k) % (D.kept.length - 2):Nat):Int) by omega)))<|SV (zI Y)<|xJ ?_
 have hwr:=aY m.gd m.gk gw cw sp (wP (D.kept.length - 2) W.fin (Iq b) D k) w7 (H7.pick [0,1,2] (by decide)).here hDk ((2+(W.fin+k) % (D.kept.length - 2):Nat):Int) (some ⟨go,64*k,none⟩) (rJ (Iq b) k) 64 (hck.to H7 (fun a hx=>by cases hx;exact hgon)) (fun a hx hy=>by cases hx;exact hgon (Hw (is:=[0,1,2]) H7 _ hy)) (by omega)
 rw[e64]at hwr
 refine OQ (EC gf77 Y) hwr ?_
 rintro r w8 ⟨hr2,gw2,cw2,sp2,hD2,Hd⟩
 rw[hr2]
 have H8:=(H7.Du [0,1,2] rfl Hd).pick [4,5,6,3] (by decide)
 refine Ag e54<|rK (EC G5 Y) (pS _ _) ?_ ?_
 rintro ch wz ⟨hcd,rfl,rfl⟩
 refine⟨Y,by rw[Dt];exact H8.Af,Y,k,hk,hok,hcd,gw2,cw2,sp2,hD2,?_⟩
 have hz:=(HJ.Du [0,1,2,7] rfl H8).pick [8,9,10,3,4,5] (by decide)
 exact hz
 rintro r wz ⟨hcd,rfl⟩
 refine OE ?_
 change Run _ _ _ _ [_,_,_,_,_,_,_,_,_,_,_,_,_,_,_,_,_,_,_,_,_,_,_,_,_,_,_,_,_,_,_,_,_,_,_,_,_,_,_,_,_,_,_,_,_,_,_,_,_,_,_,_,_,_] _
 refine zR 5 [(true,0),(true,1),(true,2),(false,3),(true,4),(false,5)] H8 [0,3] yE (by decide) (by kernel_rfl) Y ?_
 rintro w9 hw9
 have H9:=Hp.drew H8;rw[← hw9]at H9
 refine MP Y<|MV (fun wz hz=>EL ty3 Y (hz.cell (i:=1) Y Y))<|MP Y<|MV (fun wz hz=>zL Y Y ((Ad _ (by have:=Hq (W.fin+k) hR;omega)).trans (US (n:=D.kept.length) (a:=W.fin) (k:=k) (by omega) (by omega) (by omega)).1))<|MP Y<|MV (fun wz hz=>EL uN Y (xP hwx1 hz hwxn))<|MO Y<|wR (EC WZ Y) (GR m.gv m.gd (wP (D.kept.length - 2) W.fin (Iq b) D (k+1)).kept.length _ _ _ (xP Si H9 hgvn) (H9.cell (i:=0) Y Y) (by rw[(nK (D.kept.length - 2) W.fin (Iq b) D (k+1)).2];exact hkept)) ?_
 rw[(nK (D.kept.length - 2) W.fin (Iq b) D (k+1)).2]
 refine OE ?_
 refine⟨fun hne=>H9.pick [0,3] (by decide),?_⟩
 refine cZ e54<|MP Y<|MV (fun wz hz=>eK Y Y (by omega) ((US (n:=D.kept.length) (a:=W.fin) (k:=k) (by omega) (by omega) (by omega)).2))<|MO Y<|OW ty3 H9 3 Y Y Y Y (by first|exact NL Y|simp[zJ]) Y<|fun w10 Df=>OE<|⟨fun hne=>absurd Y hne,?_⟩
 refine cZ e54<|ME ?_
 change Run _ _ _ _ [_,_,_,_,_,_,_,_,_,_,_,_,_,_,_,_,_,_,_,_,_,_,_,_,_,_,_,_,_,_,_,_,_,_,_,_,_,_,_,_,_,_,_,_,_,_,_,_,_,_,_,_,_,_] _
 refine zA (zB ?_)
 refine zA ?_
 refine⟨Y,by rw[Dt];exact Df.Af,bl (xD m.gd m.gk gw2 cw2 sp2 (wP (D.kept.length - 2) W.fin (Iq b) D (k+1))++[(some Ym,3,[Aa (((W.fin+(k+1)) % (D.kept.length - 2):Nat):Int)])]),fun x hx=>by rw[Dt];exact bl_place Df x hx,N9 hok hcd,gw2,cw2,sp2,Y,hD2,?_⟩
 have hz:=(HJ.Du [0,1,2,7] rfl Df).pick [8,9,10,3,4,5,6,11] (by decide)
 exact hz
 rintro Dm W1 O ⟨hok,gw,cw,sp,rfl,hDk,HJ⟩ hDm hDl
 have hbd:=nK (D.kept.length - 2) W.fin (Iq b) D (La b.length)
 have HB:=HJ.here
 have hwx1:=xP hwx HJ hwn
 have hwxn:=dQ HJ hwxl hwn
 have hbx1:=xP hbx HJ hbn
 have hbxn:=dQ HJ hbxl hbn
 have hr1:=Rd.fcw hr HJ ha
 have ha1:0 < b.length→∀ p,A=some p→p.block∉bl (xD m.gd m.gk gw cw sp (wP (D.kept.length - 2) W.fin (Iq b) D (La b.length))++jY m W++[(some go,5,u8s (Iq b)++spo),(some Ym,3,[Aa (((W.fin+(La b.length)) % (D.kept.length - 2):Nat):Int)])]):=fun h0 p hp=>dQ HJ (NO hr h0 hp) (ha h0 p hp)
 have hlst1:Qa W1 (xD m.gd m.gk gw cw sp (wP (D.kept.length - 2) W.fin (Iq b) D (La b.length))++jY m W++[(some go,5,u8s (Iq b)++spo),(some Ym,3,[Aa (((W.fin+(La b.length)) % (D.kept.length - 2):Nat):Int)])]) m.xs W.recs:=Ls.to HJ
 refine zA (zB ?_)
 refine zR 3 [(true,0),(true,1),(false,2),(false,3)] HB [0] yE (by decide) (by kernel_rfl) Y ?_
 rintro w7 hw7
 have H7:=Hp.drew HB;rw[← hw7]at H7
 refine MP Y<|MV (fun wz hz=>EL uN Y (xP hwx1 hz hwxn))<|MP Y<|MV (fun wz hz=>EL xO Y (xP hbx1 hz hbxn))<|MO Y<|yZ (EC jR Y) (vO A b c _ (Rd.fcw hr1 H7 ha1) (by omega))<|fun w8 g11 c11 s11 hm11 hc11 hg11 YW=>?_
 have hfr:∀ p,hd g11=some p→w0.heap.size≤p.block:=by
  intro p hp
  cases g11 with
  | none=>simp[hd]at hp
  | some gx=>
   simp only[hd,Ig,Option.some.injEq]at hp
   subst hp
   have h1:=YW.place (i:=0) rfl
   have h2:=H7.size
   have h3:=HJ.size
   rcases h1 with h1 | h1
   · cases h1
   show w0.heap.size≤gx
   omega
 have H8:=H7.call0 YW
 refine OE ?_
 refine⟨fun hne=>H8.pick [0] (by decide),?_⟩
 refine cZ e54<|MO Y ?_
 have hbl:∀ x∈bl (Bf { m with gw:=gw,cw:=cw,sp:=sp } (wP (D.kept.length - 2) W.fin (Iq b) D (La b.length)) W),x∈bl (xD m.gd m.gk gw cw sp (wP (D.kept.length - 2) W.fin (Iq b) D (La b.length))++jY m W++[(some go,5,u8s (Iq b)++spo),(some Ym,3,[Aa (((W.fin+(La b.length)) % (D.kept.length - 2):Nat):Int)])]):=fun x hx=>Hw (is:=[0,1,2,3,4,5]) HJ x (by simpa[bl]using hx)
 have hw6:Mc w8 { m with gw:=gw,cw:=cw,sp:=sp } (wP (D.kept.length - 2) W.fin (Iq b) D (La b.length)) W:={ h with d:=hDk,lst:=(hlst1.to H8).less (fun x hx=>Hw (is:=[0,1,2,3,4,5]) H8 x (by simpa[bl]using hx)),size:=by rw[hbd.2];exact hsize,fin:=by rw[hbd.2];exact hfin }
 refine OQ (EC gf79 rfl) (DN { m with gw:=gw,cw:=cw,sp:=sp } (wP (D.kept.length - 2) W.fin (Iq b) D (La b.length)) W w8 (H8.pick [0,1,2,3,4,5] (by decide)).here hw6 (hd g11) b c11 (H8.rd (i:=8) (xs:=u8s b) (sp:=s11) rfl (yY b) (by decide)) (fun _ p hp hx=>by
  cases g11 with
  | none=>simp[hd]at hp
  | some gx=>simp only[hd,Ig,Option.some.injEq]at hp;subst hp;exact Fa H8 (i:=8) rfl (is:=[0,1,2,3,4,5]) (by decide) hx) hb hn hu0) ?_
 rintro r w9 ⟨m3,e1,e2,e3,e4,Xd,H3⟩
 have H9:=H8.Du [0,1,2,3,4,5] rfl H3
 refine OE ?_
 refine⟨fun hne=>absurd Y hne,?_⟩
 refine cZ e54<|ME ?_
 change Run _ _ _ _ [_,_,_,_,_,_,_,_,_,_,_,_,_,_,_,_,_,_,_,_,_,_,_,_,_,_,_,_,_,_,_,_,_,_,_,_,_,_,_,_,_,_,_,_,_,_,_,_,_,_,_,_,_,_] _
 refine zA ?_
 have Yu:w9.heap[Dm]? =some (.deferred (some [])):=(H9.frame Dm (Dw.1 hDm).1 (fun hx=>by obtain⟨arr,T,z,hh⟩:=sP HJ Dm hx;rw[hDm]at hh;cases hh)).trans hDm
 have H8:Hp w0 w9 (bl (Bf m D W)) (Bf m3 (wP (D.kept.length - 2) W.fin (Iq b) D (La b.length)) (W.took D b)):=by
  rw[IN (W:=W) (D:=D) (D':=wP (D.kept.length - 2) W.fin (Iq b) D (La b.length)) hbd.2.symm b]
  have hz:=(HJ.Du [0,1,2,3,4,5,6,7] rfl H9).pick [17,18,19,20,21,22] (by decide)
  exact hz
 have H9:=H8.loop (Hp.Yc (.deferred none) Yu) (OG Yu) (by omega)
 refine⟨Dm,_,Y,run_takeDeferred Yu,_,lN Y _ _,hok,m3,e1,e2,e3,by rw[e4];exact fH.snoc hfr,?_,H9⟩
 rw[IN (W:=W) (D:=D) (D':=wP (D.kept.length - 2) W.fin (Iq b) D (La b.length)) hbd.2.symm b]at H9 ⊢
 exact { Xd with lst:=Xd.lst.loop (Hp.Yc (.deferred none) Yu) (OG Yu) }
 rintro Dm ch W1 ⟨rfl,k,hk,hok,hcd,gw,cw,sp,hDk,HJ⟩ hDm hDl
 have H9:=HJ.loop (Hp.Yc (.deferred none) hDm) (OG hDm) (by omega)
 have hbd:=nK (D.kept.length - 2) W.fin (Iq b) D (k+1)
 refine⟨Dm,W1.putObj Dm (.deferred none),rfl,run_takeDeferred hDm,rfl,k,hk,hok,hcd,{ m with gw:=gw,cw:=cw,sp:=sp },rfl,rfl,rfl,fH.refl _ _,?_,H9⟩
 exact { h with d:=hDk,lst:=Ls.to H9,size:=by rw[hbd.2];exact hsize,fin:=by rw[hbd.2];exact hfin }
end Rn
end Go.Proofs.YtjoeklkmnfaabaaGreat
namespace Go.Proofs.YtjoeklkmnfaabaaGreat
set_option maxRecDepth 100000
set_option maxHeartbeats 4000000
open Go Go.RowKit
set_option linter.unusedVariables false
attribute [local irreducible] yW Ops zP Cd
theorem G3 (gb ge:Nat) (w0:World):CallsDIn (FR none) 0 Tryz.prog 121 #[Ah gb,Ah ge] .returning w0 fun e u1 w'=>∃ r,e=.returned r∧u1=.returning∧w'=w0:=by
 have hz:=cS (k:=121) (w:=w0) (R:=fun _ w'=>w'=w0) Tryz.func121 Tryz.ntmps121 rfl (.inl ⟨rfl,rfl,rfl⟩) (args:=[Ah gb,Ah ge]) rfl ?_
 exact hz
 refine cR e19<|Rq<|Xm Y<|OV (qP Tryz.underlying20 ⟨_,Y⟩ Y)<|Xr e19<|J4 Y<|J6<|zA<|yQ Y<|rfl
theorem G4 (m:Mw) (D:Dk) (W:Wl) (w0:World) (gb ge:Nat) (x:Int) (H1:Hp w0 w0 (bl (Bf m D W++[(some ge,24,[Aa x])])) (Bf m D W++[(some ge,24,[Aa x])])) (hb:w0.cell? ⟨gb,0,none⟩=some (Ah m.gv)) (hbn:gb∉bl (Bf m D W++[(some ge,24,[Aa x])])):CallsDIn (FR none) 0 Tryz.prog 121 #[Ah gb,Ah ge] (.panicking gV) w0 fun e u1 w'=>∃ r,e=.returned r∧u1=.panicking [{ v:=Y8,recovered:=true }]∧Hp w0 w' (bl (Bf m D W++[(some ge,24,[Aa x])])) (Bf m D { W with dead:=true }++[(some ge,24,[Aa 40])]):=by
 have hz:=cS (k:=121) (w:=w0) (R:=fun _ w'=>Hp w0 w' (bl (Bf m D W++[(some ge,24,[Aa x])])) (Bf m D { W with dead:=true }++[(some ge,24,[Aa 40])])) Tryz.func121 Tryz.ntmps121 rfl (.inr ⟨Y8,rfl,rfl,rfl⟩) (args:=[Ah gb,Ah ge]) rfl ?_
 exact hz
 refine cR e19 ?_
 have H:=H1
 refine Rq<|Xm Y<|OV (kC Tryz.underlying20 ⟨_,Y⟩ Y)<|Xr e19<|J3 Y<|J1<|Rq<|Xm Y<|OV (aU Tryz.underlying116 (fun ms h=>(by cases h)) Y)<|Xm Y<|Xe Y Y<|Ag e19<|Xe Y Y<|OA ty116 H<|fun w1 g1 H1 hg1=>OS ty116 H1 7 (o:=0) (cs:=[]) (vs:=[]) Y Y Y Y Y (by decide) Y<|fun w2 H2=>Xa Y<|Xr e19<|Rq<|Xm Y<|Xn Y<|Xr e19<|J4 Y<|J6<|Rq<|OV (EL uN Y (xP hb H2 hbn))<|Xc Y<|Xf mQ Y<|OW ty4 H2 3 Y Y Y Y (by first|exact NL Y|simp[zJ]) Y<|fun w3 H3=>Xr e19 ?_
 refine J2<|OW pZ H3 6 Y Y Y Y (by first|exact NL Y|simp[zJ]) Y<|fun w4 H4=>Xr e19<|zA<|yQ Y ?_
 have hy:=H4.pick [0,1,2,3,4,5,6] (by decide)
 exact hy
namespace Rn
attribute [local irreducible] Cd
theorem Yl (m:Mw) (D:Dk) (W:Wl) (w0:World) (H0:Hp w0 w0 (bl (Bf m D W)) (Bf m D W)) (h:Mc w0 m D W) (fdo:FuncId) (lb:List Value) (hgo:yC Tryz.prog fdo=true) (Res:Dk→Wl→Prop) (Fail:Dk→Prop) (hdo:∀ w1,Hp w0 w1 (bl (Bf m D W)) (Bf m D W)→Mc w1 m D W→qA Tryz.prog fdo lb.toArray w1 (fun _ w2=>∃ D' W',Res D' W'∧vV w1 w2 (bl (Bf m D W)) m D' W') (fun ch w2=>ch=gV∧∃ D',Fail D'∧vV w1 w2 (bl (Bf m D W)) m D' W)):qA Tryz.prog 74 #[Ah m.gv,.func (.func fdo) #[] lb.toArray] w0 (fun r w'=>((W.dead || D.down)=true∧r=Aa 40∧vV w0 w' (bl (Bf m D W)) m (D) ({ W with dead:=true }))∨((W.dead || D.down)=false∧((r=Aa 0∧∃ D' W',Res D' W'∧vV w0 w' (bl (Bf m D W)) m (D') (W'))∨(r=Aa 40∧∃ D',Fail D'∧vV w0 w' (bl (Bf m D W)) m (D') ({ W with dead:=true }))))) (fun _ _=>False):=by
 refine FO Tryz.func74 Tryz.ntmps74 Y ?_
 change Run _ _ _ _ [Ah m.gv,.func (.func fdo) #[] lb.toArray,undef,undef,undef,undef,undef,undef,undef,undef] _
 have H:=H0
 refine zN<|zK Y (fun _ _ h=>h)<|yA Y Y H<|fun w1 gb H1 hgb=>OA pZ H1<|fun w2 ge H2 hge=>OE ?_
 change Run _ _ _ _ [_,_,_,_,_,_,_,_,_,_] _
 refine zN<|zN<|zK Y (fun _ _ h=>h)<|OV (EL uN Y (H2.cell (i:=6) Y Y))<|OC (EC gf72 Y) (eX m D W _ (H2.pick [0,1,2,3,4,5] (by decide)).here (h.move H2 [0,1,2,3,4,5] Y))<|fun w3 Hc=>?_
 have H3:=(H2.Du [0,1,2,3,4,5] rfl Hc).pick [8,9,10,11,12,13,6,7] (by decide)
 have hlw:=(h.lst.to (H2.Du [0,1,2,3,4,5] rfl Hc)).less (es':=_) (fun x hx=>Hw (is:=[8,9,10,11,12,13,6,7]) (H2.Du [0,1,2,3,4,5] rfl Hc) x hx)
 refine OE ?_
 change Run _ _ _ _ [_,_,_,_,_,_,_,_,_,_] _
 refine wU Y (fun hb6=>?_) (fun hb6=>?_)
 rw[hb6]at H3
 refine zN<|zK Y (fun _ _ h=>h)<|OW pZ H3 7 Y Y Y Y (by first|exact NL Y|simp[zJ]) Y<|fun w4 H4=>OE ?_
 change Run _ _ _ _ [_,_,_,_,_,_,_,_,_,_] _
 refine wG<|P9 (oS Y pZ Y (H4.cell (i:=7) Y Y)) (.inl ⟨hb6,Y,m,Y,Y,Y,fH.refl _ _,?_,?_⟩)
 exact { h with lst:=(h.lst.to H4).less (fun x hx=>Hw (is:=[0,1,2,3,4,5]) H4 x hx) }
 have hy:=H4.pick [0,1,2,3,4,5] (by decide)
 exact hy
 have hWe:({ W with dead:=W.dead || D.down }:Wl)=W:=by rw[hb6];have hx:=(Bool.or_eq_false_iff.1 hb6).1;cases W;simp at hx;subst hx;rfl
 rw[hWe]at H3
 refine xK<|zN<|AI Y Y ?_
 change Run _ _ _ _ [_,_,_,_,_,_,_,_,_,_] _
 refine zN<|zK Y (fun _ _ h=>h)<|Xm Y ?_
 have hwk:Mc w3 m D W:=h.move H3 [0,1,2,3,4,5] rfl
 have hl8:=h.lst.to H3
 have hgel:=H3.lt (i:=7) rfl
 have hF8:∀ x∈bl [((some ge,24,[Aa 0]):Ent)],x∈bl (Bf m D W++[(some gb,65,[Ah m.gv]),(some ge,24,[Aa 0])])∧x < w3.heap.size:=by
  intro x hx
  have hx2:x=ge:=by simpa[bl]using hx
  subst hx2
  exact⟨by simp[bl],hgel⟩
 have hsz0:=H3.size
 have hdo1:=hdo w3 (by have hy:=H3.pick [0,1,2,3,4,5] (by decide);exact hy) hwk
 refine rK (xL hgo Y Y) (by simpa using hdo1) ?_ ?_
 rintro ch wz ⟨rfl,D1,hF,m1,e1,e2,e3,e4,hok1,Hd⟩
 have hy:=(H3.Du [0,1,2,3,4,5] rfl Hd).pick [8,9,10,11,12,13,7,6] (by decide)
 have hy7:=hy.pick [0,1,2,3,4,5,6] (by decide)
 have hbx:=hy.cell (i:=7) (o:=0) rfl rfl
 have hbn:=Fa hy (i:=7) rfl (is:=[0,1,2,3,4,5,6]) (by decide)
 have hlz:=Qa.frame hl8 e4 hok1.lst hF8
 refine iM VJ (.inr ⟨Y8,Y,Y,Y⟩) ?_
 obtain⟨hx1,hx2⟩:=G4 m1 D1 W wz gb ge 0 hy7.here (by rw[e3];exact hbx) hbn
 refine⟨hx1,fun c cs hu hr=>?_⟩
 obtain⟨e,u1,w',fr,⟨r,he,hu1,HX⟩,hrest⟩:=hx2 c cs hu hr
 refine⟨e,u1,w',fr,⟨r,he,hu1,_,oS Y pZ Y (HX.cell (i:=6) (o:=0) Y Y),.inr ⟨hb6,.inr ⟨Y,D1,hF,m1,e1,e2,e3,(fH.refl _ _).trans e4 hsz0,?_,?_⟩⟩⟩,hrest⟩
 exact { hok1 with lst:=(hlz.to HX).less (fun x hx=>Hw (is:=[0,1,2,3,4,5]) HX x hx) }
 have hz:=(hy.Du [0,1,2,3,4,5,6] rfl HX).pick [8,9,10,11,12,13] (by decide)
 exact hz
 rintro r w4 ⟨D1,W1,hRes,m1,e1,e2,e3,e4,hok1,Hd⟩
 have Hold:=(H3.Du [0,1,2,3,4,5] rfl Hd).pick [8,9,10,11,12,13,6,7] (by decide)
 have hlz:=Qa.frame hl8 e4 hok1.lst hF8
 have H4:=(Hold.pick [0,1,2,3,4,5,7] (by decide)).here
 refine OE ?_
 change Run _ _ _ _ [_,_,_,_,_,_,_,_,_,_] _
 refine zN<|zK Y (fun _ _ h=>h)<|OW pZ H4 6 Y Y Y Y (by decide) Y<|fun w5 H5=>OE ?_
 change Run _ _ _ _ [_,_,_,_,_,_,_,_,_,_] _
 refine wG<|iM VJ (.inl ⟨Y,Y,Y⟩) ?_
 obtain⟨hx1,hx2⟩:=G3 gb ge w5
 refine⟨hx1,fun c cs hu hr=>?_⟩
 obtain⟨e,u1,w',fr,⟨r,he,hu1,hww⟩,hrest⟩:=hx2 c cs hu hr
 rw[hww]at hrest
 refine⟨e,u1,w5,fr,⟨r,he,hu1,_,oS Y pZ Y (H5.cell (i:=6) (o:=0) Y Y),.inr ⟨hb6,.inl ⟨Y,D1,W1,hRes,m1,e1,e2,e3,(fH.refl _ _).trans e4 hsz0,?_,?_⟩⟩⟩,hrest⟩
 exact { hok1 with lst:=(hlz.to H5).less (fun x hx=>Hw (is:=[0,1,2,3,4,5]) H5 x hx) }
 have hz:=(Hold.Du [0,1,2,3,4,5,7] rfl H5).pick [8,9,10,11,12,13] (by decide)
 exact hz
end Rn
end Go.Proofs.YtjoeklkmnfaabaaGreat
namespace Go.Proofs.YtjoeklkmnfaabaaGreat
open Go Go.RowKit
set_option linter.unusedVariables false
set_option linter.unusedSimpArgs false
attribute [local irreducible] yW Ops zP Cd
set_option maxRecDepth 100000
set_option maxHeartbeats 4000000
section
variable {W:Wl} {D:Dk} {w0 w:World} {m:Mw} {es:List Ent}
theorem half (n:Nat) (h:n≤16384):IntKind.i64.wrap (((n:Nat):Int).tdiv 2)=((n / 2:Nat):Int):=by
 rw[show(((n:Nat):Int)).tdiv 2=((n / 2:Nat):Int) from rfl]
 exact Ad _ (by omega)
def IE (D:Dk) (W:Wl) (b:Blk) (x:Int) (D':Dk) (W':Wl):Prop:=
 (16384 < b.length∧x=22∧D'=D∧W'=W)∨
 (b.length≤16384∧(W.dead || D.down)=true∧x=40∧D'=D∧W'={ W with dead:=true })∨
 (b.length≤16384∧(W.dead || D.down)=false∧D.kept.length / 2 < used W.recs+wgt b.length+16∧x=3∧D'=D∧W'=W)∨
 (b.length≤16384∧(W.dead || D.down)=false∧used W.recs+wgt b.length+16≤D.kept.length / 2∧
  ((ZG (D.kept.length - 2) W.fin (Iq b) D (La b.length)∧x=0∧D'=wP (D.kept.length - 2) W.fin (Iq b) D (La b.length)∧W'=W.took D b)∨
   (x=40∧∃ k,k < La b.length∧ZG (D.kept.length - 2) W.fin (Iq b) D k∧((wP (D.kept.length - 2) W.fin (Iq b) D k).write ((2+(W.fin+k) % (D.kept.length - 2):Nat):Int) (rJ (Iq b) k)).2≠0∧D'=wP (D.kept.length - 2) W.fin (Iq b) D (k+1)∧W'={ W with dead:=true })))
theorem S9 (h:(W.dead || D.down)=false):({ W with dead:=W.dead || D.down }:Wl)=W:=by
 rw[h];have hx:=(Bool.or_eq_false_iff.1 h).1;cases W;simp at hx;subst hx;rfl
theorem cC (h:Mc w0 m D W) (H:Hp w0 w (bl (Bf m D W)) es) (is:List Nat) (hnd:is.Nodup) (e:Bf m D W=is.map fun i=>es.getD i (none,0,[])):vV w0 w (bl (Bf m D W)) m D W:=vV.here h H rfl is hnd e rfl id
theorem Q6 (h:Mc w0 m D W) (H:Hp w0 w (bl (Bf m D W)) es) (is:List Nat) (hnd:is.Nodup) (e:Bf m D { W with dead:=true }=is.map fun i=>es.getD i (none,0,[])):vV w0 w (bl (Bf m D W)) m D { W with dead:=true }:=vV.here h H rfl is hnd e rfl (fun h=>{ h with })
theorem iN (m:Mw) (D:Dk) (W:Wl) (w0:World) (H0:Hp w0 w0 (bl (Bf m D W)) (Bf m D W)) (h:Mc w0 m D W) (fdo:FuncId) (lb:List Value) (hgo:yC Tryz.prog fdo=true) (Res:Dk→Wl→Prop) (Fail:Dk→Prop) (hdo:∀ w1,Hp w0 w1 (bl (Bf m D W)) (Bf m D W)→Mc w1 m D W→qA Tryz.prog fdo lb.toArray w1 (fun _ w2=>∃ D' W',Res D' W'∧vV w1 w2 (bl (Bf m D W)) m D' W') (fun ch w2=>ch=gV∧∃ D',Fail D'∧vV w1 w2 (bl (Bf m D W)) m D' W)):Aj 74 #[Ah m.gv,.func (.func fdo) #[] lb.toArray] w0 (fun r w'=>∃ (x:Int) (D':Dk) (W':Wl),r=Aa x∧(((W.dead || D.down)=true∧x=40∧D'=D∧W'={ W with dead:=true })∨((W.dead || D.down)=false∧((x=0∧Res D' W')∨(x=40∧Fail D'∧W'={ W with dead:=true }))))∧vV w0 w' (bl (Bf m D W)) m (D') (W')):=by
 refine(Rn.Yl m D W w0 H0 h fdo lb hgo Res Fail hdo).d (fun _ _ h=>h) |>.mono ?_
 rintro r w' (⟨h1,h2,h3⟩ | ⟨h1,⟨h2,D',W',h3,h4⟩ | ⟨h2,D',h3,h4⟩⟩)
 exact⟨40,D,_,h2,.inl ⟨h1,Y,Y,Y⟩,h3⟩
 exact⟨0,D',W',h2,.inr ⟨h1,.inl ⟨Y,h3⟩⟩,h4⟩
 exact⟨40,D',_,h2,.inr ⟨h1,.inr ⟨Y,h3,Y⟩⟩,h4⟩
theorem lP {P:Program} {ds:List Deferred} {Q:vQ} {K:List Value→World→Prop} {all os:List Oper} {l:List Value} {op:Op} {ty:TypeId} {pos:String} {af:Array Edge} {d:Tmp} {f:FuncId} {args:Array Value} {X:Int→World→Dk→Wl→Prop} {Y:Int→World→Dk→Wl→Prop}
 (hx:Ex P l op ty w (.enter f args) w) (hc:zP P f args w fun r w'=>∃ (x:Int) (D':Dk) (W':Wl),r=Aa x∧X x w' D' W'∧Y x w' D' W')
 (h:∀ w' x,(∃ D' W',X x w' D' W'∧Y x w' D' W')→Ops P ds all K Q os (l.set d (Aa x)) w'):Ops P ds all K Q (⟨some d,op,ty,pos,af,none⟩::os) l w:=
 tG hx hc fun r w' ⟨x,D',W',h1,h2,h3⟩=>by rw[h1];exact h w' x ⟨D',W',h2,h3⟩
theorem aK (m:Mw) (D:Dk) (W:Wl) (w0:World) (H0:Hp w0 w0 (bl (Bf m D W)) (Bf m D W)) (h:Mc w0 m D W) (A:Option Addr) (b:Blk) (c:Nat) (hr:Rd w0 A b.length 1 (u8s b)) (ha:0 < b.length→∀ p,A=some p→p.block∉bl (Bf m D W)) (hbl:b.length≤2^60) (hwt:D.wait.length≤1000000000):Aj 35 #[Ah m.gv,Ac A b.length c] w0 (fun r w'=>∃ x D' W',r=Aa x∧IE D W b x D' W'∧vV w0 w' (bl (Bf m D W)) m (D') (W')):=by
 refine zG Tryz.func35 Tryz.ntmps35 Y<|cR e31 ?_
 have H:=H0
 have Gx:=h.d.most
 have hsz:=h.size
 have hus:=h.used
 refine Rq<|yA Y Y H<|fun w1 g6 H1 hg6=>yA Y Y H1<|fun w2 g7 H2 hg7=>Xa Y<|Xr e31<|J1<|Rq<|OV (EL uN Y (H2.cell (i:=6) Y Y))<|Jw (yF U65 Y) (by simp)<|Xr e31<|J4 Y<|J6<|J1<|Rq<|OV (EL xO Y (H2.cell (i:=7) Y Y))<|OV (ES Gz Y)<|OT (yS Y Y) (fun hp9=>?_) (fun hp9=>?_)
 have hlong:16384 < b.length:=by omega
 refine Xr e31<|J3 Y<|Rq<|Xa Y<|Xr e31<|J5<|Cm Y Y<|⟨_,_,_,Y,.inl ⟨hlong,Y,Y,Y⟩,cC h H2 [0,1,2,3,4,5] (by decide) Y⟩
 have hb:b.length≤16384:=by omega
 refine Xr e31<|J4 Y<|J6<|J1<|Rq<|OV (EL uN Y (H2.cell (i:=6) Y Y))<|OC (EC gf72 Y) (eX m D W _ (H2.pick [0,1,2,3,4,5] (by decide)).here (h.move H2 [0,1,2,3,4,5] Y))<|fun w3 Hc=>?_
 have H3:=(H2.Du [0,1,2,3,4,5] rfl Hc).pick [8,9,10,11,12,13,6,7] (by decide)
 refine Xr e31<|wU Y (fun Xp=>?_) (fun Xp=>?_)
 rw[Xp]at H3
 refine Rq<|Xa Y<|Xr e31<|J5<|Cm Y Y<|⟨_,_,_,Y,.inr (.inl ⟨hb,Xp,Y,Y,Y⟩),Q6 h H3 [0,1,2,3,4,5] (by decide) Y⟩
 rw[S9 Xp]at H3
 refine J6<|J1<|J1<|rG [(true,0),(true,1),(true,2),(true,3),(true,4),(true,5),(true,8),(true,9),(true,10),(true,11),(false,6),(true,7),(false,12),(true,13),(true,14),(true,15)] H3 [0,3,6,7] yE (by decide) (by kernel_rfl) ?_
 rintro w4 hw4
 have H4:=Hp.drew H3;rw[← hw4]at H4
 refine zY Y<|MV (fun wz hz=>EL uN Y (hz.cell (i:=2) Y Y))<|zY Y<|MV (fun wz hz=>yJ Y)<|zY Y<|MV (fun wz hz=>EF gU Y)<|zY Y<|MV (fun wz hz=>EL ty3 Y (hz.cell (i:=1) Y Y))<|cM e31<|zY Y<|MV (fun wz hz=>EL xO Y (hz.cell (i:=3) Y Y))<|zY Y<|MV (fun wz hz=>ES Gz Y)<|zY Y<|MV (fun wz hz=>EL uN Y (hz.cell (i:=2) Y Y))<|zY Y<|MV (fun wz hz=>yJ Y)<|cM e31<|zY Y<|MV (fun wz hz=>EF pF Y)<|zY Y<|MV (fun wz hz=>EL B0 Y (hz.cell (i:=1) Y Y))<|I4 Y<|wR (EC W8 Y) (iB b.length _ (by omega))<|OE<|⟨H4.pick [0,3,6,7] (by decide),?_⟩
 refine cM e31<|zY Y<|MV (fun wz hz=>zL Y Y (Ad _ (by have:=BS hb;omega)))<|I4 Y<|wR (EC XA Y) (GN m.gd D.kept.length _ _ _ (H4.cell (i:=0) Y Y))<|OE<|⟨H4.pick [0,3,6,7] (by decide),?_⟩
 refine cM e31<|zY Y<|MV (fun wz hz=>aA Y Y (by omega) (half _ Gx))<|zY Y<|MV (fun wz hz=>tA Y Y (Ad _ (by omega)))<|zY Y<|vS (fun wz hz=>yS Y Y) (fun hp27=>?_) (fun hp27=>?_)
 have hfull:D.kept.length / 2 < used W.recs+wgt b.length+16:=by omega
 refine tS<|cR e31<|J3 Y<|Rq<|Xa Y<|Xr e31<|J5<|Cm Y Y<|⟨_,_,_,Y,.inr (.inr (.inl ⟨hb,Xp,hfull,Y,Y,Y⟩)),cC h H4 [0,1,2,3,4,5] (by decide) Y⟩
 have hroom:used W.recs+wgt b.length+16≤D.kept.length / 2:=by omega
 refine tS<|cR e31<|J4 Y<|J6<|Rq<|OV (EL uN Y (H4.cell (i:=6) Y Y))<|OV (wL Y Y) ?_
 have hge:=BZ W.recs
 have hwb:2≤wgt b.length:=by unfold wgt;omega
 have hwk:Mc w4 m D W:=h.move H4 [0,1,2,3,4,5] rfl
 have H6:Hp w0 w4 _ (Bf m D W):=H4.pick [0,1,2,3,4,5] (by decide)
 have hc6:=H4.cell (i:=6) (o:=0) rfl rfl
 have hc7:=H4.cell (i:=7) (o:=0) rfl rfl
 have hn6:g6∉bl (Bf m D W):=Fa H4 (i:=6) rfl (is:=[0,1,2,3,4,5]) (by decide)
 have hn7:g7∉bl (Bf m D W):=Fa H4 (i:=7) rfl (is:=[0,1,2,3,4,5]) (by decide)
 have hg:=iN m D W w4 H6.here hwk 75 [Ah g7,Ah g6] gf75
  (fun D' W'=>ZG (D.kept.length - 2) W.fin (Iq b) D (La b.length)∧D'=wP (D.kept.length - 2) W.fin (Iq b) D (La b.length)∧W'=W.took D b)
  (fun D'=>∃ k,k < La b.length∧ZG (D.kept.length - 2) W.fin (Iq b) D k∧((wP (D.kept.length - 2) W.fin (Iq b) D k).write ((2+(W.fin+k) % (D.kept.length - 2):Nat):Int) (rJ (Iq b) k)).2≠0∧D'=wP (D.kept.length - 2) W.fin (Iq b) D (k+1))
  (fun w1 Hw1 hw1=>by
   have hx:=Rn.VT m D W w1 Hw1.here hw1 g7 g6 A b c (xP hc7 Hw1 hn7) hn7 (xP hc6 Hw1 hn6) hn6 (Rd.fcw (Rd.fcw hr H6 ha) Hw1 ha) ha hb (by omega) (by omega) hwt
   exact hx.mono (fun _ w2 hy=>⟨_,_,⟨hy.1,rfl,rfl⟩,hy.2⟩) (fun ch w2 hy=>by obtain⟨h1,k,h2,h3,h4,h5⟩:=hy;exact⟨h1,_,⟨k,h2,h3,h4,rfl⟩,h5⟩))
 refine lP (EC W7 Y) hg ?_
 rintro w5 x ⟨D',W',hcase,hpost⟩
 refine Xa Y<|Xr e31<|J5<|Cm Y Y ?_
 have hP:vV w0 w5 _ m D' W':=vV.of H6 [0,1,2,3,4,5] rfl hpost
 refine⟨x,D',W',Y,?_,hP⟩
 rcases hcase with ⟨h1,_⟩ | ⟨h1,⟨rfl,h2,h3,h4⟩ | ⟨rfl,⟨k,h2,h3,h4,h5⟩,h6⟩⟩
 rw[Xp]at h1;cases h1
 exact .inr (.inr (.inr ⟨hb,Xp,hroom,.inl ⟨h2,Y,h3,h4⟩⟩))
 exact .inr (.inr (.inr ⟨hb,Xp,hroom,.inr ⟨Y,k,h2,h3,h4,h5,h6⟩⟩))
end
section
def be8 (v:Nat):Blk:=(List.range 8).map fun i=>UInt8.ofNat (v / 2^(56 - 8*i) % 256)
variable {v i x:Nat} {cs:List Value}
theorem wZ (v:Nat):(be8 v).length=8:=by simp[be8]
theorem Q0 (h:i < 8):u8s ((be8 v).take (i+1))=u8s ((be8 v).take i)++[.int .u8 ((v / 2^(56 - 8*i) % 256:Nat):Int)]:=by
 have hl:i < (be8 v).length:=by rw[wZ];exact h
 rw[Jo,Cb hl,vH]
 congr 1
 show[Value.int .u8 ((be8 v)[i].toNat:Int)]=_
 simp only[be8,List.getElem_map,List.getElem_range]
 rw[u8n (Hq _ (by decide))]
theorem O4 {off:Nat} (h:i < 8) (hf:off+8≤cs.length):(zJ cs off (u8s ((be8 v).take i))).set (off+i) (.int .u8 ((v / 2^(56 - 8*i) % 256:Nat):Int))=zJ cs off (u8s ((be8 v).take (i+1))):=by
 have hl:(u8s ((be8 v).take i)).length=i:=by rw[zZ,Aw,wZ];omega
 have h1:(cs.take off).length=off:=by rw[Aw];omega
 rw[Q0 h]
 unfold zJ
 rw[Ae,hl]
 simp only[Bj,Dq]
 rw[List.set_append_right _ _ (by rw[Ae,h1,hl];exact Ak _),Ae,h1,hl,Lh]
 obtain⟨x,r,hx⟩:∃ x r,cs.drop (off+i)=x::r:=by
  have:off+i < cs.length:=by omega
  exact⟨cs[off+i],cs.drop (off+i+1),Ol this⟩
 have hr:cs.drop (off+(i+(0+1)))=r:=by
  rw[show off+(i+(0+1))=(off+i)+1 by omega,← Fq,hx];rfl
 rw[hx,hr,List.set_cons_zero]
 simp
def rdB (b:Blk):Nat:=b.foldl (fun v c=>v*256+c.toNat) 0
def rd8 (b:Blk):Nat:=rdB (b.take 8)
theorem DZ (l:Blk) (c:UInt8):rdB (l++[c])=rdB l*256+c.toNat:=by simp[rdB]
theorem NQ :∀ (l:Blk) (a m:Nat),a < 256^m→l.foldl (fun v c=>v*256+c.toNat) a < 256^(m+l.length)
 | [],a,m,h=>h
 | c::l,a,m,h=>by
  have h2:=c.toNat_lt
  have h3:(a+1)*256≤256^m*256:=Dp _ h
  have:=NQ l (a*256+c.toNat) (m+1) (by rw[Nat.pow_succ];omega)
  rw[show m+(c::l).length=m+1+l.length by simp;omega]
  exact this
theorem V6 (l:Blk) (n:Nat) (h:l.length≤n):rdB l < 256^n:=by
 have:=NQ l 0 0 (by decide)
 rw[Ba]at this
 exact Nat.lt_of_lt_of_le this (Nat.pow_le_pow_right (by decide) h)
theorem kX (h:v < 2^64) (r:Blk):rd8 (be8 v++r)=v:=by
 have e:(be8 v++r).take 8=be8 v:=Ii (wZ v)
 unfold rd8
 rw[e]
 have u:∀ k:Nat,(UInt8.ofNat (k % 256)).toNat=k % 256:=fun k=>u8n (Hq _ (by decide))
 simp only[be8,rdB,List.range_succ,List.range_zero,Gp,Je,List.map_nil,Jf,List.foldl_cons,List.foldl_nil,u]
 omega
theorem shl8 (h:x < 2^56):IntKind.u64.wrap ((x:Int)*2^(min (8:Int).toNat IntKind.u64.bits))=((x*256:Nat):Int):=by
 rw[show((x:Int)*2^(min (8:Int).toNat IntKind.u64.bits))=((x*256:Nat):Int) by show(x:Int)*256=_;omega]
 exact Ey _ (by omega)
theorem or8 {c:Nat} (h:x < 2^56) (hc:c < 256):bits .or .u64 ((x*256:Nat):Int) (c:Int)=((x*256+c:Nat):Int):=by
 rw[cA rfl _ _ (by show _ < 2^64;omega) (by show _ < 2^64;omega)]
 congr 1
 have:=Nat.two_pow_add_eq_or_of_lt (i:=8) (b:=c) hc x
 rw[show x*256=2^8*x by omega]
 exact this.symm
theorem pD (gb off len cap v:Nat) (cs:List Value) (w0:World) (H0:Hp w0 w0 [gb] [(some gb,5,cs)]) (hl:8≤len) (hf:off+8≤cs.length) (hv:v < 2^64):Aj 124 #[Ac (some ⟨gb,off,none⟩) len cap,.int .u64 (v:Int)] w0 (fun _ w'=>Hp w0 w' [gb] [(some gb,5,zJ cs off (u8s (be8 v)))]):=by
 refine zG Tryz.func124 Tryz.ntmps124 Y<|cR e18 ?_
 have H:=H0
 refine Rq<|Xm Y<|Xr e18<|J7<|zV (fun nQ lQ w=>∃ (i:Nat) (y:Int),8 - i=nQ∧xM (Hy [(0,Ac (some ⟨gb,off,none⟩) len cap),(1,.int .u64 (v:Int)),(5,Aa y)] 0 18) lQ∧y=i∧i≤8∧Hp w0 w [gb] [(some gb,5,zJ cs off (u8s ((be8 v).take i)))]) (8) ?_ ?_
 refine⟨0,_,Y,(Uh Y Y Y Y),Y,Am _,?_⟩
 have e:zJ cs off (u8s ((be8 v).take 0))=cs:=by simp[zJ,u8s]
 rw[e];exact H
 rintro nQ lQ w1 ⟨i,y,rfl,hfit,rfl,hi,H1⟩
 obtain⟨j,rfl⟩:=hfit.open
 refine cR e18 ?_
 clear hfit
 refine Rq<|OT (zQ Y Y) (fun hp6=>?_) (fun hp6=>?_)
 have hil:i < 8:=by omega
 refine Xr e18<|J1<|J3 Y<|J6<|J1<|J7<|Rq<|Xm Y<|Xa Y<|Xr e18<|J2<|Xm Y<|Xm Y<|Xm Y<|Xm Y<|Ag e18<|OV (aB Y Y (Ad _ (by omega)))<|OV (tA Y Y (Ad _ (by omega)))<|OV (pW Y Y (by omega) ((show _=((v / 2^(56 - 8*i):Nat):Int) from by have hz:=qZ v (56 - 8*i) 64;rw[show((56:Int) - 8*(i:Int))=((56 - 8*i:Nat):Int) by omega];rw[show min (56 - 8*i) 64=56 - 8*i by omega]at hz;exact hz)))<|OV (xN Tryz.underlying5 Lu Y (u8w (v / 2^(56 - 8*i))))<|Ag e18<|OV (EI Gz ty5 Y Y Y (by omega) (Cc _)) ?_
 rw[Lm]
 refine OW ty5 H1 0 Y Y Y Y (by simp[zJ,zZ,wZ];omega) Y<|fun w2 H2=>?_
 change Hp _ _ _ [_]at H2
 rw[O4 hil hf]at H2
 refine Xr e18<|zA (zB ?_)
 refine J2<|OV (zL Y Y (Ad _ (by omega)))<|Xm Y<|Xr e18<|zA (zH ?_)
 exact⟨8 - (i+1),by omega,i+1,_,Y,(Uh Y Y Y Y),Y,by omega,H2⟩
 have hi8:i=8:=by omega
 subst hi8
 refine Xr e18<|J1<|J4 Y<|J8<|zU<|zS<|zA<|yQ Y ?_
 have e:(be8 v).take 8=be8 v:=Ej (by rw[wZ];exact Ak _)
 rw[e]at H1
 exact H1
theorem lH (A:Option Addr) (b:Blk) (nn c:Nat) (w0:World) (hr:Rd w0 A nn 1 (u8s b)) (hb:nn=b.length) (h8:8≤nn) (hc:nn≤c):Aj 102 #[Ac A nn c] w0 (fun r w'=>r=.int .u64 (rd8 b:Int)∧w'=w0):=by
 refine zG Tryz.func102 Tryz.ntmps102 Y<|cR e20 ?_
 have H:=Hp.refl w0
 refine Rq<|Xa Y<|Xr e20<|Rq<|Xa Y<|Xr e20<|J1<|Rq<|Xm Y<|OV (nS Gz ty5 Y Y ((by omega)))<|OV (ES Gz Y)<|Xm Y<|Xr e20<|J7<|zV (fun nQ lQ w=>∃ (i:Nat) (x y:Int),8 - i=nQ∧xM (Hy [(0,Ac A nn c),(3,.int .u64 x),(7,Ac A 8 c),(8,Aa 8),(9,Aa y)] 0 20) lQ∧x=(rdB (b.take i):Int)∧y=i∧i≤8∧w=w0) (8) ?_ ?_
 exact⟨0,_,_,Y,(Oc Y Y Y Y Y Y),Y,Y,Am _,Y⟩
 rintro nQ lQ w1 ⟨i,x,y,rfl,hfit,rfl,rfl,hi,rfl⟩
 obtain⟨j,rfl⟩:=hfit.open
 refine cR e20 ?_
 clear hfit
 refine Rq<|OT (zQ Y Y) (fun hp10=>?_) (fun hp10=>?_)
 obtain⟨a,rfl⟩:=hr.some_ (by omega)
 have hib:i < b.length:=by omega
 have hc2:=b[i].toNat_lt
 have hx7:rdB (b.take i) < 2^56:=by have:=V6 (b.take i) 7 (by simp;omega);simpa using this
 refine Xr e20<|J1<|J3 Y<|J6<|J1<|J7<|Rq<|OV (EI Gz ty5 Y Y Y (by omega) (Cc _))<|OV (EL ty5 Y (hr.cells a Y i (.int .u8 (b[i].toNat:Int)) (kL hib)))<|Xa Y<|Xr e20<|J2<|Xm Y<|OV (kB Y Y (by omega) (shl8 hx7))<|Xm Y<|OV (xN Lu Tryz.underlying5 Y (Ey _ (by omega)))<|Ag e20<|OV (dC Y Y (or8 hx7 hc2))<|Xa Y<|Xr e20<|zA (zB ?_)
 refine J2<|OV (zL Y Y (Ad _ (by omega)))<|Xm Y<|Xr e20<|zA (zH ?_)
 exact⟨8 - (i+1),by omega,i+1,_,_,Y,(Oc Y Y Y Y Y Y),by rw[Jo,Cb hib];exact congrArg _ (DZ _ _).symm,Y,by omega,Y⟩
 have hi8:i=8:=by omega
 subst hi8
 refine Xr e20<|J1<|J4 Y<|J8<|zU<|zS<|Rq<|Xm Y<|Xa Y<|Xr e20<|J5<|Cm Y Y<|⟨Y,Y⟩
def pU (b:Blk):List Value:=[.int .u64 (rd8 b:Int),.int .i64 (IntKind.i64.wrap (rd8 (b.drop 8):Int)),.int .i64 (IntKind.i64.wrap (rd8 (b.drop 16):Int)),.int .i64 (IntKind.i64.wrap (rd8 (b.drop 24):Int))]
theorem pl122 :wY Tryz.prog 122=some [(0,1),(1,1),(2,1),(3,1)]:=by kernel_rfl
theorem results_cell_tmp {P:Program} {fn:Func} {l:List Value} {w:World} {r1 r2:Tmp} {ty:TypeId} {zs:List Value} {sz bytes:Nat} {p:Addr} {v2:Value} (hr:fn.results=#[.cell r1 ty,.tmp r2]) (ht:xU P ty zs sz bytes true) (h1:nth l r1=some (.pointer (some p))) (h2:nth l r2=some v2) (hl:cs.length=sz) (hc:∀ j u,cs[j]? =some u→w.cell? (p.add j)=some u):(results fn l.toArray).run P w=.ok (.tuple #[.agg cs.toArray,v2]) w:=by
 have hl2:=pA (P:=P) (w:=w) ht hl hc
 rw[pP]at h1 h2
 simp[results,hr,h1,h2,asAddr,hl2]
theorem CA (A:Option Addr) (b:Blk) (c:Nat) (w0:World) (hr:Rd w0 A b.length 1 (u8s b)) (h64:b.length=64) (hc:b.length≤c):Aj 58 #[Ac A b.length c] w0 (fun r w'=>r=.tuple #[.agg (pU b).toArray,.bool (decide (rd8 b=rd8 (b.drop 56)))]∧Hp w0 w' [] []):=by
 refine zG Tryz.func58 Tryz.ntmps58 Y<|cR e27 ?_
 have H:=Hp.refl w0
 refine Rq<|OA pL H<|fun w1 g1 H1 hg1=>Xa Y<|Xr e27<|J1<|zR 16 [(true,0),(true,1),(true,2),(true,3),(true,4),(true,5),(true,6),(true,7),(true,8),(true,9),(true,10),(true,11),(true,12),(true,13),(true,14),(false,15),(false,16)] H1 [] yE (by decide) (by kernel_rfl) ?_
 rintro w2 hw2
 have H2:=Hp.drew H1;rw[← hw2]at H2
 refine Zm Y Y<|MP Y<|qI (fun wz hz=>EC FF Y) (fun wz hz=>lH A b b.length c wz (hr.to0 hz) Y (by omega) hc)<|Zm Y Y<|MP Y<|MV (fun wz hz=>vD Gz ty5 Y Y ((by omega)))<|cZ e27<|MP Y<|qI (fun wz hz=>EC FF Y) (fun wz hz=>lH (wH A 8 c 1) (b.drop 8) (b.length - 8) (c - 8) wz (Rd.Y0 (hr.to0 hz) (by omega) hc) (by simp) (by omega) (by omega))<|MP Y<|MV (fun wz hz=>xN Tryz.underlying3 Lu Y (Y))<|Zm Y Y<|MP Y<|MV (fun wz hz=>vD Gz ty5 Y Y ((by omega)))<|cZ e27<|MP Y<|qI (fun wz hz=>EC FF Y) (fun wz hz=>lH (wH A 16 c 1) (b.drop 16) (b.length - 16) (c - 16) wz (Rd.Y0 (hr.to0 hz) (by omega) hc) (by simp) (by omega) (by omega))<|MP Y<|MV (fun wz hz=>xN Tryz.underlying3 Lu Y (Y))<|Zm Y Y<|MP Y<|MV (fun wz hz=>vD Gz ty5 Y Y ((by omega)))<|cZ e27<|MP Y<|qI (fun wz hz=>EC FF Y) (fun wz hz=>lH (wH A 24 c 1) (b.drop 24) (b.length - 24) (c - 24) wz (Rd.Y0 (hr.to0 hz) (by omega) hc) (by simp) (by omega) (by omega))<|MP Y<|MV (fun wz hz=>xN Tryz.underlying3 Lu Y (Y))<|MP Y<|MV (fun wz hz=>EB pL pl122 Y Y)<|MO Y<|OA pL H2<|fun w3 g3 H3 hg3=>OE<|⟨fun hne=>H3.pick [] (by decide),?_⟩
 refine cZ e27<|MO Y<|OS pL H3 1 (vs:=pU b) Y Y Y Y Y (Ak _) Y<|fun w4 H4=>?_
 change Hp _ _ _ [_,(some _,_,pU b)]at H4
 refine OE ?_
 refine⟨fun hne=>absurd Y hne,?_⟩
 refine cZ e27<|ME<|cR e27<|J1<|rG [(true,0),(true,1),(true,2),(true,3),(true,4),(true,5),(true,6),(false,7),(true,8)] H4 [1] yE (by decide) (by kernel_rfl) ?_
 rintro w5 hw5
 have H5:=Hp.drew H4;rw[← hw5]at H5
 refine zY Y<|MV (fun wz hz=>EN pL Y (vs:=pU b) Y (sO hz (i:=0) (o:=0) Y (fun j u hu=>by rw[Ba];exact hu)))<|zY Y<|MV (fun wz hz=>EF dV Y)<|zY Y<|MV (fun wz hz=>EL nG Y (hz.cell (i:=0) Y Y))<|zY Y<|MV (fun wz hz=>zI Y)<|cM e27<|zY Y<|MV (fun wz hz=>vD Gz ty5 Y Y ((by omega)))<|zY Y<|qI (fun wz hz=>EC FF Y) (fun wz hz=>lH (wH A 56 c 1) (b.drop 56) (b.length - 56) (c - 56) wz (Rd.Y0 (hr.to0 hz) (by omega) hc) (by simp) (by omega) (by omega))<|zY Y<|MV (fun wz hz=>xR Y Y)<|I4 Y<|OS pL H5 0 (vs:=pU b) Y Y Y Y Y (Ak _) Y<|fun w6 H6=>?_
 change Hp _ _ _ [(some _,_,pU b),_]at H6
 refine OE ?_
 refine⟨H6.pick [1] (by decide),?_⟩
 refine cM e27<|zY Y<|MV (fun wz hz=>zO Y)<|tS<|cR e27<|J5<|⟨_,results_cell_tmp Y pL Y Y (cs:=pU b) Y (sO H6 (i:=0) (o:=0) Y (fun j u hu=>by rw[Ba];exact hu)),by rw[decide_eq_decide.2 (show((rd8 b:Int)=(rd8 (b.drop 56):Int))↔rd8 b=rd8 (b.drop 56) by omega)],H6.pick [] (by decide)⟩
end
section
def hdr (t f n s:Nat):Blk:=be8 t++be8 f++be8 n++be8 s++List.replicate 24 0++be8 t
variable {k:Nat} {xs:List Value}
theorem jH (t f n s:Nat):(hdr t f n s).length=64:=by simp[hdr,wZ]
theorem LQ (t f n s:Nat):zJ (zJ (zJ (zJ (zJ (List.replicate 64 (Value.int .u8 0)) 0 (u8s (be8 t))) 8 (u8s (be8 f))) 16 (u8s (be8 n))) 24 (u8s (be8 s))) 56 (u8s (be8 t))=u8s (hdr t f n s):=by rfl
def Wl.start (W:Wl) (gone:Nat):Nat:=W.places.getD gone W.fin
def Wl.head (W:Wl) (gone:Nat):Blk:=hdr (W.turn+1) (W.first+gone) (W.first+W.recs.length) (W.start gone)
def tE (D:Dk) (W:Wl) (gone:Nat):Dk×Nat:=D.write (((W.turn+1) % 2:Nat):Int) (W.head gone)
def Wl.tell (W:Wl) (gone:Nat):Wl:={ W with turn:=W.turn+1,first:=W.first+gone,recs:=W.recs.drop gone,places:=W.places.drop gone,told:=(W.recs.drop gone).length }
def KF (D:Dk) (W:Wl) (gone:Nat) (D':Dk):Prop:=((tE D W gone).2≠0∧D'=(tE D W gone).1)∨((tE D W gone).2=0∧(tE D W gone).1.sync.2≠0∧D'=(tE D W gone).1.sync.1)
def RA (D:Dk) (W:Wl) (gone:Nat) (D':Dk):Prop:=(tE D W gone).2=0∧(tE D W gone).1.sync.2=0∧D'=(tE D W gone).1.sync.1
theorem KR {rs:List Blk} (h:k < rs.length):used (rs.take (k+1))=used (rs.take k)+wgt rs[k].length:=by
 rw[Jo,Cb h,uI]
 show _+used [rs[k]]=_
 rw[iY]
theorem dF (A:Option Addr) (nn c:Nat) (xs:List Value) (w0:World) (hr:Rd w0 A nn 1 xs) (h1:xs.all (·.oneCell')=true) (hb:nn≤2^40):Aj 61 #[Ac A nn c] w0 (fun r w'=>∃ g cap sp,r=Ac (hd g) nn cap∧nn≤cap∧cap≤(xs++sp).length∧(g=none→cap=0)∧Hp w0 w' [] [(g,73,xs++sp)]):=by
 refine zG Tryz.func61 Tryz.ntmps61 Y<|cR e8 ?_
 have H:=Hp.refl w0
 refine Rq<|Xa Y<|Xr e8<|J1<|Rq<|Xm Y<|OT (vC Ve Y) (fun hp4=>?_) (fun hp4=>?_)
 refine Xr e8<|J3 Y<|Rq<|Xa Y<|Xr e8<|J5<|Cm Y Y ?_
 have hb0:xs=[]:=Ee (by rw[hr.len,hr.nil hp4])
 have hn0:=hr.nil hp4
 subst hb0 hn0
 exact⟨none,0,[],Y,Ak _,by simp,fun _=>Y,by have:=H.nil 73;exact this⟩
 refine Xr e8<|J4 Y<|J6<|Rq<|zE Ve xO H Y (by decide) Y<|fun w1 g1 H1 hg1=>Xm Y<|xC Ve xO (by decide) H1 0 (g:=some g1) (xs:=[]) (sp:=[]) Y Y Y (by decide) (by decide) (by simp) Y (hr.to0 H1) h1 (by omega) (by omega) (by decide)<|fun w2 g3 cap3 sp3 H2 hcap3 hmc3 hg3=>Xa Y<|Xr e8<|J5<|Cm Y Y ?_
 rw[Ba]at hmc3 ⊢
 refine⟨g3,cap3,sp3,Y,hmc3,?_,hg3,?_⟩
 rw[Cc]at hcap3;simpa using hcap3
 have hz:=H2.pick [0] (by decide)
 simpa using hz
theorem IA (A:Option Addr) (nn c:Nat) (xs:List Value) (w0:World) (hr:Rd w0 A nn 1 xs) (h1:xs.all (·.oneCell')=true) (hb:nn≤2^40):Aj 125 #[Ac A nn c] w0 (fun r w'=>∃ g cap sp,r=Ac (hd g) nn cap∧nn≤cap∧cap≤(xs++sp).length∧(g=none→cap=0)∧Hp w0 w' [] [(g,3,xs++sp)]):=by
 refine zG Tryz.func125 Tryz.ntmps125 Y<|cR e8 ?_
 have H:=Hp.refl w0
 refine Rq<|Xa Y<|Xr e8<|J1<|Rq<|Xm Y<|OT (vC Yw Y) (fun hp4=>?_) (fun hp4=>?_)
 refine Xr e8<|J3 Y<|Rq<|Xa Y<|Xr e8<|J5<|Cm Y Y ?_
 have hb0:xs=[]:=Ee (by rw[hr.len,hr.nil hp4])
 have hn0:=hr.nil hp4
 subst hb0 hn0
 exact⟨none,0,[],Y,Ak _,by simp,fun _=>Y,by have:=H.nil 3;exact this⟩
 refine Xr e8<|J4 Y<|J6<|Rq<|zE Yw ty3 H Y (by decide) Y<|fun w1 g1 H1 hg1=>Xm Y<|xC Yw ty3 (by decide) H1 0 (g:=some g1) (xs:=[]) (sp:=[]) Y Y Y (by decide) (by decide) (by simp) Y (hr.to0 H1) h1 (by omega) (by omega) (by decide)<|fun w2 g3 cap3 sp3 H2 hcap3 hmc3 hg3=>Xa Y<|Xr e8<|J5<|Cm Y Y ?_
 rw[Ba]at hmc3 ⊢
 refine⟨g3,cap3,sp3,Y,hmc3,?_,hg3,?_⟩
 rw[Cc]at hcap3;simpa using hcap3
 have hz:=H2.pick [0] (by decide)
 simpa using hz
theorem gJ (gv first nn c:Nat) (A:Option Addr) (w0:World) (h3:w0.cell? ⟨gv,3,none⟩=some (Aa (first:Int))) (h4:w0.cell? ⟨gv,4,none⟩=some (Ac A nn c)) (hb:first+nn≤2^62):Aj 39 #[Ah gv] w0 (fun r w'=>r=Aa ((first+nn:Nat):Int)∧Hp w0 w' [] []):=by
 refine zG Tryz.func39 Tryz.ntmps39 Y<|cR e15 ?_
 have H:=Hp.refl w0
 refine Rq<|Xa Y<|Xr e15<|J1<|Rq<|Xm Y<|Jw (yF U65 Y) (by simp)<|Xr e15<|J4 Y<|J6<|J1<|rG [(true,0),(true,1),(true,2),(true,3),(true,4),(true,5),(true,6),(true,7),(true,8),(true,9),(true,10)] H [] yE (by decide) (by kernel_rfl) ?_
 rintro w1 hw1
 have H1:=Hp.drew H;rw[← hw1]at H1
 refine zY Y<|MV (fun wz hz=>zI Y)<|zY Y<|MV (fun wz hz=>yJ Y)<|zY Y<|MV (fun wz hz=>EF qM Y)<|zY Y<|MV (fun wz hz=>EL ty3 Y (xP h3 hz (by simp)))<|cM e15<|zY Y<|MV (fun wz hz=>zI Y)<|zY Y<|MV (fun wz hz=>yJ Y)<|zY Y<|MV (fun wz hz=>EF sU Y)<|zY Y<|MV (fun wz hz=>EL fO Y (xP h4 hz (by simp)))<|cM e15<|zY Y<|MV (fun wz hz=>ES Ve Y)<|zY Y<|MV (fun wz hz=>zL Y Y ((Ad _ (by omega)).trans (show((first:Int)+(nn:Int))=((first+nn:Nat):Int) by omega)))<|zY Y<|MV (fun wz hz=>zO Y)<|tS<|cR e15<|J5<|Cm Y Y<|⟨Y,H1⟩
theorem NP {w:World} {A:Option Addr} {nn c:Nat} (h:Rd w A nn 1 xs) (hk:k≤nn) (hc:nn≤c):Rd w (wH A k c 1) (nn - k) 1 (xs.drop k):=by
 have h2:=h.cut k nn c hk (Ak _) hc
 rw[Cc,Cc,Ej (by rw[Bl,h.len];omega)]at h2
 unfold wH
 rw[Cc]
 exact h2
theorem F6 (h:xs.all (·.oneCell')=true) (k:Nat):(xs.drop k).all (·.oneCell')=true:=by
 rw[Et]at h ⊢
 exact fun v hv=>h v (Es hv)
theorem DP (m:Mw) (D:Dk) (W:Wl) (w0:World) (H0:Hp w0 w0 (bl (Bf m D W)) (Bf m D W)) (h:Mc w0 m D W) (gone:Nat) (Xg:gone≤W.recs.length) (hwt:D.wait.length≤1000000000) (hfl:W.first≤2^50) (htl:W.turn≤2^50):qA Tryz.prog 82 #[Ah m.gv,Aa (gone:Int)] w0 (fun _ w'=>RA D W gone (tE D W gone).1.sync.1∧vV w0 w' (bl (Bf m D W)) m ((tE D W gone).1.sync.1) (W.tell gone)) (fun ch w'=>ch=gV∧∃ D',KF D W gone D'∧vV w0 w' (bl (Bf m D W)) m (D') (W)):=by
 refine fB Tryz.func82 Tryz.ntmps82 Y<|cR Fp ?_
 have H:=H0
 obtain⟨hD,Ls,hrc,hrs,hrn,hpl,hpc,hps,hpn,Gx,hlong,hsize,hfin,Us,hfirst,hturn,Uc,htold⟩:=id h
 have hkept:=hD.most
 refine Rq<|Xm Y<|Xc Y<|Xf CX Y<|OV (EL nG Y (H.cell (i:=3) Y Y))<|Ag Fp<|OV (zL Y Y ((Ey _ (by omega)).trans (show((W.turn:Int)+1)=((W.turn+1:Nat):Int) by omega)))<|Xa Y<|Xr Fp<|Rq<|N4 Gz ty5 H Y Y (n:=64) (c:=64) (Ak _) (by decide) (by decide)<|fun w1 gb H1 hgb=>Xa Y<|Xr Fp<|Rq<|Xm Y<|Xc Y<|Xf oI Y<|OV (EL ty3 Y (H1.cell (i:=3) Y Y))<|Ag Fp<|Xa Y<|Xr Fp<|J1<|Rq<|Xm Y<|Xm Y<|Xc Y<|Xf jK Y<|Ag Fp<|OV (EL KU Y (H1.cell (i:=3) Y Y))<|OV (ES Yw Y)<|OT (zQ Y Y) (fun hp25=>?_) (fun hp25=>?_)
 have hgl:gone < W.places.length:=by omega
 obtain⟨gpp,hgpp⟩:∃ x,m.gp=some x:=by
  cases hx:m.gp with
  | none=>have:=hpn hx;omega
  | some x=>exact⟨x,rfl⟩
 have hst:W.start gone=W.places[gone]:=by unfold Wl.start;rw[Ea,Cb hgl];rfl
 have hplg:=Us _ (Jm hgl)
 refine Xr Fp<|J3 Y<|J2<|Xm Y<|Xc Y<|Xf jK Y<|OV (EL KU Y (H1.cell (i:=3) Y Y))<|Ag Fp<|Xm Y<|OV (EI Yw ty3 (a:=⟨gpp,0,none⟩) (congrArg (fun A=>some (Ac A W.places.length m.cp)) (show hd m.gp=some ⟨gpp,0,none⟩ by rw[hgpp];rfl)) Y Y hgl (Cc _)) ?_
 rw[eR]
 refine OV (EL ty3 Y (H1.cell (i:=5) (g:=gpp) (T:=3) (cs:=pE W.places++m.sq) (o:=gone) (by rw[← hgpp];rfl) (by rw[Di (by rw[bP];exact hgl)];exact PD hgl))) ?_
 refine Xa Y<|Xr Fp<|Rq<|Xm Y<|Xm Y<|OQ (EC gP Y) (pD gb 0 64 64 (W.turn+1) _ _ (H1.pick [6] (by decide)).here (by decide) (by simp) (by omega)) ?_
 rintro r w2 Hc
 have H2:=(H1.Du [6] rfl Hc).pick [0,1,2,3,4,5,7] (by decide)
 refine Xr Fp<|J1<|zR 9 [(true,0),(true,1),(true,2),(true,3),(true,4),(true,5),(true,6),(true,7),(true,8),(false,9)] H2 [3] yE (by decide) (by kernel_rfl) ?_
 rintro w3 hw3
 have H3:=Hp.drew H2;rw[← hw3]at H3
 refine Zm Y Y<|MP Y<|MV (fun wz hz=>vD Gz ty5 Y Y ((by omega)))<|Zm Y Y<|Zc Y Y<|cZ Fp<|Zf Y qM Y<|MP Y<|MV (fun wz hz=>EL ty3 Y (hz.cell (i:=0) Y Y))<|Zm Y Y<|MP Y<|MV (fun wz hz=>zL Y Y ((Ad _ (by omega)).trans (show((W.first:Int)+(gone:Int))=((W.first+gone:Nat):Int) by omega)))<|cZ Fp<|MP Y<|MV (fun wz hz=>xN Lu Tryz.underlying3 Y (Ey _ (by omega)))<|MO Y<|OQ (EC gP Y) (pD gb 8 56 56 (W.first+gone) _ _ (H3.pick [6] (by decide)).here (by decide) (by simp[zJ,zZ,wZ]) (by omega)) ?_
 rintro r w4 Hc
 have H4:=(H3.Du [6] rfl Hc).pick [0,1,2,3,4,5,7] (by decide)
 refine OE ?_
 refine⟨fun hne=>absurd Y hne,?_⟩
 refine cZ Fp<|ME<|cR Fp<|J1<|zR 5 [(true,0),(true,1),(true,2),(false,3),(true,4),(false,5)] H4 [3] yE (by decide) (by kernel_rfl) ?_
 rintro w5 hw5
 have H5:=Hp.drew H4;rw[← hw5]at H5
 refine Zm Y Y<|MP Y<|MV (fun wz hz=>vD Gz ty5 Y Y ((by omega)))<|Zm Y Y<|MO Y<|OC (EC TT Y) (gJ m.gv W.first W.recs.length m.cr (hd m.gr) _ (H5.cell (i:=3) Y Y) (H5.cell (i:=3) Y Y) (by omega))<|fun w6 Hc=>?_
 have H6:=(H5.call0 Hc).pick [0,1,2,3,4,5,6] (by decide)
 refine OE ?_
 refine⟨fun hne=>H6.pick [3] (by decide),?_⟩
 refine cZ Fp<|MP Y<|MV (fun wz hz=>xN Lu Tryz.underlying3 Y (Ey _ (by omega)))<|MO Y<|OQ (EC gP Y) (pD gb 16 48 48 (W.first+W.recs.length) _ _ (H6.pick [6] (by decide)).here (by decide) (by simp[zJ,zZ,wZ]) (by omega)) ?_
 rintro r w7 Hc
 have H7:=(H6.Du [6] rfl Hc).pick [0,1,2,3,4,5,7] (by decide)
 refine OE ?_
 refine⟨fun hne=>absurd Y hne,?_⟩
 refine cZ Fp<|ME<|cR Fp<|Rq<|Xm Y<|OV (vD Gz ty5 Y Y ((by omega)))<|Xm Y<|OV (xN Lu Tryz.underlying3 Y (Ey _ (by omega)))<|Ag Fp<|OQ (EC gP Y) (pD gb 24 40 40 (W.places[gone]) _ _ (H7.pick [6] (by decide)).here (by decide) (by simp[zJ,zZ,wZ]) (by omega)) ?_
 have m1:=()
 rotate_left 1
 have hst:W.start gone=W.fin:=by unfold Wl.start;rw[Ea,Lj (by omega)];rfl
 refine Xr Fp<|J4 Y<|J6<|Rq<|Xm Y<|Xm Y<|OQ (EC gP Y) (pD gb 0 64 64 (W.turn+1) _ _ (H1.pick [6] (by decide)).here (by decide) (by simp) (by omega)) ?_
 rintro r w2 Hc
 have H2:=(H1.Du [6] rfl Hc).pick [0,1,2,3,4,5,7] (by decide)
 refine Xr Fp<|J1<|zR 9 [(true,0),(true,1),(true,2),(true,3),(true,4),(true,5),(true,6),(true,7),(true,8),(false,9)] H2 [3] yE (by decide) (by kernel_rfl) ?_
 rintro w3 hw3
 have H3:=Hp.drew H2;rw[← hw3]at H3
 refine Zm Y Y<|MP Y<|MV (fun wz hz=>vD Gz ty5 Y Y ((by omega)))<|Zm Y Y<|Zc Y Y<|cZ Fp<|Zf Y qM Y<|MP Y<|MV (fun wz hz=>EL ty3 Y (hz.cell (i:=0) Y Y))<|Zm Y Y<|MP Y<|MV (fun wz hz=>zL Y Y ((Ad _ (by omega)).trans (show((W.first:Int)+(gone:Int))=((W.first+gone:Nat):Int) by omega)))<|cZ Fp<|MP Y<|MV (fun wz hz=>xN Lu Tryz.underlying3 Y (Ey _ (by omega)))<|MO Y<|OQ (EC gP Y) (pD gb 8 56 56 (W.first+gone) _ _ (H3.pick [6] (by decide)).here (by decide) (by simp[zJ,zZ,wZ]) (by omega)) ?_
 rintro r w4 Hc
 have H4:=(H3.Du [6] rfl Hc).pick [0,1,2,3,4,5,7] (by decide)
 refine OE ?_
 refine⟨fun hne=>absurd Y hne,?_⟩
 refine cZ Fp<|ME<|cR Fp<|J1<|zR 5 [(true,0),(true,1),(true,2),(false,3),(true,4),(false,5)] H4 [3] yE (by decide) (by kernel_rfl) ?_
 rintro w5 hw5
 have H5:=Hp.drew H4;rw[← hw5]at H5
 refine Zm Y Y<|MP Y<|MV (fun wz hz=>vD Gz ty5 Y Y ((by omega)))<|Zm Y Y<|MO Y<|OC (EC TT Y) (gJ m.gv W.first W.recs.length m.cr (hd m.gr) _ (H5.cell (i:=3) Y Y) (H5.cell (i:=3) Y Y) (by omega))<|fun w6 Hc=>?_
 have H6:=(H5.call0 Hc).pick [0,1,2,3,4,5,6] (by decide)
 refine OE ?_
 refine⟨fun hne=>H6.pick [3] (by decide),?_⟩
 refine cZ Fp<|MP Y<|MV (fun wz hz=>xN Lu Tryz.underlying3 Y (Ey _ (by omega)))<|MO Y<|OQ (EC gP Y) (pD gb 16 48 48 (W.first+W.recs.length) _ _ (H6.pick [6] (by decide)).here (by decide) (by simp[zJ,zZ,wZ]) (by omega)) ?_
 rintro r w7 Hc
 have H7:=(H6.Du [6] rfl Hc).pick [0,1,2,3,4,5,7] (by decide)
 refine OE ?_
 refine⟨fun hne=>absurd Y hne,?_⟩
 refine cZ Fp<|ME<|cR Fp<|Rq<|Xm Y<|OV (vD Gz ty5 Y Y ((by omega)))<|Xm Y<|OV (xN Lu Tryz.underlying3 Y (Ey _ (by omega)))<|Ag Fp<|OQ (EC gP Y) (pD gb 24 40 40 (W.fin) _ _ (H7.pick [6] (by decide)).here (by decide) (by simp[zJ,zZ,wZ]) (by omega)) ?_
 have m1:=()
 rotate_left 1
 any_goals
  clear m1
  rintro r w8 Hc
  have H8:=(H7.Du [6] rfl Hc).pick [0,1,2,3,4,5,7] (by decide)
  refine Xr Fp<|Rq<|Xm Y<|OV (vD Gz ty5 Y Y ((by omega)))<|Xm Y<|OQ (EC gP Y) (pD gb 56 8 8 (W.turn+1) _ _ (H8.pick [6] (by decide)).here (by decide) (by simp[zJ,zZ,wZ]) (by omega)) ?_
  rintro r w9 Hc
  have H9:=(H8.Du [6] rfl Hc).pick [0,1,2,3,4,5,7] (by decide)
  refine Xr Fp<|Rq<|Xm Y<|Xc Y<|Xf pF Y<|OV (EL B0 Y (H9.cell (i:=3) Y Y))<|Ag Fp<|Xm Y<|OV (eK Y Y (by omega) (AD (W.turn+1) 2))<|OV (xN Tryz.underlying3 Lu Y (Ad _ (by omega)))<|Xm Y<|Ag Fp ?_
  rw[LQ,← hst]at H9
  change Hp _ _ _ [_,_,_,_,_,_,(some gb,5,u8s (W.head gone))]at H9
  have hwr:=aY m.gd m.gk m.gw m.cw m.sp D _ (H9.pick [0,1,2] (by decide)).here hD (((W.turn+1) % 2:Nat):Int) (some ⟨gb,0,none⟩) (W.head gone) 64 (H9.rd (i:=6) (o:=some gb) (xs:=u8s (W.head gone)) (sp:=[]) (by rw[Dt];rfl) (yY _) (by decide)) (fun a hx hy=>by cases hx;exact Fa H9 (i:=6) rfl (is:=[0,1,2]) (by decide) hy) (by omega)
  rw[show(W.head gone).length=64 from jH _ _ _ _]at hwr
  refine OQ (EC gf77 Y) hwr ?_
  rintro r w12 ⟨hr2,gw2,cw2,sp2,hD2,Hd⟩
  rw[hr2]
  have Fj:=(H9.Du [0,1,2] rfl Hd).pick [7,8,9,3,4,5,6] (by decide)
  have hb1:=DD D (((W.turn+1) % 2:Nat):Int) (W.head gone)
  refine rK (EC G5 Y) (pS _ _) ?_ ?_
  rintro ch wz ⟨hcd,rfl,rfl⟩
  have H9:=Fj.pick [0,1,2,3,4,5] (by decide)
  refine⟨rfl,_,.inl ⟨hcd,rfl⟩,{ m with gw:=gw2,cw:=cw2,sp:=sp2 },rfl,rfl,rfl,fH.refl _ _,?_,H9⟩
  exact { h with d:=hD2,lst:=(Ls.to Fj).less (fun x hx=>Hw (is:=[0,1,2,3,4,5]) Fj x hx),size:=by rw[show(tE D W gone).1.kept.length=_ from hb1.2];exact hsize,fin:=by rw[show(tE D W gone).1.kept.length=_ from hb1.2];exact hfin }
  rintro r wz ⟨hcd1,rfl⟩
  refine Xr Fp<|Rq<|Xm Y<|Xc Y<|Xf pF Y<|OV (EL B0 Y (Fj.cell (i:=3) Y Y))<|Ag Fp<|OQ (EC WY Y) (cK m.gd m.gk gw2 cw2 sp2 (tE D W gone).1 _ (Fj.pick [0,1,2] (by decide)).here hD2 (by have:=hb1.1;show(Dk.write _ _ _).1.wait.length≤_;omega)) ?_
  rintro r Vu ⟨hr3,YD,YF,sp3,hD3,Hd⟩
  rw[hr3]
  have Ny:=(Fj.Du [0,1,2] rfl Hd).pick [7,8,9,3,4,5,6] (by decide)
  have hb2:=B4 (tE D W gone).1
  have hk2:(tE D W gone).1.sync.1.kept.length=D.kept.length:=by rw[hb2.2];exact hb1.2
  refine rK (EC G5 Y) (pS _ _) ?_ ?_
  rintro ch wz ⟨hcd,rfl,rfl⟩
  have H9:=Ny.pick [0,1,2,3,4,5] (by decide)
  refine⟨rfl,_,.inr ⟨hcd1,hcd,rfl⟩,{ m with gw:=YD,cw:=YF,sp:=sp3 },rfl,rfl,rfl,fH.refl _ _,?_,H9⟩
  exact { h with d:=hD3,lst:=(Ls.to Ny).less (fun x hx=>Hw (is:=[0,1,2,3,4,5]) Ny x hx),size:=by rw[hk2];exact hsize,fin:=by rw[hk2];exact hfin }
  rintro r wz ⟨hcd2,rfl⟩
  refine Xr Fp<|J1<|Rq<|Xm Y<|Xc Y<|Xf sU Y<|OV (EL fO Y (Ny.cell (i:=3) Y Y))<|Ag Fp<|Xm Y<|OV (nS Ve xO Y Y ((by omega)))<|OV (ES Ve Y)<|Xm Y<|Xr Fp<|J7<|zV (fun nQ lQ w=>∃ (k:Nat) (y:Int),gone - k=nQ∧xM (Hy [(0,Ah m.gv),(1,Aa (gone:Int)),(4,.int .u64 ((W.turn+1:Nat):Int)),(82,Ac (hd m.gr) gone m.cr),(83,Aa (gone:Int)),(84,Aa y)] 0 140) lQ∧y=k∧k≤gone∧Hp w0 w (bl (Bf m D W)) (xD m.gd m.gk YD YF sp3 (tE D W gone).1.sync.1++[(some m.gv,120,[Ah m.gd,.bool W.dead,.int .u64 (W.turn:Int),Aa (W.first:Int),Ac (hd m.gr) W.recs.length m.cr,Ac (hd m.gp) W.places.length m.cp,Aa (W.fin:Int),Aa ((used W.recs - used (W.recs.take k):Nat):Int),Aa (W.told:Int)]),(m.gr,73,m.xs++m.sr),(m.gp,3,pE W.places++m.sq),(some gb,5,u8s (W.head gone))])) (gone) ?_ ?_
  refine⟨0,_,Y,(YU Y Y Y Y Y Y Y),Y,Am _,?_⟩
  have e0:used W.recs - used (W.recs.take 0)=used W.recs:=by simp[used]
  rw[e0];exact Ny
  rintro nQ lQ YX ⟨k,y,rfl,hfit,rfl,hk,Ph⟩
  obtain⟨j,rfl⟩:=hfit.open
  refine cR Fp ?_
  clear hfit
  refine Rq<|OT (zQ Y Y) (fun hp85=>?_) (fun hp85=>?_)
  have hkl:k < W.recs.length:=by omega
  obtain⟨Bk,ck,hxk,hrk,hak⟩:=Ls.2 k hkl
  obtain⟨grr,hgrr⟩:∃ x,m.gr=some x:=by
   cases hx:m.gr with
   | none=>have:=hrn hx;omega
   | some x=>exact⟨x,rfl⟩
  have hlk:=hlong _ (Jm hkl)
  have huk:=KR hkl
  have hud:=pI W.recs (k+1)
  refine Xr Fp<|J1<|J3 Y<|J6<|J1<|J7<|Rq<|OV (EI Ve xO (a:=⟨grr,0,none⟩) (congrArg (fun A=>some (Ac A gone m.cr)) (show hd m.gr=some ⟨grr,0,none⟩ by rw[hgrr];rfl)) Y Y (by omega) (Cc _)) ?_
  rw[eR]
  refine OV (EL xO Y (Ph.cell (i:=4) (g:=grr) (T:=73) (cs:=m.xs++m.sr) (o:=k) (by rw[← hgrr];rfl) (by rw[Di (lt_of_get hxk)];exact hxk))) ?_
  refine Xa Y<|Xr Fp<|zR 10 [(true,0),(true,1),(true,2),(true,3),(true,4),(true,5),(true,6),(true,7),(true,8),(true,9),(false,10)] Ph [3] yE (by decide) (by kernel_rfl) ?_
  rintro Oa Vz
  have Ei:=Hp.drew Ph;rw[← Vz]at Ei
  refine Zm Y Y<|Zc Y Y<|Zf Y gU Y<|MP Y<|MV (fun wz hz=>EL ty3 Y (hz.cell (i:=0) Y Y))<|cZ Fp<|Zm Y Y<|MP Y<|MV (fun wz hz=>ES Gz Y)<|MP Y<|qI (fun wz hz=>EC W8 Y) (fun wz hz=>iB W.recs[k].length wz (by omega))<|MP Y<|MV (fun wz hz=>tA Y Y ((Ad _ (by have:=BS hlk;omega)).trans (show(((used W.recs - used (W.recs.take k):Nat):Int) - (wgt W.recs[k].length:Int))=((used W.recs - used (W.recs.take (k+1)):Nat):Int) by omega)))<|cZ Fp<|Zc Y Y<|Zf Y gU Y<|MO Y<|OW ty3 Ei 3 Y Y Y Y (by simp) Y<|fun w16 Qx=>OE<|⟨fun hne=>absurd Y hne,?_⟩
  refine cZ Fp<|ME<|cR Fp<|zA (zB ?_)
  refine J2<|OV (zL Y Y (Ad _ (by omega)))<|Xm Y<|Xr Fp<|zA (zH ?_)
  exact⟨gone - (k+1),by omega,k+1,_,Y,(YU Y Y Y Y Y Y Y),Y,by omega,Qx⟩
  have hkg:k=gone:=by omega
  subst hkg
  refine Xr Fp<|J1<|J4 Y<|J8<|zU<|zS<|Rq<|Xm Y<|Xm Y<|Xm Y<|Xm Y<|Ag Fp<|Xc Y<|Xf qM Y<|OV (EL ty3 Y (Ph.cell (i:=3) Y Y))<|Xm Y<|Ag Fp<|OV (zL Y Y ((Ad _ (by omega)).trans (show((W.first:Int)+(k:Int))=((W.first+k:Nat):Int) by omega)))<|Xc Y<|Xf CX Y<|OW nG Ph 3 Y Y Y Y (by simp) Y<|fun Oa Ei=>Xc Y<|Ag Fp<|Xf qM Y<|OW ty3 Ei 3 Y Y Y Y (by simp) Y<|fun w16 Qx=>Xr Fp<|J1<|NF 21 [(true,0),(true,1),(true,2),(true,3),(true,4),(true,6),(true,9),(true,10),(true,11),(true,12),(true,13),(true,14),(false,5),(true,7),(false,8),(false,15),(true,16),(true,17),(false,18),(true,19),(true,20),(false,21)] (fun wz=>∃ v,Hp w0 wz (bl (Bf m D W)) [(some m.gv,120,[Ah m.gd,.bool W.dead,.int .u64 ((W.turn+1:Nat):Int),Aa ((W.first+k:Nat):Int),v,Ac (hd m.gp) W.places.length m.cp,Aa (W.fin:Int),Aa ((used W.recs - used (W.recs.take k):Nat):Int),Aa (W.told:Int)])]) yE (by kernel_rfl) ?_
  rintro w10 Me
  have Df:=Hp.drew Qx;rw[← Me]at Df
  refine⟨⟨_,Df.pick [3] (by decide)⟩,?_⟩
  refine Zm rfl rfl<|Zm rfl rfl<|Zm rfl rfl<|Zc rfl rfl<|cZ Fp<|Zf rfl sU rfl<|Zm rfl rfl<|Zm rfl rfl<|Zc rfl rfl<|cZ Fp<|Zf rfl jK rfl<|MP rfl<|MV (fun wz hz=>EL KU rfl (by obtain⟨v,hz⟩:=hz;exact hz.cell (i:=0) rfl rfl))<|Zm rfl rfl<|MP rfl<|MV (fun wz hz=>vD Yw ty3 rfl rfl ((by omega)))<|cZ Fp<|MO rfl<|OV (EL fO rfl (Df.cell (i:=3) rfl rfl))<|OE<|⟨fun hne=>⟨_,Df.pick [3] (by decide)⟩,?_⟩
  refine cZ Fp<|MP Y<|MV (fun wz hz=>vD Ve xO Y Y ((by omega)))<|MO Y ?_
  have hxr:Rd _ (wH (hd m.gr) k m.cr 1) (W.recs.length - k) 1 (m.xs.drop k):=(NP (Df.rd (i:=4) (xs:=m.xs) (sp:=m.sr) rfl (by rw[Ls.1,Cc]) (by decide)) (by omega) hrc)
  refine OQ (EC gf61 Y) (dF (wH (hd m.gr) k m.cr 1) (W.recs.length - k) (m.cr - k) (m.xs.drop k) _ hxr (F6 Ls.ones k) (by omega)) ?_
  rintro r w17 ⟨g7,c7,s7,hr7,hc7,hs7,hn7,Hc⟩
  rw[hr7]
  have XY:=Df.call0 Hc
  refine OE ?_
  refine⟨fun hne=>⟨_,XY.pick [3] (by decide)⟩,?_⟩
  refine cZ Fp<|MO Y ?_
  have hpr:Rd _ (wH (hd m.gp) k m.cp 1) (W.places.length - k) 1 ((pE W.places).drop k):=(NP (XY.rd (i:=5) (xs:=pE W.places) (sp:=m.sq) rfl (by rw[bP,Cc]) (by decide)) (by omega) hpc)
  refine OQ (EC gf125 Y) (IA (wH (hd m.gp) k m.cp 1) (W.places.length - k) (m.cp - k) ((pE W.places).drop k) _ hpr (F6 (PC _) k) (by omega)) ?_
  rintro r w18 ⟨g8,c8,s8,hr8,hc8,hs8,hn8,Hc⟩
  rw[hr8]
  have Yy:=XY.call0 Hc
  refine OE ?_
  refine⟨fun hne=>⟨_,Yy.pick [3] (by decide)⟩,?_⟩
  refine cZ Fp<|Zc Y Y<|Zf Y sU Y<|MO Y<|OW fO Yy 3 Y Y Y Y (by simp) Y<|fun w19 H19=>OE<|⟨fun hne=>⟨_,H19.pick [3] (by decide)⟩,?_⟩
  refine cZ Fp<|Zc Y Y<|Zf Y jK Y<|MO Y<|OW KU H19 3 Y Y Y Y (by simp) Y<|fun w20 H20=>OE<|⟨fun hne=>absurd Y hne,?_⟩
  refine cZ Fp<|ME<|cR Fp<|J2<|Xm Y<|Xm Y<|Xc Y<|Xf sU Y<|Ag Fp<|OV (EL fO Y (H20.cell (i:=3) Y Y))<|OV (ES Ve Y)<|Xc Y<|Xf dW Y<|Ag Fp<|OW ty3 H20 3 Y Y Y Y (by simp) Y<|fun Uf Ip=>Xr Fp<|zA<|pK Y ?_
  have hu2:used W.recs - used (W.recs.take k)=used (W.recs.drop k):=by have:=pI W.recs k;omega
  have hle:used (W.recs.drop k)≤used W.recs:=by have:=pI W.recs k;omega
  rw[hu2]at Ip
  have hxl:=Ls.1
  have H9:Hp w0 Uf (bl (Bf m D W)) (Bf { m with gw:=YD,cw:=YF,sp:=sp3,gr:=g7,cr:=c7,xs:=m.xs.drop k,sr:=s7,gp:=g8,cp:=c8,sq:=s8 } (tE D W k).1.sync.1 (W.tell k)):=by
   have hz:=Ip.pick [0,1,2,3,7,8] (by decide)
   have e1:(W.tell k).recs.length=W.recs.length - k:=by simp[Wl.tell]
   have e2:(W.tell k).places.length=W.places.length - k:=by simp[Wl.tell]
   have e3:pE (W.tell k).places=(pE W.places).drop k:=by simp[Wl.tell,pE,List.map_drop]
   have e4:(W.tell k).told=W.recs.length - k:=by simp[Wl.tell]
   show Hp w0 Uf _ (xD _ _ _ _ _ _++jY _ _)
   unfold jY wcl
   rw[e1,e2,e3,e4]
   exact hz
  refine⟨⟨hcd1,hcd2,rfl⟩,{ m with gw:=YD,cw:=YF,sp:=sp3,gr:=g7,cr:=c7,xs:=m.xs.drop k,sr:=s7,gp:=g8,cp:=c8,sq:=s8 },rfl,rfl,rfl,fH.drop _ _ _,?_,H9⟩
  refine⟨hD3,?_,by simp[Wl.tell];omega,hs7,hn7,by simp[Wl.tell,hpl],by simp[Wl.tell];omega,by simpa[Wl.tell,pE,List.map_drop]using hs8,hn8,by simp[Wl.tell];omega,fun r hr=>hlong r (Es hr),by rw[hk2];exact hsize,by rw[hk2];exact hfin,fun p hp=>Us p (Es hp),by show W.first+k≤_;omega,by show W.turn+1≤_;omega,by show used (W.recs.drop k)≤_;omega,by simp[Wl.tell];omega⟩
  exact Qa.less ((Ls.drop k).to Ip) (fun x hx=>Hw (is:=[0,1,2,3,7,8]) Ip x hx)
end
def nZ (W:Wl) (gone:Nat):Bool:=decide (0 < gone∨W.told < W.recs.length)
def RG (D:Dk) (W:Wl) (gone:Nat) (D':Dk) (W':Wl):Prop:=D.sync.2=0∧((nZ W gone=false∧D'=D.sync.1∧W'=W)∨(nZ W gone=true∧RA D.sync.1 W gone D'∧W'=W.tell gone))
def F9 (D:Dk) (W:Wl) (gone:Nat) (D':Dk):Prop:=(D.sync.2≠0∧D'=D.sync.1)∨(D.sync.2=0∧nZ W gone=true∧KF D.sync.1 W gone D')
theorem KY (m:Mw) (D:Dk) (W:Wl) (w0:World) (H0:Hp w0 w0 (bl (Bf m D W)) (Bf m D W)) (h:Mc w0 m D W) (Y7:Nat) (hwx:w0.cell? ⟨Y7,0,none⟩=some (Ah m.gv)) (hwn:Y7∉bl (Bf m D W)) (hwt:D.wait.length≤1000000000) (hfl:W.first≤2^50) (htl:W.turn≤2^50):qA Tryz.prog 80 #[Ah Y7] w0 (fun _ w'=>∃ D' W',RG D W 0 D' W'∧vV w0 w' (bl (Bf m D W)) m (D') (W')) (fun ch w'=>ch=gV∧∃ D',F9 D W 0 D'∧vV w0 w' (bl (Bf m D W)) m (D') (W)):=by
 refine fB Tryz.func80 Tryz.ntmps80 Y<|cR e19 ?_
 have H:=H0
 obtain⟨hD,Ls,hrc,hrs,hrn,hpl,hpc,hps,hpn,Gx,hlong,hsize,hfin,Us,hfirst,hturn,Uc,htold⟩:=id h
 have hkept:=hD.most
 refine Rq<|OV (EL uN Y (xP hwx H hwn))<|Xc Y<|Xf pF Y<|OV (EL B0 Y (H.cell (i:=3) Y Y))<|Ag e19<|OQ (EC WY Y) (cK m.gd m.gk m.gw m.cw m.sp D _ (H.pick [0,1,2] (by decide)).here hD (by omega)) ?_
 rintro r w1 ⟨hr3,YD,YF,sp3,hD3,Hd⟩
 rw[hr3]
 have H1:=(H.Du [0,1,2] rfl Hd).pick [6,7,8,3,4,5] (by decide)
 have hb2:=B4 D
 refine rK (EC G5 Y) (pS _ _) ?_ ?_
 rintro ch wz ⟨hcd,rfl,rfl⟩
 have H9:=H1.pick [0,1,2,3,4,5] (by decide)
 refine⟨rfl,_,.inl ⟨hcd,rfl⟩,{ m with gw:=YD,cw:=YF,sp:=sp3 },rfl,rfl,rfl,fH.refl _ _,?_,H9⟩
 exact { h with d:=hD3,lst:=Ls.to H1,size:=by rw[hb2.2];exact hsize,fin:=by rw[hb2.2];exact hfin }
 rintro r wz ⟨hcd1,hwz⟩
 rw[hwz]
 have hw6:Mc w1 { m with gw:=YD,cw:=YF,sp:=sp3 } D.sync.1 W:={ h with d:=hD3,lst:=Ls.to H1,size:=by rw[hb2.2];exact hsize,fin:=by rw[hb2.2];exact hfin }
 have Hsy:=H1
 refine Xr e19<|J1<|rG [(true,0),(true,1),(true,2),(true,3),(true,4),(true,5),(true,6),(true,7),(true,8),(true,9)] H1 [3] yE (by decide) (by kernel_rfl) ?_
 rintro w2 hw2
 have H2:=Hp.drew H1;rw[← hw2]at H2
 refine zY Y<|MV (fun wz hz=>EL uN Y (xP hwx hz hwn))<|zY Y<|MV (fun wz hz=>yJ Y)<|zY Y<|MV (fun wz hz=>EF dW Y)<|zY Y<|MV (fun wz hz=>EL ty3 Y (hz.cell (i:=0) Y Y))<|cM e19<|zY Y<|MV (fun wz hz=>EL uN Y (xP hwx hz hwn))<|zY Y<|MV (fun wz hz=>yJ Y)<|zY Y<|MV (fun wz hz=>EF sU Y)<|zY Y<|MV (fun wz hz=>EL fO Y (hz.cell (i:=0) Y Y))<|cM e19<|zY Y<|MV (fun wz hz=>ES Ve Y)<|zY Y<|vS (fun wz hz=>zQ Y Y) (fun hp16=>?_) (fun hp16=>?_)
 refine tS<|cR e19<|J3 Y<|J2<|OV (EL uN Y (xP hwx H2 hwn)) ?_
 have ZN:nZ W 0=true:=by unfold nZ;exact decide_eq_true (by omega)
 have hw7:Mc w2 { m with gw:=YD,cw:=YF,sp:=sp3 } D.sync.1 W:={ hw6 with lst:=Ls.to H2 }
 refine rK (EC gf82 rfl) (DP { m with gw:=YD,cw:=YF,sp:=sp3 } D.sync.1 W w2 H2.here hw7 0 (Am _) (by omega) hfl htl) ?_ ?_
 rintro ch wz ⟨rfl,D1,hB,m1,e1,e2,e3,e4,hok1,Hd⟩
 have hz:=(H2.Du [0,1,2,3,4,5] rfl Hd).pick [6,7,8,9,10,11] (by decide)
 exact⟨Y,D1,.inr ⟨hcd1,ZN,hB⟩,m1,e1,e2,e3,(fH.refl _ _).trans e4 H2.size,hok1,hz⟩
 rintro r w3 ⟨hT,m1,e1,e2,e3,e4,hok1,Hd⟩
 have H3:=(H2.Du [0,1,2,3,4,5] rfl Hd).pick [6,7,8,9,10,11] (by decide)
 have hP:vV w0 w3 (bl (Bf m D W)) m _ _:=⟨m1,e1,e2,e3,(fH.refl _ _).trans e4 H2.size,hok1,H3⟩
 refine Xr e19<|zA<|pK Y<|⟨_,_,⟨hcd1,.inr ⟨ZN,hT,Y⟩⟩,hP⟩
 refine tS<|cR e19<|J4 rfl<|J6<|zA<|pK rfl<|⟨_,_,⟨hcd1,.inl ⟨by unfold nZ;exact decide_eq_false (by omega),rfl,rfl⟩⟩,{ m with gw:=YD,cw:=YF,sp:=sp3 },rfl,rfl,rfl,fH.refl _ _,{ hw6 with lst:=Ls.to H2 },H2⟩
theorem QP (m:Mw) (D:Dk) (W:Wl) (w0:World) (H0:Hp w0 w0 (bl (Bf m D W)) (Bf m D W)) (h:Mc w0 m D W) (Y7:Nat) (hwx:w0.cell? ⟨Y7,0,none⟩=some (Ah m.gv)) (hwn:Y7∉bl (Bf m D W)) (gax gone:Nat) (Xg:gone≤W.recs.length) (hax:w0.cell? ⟨gax,0,none⟩=some (Aa ((W.first+gone:Nat):Int))) (han:gax∉bl (Bf m D W)) (hwt:D.wait.length≤1000000000) (hfl:W.first≤2^50) (htl:W.turn≤2^50):qA Tryz.prog 83 #[Ah Y7,Ah gax] w0 (fun _ w'=>∃ D' W',RG D W gone D' W'∧vV w0 w' (bl (Bf m D W)) m (D') (W')) (fun ch w'=>ch=gV∧∃ D',F9 D W gone D'∧vV w0 w' (bl (Bf m D W)) m (D') (W)):=by
 refine fB Tryz.func83 Tryz.ntmps83 Y<|cR e32 ?_
 have H:=H0
 obtain⟨hD,Ls,hrc,hrs,hrn,hpl,hpc,hps,hpn,Gx,hlong,hsize,hfin,Us,hfirst,hturn,Uc,htold⟩:=id h
 have hkept:=hD.most
 refine Rq<|OV (EL uN Y (xP hwx H hwn))<|Xc Y<|Xf pF Y<|OV (EL B0 Y (H.cell (i:=3) Y Y))<|Ag e32<|OQ (EC WY Y) (cK m.gd m.gk m.gw m.cw m.sp D _ (H.pick [0,1,2] (by decide)).here hD (by omega)) ?_
 rintro r w1 ⟨hr3,YD,YF,sp3,hD3,Hd⟩
 rw[hr3]
 have H1:=(H.Du [0,1,2] rfl Hd).pick [6,7,8,3,4,5] (by decide)
 have hb2:=B4 D
 refine rK (EC G5 Y) (pS _ _) ?_ ?_
 rintro ch wz ⟨hcd,rfl,rfl⟩
 have H9:=H1.pick [0,1,2,3,4,5] (by decide)
 refine⟨rfl,_,.inl ⟨hcd,rfl⟩,{ m with gw:=YD,cw:=YF,sp:=sp3 },rfl,rfl,rfl,fH.refl _ _,?_,H9⟩
 exact { h with d:=hD3,lst:=Ls.to H1,size:=by rw[hb2.2];exact hsize,fin:=by rw[hb2.2];exact hfin }
 rintro r wz ⟨hcd1,hwz⟩
 rw[hwz]
 have hw6:Mc w1 { m with gw:=YD,cw:=YF,sp:=sp3 } D.sync.1 W:={ h with d:=hD3,lst:=Ls.to H1,size:=by rw[hb2.2];exact hsize,fin:=by rw[hb2.2];exact hfin }
 have Hsy:=H1
 refine Xr e32<|J1<|rG [(true,0),(true,1),(true,2),(true,3),(true,4),(true,5),(true,6)] H1 [3] yE (by decide) (by kernel_rfl) ?_
 rintro w2 hw2
 have H2:=Hp.drew H1;rw[← hw2]at H2
 refine zY Y<|MV (fun wz hz=>EL ty3 Y (xP hax hz han))<|zY Y<|MV (fun wz hz=>EL uN Y (xP hwx hz hwn))<|zY Y<|MV (fun wz hz=>yJ Y)<|zY Y<|MV (fun wz hz=>EF qM Y)<|cM e32<|zY Y<|MV (fun wz hz=>EL ty3 Y (hz.cell (i:=0) Y Y))<|zY Y<|MV (fun wz hz=>tA Y Y ((Ad _ (by omega)).trans (show(((W.first+gone:Nat):Int) - (W.first:Int))=((gone:Nat):Int) by omega)))<|zY Y<|MV (fun wz hz=>zO Y)<|tS<|cR e32<|J1<|rG [(true,0),(true,1),(true,2),(true,3),(true,4),(true,5),(true,6),(true,7),(true,8),(true,9),(true,10),(true,11),(true,12),(true,13)] H2 [3] yE (by decide) (by kernel_rfl) ?_
 rintro w3 hw3
 have H3:=Hp.drew H2;rw[← hw3]at H3
 refine zY Y<|MV (fun wz hz=>zI Y)<|zY Y<|vS (fun wz hz=>yS Y Y) (fun hp16=>?_) (fun hp16=>?_)
 refine zY Y<|MV (fun wz hz=>zI Y)<|zY Y<|MZ Y<|cM e32<|zY Y<|MZ Y<|zY Y<|MZ Y<|cM e32<|zY Y<|MZ Y<|zY Y<|MZ Y<|cM e32<|zY Y<|MZ Y<|zY Y<|MZ Y<|cM e32<|zY Y<|MZ Y<|zY Y<|MZ Y<|cM e32<|zY Y<|MZ Y<|zY Y<|MV (fun wz hz=>xG Y Y) ?_
 have m1:=()
 rotate_left 1
 refine zY Y<|MV (fun wz hz=>zI Y)<|zY Y<|MY Y<|MV (fun wz hz=>EL uN Y (xP hwx hz hwn))<|zY Y<|MY Y<|MV (fun wz hz=>yJ Y)<|cM e32<|zY Y<|MY Y<|MV (fun wz hz=>EF dW Y)<|zY Y<|MY Y<|MV (fun wz hz=>EL ty3 Y (hz.cell (i:=0) Y Y))<|zY Y<|MY Y<|MV (fun wz hz=>EL uN Y (xP hwx hz hwn))<|zY Y<|MY Y<|MV (fun wz hz=>yJ Y)<|cM e32<|zY Y<|MY Y<|MV (fun wz hz=>EF sU Y)<|zY Y<|MY Y<|MV (fun wz hz=>EL fO Y (hz.cell (i:=0) Y Y))<|zY Y<|MY Y<|MV (fun wz hz=>ES Ve Y)<|zY Y<|MY Y<|vS (fun wz hz=>zQ Y Y) (fun hp27=>?_) (fun hp27=>?_)
 refine zY Y<|MV (fun wz hz=>xV Y Y)<|cM e32 ?_
 have m1:=()
 rotate_left 1
 refine zY rfl<|MV (fun wz hz=>xV rfl rfl)<|cM e32<|tS<|cR e32<|J4 rfl<|J6<|zA<|pK rfl<|⟨_,_,⟨hcd1,.inl ⟨by unfold nZ;exact decide_eq_false (by omega),rfl,rfl⟩⟩,{ m with gw:=YD,cw:=YF,sp:=sp3 },rfl,rfl,rfl,fH.refl _ _,{ hw6 with lst:=Ls.to H3 },H3⟩
 any_goals
  clear m1
  refine tS<|cR e32<|J3 Y<|J2<|OV (EL uN Y (xP hwx H3 hwn))<|Xm Y ?_
  have ZN:nZ W gone=true:=by unfold nZ;exact decide_eq_true (by omega)
  have hw7:Mc w3 { m with gw:=YD,cw:=YF,sp:=sp3 } D.sync.1 W:={ hw6 with lst:=Ls.to H3 }
  refine rK (EC gf82 rfl) (DP { m with gw:=YD,cw:=YF,sp:=sp3 } D.sync.1 W w3 H3.here hw7 gone Xg (by omega) hfl htl) ?_ ?_
  rintro ch wz ⟨rfl,D1,hB,m1,e1,e2,e3,e4,hok1,Hd⟩
  have hz:=(H3.Du [0,1,2,3,4,5] rfl Hd).pick [6,7,8,9,10,11] (by decide)
  exact⟨Y,D1,.inr ⟨hcd1,ZN,hB⟩,m1,e1,e2,e3,(fH.refl _ _).trans e4 H3.size,hok1,hz⟩
  rintro r w4 ⟨hT,m1,e1,e2,e3,e4,hok1,Hd⟩
  have H4:=(H3.Du [0,1,2,3,4,5] rfl Hd).pick [6,7,8,9,10,11] (by decide)
  have hP:vV w0 w4 (bl (Bf m D W)) m _ _:=⟨m1,e1,e2,e3,(fH.refl _ _).trans e4 H3.size,hok1,H4⟩
  refine Xr e32<|zA<|pK Y<|⟨_,_,⟨hcd1,.inr ⟨ZN,hT,Y⟩⟩,hP⟩
section
variable {b:Blk} {i:Nat}
theorem L8 (a b:Nat) (ha:a < 2^62) (hb:b < 2^62):bits .or .i64 (a:Int) (b:Int)=((a ||| b:Nat):Int):=by
 have h1:a < 2^IntKind.i64.bits:=by show a < 2^64;omega
 have h2:b < 2^IntKind.i64.bits:=by show b < 2^64;omega
 simp only[bits,BitVec.toNat_or,rL .i64 a h1,rL .i64 b h2]
 have:=Nat.or_lt_two_pow ha hb
 exact Ad _ (by omega)
theorem orp {a b k c:Nat} (h:a < 2^k) (hb:2^k*b < 2^62) (ha:a < 2^62) (hc:a+2^k*b=c):bits .or .i64 (a:Int) ((2^k*b:Nat):Int)=(c:Int):=by
 rw[L8 _ _ ha hb,Nat.or_comm,← Nat.two_pow_add_eq_or_of_lt h,Kv,hc]
theorem shi (x k:Nat) (hk:k≤40) (h:2^k*x < 2^62):IntKind.i64.wrap ((x:Int)*2^(min ((k:Nat):Int).toNat IntKind.i64.bits))=((2^k*x:Nat):Int):=by
 have e:min ((k:Nat):Int).toNat IntKind.i64.bits=k:=by show min k 64=k;omega
 rw[e,show((x:Int)*2^k)=((2^k*x:Nat):Int) by rw[Nat.mul_comm];simp]
 exact Ad _ (by omega)
theorem TA (n:Nat) (h:n < 2^31):n % 256+2^8*(n / 256 % 256)=n % 65536∧n % 65536+2^16*(n / 65536 % 256)=n % 16777216∧n % 16777216+2^24*(n / 16777216 % 256)=n:=by omega
def X5 (b:Blk) (i:Nat):Blk:=((Iq b).take (64*i)).drop 4
theorem JQ (h:i≤La b.length):(X5 b i).length=64*i - 4:=by
 have:=gS b
 simp[X5];omega
theorem PS (b:Blk):Iq b=le4 b.length++(b++List.replicate (iK b.length) 0):=by simp[Iq,mZ]
theorem T0:rJ (Iq b) 0=le4 b.length++X5 b 1:=by
 unfold rJ X5
 rw[Nat.mul_zero,Ep,Cc,PS]
 simp[le4]
theorem QD (b:Blk) (h1:1≤i) (h:i < La b.length):X5 b i++rJ (Iq b) i=X5 b (i+1):=by
 unfold X5 rJ
 have hl:=gS b
 have e:(Iq b).take (64*(i+1))=(Iq b).take (64*i)++((Iq b).drop (64*i)).take 64:=by rw[show 64*(i+1)=64*i+64 by omega,List.take_add]
 rw[e,Qr (by simp;omega)]
theorem QC (h:b.length≤64*i - 4) (hi:1≤i):∃ t,X5 b i=b++t:=by
 unfold X5
 rw[List.drop_take,PS,Qr (by simp[le4]),show(le4 b.length).drop 4=[] by simp[le4],Gp,show 64*i - 4=b.length+(64*i - 4 - b.length) by omega,List.take_length_add_append]
 exact⟨_,Y⟩
def Wl.Eo (W:Wl) (D:Dk) (rs:List Blk):Nat→Wl
 | 0=>W
 | k+1=>(W.Eo D rs k).took D (rs.getD k [])
theorem iD (W:Wl) (D:Dk) (rs:List Blk):∀ k,(W.Eo D rs k).dead=W.dead∧(W.Eo D rs k).turn=W.turn∧(W.Eo D rs k).first=W.first∧(W.Eo D rs k).told=W.told
 | 0=>⟨rfl,rfl,rfl,rfl⟩
 | k+1=>iD W D rs k
theorem iE (W:Wl) (D:Dk) (rs:List Blk):∀ k,k≤rs.length→(W.Eo D rs k).recs=W.recs++rs.take k
 | 0,_=>by simp[Wl.Eo]
 | k+1,h=>by
  show(W.Eo D rs k).recs++[rs.getD k []]=_
  rw[iE W D rs k (by omega),Bh,Jo,Ea,Cb (by omega)]
  rfl
def XU (D:Dk) (W:Wl) (rs:List Blk):Prop:=∀ k (h:k < rs.length),∀ j,j < La rs[k].length→D.show (2+((W.Eo D rs k).fin+j) % (D.kept.length - 2))=rJ (Iq rs[k]) j
def Wl.found (W:Wl) (D:Dk) (rs:List Blk):Wl:={ W.Eo D rs rs.length with told:=(W.Eo D rs rs.length).recs.length }
theorem Hp.rdO {w0 w:World} {S:List Nat} {es:List Ent} (H:Hp w0 w S es) {g o nn:Nat} {T:TypeId} {pre xs sp:List Value} (hi:es[i]? =some (some g,T,pre++(xs++sp))) (ho:pre.length=o) (hn:xs.length=nn*1):Rd w (some ⟨g,o,none⟩) nn 1 xs:=by
 refine⟨hn,fun a hx j u hu=>?_,by simp⟩
 simp only[Option.some.injEq]at hx
 subst hx
 rw[Lm]
 refine H.cell (i:=i) hi ?_
 rw[Eb (by omega),ho,Hr,Di (lt_of_get hu)]
 exact hu
theorem AN (gd gk:Nat) (gw:Option Nat) (cw:Nat) (sp:List Value) (D:Dk) (w0:World) (H0:Hp w0 w0 (bl (xD gd gk gw cw sp D)) (xD gd gk gw cw sp D)) (hD:Ri D gw cw sp) (hdn:D.down=false) (n:Nat) (hn:n < D.kept.length) (hm:D.wait.length≤1000000000):Aj 56 #[Ah gd,Aa (n:Int)] w0 (fun r w'=>∃ g cap s,r=.tuple #[Ac (some ⟨g,0,none⟩) 64 cap,Aa ((0:Nat):Int)]∧64≤cap∧cap≤(u8s (D.show n)++s).length∧Hp w0 w' (bl (xD gd gk gw cw sp D)) (xD gd gk gw cw sp D++[(some g,5,u8s (D.show n)++s)])):=by
 refine(NN gd gk gw cw sp D w0 H0 hD (n:Int) (by omega)).mono ?_
 rw[SE hdn hn]
 have e:(D.show n).length=64:=DT hD hn
 rintro r w' ⟨g,cap,s,h1,h2,h3,h4,h5⟩
 simp only[e]at h1 h2
 cases g with
 | none=>have:=h4 rfl;omega
 | some g=>exact⟨g,cap,s,h1,h2,by rw[Cc]at h3;exact h3,h5⟩
theorem BI (m:Mw) (D:Dk) (W:Wl) (w0:World) (H0:Hp w0 w0 (bl (Bf m D W)) (Bf m D W)) (h:Mc w0 m D W) (hdn:D.down=false) (hwt:D.wait.length≤1000000000) (i:Nat) (hi:i < D.kept.length - 2):Aj 103 #[Ah m.gv,Aa (i:Int)] w0 (fun r w'=>∃ g cap s,r=Ac (some ⟨g,0,none⟩) 64 cap∧64≤cap∧cap≤(u8s (D.show (2+i))++s).length∧Hp w0 w' (bl (Bf m D W)) (Bf m D W++[(some g,5,u8s (D.show (2+i))++s)])):=by
 refine zG Tryz.func103 Tryz.ntmps103 Y<|cR e20 ?_
 have H:=H0
 obtain⟨hD,Ls,hrc,hrs,hrn,hpl,hpc,hps,hpn,Gx,hlong,hsize,hfin,Us,hfirst,hturn,Uc,htold⟩:=id h
 have hkept:=hD.most
 refine Rq<|Xa Y<|Xr e20<|Rq<|Xm Y<|Xc Y<|Xf pF Y<|OV (EL B0 Y (H.cell (i:=3) Y Y))<|Ag e20<|Xm Y<|OV (zL Y Y ((Ad _ (by omega)).trans (show(2+(i:Int))=((2+i:Nat):Int) by omega)))<|OQ (EC gf56 Y) (AN m.gd m.gk m.gw m.cw m.sp D _ (H.pick [0,1,2] (by decide)).here hD hdn (2+i) (by omega) hwt) ?_
 rintro r w1 ⟨g,cap,s,hr,hcap,hcs,Hc⟩
 rw[hr]
 have H1:=(H.Du [0,1,2] rfl Hc).pick [6,7,8,3,4,5,9] (by decide)
 refine Xm Y<|Ag e20<|Xe Y Y<|Xe Y Y<|Xa Y<|Xa Y<|Xr e20<|Rq<|Xm Y<|OQ (EC G5 Y) ((pS 0 _).d (fun _ _ hx=>hx.1 Y)) ?_
 rintro r wz ⟨_,hwz⟩
 rw[hwz]
 refine Xr e20<|Rq<|Xm Y<|Xa Y<|Xr e20<|J5<|Cm Y Y<|⟨g,cap,s,Y,hcap,hcs,H1⟩
theorem P7 (m:Mw) (D:Dk) (W:Wl) (w0:World) (H0:Hp w0 w0 (bl (Bf m D W)) (Bf m D W)) (h:Mc w0 m D W) (hdn:D.down=false) (hwt:D.wait.length≤1000000000) (rs:List Blk) (hW:W.recs=[]) (hlaid:XU D W rs) (hrm:rs.length≤16384) (hrR:rs.length≤(D.kept.length - 2)) (hrl:∀ b∈rs,b.length≤16384) (hru:used rs≤2^39):Aj 59 #[Ah m.gv,.agg (Nr W rs.length).toArray] w0 (fun _ w'=>vV w0 w' (bl (Bf m D W)) m (D) (W.found D rs)):=by
 refine zG Tryz.func59 Tryz.ntmps59 Y<|cR e128 ?_
 have H:=H0
 obtain⟨hD,Ls,hrc,hrs,hrn,hpl,hpc,hps,hpn,Gx,hlong,hsize,hfin,Us,hfirst,hturn,Uc,htold⟩:=id h
 have hkept:=hD.most
 have hlen0:W.recs.length=0:=by rw[hW];rfl
 refine Rq<|yA Y Y H<|fun w1 gh H1 hgh=>Xr e128<|Rq<|Xm Y<|wR (EC WZ Y) (GR m.gv m.gd D.kept.length _ _ _ (H1.cell (i:=3) Y Y) (H1.cell (i:=0) Y Y) hkept)<|Xa Y<|Xr e128<|J1<|Rq<|Xm Y<|Jw (zQ Y Y) (by omega)<|Xm Y<|Ag e128<|OY Y<|Xf CV Y<|OY Y<|OV (EL ty3 Y (H1.cell (i:=6) Y Y))<|Ag e128<|OY Y<|Jw (zQ Y Y) (by omega)<|Xu Y Y<|Xm Y<|Ag e128<|OY Y<|Xf CV Y<|OY Y<|OV (EL ty3 Y (H1.cell (i:=6) Y Y))<|Ag e128<|OY Y<|Xm Y<|OY Y<|Jw (wM Y Y) (by omega)<|Xu Y Y ?_
 refine Xm Y<|Ag e128<|OY Y<|Xf CW Y<|OY Y<|OV (EL ty3 Y (H1.cell (i:=6) Y Y))<|Ag e128<|OY Y<|Jw (zQ Y Y) (by omega)<|Xu Y Y<|Xm Y<|Ag e128<|OY Y<|Xf JN Y<|OY Y<|OV (EL ty3 Y (H1.cell (i:=6) Y Y))<|Ag e128<|OY Y<|Xf CW Y<|OY Y<|OV (EL ty3 Y (H1.cell (i:=6) Y Y))<|Ag e128<|OY Y<|Jw (zQ Y Y) (by omega)<|Xu Y Y<|Xr e128<|J4 Y<|J6<|J1<|J7<|zV (fun nQ lQ w=>∃ (k:Nat) (m1:Mw),rs.length - k=nQ∧xM (Hy [(0,Ah m.gv),(3,Ah gh),(4,Aa ((D.kept.length:Int) - 2))] 0 128) lQ∧k≤rs.length∧m1.gd=m.gd∧m1.gk=m.gk∧m1.gv=m.gv∧fH w0 m.xs m1.xs∧Mc w m1 D (W.Eo D rs k)∧Qa w (Bf m1 D (W.Eo D rs k)++[(some gh,122,Nr W rs.length)]) m1.xs (W.Eo D rs k).recs∧Hp w0 w (bl (Bf m D W)) (Bf m1 D (W.Eo D rs k)++[(some gh,122,Nr W rs.length)])) (rs.length) ?_ ?_
 refine⟨0,m,Y,(Uh Y Y Y Y),Am _,Y,Y,Y,fH.refl _ _,h.move H1 [0,1,2,3,4,5] Y,Ls.to H1,H1⟩
 rintro nQ lQ w2 ⟨k,m1,rfl,hfit,hk,e1,e2,e3,hxs,hw1,hl,H2⟩
 obtain⟨j,rfl⟩:=hfit.open
 refine cR e128 ?_
 clear hfit
 obtain⟨gd1,gk1,Zk,Zo,sp1,gv1,Zl,Zp,xs1,ZB,Zn,Zq,ZC⟩:=m1
 simp only at e1 e2 e3 hxs
 subst e1 e2 e3
 have hsm:=iD W D rs k
 have hrk:=iE W D rs k hk
 rw[hW,Gp]at hrk
 have hlk:(W.Eo D rs k).recs.length=k:=by rw[hrk];simp;omega
 have hfk:=hw1.fin
 have HR:=H2
 have H2:=(H2.pick [0,1,2,3,4,5,6] (by decide)).here
 change Hp w2 w2 (bl (Bf ⟨m.gd,m.gk,Zk,Zo,sp1,m.gv,Zl,Zp,xs1,ZB,Zn,Zq,ZC⟩ D (W.Eo D rs k)++[(some gh,122,Nr W rs.length)])) (Bf ⟨m.gd,m.gk,Zk,Zo,sp1,m.gv,Zl,Zp,xs1,ZB,Zn,Zq,ZC⟩ D (W.Eo D rs k)++[(some gh,122,Nr W rs.length)])at H2
 refine J1<|J1<|rG [(true,0),(true,1),(true,2),(true,3),(true,4),(true,5),(true,6),(true,7),(true,8),(true,9),(true,10),(true,11),(true,12),(true,13),(true,14),(true,15),(true,16),(true,17),(true,18),(true,19),(true,20),(true,21)] H2 [3,6] yE (by decide) (by kernel_rfl) ?_
 rintro w3 hw3
 have H3:=Hp.drew H2;rw[← hw3]at H3
 refine zY Y<|MV (fun wz hz=>zI Y)<|zY Y<|MV (fun wz hz=>yJ Y)<|zY Y<|MV (fun wz hz=>EF qM Y)<|zY Y<|MV (fun wz hz=>EL ty3 Y (hz.cell (i:=0) Y Y))<|cM e128<|zY Y<|MV (fun wz hz=>zI Y)<|zY Y<|MV (fun wz hz=>yJ Y)<|zY Y<|MV (fun wz hz=>EF sU Y)<|zY Y<|MV (fun wz hz=>EL fO Y (hz.cell (i:=0) Y Y))<|cM e128<|zY Y<|MV (fun wz hz=>ES Ve Y)<|zY Y<|MV (fun wz hz=>zL Y Y ((Ad _ (by rw[hlk,hsm.2.2.1];omega)).trans (show((W.Eo D rs k).first:Int)+((W.Eo D rs k).recs.length:Int)=((W.first+k:Nat):Int) by rw[hlk,hsm.2.2.1];omega)))<|zY Y<|MV (fun wz hz=>EF JN Y)<|zY Y<|MV (fun wz hz=>EL ty3 Y (hz.cell (i:=1) Y Y))<|cM e128<|zY Y<|vS (fun wz hz=>zQ Y Y) (fun ZV=>?_) (fun ZV=>?_)
 have hkl:k < rs.length:=by omega
 have hlr:=hrl _ (Jm hkl)
 refine zY Y<|MV (fun wz hz=>zI Y)<|zY Y<|MY Y<|MV (fun wz hz=>zI Y)<|zY Y<|MY Y<|MV (fun wz hz=>yJ Y)<|zY Y<|MY Y<|MV (fun wz hz=>EF sU Y)<|cM e128<|zY Y<|MY Y<|MV (fun wz hz=>EL fO Y (hz.cell (i:=0) Y Y))<|zY Y<|MY Y<|MV (fun wz hz=>ES Ve Y)<|zY Y<|MY Y<|MV (fun wz hz=>zI Y)<|zY Y<|MY Y<|qH (fun wz hz=>tB Y Y) (by rw[hlk];omega)<|cM e128<|zY Y<|MV (fun wz hz=>xG Y Y)<|tS<|cR e128<|J3 Y<|J6<|J7<|Rq<|Xm Y<|Xm Y<|Xc Y<|Xf oI Y<|Ag e128<|OV (EL ty3 Y (H3.cell (i:=3) Y Y)) ?_
 have hw2:Mc w3 ⟨m.gd,m.gk,Zk,Zo,sp1,m.gv,Zl,Zp,xs1,ZB,Zn,Zq,ZC⟩ D (W.Eo D rs k):={ hw1 with lst:=(hl.to H3).less (fun x hx=>Hw (is:=[0,1,2,3,4,5]) H3 x hx) }
 refine OQ (EC VP Y) (BI ⟨m.gd,m.gk,Zk,Zo,sp1,m.gv,Zl,Zp,xs1,ZB,Zn,Zq,ZC⟩ D (W.Eo D rs k) w3 (H3.pick [0,1,2,3,4,5] (by decide)).here hw2 hdn hwt ((W.Eo D rs k).fin) hfk) ?_
 rintro r w4 ⟨g5,cap5,s5,hr5,hc5,hs5,Hc⟩
 rw[hr5]
 have H4:=(H3.Du [0,1,2,3,4,5] rfl Hc).pick [7,8,9,10,11,12,6,13] (by decide)
 have hnb:=S6 rs[k].length
 have hb0:=hlaid k hkl 0 hnb
 rw[Ia,Il hfk,T0]at hb0
 rw[hb0]at H4 hs5
 have hc4:u8s (le4 rs[k].length++X5 rs[k] 1)++s5=[Value.int .u8 ((rs[k].length % 256:Nat):Int),.int .u8 ((rs[k].length / 256 % 256:Nat):Int),.int .u8 ((rs[k].length / 65536 % 256:Nat):Int),.int .u8 ((rs[k].length / 16777216 % 256:Nat):Int)]++(u8s (X5 rs[k] 1)++s5):=by rw[vH,← BA,Bh]
 rw[hc4]at H4 hs5
 have hls:=TA rs[k].length (by omega)
 have hl1:=JQ (b:=rs[k]) (i:=1) (by omega)
 have hu5:cap5 - 4≤(u8s (X5 rs[k] 1)++s5).length:=by rw[Ae]at hs5;simp only[Bj,Dq]at hs5;omega
 refine Xa Y<|Xr e128<|J1<|rG [(true,0),(true,1),(true,2),(true,3),(true,4),(true,5),(true,6),(true,7),(true,8),(true,9),(true,10),(true,11),(true,12),(true,13),(true,14),(true,15),(true,16),(true,17),(true,18),(true,19),(true,20),(true,21),(true,22)] H4 [7] yE (by decide) (by kernel_rfl) ?_
 rintro w5 hw5
 have H5:=Hp.drew H4;rw[← hw5]at H5
 refine zY Y<|MV (fun wz hz=>zI Y)<|zY Y<|MV (fun wz hz=>EI Gz ty5 Y Y (i:=0) Y (by omega) (Cc _))<|zY Y<|MV (fun wz hz=>EL ty5 Y (hz.cell (i:=0) Y Y))<|zY Y<|MV (fun wz hz=>xN Tryz.underlying3 Tryz.underlying5 Y (Ad _ (by omega)))<|cM e128<|zY Y<|MV (fun wz hz=>zI Y)<|zY Y<|MV (fun wz hz=>EI Gz ty5 Y Y (i:=1) Y (by omega) (Cc _))<|zY Y<|MV (fun wz hz=>EL ty5 Y (hz.cell (i:=0) Y Y))<|zY Y<|MV (fun wz hz=>xN Tryz.underlying3 Tryz.underlying5 Y (Ad _ (by omega)))<|cM e128<|zY Y<|MV (fun wz hz=>kB Y Y (by omega) (shi _ 8 (by decide) (by omega)))<|zY Y<|MV (fun wz hz=>dC Y Y (orp (by omega) (by omega) (by omega) hls.1))<|zY Y<|MV (fun wz hz=>zI Y)<|zY Y<|MV (fun wz hz=>EI Gz ty5 Y Y (i:=2) Y (by omega) (Cc _))<|cM e128<|zY Y<|MV (fun wz hz=>EL ty5 Y (hz.cell (i:=0) Y Y))<|zY Y<|MV (fun wz hz=>xN Tryz.underlying3 Tryz.underlying5 Y (Ad _ (by omega)))<|zY Y<|MV (fun wz hz=>kB Y Y (by omega) (shi _ 16 (by decide) (by omega)))<|zY Y<|MV (fun wz hz=>dC Y Y (orp (by omega) (by omega) (by omega) hls.2.1))<|cM e128<|zY Y<|MV (fun wz hz=>zI Y)<|zY Y<|MV (fun wz hz=>EI Gz ty5 Y Y (i:=3) Y (by omega) (Cc _)) ?_
 refine zY Y<|MV (fun wz hz=>EL ty5 Y (hz.cell (i:=0) Y Y))<|zY Y<|MV (fun wz hz=>xN Tryz.underlying3 Tryz.underlying5 Y (Ad _ (by omega)))<|cM e128<|zY Y<|MV (fun wz hz=>kB Y Y (by omega) (shi _ 24 (by decide) (by omega)))<|zY Y<|MV (fun wz hz=>dC Y Y (orp (by omega) (by omega) (by omega) hls.2.2))<|zY Y<|MV (fun wz hz=>zO Y)<|tS<|cR e128<|J1<|Rq<|Xm Y<|Jw (zQ Y Y) (by omega)<|Xm Y<|Ag e128<|OY Y<|Xm Y<|OY Y<|Jw (yS Y Y) (by omega)<|Xu Y Y<|Xr e128<|J4 Y<|J6<|Rq<|Xm Y ?_
 have hca:wH (some ⟨g5,0,none⟩) (Int.toNat 4) cap5 1=some ⟨g5,4,none⟩:=by unfold wH;rw[if_neg (by show ¬cap5=4;omega)];rfl
 refine OV (vD Gz ty5 Y Y (by omega)) ?_
 rw[hca]
 refine Xa Y<|Xr e128<|J1<|Rq<|Xa Y<|Xr e128<|J7<|zV (fun nQ lQ w=>∃ (i g o cap nn:Nat) (pre sp:List Value) (y:Int),La rs[k].length - i=nQ∧xM (Hy [(0,Ah m.gv),(3,Ah gh),(4,Aa ((D.kept.length:Int) - 2)),(5,Ac (some ⟨g,o,none⟩) nn cap),(6,Aa (rs[k].length:Int)),(7,Aa y)] 0 128) lQ∧y=(i:Int)∧nn=(X5 rs[k] i).length∧1≤i∧i≤La rs[k].length∧pre.length=o∧(X5 rs[k] i).length≤cap∧cap≤(u8s (X5 rs[k] i)++sp).length∧Hp w2 w (bl (Bf ⟨m.gd,m.gk,Zk,Zo,sp1,m.gv,Zl,Zp,xs1,ZB,Zn,Zq,ZC⟩ D (W.Eo D rs k)++[(some gh,122,Nr W rs.length)])) ((Bf ⟨m.gd,m.gk,Zk,Zo,sp1,m.gv,Zl,Zp,xs1,ZB,Zn,Zq,ZC⟩ D (W.Eo D rs k)++[(some gh,122,Nr W rs.length)])++[(some g,5,pre++(u8s (X5 rs[k] i)++sp))])) (La rs[k].length - 1) ?_ ?_
 exact⟨1,g5,4,cap5 - 4,_,_,s5,_,Y,(YU Y Y Y Y Y Y Y),Y,hl1.symm,Ak _,by omega,Y,by omega,hu5,H5⟩
 rintro nQ lQ w6 ⟨i,g,o,cap,nn,pre,sp,y,rfl,hfit,rfl,rfl,hi1,hin,hpo,hcl,hcs,H6⟩
 obtain⟨j,rfl⟩:=hfit.open
 refine cR e128 ?_
 clear hfit
 have hli:=JQ hin
 refine J1<|Rq<|Xm Y<|OV (ES Gz Y)<|Xm Y<|OT (zQ Y Y) (fun hp99=>?_) (fun hp99=>?_)
 have hil:i < La rs[k].length:=by unfold La;omega
 refine Xr e128<|J3 Y<|J6<|J1<|J7<|J2<|Xm Y<|Xm Y<|Xm Y<|Xc Y<|Ag e128<|Xf oI Y<|OV (EL ty3 Y (H6.cell (i:=3) Y Y))<|Xm Y<|OV (zL Y Y ((Ad _ (by have:=eC hlr;omega)).trans (show(((W.Eo D rs k).fin:Int)+(i:Int))=(((W.Eo D rs k).fin+i:Nat):Int) by omega)))<|Ag e128<|Xm Y<|OV (eK Y Y (by omega) ((by rw[show((D.kept.length:Int) - 2)=((D.kept.length - 2:Nat):Int) by omega];exact AD _ _:(((W.Eo D rs k).fin+i:Nat):Int).tmod ((D.kept.length:Int) - 2)=((((W.Eo D rs k).fin+i) % (D.kept.length - 2):Nat):Int)))) ?_
 have hw3:Mc w6 ⟨m.gd,m.gk,Zk,Zo,sp1,m.gv,Zl,Zp,xs1,ZB,Zn,Zq,ZC⟩ D (W.Eo D rs k):={ hw1 with lst:=(hl.to H6).less (fun x hx=>Hw (is:=[0,1,2,3,4,5]) H6 x hx) }
 refine OQ (EC VP Y) (BI ⟨m.gd,m.gk,Zk,Zo,sp1,m.gv,Zl,Zp,xs1,ZB,Zn,Zq,ZC⟩ D (W.Eo D rs k) w6 (H6.pick [0,1,2,3,4,5] (by decide)).here hw3 hdn hwt (((W.Eo D rs k).fin+i) % (D.kept.length - 2)) (Hq _ (by omega))) ?_
 rintro r w7 ⟨g5,cap5,s5,hr5,hc5,hs5,Hc⟩
 rw[hr5]
 have H7:=(H6.Du [0,1,2,3,4,5] rfl Hc).pick [8,9,10,11,12,13,6,7,14] (by decide)
 have hbi:=hlaid k hkl i hil
 rw[hbi]at H7
 have hMl:(rJ (Iq rs[k]) i).length=64:=dZ (by have:=gS rs[k];omega)
 have hrM:=H7.rd (i:=8) (o:=some g5) (xs:=u8s (rJ (Iq rs[k]) i)) (sp:=s5) rfl (yY _) (by decide)
 rw[← hMl]
 refine N6 Gz ty5 H7 7 (L:=X5 rs[k] i) (M:=rJ (Iq rs[k]) i) Y Y hpo hcs hcl Y hrM (by have:=eC hlr;omega)<|fun w8 g7 o7 pre7 cap7 sp7 H8 ho7 hl7 hc7=>?_
 rw[QD _ hi1 hil]at H8 hl7 hc7 ⊢
 refine Ag e128<|Xa Y<|Xr e128<|zA (zB ?_)
 refine J2<|Xm Y<|OV (zL Y Y (Ad _ (by omega)))<|Xa Y<|Xr e128<|zA (zH ?_)
 exact⟨La rs[k].length - (i+1),by omega,i+1,g7,o7,cap7,_,pre7,sp7,_,Y,(YU Y Y Y Y Y Y Y),by omega,Y,by omega,by omega,ho7,hl7,hc7,H8.pick [0,1,2,3,4,5,6,7] (by decide)⟩
 obtain⟨t,ht⟩:=QC (b:=rs[k]) (i:=i) (by omega) hi1
 refine Xr e128<|J4 Y<|J8<|zU<|zS<|J2<|Xm Y<|Xm Y<|Xm Y<|OV (nS Gz ty5 Y Y (by omega))<|Ag e128 ?_
 have hap:u8s (X5 rs[k] i)++sp=u8s rs[k]++(u8s t++sp):=by rw[ht,vH,Bh]
 rw[hap]at H6
 have hrd:=H6.rdO (i:=7) (g:=g) (o:=o) (pre:=pre) (xs:=u8s rs[k]) (sp:=u8s t++sp) rfl hpo (yY _)
 refine yZ (EC jR Y) (vO _ rs[k] cap _ hrd (by omega))<|fun w7 g11 c11 s11 hm11 hc11 hg11 YW=>?_
 have hfr:∀ p,hd g11=some p→w2.heap.size≤p.block:=by
  intro p hp
  cases g11 with
  | none=>simp[hd]at hp
  | some gx=>
   simp only[hd,Ig,Option.some.injEq]at hp
   subst hp
   have h1:=YW.place (i:=0) rfl
   have h2:=H6.size
   rcases h1 with h1 | h1
   · cases h1
   show _≤gx
   omega
 have H7:=H6.call0 YW
 have hw4:Mc w7 ⟨m.gd,m.gk,Zk,Zo,sp1,m.gv,Zl,Zp,xs1,ZB,Zn,Zq,ZC⟩ D (W.Eo D rs k):={ hw1 with lst:=(hl.to H7).less (fun x hx=>Hw (is:=[0,1,2,3,4,5]) H7 x hx) }
 have hut:=pI rs k
 refine OQ (EC gf79 Y) (DN ⟨m.gd,m.gk,Zk,Zo,sp1,m.gv,Zl,Zp,xs1,ZB,Zn,Zq,ZC⟩ D (W.Eo D rs k) w7 (H7.pick [0,1,2,3,4,5] (by decide)).here hw4 (hd g11) rs[k] c11 (H7.rd (i:=8) (xs:=u8s rs[k]) (sp:=s11) Y (yY _) (by decide)) (fun _ p hp hx=>by
  cases g11 with
  | none=>simp[hd]at hp
  | some gx=>simp only[hd,Ig,Option.some.injEq]at hp;subst hp;exact Fa H7 (i:=8) rfl (is:=[0,1,2,3,4,5]) (by decide) hx) hlr (by rw[hlk];omega) (by rw[hrk];omega)) ?_
 rintro r w8 ⟨m3,e1,e2,e3,e4,Xd,H3⟩
 have e5:(W.Eo D rs k).took D rs[k]=W.Eo D rs (k+1):=by
  show _=(W.Eo D rs k).took D (rs.getD k [])
  rw[Ea,Cb hkl];rfl
 rw[e5]at Xd H3
 have H8:=H7.Du [0,1,2,3,4,5] rfl H3
 have hx3:fH w2 xs1 m3.xs:=by rw[e4];exact fH.snoc hfr
 have hgl:=HR.lt (i:=6) rfl
 have hl3:Qa w8 (Bf m3 D (W.Eo D rs (k+1))++[(some gh,122,Nr W rs.length)]) m3.xs (W.Eo D rs (k+1)).recs:=Qa.frame hl hx3 Xd.lst (fun x hx=>by
  have hx2:x=gh:=by simpa[bl]using hx
  subst hx2
  exact⟨by simp[bl],hgl⟩)
 have hz3:=(HR.Du [0,1,2,3,4,5,6] rfl H8).pick [16,17,18,19,20,21,13] (by decide)
 refine Xr e128<|zA (zB ?_)
 refine zA (zH ?_)
 exact⟨rs.length - (k+1),by omega,k+1,m3,Y,(Uh Y Y Y Y),by omega,e1,e2,e3,hxs.trans hx3 HR.size,Xd,hl3,hz3⟩
 have hkl:k=rs.length:=by omega
 subst hkl
 refine zY Y<|MV (fun wz hz=>zI Y)<|zY Y<|MZ Y<|cM e128<|zY Y<|MZ Y<|zY Y<|MZ Y<|cM e128<|zY Y<|MZ Y<|zY Y<|MZ Y<|cM e128<|zY Y<|MZ Y<|zY Y<|MZ Y<|cM e128<|zY Y<|MV (fun wz hz=>xV Y Y)<|tS<|cR e128<|J4 Y<|J8<|zU<|zS<|J2<|Xm Y<|Xm Y<|Xc Y<|Xf sU Y<|Ag e128<|OV (EL fO Y (H3.cell (i:=3) Y Y))<|OV (ES Ve Y)<|Xc Y<|Xf dW Y<|Ag e128<|OW ty3 H3 3 Y Y Y Y (by simp) Y ?_
 intro w4 H4
 refine Xr e128<|zA<|yQ Y ?_
 have hz:=(HR.Du [0,1,2,3,4,5,6] rfl H4).pick [7,8,9,10,11,12] (by decide)
 refine⟨⟨m.gd,m.gk,Zk,Zo,sp1,m.gv,Zl,Zp,xs1,ZB,Zn,Zq,ZC⟩,Y,Y,Y,hxs,?_,hz⟩
 exact { hw1 with lst:=(hl.to H4).less (fun x hx=>Hw (is:=[0,1,2,3,4,5]) H4 x hx),told:=by show(W.Eo D rs rs.length).recs.length≤_;omega }
end
def BL (D:Dk) (W:Wl) (gone:Nat) (x:Int) (D':Dk) (W':Wl):Prop:=
 ((W.dead || D.down)=true∧x=40∧D'=D∧W'={ W with dead:=true })∨
 ((W.dead || D.down)=false∧((x=0∧RG D W gone D' W')∨(x=40∧F9 D W gone D'∧W'={ W with dead:=true })))
theorem M7 (m:Mw) (D:Dk) (W:Wl) (w0:World) (H0:Hp w0 w0 (bl (Bf m D W)) (Bf m D W)) (h:Mc w0 m D W) (hwt:D.wait.length≤1000000000) (hfl:W.first≤2^50) (htl:W.turn≤2^50):Aj 36 #[Ah m.gv] w0 (fun r w'=>∃ x D' W',r=Aa x∧BL D W 0 x D' W'∧vV w0 w' (bl (Bf m D W)) m (D') (W')):=by
 refine zG Tryz.func36 Tryz.ntmps36 Y<|cR e8 ?_
 have H:=H0
 obtain⟨hD,Ls,hrc,hrs,hrn,hpl,hpc,hps,hpn,Gx,hlong,hsize,hfin,Us,hfirst,hturn,Uc,htold⟩:=id h
 have hkept:=hD.most
 refine Rq<|yA Y Y H<|fun w1 g6 H1 hgg6=>Xa Y<|Xr e8<|J1<|Rq<|OV (EL uN Y (H1.cell (i:=6) Y Y))<|Jw (yF U65 Y) (by simp)<|Xr e8<|J4 Y<|J6<|Rq<|OV (EL uN Y (H1.cell (i:=6) Y Y))<|OV (wL Y Y) ?_
 have hwk:Mc w1 m D W:=h.move H1 [0,1,2,3,4,5] rfl
 have H6:Hp w0 w1 _ (Bf m D W):=H1.pick [0,1,2,3,4,5] (by decide)
 have hc6:=H1.cell (i:=6) (o:=0) rfl rfl
 have hn6:g6∉bl (Bf m D W):=Fa H1 (i:=6) rfl (is:=[0,1,2,3,4,5]) (by decide)
 have hg:=iN m D W w1 H6.here hwk 80 [Ah g6] gf80 (RG D W 0) (F9 D W 0)
  (fun w1 Hw1 hw1=>KY m D W w1 Hw1.here hw1 g6 (xP hc6 Hw1 hn6) hn6 hwt hfl htl)
 refine lP (EC W7 Y) hg ?_
 rintro w2 x ⟨D',W',hcase,hpost⟩
 refine Xa Y<|Xr e8<|J5<|Cm Y Y<|⟨x,D',W',Y,hcase,vV.of H6 [0,1,2,3,4,5] Y hpost⟩
theorem UC (n:Int) (m:Mw) (D:Dk) (W:Wl) (w0:World) (H0:Hp w0 w0 (bl (Bf m D W)) (Bf m D W)) (h:Mc w0 m D W) (hwt:D.wait.length≤1000000000) (hfl:W.first≤2^50) (htl:W.turn≤2^50):Aj 41 #[Ah m.gv,Aa n] w0 (fun r w'=>((n < (W.first:Int)∨((W.first+W.recs.length:Nat):Int) < n)∧r=Aa 1∧vV w0 w' (bl (Bf m D W)) m (D) (W))∨(∃ gone:Nat,n=((W.first+gone:Nat):Int)∧gone≤W.recs.length∧∃ x D' W',r=Aa x∧BL D W gone x D' W'∧vV w0 w' (bl (Bf m D W)) m (D') (W'))):=by
 refine zG Tryz.func41 Tryz.ntmps41 Y<|cR e20 ?_
 have H:=H0
 obtain⟨hD,Ls,hrc,hrs,hrn,hpl,hpc,hps,hpn,Gx,hlong,hsize,hfin,Us,hfirst,hturn,Uc,htold⟩:=id h
 have hkept:=hD.most
 refine Rq<|yA Y Y H<|fun w1 g6 H1 hgg6=>yA Y Y H1<|fun w2 g7 H2 hgg7=>Xa Y<|Xr e20<|J1<|Rq<|OV (EL uN Y (H2.cell (i:=6) Y Y))<|Jw (yF U65 Y) (by simp)<|Xr e20<|J4 Y<|J6<|J1<|J1<|zR 9 [(true,0),(true,1),(true,2),(true,3),(true,4),(true,5),(true,6),(false,7),(true,8),(false,9)] H2 [0,1,2,3,4,5,6,7] yE (by decide) (by kernel_rfl) ?_
 rintro w3 hw3
 have H3:=Hp.drew H2;rw[← hw3]at H3
 refine MP Y<|MV (fun wz hz=>EL ty3 Y (hz.cell (i:=7) Y Y))<|MP Y<|MV (fun wz hz=>EL uN Y (hz.cell (i:=6) Y Y))<|MP Y<|qI (fun wz hz=>EC gf47 Y) (fun wz hz=>TY m.gv (W.first:Int) wz (hz.cell (i:=3) Y Y))<|MP Y<|vS (fun wz hz=>zQ Y Y) (fun hp10=>?_) (fun hp10=>?_)
 refine Zm Y Y<|cZ e20<|MP Y<|MZ Y<|MP Y<|MZ Y<|cZ e20<|MO Y<|OZ Y<|OE<|⟨fun hne=>H3.pick [0,1,2,3,4,5,6,7] (by decide),?_⟩
 refine MP Y<|MZ Y<|cZ e20<|MO Y<|Xt Y Y<|OE<|⟨fun hne=>absurd Y hne,?_⟩
 refine cZ e20<|ME<|cR e20<|J3 Y<|Rq<|Xa Y<|Xr e20<|J5<|Cm Y Y<|.inl ⟨.inl hp10,Y,cC h H3 [0,1,2,3,4,5] (by decide) Y⟩
 refine Zm Y Y<|cZ e20<|MP Y<|MY Y<|MV (fun wz hz=>EL ty3 Y (hz.cell (i:=7) Y Y))<|MP Y<|MY Y<|MV (fun wz hz=>EL uN Y (hz.cell (i:=6) Y Y))<|MO Y<|OY Y<|OC (EC TT Y) (gJ m.gv W.first W.recs.length m.cr (hd m.gr) _ (H3.cell (i:=3) Y Y) (H3.cell (i:=3) Y Y) (by omega))<|fun w4 Hc=>?_
 have H4:=(H3.call0 Hc).pick [0,1,2,3,4,5,6,7] (by decide)
 refine OE ?_
 refine⟨fun hne=>H4.pick [0,1,2,3,4,5,6,7] (by decide),?_⟩
 refine cZ e20<|MP Y<|MY Y<|vS (fun wz hz=>yS Y Y) (fun Js=>?_) (fun Js=>?_)
 refine MO Y<|Xu Y Y<|OE<|⟨fun hne=>absurd Y hne,?_⟩
 refine cZ e20<|ME<|cR e20<|J3 Y<|Rq<|Xa Y<|Xr e20<|J5<|Cm Y Y<|.inl ⟨.inr Js,Y,cC h H4 [0,1,2,3,4,5] (by decide) Y⟩
 obtain⟨gone,rfl⟩:∃ gone:Nat,n=((W.first+gone:Nat):Int):=⟨(n - W.first).toNat,by omega⟩
 have Xg:gone≤W.recs.length:=by omega
 refine MO Y<|Xu Y Y<|OE<|⟨fun hne=>absurd Y hne,?_⟩
 refine cZ e20<|ME<|cR e20<|J4 Y<|J6<|Rq<|OV (EL uN Y (H4.cell (i:=6) Y Y))<|OV (wL Y Y) ?_
 have hwk:Mc w4 m D W:=h.move H4 [0,1,2,3,4,5] rfl
 have H6:Hp w0 w4 _ (Bf m D W):=H4.pick [0,1,2,3,4,5] (by decide)
 have hc6:=H4.cell (i:=6) (o:=0) rfl rfl
 have hn6:g6∉bl (Bf m D W):=Fa H4 (i:=6) rfl (is:=[0,1,2,3,4,5]) (by decide)
 have hc7:=H4.cell (i:=7) (o:=0) rfl rfl
 have hn7:g7∉bl (Bf m D W):=Fa H4 (i:=7) rfl (is:=[0,1,2,3,4,5]) (by decide)
 have hg:=iN m D W w4 H6.here hwk 83 [Ah g6,Ah g7] gf83 (RG D W gone) (F9 D W gone)
  (fun w1 Hw1 hw1=>QP m D W w1 Hw1.here hw1 g6 (xP hc6 Hw1 hn6) hn6 g7 gone Xg (xP hc7 Hw1 hn7) hn7 hwt hfl htl)
 refine lP (EC W7 Y) hg ?_
 rintro w5 x ⟨D',W',hcase,hpost⟩
 refine Xa Y<|Xr e20<|J5<|Cm Y Y<|.inr ⟨gone,Y,Xg,x,D',W',Y,hcase,vV.of H6 [0,1,2,3,4,5] Y hpost⟩
end Go.Proofs.YtjoeklkmnfaabaaGreat
namespace Go.Proofs.YtjoeklkmnfaabaaGreat
set_option maxRecDepth 100000
set_option maxHeartbeats 4000000
open Go Go.RowKit
set_option linter.unusedVariables false
attribute [local irreducible] yW Ops zP Cd
def lV :List Value:=[.int .u64 (0:Int),.int .i64 (0:Int),.int .i64 (0:Int),.int .i64 (0:Int)]
def better (p:Nat×List Value) (b:Blk):Nat×List Value:=if rd8 b=rd8 (b.drop 56)∧p.1 < rd8 b then(rd8 b,pU b) else p
def qW (D:Dk):Nat→Nat×List Value
 | 0=>(0,lV)
 | i+1=>better (qW D i) (D.show i)
theorem BJ (D:Dk):∀ i,∃ a b c,(qW D i).2=[.int .u64 ((qW D i).1:Int),a,b,c]
 | 0=>⟨_,_,_,rfl⟩
 | i+1=>by
  show ∃ a b c,(better (qW D i) (D.show i)).2=[.int .u64 ((better (qW D i) (D.show i)).1:Int),a,b,c]
  unfold better
  split
  · exact⟨_,_,_,Y⟩
  exact BJ D i
variable {D:Dk} {i:Nat}
theorem QZ (h1:rd8 (D.show i)=rd8 ((D.show i).drop 56)) (h2:(qW D i).1 < rd8 (D.show i)):(qW D (i+1)).2=pU (D.show i):=by
 show(better (qW D i) (D.show i)).2=_
 unfold better
 rw[if_pos ⟨h1,h2⟩]
theorem J0 (h:¬(rd8 (D.show i)=rd8 ((D.show i).drop 56)∧(qW D i).1 < rd8 (D.show i))):(qW D (i+1)).2=(qW D i).2:=by
 show(better (qW D i) (D.show i)).2=_
 unfold better
 rw[if_neg h]
@[reducible] def Wl.anew (t f s:Nat):Wl:=⟨false,t,f,[],[],s,0⟩
theorem UO {w:World} {gd gk:Nat} {gw:Option Nat} {cw:Nat} {sp:List Value} (hD:Ri D gw cw sp) (hsize:64≤D.kept.length) {gv t f s:Nat} (ht:t≤2^60) (hf:f≤2^60) (hs:s < D.kept.length - 2):Mc w ⟨gd,gk,gw,cw,sp,gv,none,0,[],[],none,0,[]⟩ D (Wl.anew t f s):=
 ⟨hD,Qa.nil _ _,Ak _,Am _,fun _=>rfl,rfl,Ak _,Am _,fun _=>rfl,Am _,fun _ hx=>(by cases hx),hsize,hs,fun _ hx=>(by cases hx),hf,ht,by show used []≤_;simp[used],Am _⟩
theorem pl120 :wY Tryz.prog 120=some [(0,1),(1,1),(2,1),(3,1),(4,1),(5,1),(6,1),(7,1),(8,1)]:=by kernel_rfl
theorem LG (g2 g3:Nat) (w0:World):CallsDIn (FR none) 0 Tryz.prog 54 #[Ah g2,Ah g3] .returning w0 fun e u1 w'=>∃ r,e=.returned r∧u1=.returning∧w'=w0:=by
 have hz:=cS (k:=54) (w:=w0) (R:=fun _ w'=>w'=w0) Tryz.func54 Tryz.ntmps54 rfl (.inl ⟨rfl,rfl,rfl⟩) (args:=[Ah g2,Ah g3]) rfl ?_
 exact hz
 refine cR e16<|Rq<|Xm Y<|OV (qP Tryz.underlying20 ⟨_,Y⟩ Y)<|Xr e16<|J4 Y<|J6<|zA<|yQ Y<|rfl
namespace Rn
attribute [local irreducible] Cd
theorem open_any (gd gk:Nat) (gw:Option Nat) (cw:Nat) (sp:List Value) (D:Dk) (w0:World) (H0:Hp w0 w0 (bl (xD gd gk gw cw sp D)) (xD gd gk gw cw sp D)) (hD:Ri D gw cw sp) (hdn:D.down=false) (hsize:64≤D.kept.length) (hwt:D.wait.length≤1000000000) (t f s:Nat) (rs:List Blk) (hbest:(qW D 2).2=[.int .u64 (t:Int),Aa (f:Int),Aa ((f+rs.length:Nat):Int),Aa (s:Int)]) (ht:t≤2^60) (hf:f≤2^60) (hs:s < D.kept.length - 2) (hlaid:XU D (Wl.anew t f s) rs) (hrm:rs.length≤16384) (hrR:rs.length≤D.kept.length - 2) (hrl:∀ b∈rs,b.length≤16384) (hru:used rs≤2^39):qA Tryz.prog 28 #[Ah gd] w0 (fun r w'=>∃ m:Mw,r=.tuple #[Ah m.gv,Aa 0]∧m.gd=gd∧m.gk=gk∧w0.heap.size≤m.gv∧fH w0 [] m.xs∧Mc w' m D (Wl.found (Wl.anew t f s) D rs)∧Hp w0 w' (bl (xD gd gk gw cw sp D)) (Bf m D (Wl.found (Wl.anew t f s) D rs))) (fun _ _=>False):=by
 refine FO Tryz.func28 Tryz.ntmps28 Y ?_
 change Run _ _ _ _ [Ah gd,undef,undef,undef,undef,undef,undef,undef,undef,undef,undef,undef,undef,undef,undef,undef,undef,undef,undef,undef,undef,undef,undef,undef,undef,undef,undef,undef,undef,undef,undef,undef,undef,undef,undef,undef,undef,undef,undef,undef,undef,undef,undef,undef,undef,undef,undef,undef,undef,undef,undef,undef,undef,undef,undef,undef,undef,undef,undef,undef,undef,undef,undef,undef,undef,undef,undef,undef,undef] _
 have H:=H0
 have hkept:=hD.most
 refine zN<|zK Y (fun _ _ h=>h)<|OA uN H<|fun w1 g2 H1 hg2=>OA pZ H1<|fun w2 g3 H2 hg3=>OE ?_
 change Run _ _ _ _ [_,_,_,_,_,_,_,_,_,_,_,_,_,_,_,_,_,_,_,_,_,_,_,_,_,_,_,_,_,_,_,_,_,_,_,_,_,_,_,_,_,_,_,_,_,_,_,_,_,_,_,_,_,_,_,_,_,_,_,_,_,_,_,_,_,_,_,_,_] _
 refine zN<|zN<|zK Y (fun _ _ h=>h)<|Xm Y<|Jw (yF U27 Y) (by simp)<|OE ?_
 change Run _ _ _ _ [_,_,_,_,_,_,_,_,_,_,_,_,_,_,_,_,_,_,_,_,_,_,_,_,_,_,_,_,_,_,_,_,_,_,_,_,_,_,_,_,_,_,_,_,_,_,_,_,_,_,_,_,_,_,_,_,_,_,_,_,_,_,_,_,_,_,_,_,_] _
 refine zX Y<|xK<|zN<|zN<|zK Y (fun _ _ h=>h)<|Xm Y<|wR (EC gf52 Y) (QL gd false _ (by have hz:=H2.cell (i:=0) (o:=2) (v:=.bool D.down) Y Y;rw[hdn]at hz;exact hz))<|OE ?_
 change Run _ _ _ _ [_,_,_,_,_,_,_,_,_,_,_,_,_,_,_,_,_,_,_,_,_,_,_,_,_,_,_,_,_,_,_,_,_,_,_,_,_,_,_,_,_,_,_,_,_,_,_,_,_,_,_,_,_,_,_,_,_,_,_,_,_,_,_,_,_,_,_,_,_] _
 refine zX Y<|xK<|zN<|AI Y Y ?_
 change Run _ _ _ _ [_,_,_,_,_,_,_,_,_,_,_,_,_,_,_,_,_,_,_,_,_,_,_,_,_,_,_,_,_,_,_,_,_,_,_,_,_,_,_,_,_,_,_,_,_,_,_,_,_,_,_,_,_,_,_,_,_,_,_,_,_,_,_,_,_,_,_,_,_] _
 refine zN<|zK Y (fun _ _ h=>h)<|Xm Y<|OV (EB ty120 pl120 Y Y)<|yA Y Y H2 ?_
 intro w3 g17 H3 hg17
 have hgv:w0.heap.size≤g17:=by rw[hg17];exact H2.size
 refine OW uN H3 3 Y Y Y Y (by first|exact NL Y|simp[zJ]) Y<|fun w4 H4=>OE ?_
 change Run _ _ _ _ [_,_,_,_,_,_,_,_,_,_,_,_,_,_,_,_,_,_,_,_,_,_,_,_,_,_,_,_,_,_,_,_,_,_,_,_,_,_,_,_,_,_,_,_,_,_,_,_,_,_,_,_,_,_,_,_,_,_,_,_,_,_,_,_,_,_,_,_,_] _
 refine zN<|zK Y (fun _ _ h=>h)<|OA pL H4<|fun w5 g4 H5 hg4=>OE ?_
 change Run _ _ _ _ [_,_,_,_,_,_,_,_,_,_,_,_,_,_,_,_,_,_,_,_,_,_,_,_,_,_,_,_,_,_,_,_,_,_,_,_,_,_,_,_,_,_,_,_,_,_,_,_,_,_,_,_,_,_,_,_,_,_,_,_,_,_,_,_,_,_,_,_,_] _
 refine zN<|zN<|zK Y (fun _ _ h=>h)<|Xa Y<|OE ?_
 change Run _ _ _ _ [_,_,_,_,_,_,_,_,_,_,_,_,_,_,_,_,_,_,_,_,_,_,_,_,_,_,_,_,_,_,_,_,_,_,_,_,_,_,_,_,_,_,_,_,_,_,_,_,_,_,_,_,_,_,_,_,_,_,_,_,_,_,_,_,_,_,_,_,_] _
 refine wJ<|zV (fun nQ lQ w=>∃ (i:Nat) (bv:List Value) (y:Int),2 - i=nQ∧xM (Hy [(0,Ah gd),(2,Ah g2),(3,Ah g3),(4,Ah g4),(5,Aa y)] 0 69) lQ∧y=(i:Int)∧i≤2∧bv=(qW D i).2∧Hp w0 w (bl (xD gd gk gw cw sp D)) (xD gd gk gw cw sp D++[(some g2,65,[Ah g17]),(some g3,24,[Aa (0:Int)]),(some g17,120,[Ah gd,.bool false,.int .u64 (0:Int),Aa (0:Int),Dn,Dn,Aa (0:Int),Aa (0:Int),Aa (0:Int)]),(some g4,122,bv)])) (2) ?_ ?_
 exact⟨0,_,_,Y,(Oc Y Y Y Y Y Y),Y,by omega,Y,H5⟩
 rintro nQ lQ w6 ⟨i,bv,y,rfl,hfit,rfl,hi,rfl,H6⟩
 obtain⟨j,rfl⟩:=hfit.open
 change Run _ _ _ _ [_,_,_,_,_,_,_,_,_,_,_,_,_,_,_,_,_,_,_,_,_,_,_,_,_,_,_,_,_,_,_,_,_,_,_,_,_,_,_,_,_,_,_,_,_,_,_,_,_,_,_,_,_,_,_,_,_,_,_,_,_,_,_,_,_,_,_,_,_] _
 clear hfit
 obtain⟨ba,bb,bc,hbv⟩:=BJ D i
 rw[hbv]at H6
 refine zN<|zN<|zK Y (fun _ _ h=>h)<|Xm Y<|OT (zQ Y Y) (fun hp19=>?_) (fun hp19=>?_)
 have hi2:i < 2:=by omega
 refine Xm Y<|Ag YE<|OY Y<|Xm Y<|OY Y<|Xm Y<|Ag YE<|OY Y<|wR (EC XA Y) (GN gd D.kept.length _ _ _ (H6.cell (i:=0) Y Y))<|OY Y<|Ui (zQ Y Y) (by omega)<|Xt Y Y<|OE ?_
 change Run _ _ _ _ [_,_,_,_,_,_,_,_,_,_,_,_,_,_,_,_,_,_,_,_,_,_,_,_,_,_,_,_,_,_,_,_,_,_,_,_,_,_,_,_,_,_,_,_,_,_,_,_,_,_,_,_,_,_,_,_,_,_,_,_,_,_,_,_,_,_,_,_,_] _
 refine yP Y<|xK<|zN<|wJ<|zN<|zK Y (fun _ _ h=>h)<|Xm Y<|Xm Y<|OQ (EC gf56 Y) (AN gd gk gw cw sp D _ (H6.pick [0,1,2] (by decide)).here hD hdn i (by omega) hwt) ?_
 rintro r w7 ⟨g,cap,s5,hr,hcap,hcs,Hc⟩
 rw[hr]
 have H7:=(H6.Du [0,1,2] rfl Hc).pick [7,8,9,3,4,5,6,10] (by decide)
 refine Xm Y<|Ag YE<|Xe Y Y<|Xe Y Y<|Xa Y<|Xa Y<|OE ?_
 change Run _ _ _ _ [_,_,_,_,_,_,_,_,_,_,_,_,_,_,_,_,_,_,_,_,_,_,_,_,_,_,_,_,_,_,_,_,_,_,_,_,_,_,_,_,_,_,_,_,_,_,_,_,_,_,_,_,_,_,_,_,_,_,_,_,_,_,_,_,_,_,_,_,_] _
 refine zN<|zK Y (fun _ _ h=>h)<|Xm Y<|OQ (EC G5 Y) ((pS 0 _).d (fun _ _ hx=>hx.1 Y)) ?_
 rintro r wz ⟨_,hwz⟩
 rw[hwz]
 refine OE ?_
 change Run _ _ _ _ [_,_,_,_,_,_,_,_,_,_,_,_,_,_,_,_,_,_,_,_,_,_,_,_,_,_,_,_,_,_,_,_,_,_,_,_,_,_,_,_,_,_,_,_,_,_,_,_,_,_,_,_,_,_,_,_,_,_,_,_,_,_,_,_,_,_,_,_,_] _
 refine zN<|zK Y (fun _ _ h=>h)<|Xm Y ?_
 have e64:(D.show i).length=64:=DT hD (by omega)
 have hrh:=CA (some ⟨g,0,none⟩) (D.show i) cap w7 (H7.rd (i:=7) (o:=some g) (xs:=u8s (D.show i)) (sp:=s5) rfl (yY _) (by decide)) e64 (by omega)
 rw[e64]at hrh
 refine OQ (EC gf58 Y) hrh ?_
 rintro r w8 ⟨hr2,Hc⟩
 rw[hr2]
 have H8:=(H7.call0 Hc).pick [0,1,2,3,4,5,6,7] (by decide)
 refine Xm Y<|Xe Y Y<|Ag YE<|Xe Y Y ?_
 rcases Bool.eq_false_or_eq_true (decide (rd8 (D.show i)=rd8 ((D.show i).drop 56)))with hok | hok <;>rw[hok]
 refine OA pL H8<|fun w9 g8 H9 hg8=>OS pL H9 8 Y Y Y Y Y (by exact Ak 4) Y<|fun w10 Df=>Xa Y<|OE ?_
 change Run _ _ _ _ [_,_,_,_,_,_,_,_,_,_,_,_,_,_,_,_,_,_,_,_,_,_,_,_,_,_,_,_,_,_,_,_,_,_,_,_,_,_,_,_,_,_,_,_,_,_,_,_,_,_,_,_,_,_,_,_,_,_,_,_,_,_,_,_,_,_,_,_,_] _
 refine zN<|zK Y (fun _ _ h=>h)<|Xm Y<|Xm Y<|Ag YE<|OY Y<|Xf dV Y<|OY Y<|OV (EL nG Y (Df.cell (i:=8) (o:=0) Y Y))<|Ag YE<|OY Y<|Xf dV Y<|OY Y<|OV (EL nG Y (Df.cell (i:=6) (o:=0) Y Y))<|Ag YE<|OY Y<|OT (yS Y Y) (fun Pz=>?_) (fun Pz=>?_)
 refine Xt Y Y<|OE ?_
 change Run _ _ _ _ [_,_,_,_,_,_,_,_,_,_,_,_,_,_,_,_,_,_,_,_,_,_,_,_,_,_,_,_,_,_,_,_,_,_,_,_,_,_,_,_,_,_,_,_,_,_,_,_,_,_,_,_,_,_,_,_,_,_,_,_,_,_,_,_,_,_,_,_,_] _
 refine yP Y<|zK Y (fun _ _ h=>h)<|OV (EN pL Y (vs:=pU (D.show i)) Y (sO Df (i:=8) (o:=0) Y (fun j u hu=>by rw[Ba];exact hu)))<|OS pL Df 6 Y Y Y Y Y (by exact Ak 4) Y<|fun w12 Fj=>OE ?_
 change Run _ _ _ _ [_,_,_,_,_,_,_,_,_,_,_,_,_,_,_,_,_,_,_,_,_,_,_,_,_,_,_,_,_,_,_,_,_,_,_,_,_,_,_,_,_,_,_,_,_,_,_,_,_,_,_,_,_,_,_,_,_,_,_,_,_,_,_,_,_,_,_,_,_] _
 refine zA (zB ?_)
 refine zK Y (fun _ _ h=>h)<|Xm Y<|OV (zL Y Y (Ad _ (by omega)))<|Xa Y<|OE ?_
 change Run _ _ _ _ [_,_,_,_,_,_,_,_,_,_,_,_,_,_,_,_,_,_,_,_,_,_,_,_,_,_,_,_,_,_,_,_,_,_,_,_,_,_,_,_,_,_,_,_,_,_,_,_,_,_,_,_,_,_,_,_,_,_,_,_,_,_,_,_,_,_,_,_,_] _
 refine zA (zH ?_)
 refine⟨Y,?_⟩
 exact⟨2 - (i+1),by omega,i+1,pU (D.show i),_,Y,(Oc Y Y Y Y Y Y),by omega,by omega,(QZ (of_decide_eq_true hok) (by omega)).symm,Fj.pick [0,1,2,3,4,5,6] (by decide)⟩
 refine Xt Y Y<|OE ?_
 change Run _ _ _ _ [_,_,_,_,_,_,_,_,_,_,_,_,_,_,_,_,_,_,_,_,_,_,_,_,_,_,_,_,_,_,_,_,_,_,_,_,_,_,_,_,_,_,_,_,_,_,_,_,_,_,_,_,_,_,_,_,_,_,_,_,_,_,_,_,_,_,_,_,_] _
 refine zX Y<|xK<|zA (zB ?_)
 refine zK Y (fun _ _ h=>h)<|Xm Y<|OV (zL Y Y (Ad _ (by omega)))<|Xa Y<|OE ?_
 change Run _ _ _ _ [_,_,_,_,_,_,_,_,_,_,_,_,_,_,_,_,_,_,_,_,_,_,_,_,_,_,_,_,_,_,_,_,_,_,_,_,_,_,_,_,_,_,_,_,_,_,_,_,_,_,_,_,_,_,_,_,_,_,_,_,_,_,_,_,_,_,_,_,_] _
 refine zA (zH ?_)
 refine⟨Y,?_⟩
 exact⟨2 - (i+1),by omega,i+1,_,_,Y,(Oc Y Y Y Y Y Y),by omega,by omega,((J0 (fun hx=>by omega)).trans hbv).symm,Df.pick [0,1,2,3,4,5,6] (by decide)⟩
 refine OA pL H8<|fun w9 g8 H9 hg8=>OS pL H9 8 Y Y Y Y Y (by exact Ak 4) Y<|fun w10 Df=>Xa Y<|OE ?_
 change Run _ _ _ _ [_,_,_,_,_,_,_,_,_,_,_,_,_,_,_,_,_,_,_,_,_,_,_,_,_,_,_,_,_,_,_,_,_,_,_,_,_,_,_,_,_,_,_,_,_,_,_,_,_,_,_,_,_,_,_,_,_,_,_,_,_,_,_,_,_,_,_,_,_] _
 refine zN<|zK Y (fun _ _ h=>h)<|Xm Y<|Xm Y<|Ag YE<|Oz 5 Y<|Ag YE<|Xu Y Y<|OE ?_
 change Run _ _ _ _ [_,_,_,_,_,_,_,_,_,_,_,_,_,_,_,_,_,_,_,_,_,_,_,_,_,_,_,_,_,_,_,_,_,_,_,_,_,_,_,_,_,_,_,_,_,_,_,_,_,_,_,_,_,_,_,_,_,_,_,_,_,_,_,_,_,_,_,_,_] _
 refine zX Y<|xK<|zA (zB ?_)
 refine zK Y (fun _ _ h=>h)<|Xm Y<|OV (zL Y Y (Ad _ (by omega)))<|Xa Y<|OE ?_
 change Run _ _ _ _ [_,_,_,_,_,_,_,_,_,_,_,_,_,_,_,_,_,_,_,_,_,_,_,_,_,_,_,_,_,_,_,_,_,_,_,_,_,_,_,_,_,_,_,_,_,_,_,_,_,_,_,_,_,_,_,_,_,_,_,_,_,_,_,_,_,_,_,_,_] _
 refine zA (zH ?_)
 refine⟨Y,?_⟩
 exact⟨2 - (i+1),by omega,i+1,_,_,Y,(Oc Y Y Y Y Y Y),by omega,by omega,((J0 (fun hx=>of_decide_eq_false hok hx.1)).trans hbv).symm,Df.pick [0,1,2,3,4,5,6] (by decide)⟩
 have hi2:i=2:=by omega
 subst hi2
 rw[hbv.symm.trans hbest]at H6
 refine Xm Y<|Ag YE<|Oz 4 Y<|Ag YE<|Xu Y Y<|OE ?_
 change Run _ _ _ _ [_,_,_,_,_,_,_,_,_,_,_,_,_,_,_,_,_,_,_,_,_,_,_,_,_,_,_,_,_,_,_,_,_,_,_,_,_,_,_,_,_,_,_,_,_,_,_,_,_,_,_,_,_,_,_,_,_,_,_,_,_,_,_,_,_,_,_,_,_] _
 refine zX Y<|tF<|zU<|zS<|zN<|zR 17 [(true,0),(true,1),(true,2),(true,3),(true,4),(true,5),(true,6),(true,7),(true,8),(true,9),(true,10),(false,11),(true,12),(true,13),(false,14),(true,15),(true,16),(false,17)] H6 [3,6] yE (by decide) (by kernel_rfl) Y ?_
 rintro w7 hw7
 have H7:=Hp.drew H6;rw[← hw7]at H7
 refine MP Y<|MV (fun wz hz=>EL uN Y (hz.cell (i:=0) Y Y))<|MP Y<|MV (fun wz hz=>EL uN Y (hz.cell (i:=0) Y Y))<|MP Y<|MV (fun wz hz=>EL uN Y (hz.cell (i:=0) Y Y))<|Zf Y dV Y<|cZ YE<|MP Y<|MV (fun wz hz=>EL nG Y (hz.cell (i:=1) Y Y))<|Zf Y CW Y<|MP Y<|MV (fun wz hz=>EL ty3 Y (hz.cell (i:=1) Y Y))<|Zf Y CV Y<|cZ YE<|MP Y<|MV (fun wz hz=>EL ty3 Y (hz.cell (i:=1) Y Y))<|Zc Y Y<|Zf Y CX Y<|MO Y<|OW nG H7 5 Y Y Y Y (by first|exact NL Y|simp[zJ]) Y<|fun w8 H8=>OE<|⟨fun hne=>H8.pick [3,6] (by decide),?_⟩
 refine cZ YE<|Zc Y Y<|Zf Y qM Y<|MO Y<|OW ty3 H8 5 Y Y Y Y (by first|exact NL Y|simp[zJ]) Y<|fun w9 H9=>OE<|⟨fun hne=>H9.pick [3,6] (by decide),?_⟩
 refine cZ YE<|Zc Y Y<|Zf Y oI Y<|MO Y<|OW ty3 H9 5 Y Y Y Y (by first|exact NL Y|simp[zJ]) Y<|fun w10 Df=>OE<|⟨fun hne=>absurd Y hne,?_⟩
 refine cZ YE<|ME ?_
 change Run _ _ _ _ [_,_,_,_,_,_,_,_,_,_,_,_,_,_,_,_,_,_,_,_,_,_,_,_,_,_,_,_,_,_,_,_,_,_,_,_,_,_,_,_,_,_,_,_,_,_,_,_,_,_,_,_,_,_,_,_,_,_,_,_,_,_,_,_,_,_,_,_,_] _
 refine zN<|zK Y (fun _ _ h=>h)<|OV (EL uN Y (Df.cell (i:=3) Y Y))<|OV (EN pL Y (vs:=[.int .u64 (t:Int),Aa (f:Int),Aa ((f+rs.length:Nat):Int),Aa (s:Int)]) Y (sO Df (i:=6) (o:=0) Y (fun j u hu=>by rw[Ba];exact hu))) ?_
 have Hn:=(Df.nil 73).nil 3
 have hw0:Mc w10 ⟨gd,gk,gw,cw,sp,g17,none,0,[],[],none,0,[]⟩ D (Wl.anew t f s):=UO hD hsize ht hf hs
 have hF8:∀ x∈bl [((some g2,65,[Ah g17]):Ent),(some g3,24,[Aa (0:Int)])],x∈bl (Bf ⟨gd,gk,gw,cw,sp,g17,none,0,[],[],none,0,[]⟩ D (Wl.anew t f s)++[((some g2,65,[Ah g17]):Ent),(some g3,24,[Aa (0:Int)])])∧x < w10.heap.size:=by
  intro x hx
  have h2:=Df.lt (i:=3) rfl
  have h3:=Df.lt (i:=4) rfl
  refine⟨by unfold bl at hx ⊢;rw[List.filterMap_append];exact Bq.2 (.inr hx),?_⟩
  have hx2:x=g2∨x=g3:=by simpa[bl]using hx
  rcases hx2 with rfl | rfl
  · exact h2
  exact h3
 have hsz0:=Df.size
 refine OQ (EC gf59 Y) (P7 ⟨gd,gk,gw,cw,sp,g17,none,0,[],[],none,0,[]⟩ D (Wl.anew t f s) w10 (Hn.pick [0,1,2,5,7,8] (by decide)).here hw0 hdn hwt rs Y hlaid hrm hrR hrl hru) ?_
 rintro r w12 ⟨m1,e1,e2,e3,e4,hok1,Hd⟩
 have hlz:=Qa.frame (Qa.nil w10 (Bf ⟨gd,gk,gw,cw,sp,g17,none,0,[],[],none,0,[]⟩ D (Wl.anew t f s)++[((some g2,65,[Ah g17]):Ent),(some g3,24,[Aa (0:Int)])])) e4 hok1.lst hF8
 have Hold:=(Hn.Du [0,1,2,5,7,8] rfl Hd).pick [9,10,11,12,13,14,3,4] (by decide)
 have Fj:=Hold.here
 refine OE ?_
 change Run _ _ _ _ [_,_,_,_,_,_,_,_,_,_,_,_,_,_,_,_,_,_,_,_,_,_,_,_,_,_,_,_,_,_,_,_,_,_,_,_,_,_,_,_,_,_,_,_,_,_,_,_,_,_,_,_,_,_,_,_,_,_,_,_,_,_,_,_,_,_,_,_,_] _
 refine zN<|zK Y (fun _ _ h=>h)<|OV (EL uN Y (Fj.cell (i:=6) Y Y))<|OW uN Fj 6 Y Y Y Y (by simp) Y<|fun Uf Ip=>OW pZ Ip 7 Y Y Y Y (by simp) Y<|fun Oa Ei=>OE ?_
 change Run _ _ _ _ [_,_,_,_,_,_,_,_,_,_,_,_,_,_,_,_,_,_,_,_,_,_,_,_,_,_,_,_,_,_,_,_,_,_,_,_,_,_,_,_,_,_,_,_,_,_,_,_,_,_,_,_,_,_,_,_,_,_,_,_,_,_,_,_,_,_,_,_,_] _
 refine wG<|iM gf54 (.inl ⟨Y,Y,Y⟩) ?_
 obtain⟨hx1,hx2⟩:=LG g2 g3 Oa
 refine⟨hx1,fun c cs hu hr=>?_⟩
 obtain⟨e,u1,w',fr,⟨r,he,hu1,hww⟩,hrest⟩:=hx2 c cs hu hr
 rw[hww]at hrest
 have Hend:=(Hold.Du [0,1,2,3,4,5,6,7] rfl Ei).pick [8,9,10,11,12,13] (by decide)
 refine⟨e,u1,Oa,fr,⟨r,he,hu1,_,jT Y uN pZ Y Y (Ei.cell (i:=6) (o:=0) Y Y) (Ei.cell (i:=7) (o:=0) Y Y),m1,by rw[e3],e1,e2,by rw[e3];exact hgv,fun v hv=>?_,?_,Hend⟩,hrest⟩
 rcases e4 v hv with h1 | h1
 exact .inl h1
 exact .inr fun p n c he=>Ce hsz0 (h1 p n c he)
 exact { hok1 with lst:=(hlz.to Ei).less (fun x hx=>Hw (is:=[0,1,2,3,4,5]) Ei x hx) }
end Rn
end Go.Proofs.YtjoeklkmnfaabaaGreat
namespace Go.Proofs.YtjoeklkmnfaabaaGreat
set_option maxRecDepth 100000
set_option maxHeartbeats 4000000
open Go Go.RowKit
set_option linter.unusedVariables false
attribute [local irreducible] yW Ops zP Cd
theorem Hp.widen {w0 w:World} {S S':List Nat} {es:List Ent} (H:Hp w0 w S es) (h:∀ b∈S,b∈S'):Hp w0 w S' es:=by
 refine⟨H.os,H.tape,H.output,H.size,fun k hk hn=>H.frame k hk (fun hx=>hn (h _ hx)),fun i e he=>?_,H.apart⟩
 have h1:=H.ent i e he
 unfold qX at h1 ⊢
 split
 rename_i hn;rw[hn]at h1;exact h1
 rename_i g hg
 rw[hg]at h1
 exact⟨h1.1,h1.2.elim (fun hx=> .inl (h _ hx)) .inr⟩
theorem Hp.past {w0 W W':World} {S T:List Nat} {es:List Ent} (H:Hp w0 W S es) (H':Hp W W' T []) (hT:∀ b∈T,b∈S∨w0.heap.size≤b) (hne:∀ b∈bl es,b∉T):Hp w0 W' S es:=by
 refine⟨H'.os.trans H.os,H'.tape.trans H.tape,H'.output.trans H.output,Ce H.size H'.size,?_,?_,H.apart⟩
 intro k hk Ug
 rw[H'.frame k (by have:=H.size;omega) (fun hx=>by rcases hT k hx with h1 | h1;exact Ug h1;omega)]
 exact H.frame k hk Ug
 intro i e he
 have h:=H.ent i e he
 unfold qX at h ⊢
 split
 rename_i hn;rw[hn]at h;exact h
 rename_i g hg
 rw[hg]at h
 have hb:g∈bl es:=Ew.2 ⟨e,Fe he,hg⟩
 exact⟨by rw[H'.frame g (Dw.1 h.1).1 (hne g hb)];exact h.1,h.2⟩
def SD :Value→Option Nat
 | .slice (some p) (_+1) _=>some p.block
 | _=>none
def X6 (xs:List Value):List Nat:=xs.filterMap SD
theorem LK {xs:List Value} {i n c:Nat} {p:Addr} (h:xs[i]? =some (Ac (some p) n c)) (h0:0 < n):p.block∈X6 xs:=by
 cases n with
 | zero=>omega
 | succ n=>exact Ew.2 ⟨_,Fe h,rfl⟩
theorem NM {w:World} {es:List Ent} {xs:List Value} {bs:List Blk} (h:Qa w es xs bs):∀ b∈X6 xs,b < w.heap.size:=by
 intro b hb
 obtain⟨v,hv,hr⟩:=Ew.1 hb
 obtain⟨i,hi⟩:=Dh hv
 have hlt:i < bs.length:=by rw[← h.1];exact lt_of_get hi
 obtain⟨B,c,h1,h2,_⟩:=h.2 i hlt
 rw[hi]at h1
 simp only[Option.some.injEq]at h1
 subst h1
 cases B with
 | none=>simp[SD]at hr
 | some p=>
  cases hn:bs[i]with
  | nil=>rw[hn]at hr;simp[SD]at hr
  | cons x l=>
   rw[hn]at hr
   simp only[Bj,SD,Option.some.injEq]at hr
   rw[← hr]
   exact NO h2 (by rw[hn];simp) Y
def VX (z:Nat) (W:Wl) (k:Nat) (w:World) (args:List Value) (G:List Nat):Prop:=
 ∃ (b:Blk) (g:Option Nat) (cap:Nat) (sp:List Value),W.recs[k]? =some b∧args=[.int .i64 ((W.first+k:Nat):Int),.slice (hd g) b.length cap]∧b.length≤cap∧cap≤(u8s b++sp).length∧(g=none→cap=0)∧G=bl [(g,5,u8s b++sp)]∧Hp w w G [(g,5,u8s b++sp)]∧∀ x∈G,z≤x
theorem UQ (v:Value) (w0:World) (hv:v.cells=[v].toArray):Aj 30 #[v] w0 (fun r w'=>∃ gb,r=.func (.func 60) #[] [Ah gb].toArray∧Hp w0 w' [] [(some gb,65,[v])]):=by
 refine zG Tryz.func30 Tryz.ntmps30 Y<|cR e4 ?_
 have H:=Hp.refl w0
 refine Rq<|yA Y hv H<|fun w1 gb H1 hgb=>Xa Y<|Xr e4<|Rq<|OV (wL Y Y)<|Xa Y<|Xr e4<|J5<|Cm Y Y<|⟨gb,Y,H1⟩
namespace Rn
attribute [local irreducible] Cd
theorem Q8 (gb:Nat) (m:Mw) (D:Dk) (W:Wl) (wA:World) (HA:Hp wA wA (bl (Bf m D W)) (Bf m D W)) (h:Mc wA m D W) (hb:wA.cell? ⟨gb,0,none⟩=some (Ah m.gv)) (z:Nat) (hz:z≤wA.heap.size):XV Tryz.prog 60 [Ah gb] W.recs.length (gb::m.gv::X6 m.xs) (VX z W) wA:=by
 intro L J X XP O0 hO hJO hJs hXs hY h0
 refine zG Tryz.func60 Tryz.ntmps60 Y ?_
 change Run _ _ _ _ [.func (.yield L) #[] #[],Ah gb,undef,undef,undef,undef,undef,undef,undef,undef,undef,undef,undef,undef,undef,undef,undef,undef,undef,undef,undef,undef,undef,undef,undef,undef,undef,undef,undef,undef] _
 have Gx:=h.most
 have hfirst:=h.first
 have hlr:Rd wA (hd m.gr) W.recs.length 1 m.xs:=HA.rd (i:=4) (xs:=m.xs) (sp:=m.sr) rfl (by rw[h.lst.1,Cc]) (by decide)
 refine zN<|zN<|zK Y (fun _ _ h=>h)<|OV (EL uN Y (hb))<|Jw (yF U65 Y) (by simp)<|OE ?_
 change Run _ _ _ _ [_,_,_,_,_,_,_,_,_,_,_,_,_,_,_,_,_,_,_,_,_,_,_,_,_,_,_,_,_,_] _
 refine zX Y<|xK<|zN<|zK Y (fun _ _ h=>h)<|OV (EL uN Y (hb))<|Xc Y<|Xf sU Y<|OV (EL fO Y (HA.cell (i:=3) Y Y))<|Ag e30<|OQ (EC gf61 Y) (dF (hd m.gr) W.recs.length m.cr m.xs wA hlr h.lst.ones (by omega)) ?_
 rintro r w1 ⟨gl,cl,sl,hr,hc1,hc2,hc3,Hc⟩
 rw[hr]
 have H1:=Hp.widen Hc (S':=O0) (by simp)
 have hJ0:J 0 w1 O0:=hJs 0 wA O0 w1 h0 Hc.Af
 have hO0:∀ b∈O0,(b∈O0∨wA.heap.size≤b)∧b∉bl [((gl,73,m.xs++sl):Ent)]:=fun b hx=>⟨.inl hx,fun hx2=>by
  have h1:=hJO 0 wA O0 h0 b hx
  rcases bl_place Hc b hx2 with h2 | h2
  · cases h2
  omega⟩
 refine OV (ES Ve Y)<|Xm Y<|OE ?_
 change Run _ _ _ _ [_,_,_,_,_,_,_,_,_,_,_,_,_,_,_,_,_,_,_,_,_,_,_,_,_,_,_,_,_,_] _
 refine wJ<|zV (fun nQ lQ w=>∃ (k:Nat) (y:Int) (O:List Nat),W.recs.length - k=nQ∧xM (Hy [(0,.func (.yield L) #[] #[]),(1,Ah gb),(11,Ac (hd gl) W.recs.length cl),(12,Aa (W.recs.length:Int)),(13,Aa y)] 0 30) lQ∧y=(k:Int)∧k≤W.recs.length∧J k w O∧(∀ b∈O,(b∈O0∨wA.heap.size≤b)∧b∉bl [((gl,73,m.xs++sl):Ent)])∧Hp wA w O0 [(gl,73,m.xs++sl)]) (W.recs.length) ?_ ?_
 exact⟨0,_,O0,Y,(Oc Y Y Y Y Y Y),Y,Am _,hJ0,hO0,H1⟩
 rintro nQ lQ w2 ⟨k,y,O,rfl,hfit,rfl,hk,hJ,hOk,H2⟩
 obtain⟨j,rfl⟩:=hfit.open
 change Run _ _ _ _ [_,_,_,_,_,_,_,_,_,_,_,_,_,_,_,_,_,_,_,_,_,_,_,_,_,_,_,_,_,_] _
 clear hfit
 have HR:=H2
 have H2:=Hp.refl w2
 refine zN<|zK Y (fun _ _ h=>h)<|OT (zQ Y Y) (fun hp14=>?_) (fun hp14=>?_)
 have hkl:k < W.recs.length:=by omega
 obtain⟨Bk,ck,hxk,hrk,hak⟩:=h.lst.2 k hkl
 have hlk:=h.long _ (Jm hkl)
 obtain⟨gx,hgx⟩:∃ x,gl=some x:=by
  cases hx:gl with
  | none=>have:=hc3 hx;omega
  | some x=>exact⟨x,rfl⟩
 have hbk:w2.cell? ⟨gb,0,none⟩=some (Ah m.gv):=xP hb HR (fun hx=>hO _ hx (by simp))
 have hfk:w2.cell? ⟨m.gv,3,none⟩=some (Aa (W.first:Int)):=xP (HA.cell (i:=3) (o:=3) rfl rfl) HR (fun hx=>hO _ hx (by simp))
 have hlx:w2.cell? ⟨gx,k,none⟩=some (.slice Bk W.recs[k].length ck):=HR.cell (i:=0) (g:=gx) (T:=73) (cs:=m.xs++sl) (o:=k) (by rw[← hgx];rfl) (by rw[Di (lt_of_get hxk)];exact hxk)
 have hrd:Rd w2 Bk W.recs[k].length 1 (u8s W.recs[k]):=Rd.fcw hrk HR (fun h0 p hp hx=>by subst hp;exact hO _ hx (by simp only[Cj];exact .inr (.inr (LK hxk h0))))
 have hJOk:=hJO k w2 O hJ
 have hHRs:=HR.size
 have hgle:∀ b∈bl [((gl,73,m.xs++sl):Ent)],b < w2.heap.size:=fun b hx=>by
  obtain⟨arr,T,z,hz⟩:=sP HR b hx
  exact(Dw.1 hz).1
 refine OE ?_
 change Run _ _ _ _ [_,_,_,_,_,_,_,_,_,_,_,_,_,_,_,_,_,_,_,_,_,_,_,_,_,_,_,_,_,_] _
 refine zN<|yP Y<|xK<|zN<|wJ<|zN<|zK Y (fun _ _ h=>h)<|Xm Y<|OV (EI Ve xO (a:=⟨gx,0,none⟩) (congrArg (fun A=>some (Ac A W.recs.length cl)) (show hd gl=some ⟨gx,0,none⟩ by rw[hgx];rfl)) Y Y hkl (Cc _)) ?_
 rw[eR]
 refine OV (EL xO Y (hlx))<|Xa Y<|Ag e30<|Xa Y<|OE ?_
 change Run _ _ _ _ [_,_,_,_,_,_,_,_,_,_,_,_,_,_,_,_,_,_,_,_,_,_,_,_,_,_,_,_,_,_] _
 refine zN<|NG 9 [(true,0),(true,1),(true,2),(true,3),(true,4),(true,5),(true,6),(true,7),(false,8)] H2 [] yE (by decide) (by kernel_rfl) Y (fun _ _ h=>h) ?_
 rintro w3 hw3
 have H3:=Hp.drew H2;rw[← hw3]at H3
 refine zY Y<|MV (fun wz hz=>zI Y)<|zY Y<|MV (fun wz hz=>EL uN Y (xP hbk hz (by simp)))<|zY Y<|MV (fun wz hz=>yJ Y)<|zY Y<|MV (fun wz hz=>EF qM Y)<|cM e30<|zY Y<|MV (fun wz hz=>EL ty3 Y (xP hfk hz (by simp)))<|zY Y<|MV (fun wz hz=>zI Y)<|zY Y<|MV (fun wz hz=>zL Y Y ((Ad _ (by omega)).trans (show((W.first:Int)+(k:Int))=((W.first+k:Nat):Int) by omega)))<|zY Y<|MV (fun wz hz=>zI Y)<|cM e30<|I4 Y<|yZ (EC jR Y) (vO Bk W.recs[k] ck _ (Rd.fcw hrd H3 (by simp)) (by omega))<|fun w4 g11 c11 s11 hm11 hc11 hg11 YW=>have H4:=H3.call0 YW;OE<|⟨H4.pick [] (by decide),?_⟩
 refine cM e30<|tS ?_
 have hJ2:J k w4 O:=hJs k _ O w4 hJ H4.Af
 have hpl:=bl_place (H4.pick [0] (by decide))
 have hown:=(H4.pick [0] (by decide)).here
 have hGO:∀ b∈bl [((g11,5,u8s W.recs[k]++s11):Ent)],b∉O:=fun b hx hx2=>by
  have h1:=hJOk b hx2
  rcases hpl b hx with h2 | h2
  · cases h2
  omega
 have hHs:=H4.size
 have HM:=HR.past H4.Af (fun b hx=>by cases hx) (fun b _ hx=>by cases hx)
 have hHd:=hJO k w4 O hJ2
 refine⟨27,_,_,_,_,_,_,L,_,_,_,Y,Y,Y,hY k w4 O [Aa ((W.first+k:Nat):Int),.slice (hd g11) W.recs[k].length c11] (bl [((g11,5,u8s W.recs[k]++s11):Ent)]) hkl hJ2 ⟨W.recs[k],g11,c11,s11,Cb hkl,Y,hm11,(by rw[← Cc c11];exact hc11),hg11,Y,hown,fun x hx=>by
  rcases hpl x hx with h2 | h2
  · cases h2
  omega⟩ hGO,?_,fun ch wz hz=>hz⟩
 rintro v wy ⟨O',hHy,hOy,hcase⟩
 have HRy:=HM.past hHy (fun b hx=>by
  rcases Bq.1 hx with h1 | h1
  · exact(hOk b h1).1
  · rcases hpl b h1 with h2 | h2
    · cases h2
    exact .inr (by omega)) (fun b hx hx2=>by
  rcases Bq.1 hx2 with h1 | h1
  · exact(hOk b h1).2 hx
  have h3:=hgle b hx
  rcases hpl b h1 with h2 | h2
  · cases h2
  omega)
 have hOy2:∀ b∈O',(b∈O0∨wA.heap.size≤b)∧b∉bl [((gl,73,m.xs++sl):Ent)]:=by
  intro b hx
  rcases hOy b hx with h1 | h1
  · rcases Bq.1 h1 with h1 | h1
    · exact hOk b h1
    rcases hpl b h1 with h2 | h2
    · cases h2
    exact⟨.inr (by omega),fun h3=>by have:=hgle b h3;omega⟩
  exact⟨.inr (by omega),fun h3=>by have:=hgle b h3;omega⟩
 rcases hcase with ⟨rfl,hJy⟩ | ⟨rfl,hXy⟩
 refine Xn Y<|OE ?_
 change Run _ _ _ _ [_,_,_,_,_,_,_,_,_,_,_,_,_,_,_,_,_,_,_,_,_,_,_,_,_,_,_,_,_,_] _
 refine zX Y<|xK<|zA (zB ?_)
 refine zK Y (fun _ _ h=>h)<|OV (zL Y Y (Ad _ (by omega)))<|Xm Y<|OE ?_
 change Run _ _ _ _ [_,_,_,_,_,_,_,_,_,_,_,_,_,_,_,_,_,_,_,_,_,_,_,_,_,_,_,_,_,_] _
 refine zA (zH ?_)
 refine⟨Y,?_⟩
 exact⟨W.recs.length - (k+1),by omega,k+1,_,O',Y,(Oc Y Y Y Y Y Y),by omega,by omega,hJy,hOy2,HRy⟩
 refine Xn Y<|OE ?_
 change Run _ _ _ _ [_,_,_,_,_,_,_,_,_,_,_,_,_,_,_,_,_,_,_,_,_,_,_,_,_,_,_,_,_,_] _
 refine yP Y<|wG<|vM<|yN<|vM<|⟨_,lN Y _ _,.inr hXy⟩
 have hkN:k=W.recs.length:=by omega
 subst hkN
 refine OE ?_
 change Run _ _ _ _ [_,_,_,_,_,_,_,_,_,_,_,_,_,_,_,_,_,_,_,_,_,_,_,_,_,_,_,_,_,_] _
 refine zN<|zX Y<|tF<|zU<|zS<|zA<|⟨_,lN Y _ _,.inl ⟨O,hJ⟩⟩
end Rn
end Go.Proofs.YtjoeklkmnfaabaaGreat
namespace Go.Proofs.YtjoeklkmnfaabaaGreat
open Go Go.RowKit
set_option linter.unusedVariables false
set_option linter.unusedSimpArgs false
section
def nbs (rs:List Blk):Nat:=(rs.map fun r=>La r.length).sum
variable {rs:List Blk} {k s R x n a t f gone:Nat} {V V':Nat→Blk} {W W':Wl} {D D':Dk} {b:Blk} {xs:List (Nat×Blk)} {p:Nat×List Value}
theorem pR (a b:List Blk):nbs (a++b)=nbs a+nbs b:=by simp[nbs]
theorem I1 (r:Blk):nbs [r]=La r.length:=by simp[nbs]
theorem bI (rs:List Blk):nbs rs+rs.length≤used rs:=by
 induction rs with
 | nil=>simp[nbs,used]
 | cons r rs ih=>
  have h:La r.length+1≤wgt r.length:=by unfold wgt La;omega
  simp only[nbs,used,Je,List.sum_cons,Bj]at ih ⊢;omega
theorem jW (rs:List Blk) (k:Nat):nbs (rs.take k)+nbs (rs.drop k)=nbs rs:=by rw[← pR,Fg]
theorem jV (h:k < rs.length):nbs (rs.take (k+1))=nbs (rs.take k)+La rs[k].length:=by
 rw[Jo,Cb h,pR]
 show _+nbs [rs[k]]=_
 rw[I1]
theorem OJ (h:k < rs.length):nbs (rs.take k)+La rs[k].length≤nbs rs:=by
 rw[← jV h]
 have:=jW rs (k+1)
 omega
theorem CM {y:Nat} (hx:x < R) (hy:y < R) (h:(s+x) % R=(s+y) % R):x=y:=by
 have h1:=Nat.div_add_mod (s+x) R
 have h2:=Nat.div_add_mod (s+y) R
 rw[h]at h1
 rcases Nat.lt_trichotomy ((s+x) / R) ((s+y) / R)with h3 | h3 | h3
 · have h4:=Nat.mul_le_mul_left R h3
   rw[Nat.succ_eq_add_one,Nat.mul_add,Cc]at h4
   omega
 · rw[h3]at h1;omega
 have h4:=Nat.mul_le_mul_left R h3
 rw[Nat.succ_eq_add_one,Nat.mul_add,Cc]at h4
 omega
@[reducible] def lX (t f n s:Nat):List Value:=[.int .u64 (t:Int),.int .i64 (f:Int),.int .i64 (n:Int),.int .i64 (s:Int)]
structure Lg (V:Nat→Blk) (n:Nat) (W:Wl) (s:Nat):Prop where
 size:64≤n
 sl:s < n - 2
 places:∀ k,k≤W.recs.length→W.places.getD k W.fin=(s+nbs (W.recs.take k)) % (n - 2)
 len:W.places.length=W.recs.length
 laid:∀ k (h:k < W.recs.length) j,j < La W.recs[k].length→V (2+(s+nbs (W.recs.take k)+j) % (n - 2))=rJ (Iq W.recs[k]) j
 room:used W.recs+16≤n / 2
 told:W.told≤W.recs.length
 long:∀ r∈W.recs,r.length≤16384
 best:better (better (0,lV) (V 0)) (V 1)=(W.turn,lX W.turn W.first (W.first+W.told) s)
 old:rd8 (V (W.turn % 2))=W.turn
theorem Lg.fin (h:Lg V n W s):W.fin=(s+nbs W.recs) % (n - 2):=by
 have h1:=h.places W.recs.length (Ak _)
 rw[Ej (Ak _),Ea,Lj (by rw[h.len];exact Ak _)]at h1
 exact h1
theorem Lg.same (h:Lg V n W s) (h0:V' 0=V 0) (h1:V' 1=V 1) (h2:∀ y,y < nbs W.recs→V' (2+(s+y) % (n - 2))=V (2+(s+y) % (n - 2))):Lg V' n W s:=by
 refine { h with laid:=fun k hk j hj=>?_,best:=by rw[h0,h1];exact h.best,old:=?_ }
 · rw[← h.laid k hk j hj,Fz]
   exact h2 _ (by have:=OJ hk;omega)
 rcases Nat.mod_two_eq_zero_or_one W.turn with hz | hz
 · have:=h.old;rw[hz]at this ⊢;rw[h0];exact this
 have:=h.old;rw[hz]at this ⊢;rw[h1];exact this
def jQ (R fin:Nat) (b:Blk) (k:Nat):List (Nat×Blk):=(List.range k).map fun j=>(2+(fin+j) % R,rJ b j)
theorem AP (R fin:Nat) (b:Blk) (k:Nat):jQ R fin b (k+1)=jQ R fin b k++[(2+(fin+k) % R,rJ b k)]:=by simp[jQ,List.range_succ]
theorem E8 (E:Dk):E.hit.1.down=E.down:=by unfold Dk.hit;split <;>rfl
theorem mL {E:Dk} (h:E.armed=0):E.hit.1.armed=0∧E.hit.2=false:=by unfold Dk.hit;rw[if_pos (by omega)];exact⟨h,rfl⟩
theorem iA (hd:D.down=false) (ha:a < D.kept.length) (hb:b.length=64):(D.write (a:Int) b).1.kept=D.kept∧(D.write (a:Int) b).1.wait=D.wait++[(a,b)]∧(((D.write (a:Int) b).2=0∧(D.write (a:Int) b).1.down=false∧(D.armed=0→(D.write (a:Int) b).1.armed=0))∨((D.write (a:Int) b).2=40∧0 < D.armed∧(D.write (a:Int) b).1.down=true)):=by
 unfold Dk.write
 rw[if_neg (by rw[hd];exact Oh),if_neg (by omega),if_neg (by omega)]
 split
 · rename_i hh
   refine⟨gO _,lW _,.inr ⟨Y,?_,Y⟩⟩
   by_cases h0:D.armed=0
   · rw[(mL (E:=D.put (a:Int).toNat b) h0).2]at hh;cases hh
   omega
 exact⟨gO _,lW _,.inl ⟨Y,(E8 _).trans hd,fun h0=>(mL (E:=D.put (a:Int).toNat b) h0).1⟩⟩
theorem fV {D:Dk} (R fin:Nat) (b:Blk) (hd:D.down=false) (hR:R+2=D.kept.length) (hR0:0 < R):∀ k,64*k≤b.length→ZG R fin b D k→(wP R fin b D k).kept=D.kept∧(wP R fin b D k).wait=D.wait++jQ R fin b k∧(wP R fin b D k).down=false∧(D.armed=0→(wP R fin b D k).armed=0)
 | 0,_,_=>⟨rfl,by simp[wP,jQ],hd,fun h=>h⟩
 | k+1,hb,hok=>by
  obtain⟨h1,h2,h3,h4⟩:=fV R fin b hd hR hR0 k (by omega) (fun j hj=>hok j (by omega))
  have hlt:=Hq (fin+k) hR0
  have hw:=iA (D:=wP R fin b D k) (a:=2+(fin+k) % R) (b:=rJ b k) h3 (by rw[h1];omega) (dZ (by omega))
  have h0:=hok k (by omega)
  refine⟨hw.1.trans h1,?_,?_,?_⟩
  · refine hw.2.1.trans ?_
    rw[h2,AP,Bh]
  · rcases hw.2.2 with hw | hw
    · exact hw.2.1
    omega
  rcases hw.2.2 with hw | hw
  · exact fun ha=>hw.2.2 (h4 ha)
  omega
theorem IQ (hk:D'.kept=D.kept) (hw:D'.wait=D.wait++xs) (i:Nat):D'.show i=(flush (flush D.kept D.wait) xs).getD i []:=by
 unfold Dk.show
 rw[hk,hw,mM]
theorem lJ (hk:D'.kept=D.kept) (hw:D'.wait=D.wait++xs) {i:Nat} (h:∀ p∈xs,p.1≠i):D'.show i=D.show i:=by
 rw[IQ hk hw,Ea,pV h]
 rfl
theorem cY {fin:Nat} {q:Nat} (h:q < (jQ R fin b k).length):(jQ R fin b k)[q]=(2+(fin+q) % R,rJ b q):=by simp[jQ]
theorem gF (R fin:Nat) (b:Blk) (k:Nat):(jQ R fin b k).length=k:=by simp[jQ]
theorem NC {fin:Nat} (hk:D'.kept=D.kept) (hw:D'.wait=D.wait++jQ R fin b k) (hR:R+2=D.kept.length) (hkR:k≤R) {j:Nat} (hj:j < k):D'.show (2+(fin+j) % R)=rJ b j:=by
 have hjl:j < (jQ R fin b k).length:=by rw[gF];exact hj
 rw[IQ hk hw,Ea,bU (q:=j) hjl (by rw[Gj];have:=Hq (fin+j) (show 0 < R by omega);omega) (by rw[cY hjl]) ?_,cY hjl]
 · rfl
 intro p hp he
 obtain⟨i,hi⟩:=Dh hp
 rw[Em]at hi
 have hil:j+1+i < (jQ R fin b k).length:=(Ec.1 hi).1
 rw[Cb hil,cY hil]at hi
 simp only[Option.some.injEq]at hi
 rw[← hi]at he
 rw[gF]at hil
 simp only at he
 have:=CM (s:=fin) (R:=R) (x:=j+1+i) (y:=j) (by omega) (by omega) (by omega)
 omega
theorem qD (W:Wl) (D:Dk) (b:Blk):(W.took D b).recs=W.recs++[b]:=rfl
theorem PR {l:List Nat} {d e:Nat} :(l++[x]).getD k d=if k < l.length then l.getD k e else if k=l.length then x else d:=by
 simp only[Ea]
 split
 · rename_i h;rw[Di h,Cb h];rfl
 rename_i h
 split
 · rename_i h2;rw[Eb (by omega),h2,Lh];rfl
 rename_i h2;rw[Lj (by simp;omega)];rfl
def sQ (n s a:Nat) (xs:List (Nat×Blk)):Prop:=∀ p∈xs,∃ y,a≤y∧y < n - 2∧p.1=2+(s+y) % (n - 2)
theorem iO {fin:Nat} (hf:fin=(s+a) % (n - 2)) (hk:a+k≤n - 2):sQ n s a (jQ (n - 2) fin b k):=by
 intro p hp
 obtain⟨j,hj,rfl⟩:=Ik.1 hp
 have hj2:=List.mem_range.1 hj
 refine⟨a+j,by omega,by omega,?_⟩
 rw[hf,Nl,Fz]
theorem Lg.took (h:Lg D.show D.kept.length W s) (hb:b.length≤16384) (hr:used W.recs+wgt b.length+16≤D.kept.length / 2) (hk:D'.kept=D.kept) (hw:D'.wait=D.wait++jQ (D.kept.length - 2) W.fin (Iq b) (La b.length)):Lg D'.show D.kept.length (W.took D b) s:=by
 have hn:=bI W.recs
 have hbw:La b.length+1≤wgt b.length:=by unfold wgt La;omega
 have hsz:=h.size
 have hF:=iO (b:=Iq b) (k:=La b.length) h.fin (by omega)
 have hl:(W.took D b).recs.length=W.recs.length+1:=by simp[qD]
 refine⟨h.size,h.sl,fun k hk2=>?_,?_,fun k hk2 j hj=>?_,?_,?_,?_,?_,?_⟩
 · show(W.places++[W.fin]).getD k ((W.fin+La b.length) % (D.kept.length - 2))=_
   rw[PR (e:=W.fin),qD,h.len]
   split
   · rename_i h1;rw[Qc (by omega)];exact h.places k (by omega)
   split
   · rename_i h1 h2;rw[h2,Ii rfl];exact h.fin
   rename_i h1 h2
   have h3:k=W.recs.length+1:=by omega
   rw[h3,Ej (by simp),pR,I1,h.fin,Nl,Fz]
 · show(W.places++[W.fin]).length=_
   rw[hl,Ae,h.len];rfl
 · by_cases h1:k < W.recs.length
   · have e:(W.took D b).recs[k]=W.recs[k]:=List.getElem_append_left h1
     have e2:(W.took D b).recs.take k=W.recs.take k:=by rw[qD,Qc (by omega)]
     rw[e]at hj ⊢
     rw[e2,lJ hk hw,h.laid k h1 j hj]
     intro p hp he
     obtain⟨y,hy1,hy2,hy3⟩:=hF p hp
     have h4:=OJ h1
     have:=CM (s:=s) (R:=D.kept.length - 2) (x:=y) (y:=nbs (W.recs.take k)+j) (by omega) (by omega) (by rw[← Fz];omega)
     omega
   have h2:k=W.recs.length:=by omega
   subst h2
   have e:(W.took D b).recs[W.recs.length]=b:=by simp[qD]
   have e2:(W.took D b).recs.take W.recs.length=W.recs:=by rw[qD,Ii rfl]
   rw[e]at hj ⊢
   rw[e2]
   have h3:=NC (D:=D) (D':=D') (R:=D.kept.length - 2) hk hw (by omega) (by omega) hj
   rw[h.fin,Nl]at h3
   exact h3
 · rw[qD,uI,iY];omega
 · show W.told≤_
   have:=h.told
   omega
 · intro r hr2
   rcases Bq.1 hr2 with h1 | h1
   · exact h.long r h1
   rw[Az.1 h1];exact hb
 · show better (better (0,lV) (D'.show 0)) (D'.show 1)=(W.turn,lX W.turn W.first (W.first+W.told) s)
   rw[lJ hk hw (i:=0) (fun p hp he=>by obtain⟨y,_,_,h3⟩:=hF p hp;omega),lJ hk hw (i:=1) (fun p hp he=>by obtain⟨y,_,_,h3⟩:=hF p hp;omega)]
   exact h.best
 show rd8 (D'.show (W.turn % 2))=W.turn
 rw[lJ hk hw (i:=W.turn % 2) (fun p hp he=>by obtain⟨y,_,_,h3⟩:=hF p hp;omega)]
 exact h.old
def AppL (D:Dk) (W:Wl) (s:Nat) (b:Blk) (x:Int) (D':Dk) (W':Wl):Prop:=
 (16384 < b.length∧x=22∧D'=D∧W'=W)∨(b.length≤16384∧D.kept.length / 2 < used W.recs+wgt b.length+16∧x=3∧D'=D∧W'=W)∨
 (b.length≤16384∧used W.recs+wgt b.length+16≤D.kept.length / 2∧D'.kept=D.kept∧(∃ xs,D'.wait=D.wait++xs∧xs.length≤300∧sQ D.kept.length s (nbs W.recs) xs)∧
  ((x=0∧Lg D'.show D.kept.length W' s∧D'.down=false∧(D.armed=0→D'.armed=0)∧W'=W.took D b)∨(x=40∧0 < D.armed∧D'.down=true∧W'={ W with dead:=true })))
theorem UN {x:Int} (h:Lg D.show D.kept.length W s) (hd:D.down=false) (Nw:W.dead=false) (hr:IE D W b x D' W'):AppL D W s b x D' W':=by
 have hdd:(W.dead || D.down)=false:=by rw[hd,Nw];rfl
 have hsz:=h.size
 have hn:=bI W.recs
 have hbw:La b.length+1≤wgt b.length:=by unfold wgt La;omega
 rcases hr with ⟨h1,h2,h3,h4⟩ | ⟨_,h2,_⟩ | ⟨h1,_,h2,h3,h4,h5⟩ | ⟨h1,_,h2,h3⟩
 · exact .inl ⟨h1,h2,h3,h4⟩
 · rw[hdd]at h2;cases h2
 · exact .inr (.inl ⟨h1,h2,h3,h4,h5⟩)
 refine .inr (.inr ⟨h1,h2,?_⟩)
 have hnk:=eC h1
 have hfl:=gS b
 rcases h3 with ⟨hok,hx,hD,hW⟩ | ⟨hx,k,hk,hok,hne,hD,hW⟩
 · obtain⟨e1,e2,e3,e4⟩:=fV (D.kept.length - 2) W.fin (Iq b) hd (by omega) (by omega) (La b.length) (by omega) hok
   rw[← hD]at e1 e2 e3 e4
   exact⟨e1,⟨_,e2,by rw[gF];exact hnk,iO h.fin (by omega)⟩,.inl ⟨hx,hW▸h.took h1 h2 e1 e2,e3,e4,hW⟩⟩
 obtain⟨e1,e2,e3,e4⟩:=fV (D.kept.length - 2) W.fin (Iq b) hd (by omega) (by omega) k (by omega) hok
 have hlt:=Hq (W.fin+k) (show 0 < D.kept.length - 2 by omega)
 have hw:=iA (D:=wP (D.kept.length - 2) W.fin (Iq b) D k) (a:=2+(W.fin+k) % (D.kept.length - 2)) (b:=rJ (Iq b) k) e3 (by rw[e1];omega) (dZ (by omega))
 have hE:D'=((wP (D.kept.length - 2) W.fin (Iq b) D k).write ((2+(W.fin+k) % (D.kept.length - 2):Nat):Int) (rJ (Iq b) k)).1:=hD
 rw[← hE]at hw
 refine⟨hw.1.trans e1,⟨jQ (D.kept.length - 2) W.fin (Iq b) (k+1),?_,by rw[gF];omega,iO h.fin (by omega)⟩,.inr ?_⟩
 · rw[hw.2.1,e2,AP,Bh]
 rcases hw.2.2 with hw3 | hw3
 · exact absurd hw3.1 hne
 refine⟨hx,?_,hw3.2.2,hW⟩
 by_cases h0:D.armed=0
 · have:=e4 h0;omega
 omega
theorem WT (h:n≤2^60):IntKind.i64.wrap (n:Int)=(n:Int):=Ad _ (by omega)
theorem PE (t f n s:Nat) (ht:t≤2^60) (hf:f≤2^60) (hn:n≤2^60) (hs:s≤2^60):rd8 (hdr t f n s)=t∧rd8 ((hdr t f n s).drop 56)=t∧pU (hdr t f n s)=lX t f n s:=by
 have e0:hdr t f n s=be8 t++(be8 f++(be8 n++(be8 s++(List.replicate 24 0++be8 t)))):=by simp[hdr]
 have e1:(hdr t f n s).drop 8=be8 f++(be8 n++(be8 s++(List.replicate 24 0++be8 t))):=by rw[e0];exact Gh (wZ t)
 have e2:(hdr t f n s).drop 16=be8 n++(be8 s++(List.replicate 24 0++be8 t)):=by rw[show 16=8+8 by rfl,← Fq,e1];exact Gh (wZ f)
 have e3:(hdr t f n s).drop 24=be8 s++(List.replicate 24 0++be8 t):=by rw[show 24=16+8 by rfl,← Fq,e2];exact Gh (wZ n)
 have e4:(hdr t f n s).drop 56=be8 t++[]:=by rw[show 56=24+8+24 by rfl,← Fq,← Fq,e3,Gh (wZ s),Gh (by simp),Dt]
 have r1:rd8 (hdr t f n s)=t:=by rw[e0];exact kX (by omega) _
 refine⟨r1,by rw[e4];exact kX (by omega) _,?_⟩
 unfold pU
 rw[r1,e1,e2,e3,kX (by omega),kX (by omega),kX (by omega),WT hf,WT hn,WT hs]
theorem aI (ht:t≤2^60) (hf:f≤2^60) (hn:n≤2^60) (hs:s≤2^60) (h:p.1 < t):better p (hdr t f n s)=(t,lX t f n s):=by
 obtain⟨h1,h2,h3⟩:=PE t f n s ht hf hn hs
 unfold better
 rw[h1,h2,h3,if_pos ⟨rfl,h⟩]
theorem jP (h:rd8 b≤p.1):better p b=p:=by
 unfold better
 rw[if_neg (by omega)]
theorem L9 (h:rd8 b < t) (hp:p.1 < t):(better p b).1 < t:=by
 unfold better
 split
 · exact h
 exact hp
theorem MA (ho:rd8 (V (t % 2))=t) (h1:V' ((t+1) % 2)=hdr (t+1) f n s) (h2:V' (t % 2)=V (t % 2)) (ht:t+1≤2^60) (hf:f≤2^60) (hn:n≤2^60) (hs:s≤2^60):better (better (0,lV) (V' 0)) (V' 1)=(t+1,lX (t+1) f n s)∧rd8 (V' ((t+1) % 2))=t+1:=by
 refine⟨?_,by rw[h1];exact(PE _ _ _ _ ht hf hn hs).1⟩
 rcases Nat.mod_two_eq_zero_or_one t with hz | hz
 · rw[hz]at h2 ho
   rw[show(t+1) % 2=1 by omega]at h1
   rw[h1]
   refine aI ht hf hn hs ?_
   rw[h2]
   exact L9 (by omega) (by show 0 < t+1;omega)
 rw[hz]at h2 ho
 rw[show(t+1) % 2=0 by omega]at h1
 rw[h1,aI ht hf hn hs (by show 0 < t+1;omega),jP]
 rw[h2]
 show _≤t+1
 omega
theorem LZ (l:List Nat) (a k d:Nat):(l.drop a).getD k d=l.getD (a+k) d:=by simp[Ea]
theorem jX (rs:List Blk) (a k:Nat):nbs (rs.take a)+nbs ((rs.drop a).take k)=nbs (rs.take (a+k)):=by
 rw[← pR,List.take_add]
theorem Lg.tell (h:Lg V n W s) (hg:gone≤W.recs.length) (ht:W.turn≤2^50) (hf:W.first≤2^50) (hn:n≤16384) (h1:V' ((W.turn+1) % 2)=W.head gone) (h2:∀ i,i≠(W.turn+1) % 2→V' i=V i):Lg V' n (W.tell gone) ((s+nbs (W.recs.take gone)) % (n - 2)):=by
 have hsz:=h.size
 have hst:W.start gone=(s+nbs (W.recs.take gone)) % (n - 2):=h.places gone hg
 have hlt:=Hq (s+nbs (W.recs.take gone)) (show 0 < n - 2 by omega)
 have hrl:W.recs.length≤16384:=by have:=bI W.recs;have:=h.room;omega
 have hud:=pI W.recs gone
 have hb:=MA (V:=V) (V':=V') (t:=W.turn) (f:=W.first+gone) (n:=W.first+W.recs.length) (s:=W.start gone) h.old h1 (h2 _ (by omega)) (by omega) (by omega) (by omega) (by omega)
 have hr:(W.tell gone).recs=W.recs.drop gone:=rfl
 refine⟨h.size,hlt,fun k hk=>?_,?_,fun k hk j hj=>?_,?_,Ak _,fun r hr=>h.long r (Es hr),?_,hb.2⟩
 · have hk2:k≤W.recs.length - gone:=by rw[hr,Bl]at hk;exact hk
   show(W.places.drop gone).getD k W.fin=_
   rw[LZ,h.places (gone+k) (by omega),Nl,hr,Fz,jX]
 · show(W.places.drop gone).length=(W.recs.drop gone).length
   rw[Bl,Bl,h.len]
 · have hk2:gone+k < W.recs.length:=by rw[hr,Bl]at hk;omega
   have e:(W.tell gone).recs[k]=W.recs[gone+k]:=List.getElem_drop ..
   rw[e]at hj ⊢
   rw[Fz,Nl,h2 _ (by omega),hr,Fz,← Fz (nbs _),jX,← Fz]
   exact h.laid (gone+k) hk2 j hj
 · rw[hr]
   have:=h.room
   omega
 show better (better (0,lV) (V' 0)) (V' 1)=(W.turn+1,lX (W.turn+1) (W.first+gone) (W.first+gone+(W.recs.drop gone).length) _)
 rw[hb.1,hst,Bl,show W.first+gone+(W.recs.length - gone)=W.first+W.recs.length by omega]
theorem IOa (hd:D.down=false) (ha:D.armed=0):D.sync.2=0∧D.sync.1.kept=flush D.kept D.wait∧D.sync.1.wait=[]∧D.sync.1.down=false∧D.sync.1.armed=0:=by
 rw[AG hd ha]
 exact⟨Y,Y,Y,Y,Y⟩
theorem Tv (hd:D.down=false) (ha:D.armed=0) (i:Nat):D.sync.1.show i=D.show i:=by
 rw[AG hd ha]
 rfl
def ScL (D:Dk) (W:Wl) (gone:Nat) (x:Int) (D':Dk) (W':Wl):Prop:=
 x=0∧D'.down=false∧D'.armed=0∧D'.wait=[]∧D'.kept.length=D.kept.length∧W'.dead=false∧W'.recs=W.recs.drop gone∧W'.first=W.first+gone∧W'.told=W'.recs.length∧W'.turn≤W.turn+1∧∃ s',Lg D'.show D'.kept.length W' s'
theorem V4 {x:Int} (h:Lg D.show D.kept.length W s) (hd:D.down=false) (ha:D.armed=0) (Nw:W.dead=false) (hg:gone≤W.recs.length) (ht:W.turn≤2^50) (hf:W.first≤2^50) (hn:D.kept.length≤16384) (hr:BL D W gone x D' W'):ScL D W gone x D' W':=by
 have hdd:(W.dead || D.down)=false:=by rw[hd,Nw];rfl
 have hsz:=h.size
 obtain⟨a1,a2,a3,a4,a5⟩:=IOa hd ha
 have hlen:D.sync.1.kept.length=D.kept.length:=by rw[a2,Gj]
 have hsh:D.sync.1.show=D.show:=funext (Tv hd ha)
 have hw:=GB (D:=D.sync.1) (a:=((W.turn+1) % 2:Nat)) (b:=W.head gone) a4 a5 (by omega) (by omega) (jH _ _ _ _)
 have hE:tE D.sync.1 W gone=(D.sync.1.put ((W.turn+1) % 2) (W.head gone),0):=hw
 obtain⟨b1,b2,b3,b4,b5⟩:=IOa (D:=D.sync.1.put ((W.turn+1) % 2) (W.head gone)) a4 a5
 have bl2:(D.sync.1.put ((W.turn+1) % 2) (W.head gone)).sync.1.kept.length=D.kept.length:=by rw[b2,Gj];exact hlen
 rcases hr with ⟨h1,_⟩ | ⟨_,⟨hx,_,⟨hst,hD,hW⟩ | ⟨hst,⟨t1,t2,t3⟩,hW⟩⟩ | ⟨hx,⟨h1,_⟩ | ⟨_,hst,hb⟩,_⟩⟩
 · rw[hdd]at h1;cases h1
 · have hst2:¬(0 < gone∨W.told < W.recs.length):=of_decide_eq_false hst
   have htl:=h.told
   have hg0:gone=0:=by omega
   subst hg0 hW
   rw[hD]
   exact⟨hx,a4,a5,a3,hlen,Nw,by simp,Y,by omega,by omega,s,by rw[hsh,hlen];exact h⟩
 · rw[hE]at t3
   subst t3 hW
   refine⟨hx,b4,b5,b3,bl2,Nw,Y,Y,Y,Ak _,(s+nbs (W.recs.take gone)) % (D.kept.length - 2),?_⟩
   rw[bl2]
   refine h.tell hg ht hf hn ?_ ?_
   · rw[Tv (D:=D.sync.1.put ((W.turn+1) % 2) (W.head gone)) a4 a5]
     exact NR (by rw[hlen];omega)
   intro i hi
   rw[Tv (D:=D.sync.1.put ((W.turn+1) % 2) (W.head gone)) a4 a5,← hsh]
   refine lJ (D:=D.sync.1) (D':=D.sync.1.put ((W.turn+1) % 2) (W.head gone)) (xs:=[((W.turn+1) % 2,W.head gone)]) Y Y ?_
   intro p hp he
   rw[Az.1 hp]at he
   exact hi he.symm
 · exact absurd a1 h1
 rcases hb with ⟨h1,_⟩ | ⟨_,h1,_⟩
 · rw[hE]at h1;exact absurd rfl h1
 rw[hE]at h1;exact absurd b1 h1
theorem kN (t f s:Nat) (D:Dk) (rs:List Blk) (hs:s < D.kept.length - 2):∀ k,k≤rs.length→((Wl.anew t f s).Eo D rs k).fin=(s+nbs (rs.take k)) % (D.kept.length - 2)
 | 0,_=>by
  show s=_
  rw[List.take_zero,show nbs []=0 from rfl,Ia,Il hs]
 | k+1,h=>by
  show(((Wl.anew t f s).Eo D rs k).fin+La (rs.getD k []).length) % _=_
  rw[kN t f s D rs hs k (by omega),Nl,jV (by omega),Fz,Ea,Cb (by omega)]
  rfl
theorem nW (t f s:Nat) (D:Dk) (rs:List Blk) (hs:s < D.kept.length - 2):∀ k,k≤rs.length→((Wl.anew t f s).Eo D rs k).places=(List.range k).map fun i=>(s+nbs (rs.take i)) % (D.kept.length - 2)
 | 0,_=>rfl
 | k+1,h=>by
  show((Wl.anew t f s).Eo D rs k).places++[((Wl.anew t f s).Eo D rs k).fin]=_
  rw[nW t f s D rs hs k (by omega),kN t f s D rs hs k (by omega),List.range_succ,Dx]
  rfl
theorem N7 (h:Lg D.show D.kept.length W s) (ht:W.told=W.recs.length):
 (qW D 2).2=lX W.turn W.first (W.first+W.recs.length) s∧XU D (Wl.anew W.turn W.first s) W.recs∧Lg D.show D.kept.length ((Wl.anew W.turn W.first s).found D W.recs) s∧((Wl.anew W.turn W.first s).found D W.recs).recs=W.recs∧((Wl.anew W.turn W.first s).found D W.recs).first=W.first∧((Wl.anew W.turn W.first s).found D W.recs).turn=W.turn∧((Wl.anew W.turn W.first s).found D W.recs).told=W.recs.length∧((Wl.anew W.turn W.first s).found D W.recs).dead=false:=by
 have hs:=h.sl
 have hb:qW D 2=(W.turn,lX W.turn W.first (W.first+W.told) s):=h.best
 have hsm:=iD (Wl.anew W.turn W.first s) D W.recs W.recs.length
 have hrc:((Wl.anew W.turn W.first s).Eo D W.recs W.recs.length).recs=W.recs:=by rw[iE _ _ _ _ (Ak _),Ej (Ak _)];rfl
 have hfr:((Wl.anew W.turn W.first s).found D W.recs).recs=W.recs:=hrc
 have hft:((Wl.anew W.turn W.first s).found D W.recs).told=W.recs.length:=congrArg List.length hrc
 refine⟨by rw[hb,ht],fun k hk j hj=>?_,⟨h.size,hs,fun k hk=>?_,?_,fun k hk j hj=>?_,?_,?_,?_,?_,?_⟩,hfr,hsm.2.2.1,hsm.2.1,hft,hsm.1⟩
 · rw[kN _ _ _ _ _ hs k (by omega),Nl]
   exact h.laid k hk j hj
 · rw[hfr]at hk ⊢
   show((Wl.anew W.turn W.first s).Eo D W.recs W.recs.length).places.getD k ((Wl.anew W.turn W.first s).Eo D W.recs W.recs.length).fin=_
   rw[nW _ _ _ _ _ hs _ (Ak _),kN _ _ _ _ _ hs _ (Ak _),Ea]
   by_cases h1:k < W.recs.length
   · rw[Cb (by simpa using h1)];simp
   rw[Lj (by simp;omega),show k=W.recs.length by omega];rfl
 · rw[hfr]
   show((Wl.anew W.turn W.first s).Eo D W.recs W.recs.length).places.length=_
   rw[nW _ _ _ _ _ hs _ (Ak _)];simp
 · have hk2:k < W.recs.length:=by rw[hfr]at hk;exact hk
   have e:((Wl.anew W.turn W.first s).found D W.recs).recs[k]=W.recs[k]:=by simp only[hfr]
   rw[e]at hj ⊢
   rw[hfr]
   exact h.laid k hk2 j hj
 · rw[hfr];exact h.room
 · rw[hft,hfr];exact Ak _
 · rw[hfr];exact h.long
 · rw[hft]
   have e1:((Wl.anew W.turn W.first s).found D W.recs).turn=W.turn:=hsm.2.1
   have e2:((Wl.anew W.turn W.first s).found D W.recs).first=W.first:=hsm.2.2.1
   rw[e1,e2]
   have:=h.best
   rw[ht]at this
   exact this
 have e1:((Wl.anew W.turn W.first s).found D W.recs).turn=W.turn:=hsm.2.1
 rw[e1];exact h.old
theorem cV :rd8 tN=0:=by decide
theorem Lg.empty (h:64≤n) (h0:V 0=tN) (h1:V 1=tN):Lg V n (Wl.anew 0 0 0) 0:=by
 refine⟨h,by omega,fun k hk=>?_,Y,fun k hk=>absurd hk (by simp),by show used []+16≤_;simp[used];omega,Ak _,fun r hr=>(by cases hr),?_,by show rd8 (V 0)=0;rw[h0];exact cV⟩
 · have:k=0:=by simpa using hk
   subst this
   show 0=(0+nbs []) % _
   simp[nbs]
 rw[h0,h1,jP (by rw[cV];exact Ak _),jP (by rw[cV];exact Ak _)]
 rfl
theorem iG {n:Nat} {ks:List Blk} {ws:List (Nat×Blk)} {keep:List Int} (h:∀ p∈ws,p.1≠n):∀ q,(tears ks ws keep q)[n]? =ks[n]?
 | 0=>rfl
 | q+1=>by
  simp only[tears]
  split
  · rename_i p hp
    rw[List.getElem?_set_ne (h p (Fe hp))]
    exact iG h q
  exact iG h q
end
section
variable {n s a:Nat} {xs:List (Nat×Blk)} {D:Dk} {W:Wl}
theorem sQ.app {ys:List (Nat×Blk)} (h:sQ n s a xs) (h2:sQ n s a ys):sQ n s a (xs++ys):=fun p hp=>(Bq.1 hp).elim (h p) (h2 p)
theorem sQ.less {b:Nat} (h:sQ n s b xs) (hab:a≤b):sQ n s a xs:=fun p hp=>by
 obtain⟨y,h1,h2,h3⟩:=h p hp
 exact⟨y,by omega,h2,h3⟩
structure kI (s:Nat) (D:Dk) (W:Wl) (rs:List Blk) (D1:Dk) (W1:Wl):Prop where
 kept:D1.kept=D.kept
 wait:∃ xs,D1.wait=D.wait++xs∧xs.length≤300*rs.length∧sQ D.kept.length s (nbs W.recs) xs
 recs:W1.recs=W.recs++rs
 first:W1.first=W.first
 turn:W1.turn=W.turn
 told:W1.told=W.told
 dead:W1.dead=false
 lg:Lg D1.show D.kept.length W1 s
 up:D1.down=false
 arm:D.armed=0→D1.armed=0
theorem kI.none (h:Lg D.show D.kept.length W s) (hd:D.down=false) (Nw:W.dead=false):kI s D W [] D W:=
 ⟨rfl,⟨[],by simp,Am _,fun _ hp=>by cases hp⟩,by simp,rfl,rfl,rfl,Nw,h,hd,id⟩
theorem kI.app {D1 D2:Dk} {W1 W2:Wl} {rs:List Blk} {b:Blk} {x:Int} (h:kI s D W rs D1 W1) (hr:IE D1 W1 b x D2 W2) (hb:b.length≤16384):
 (x=0∧used (W.recs++rs)+wgt b.length+16≤D.kept.length / 2∧kI s D W (rs++[b]) D2 W2)∨
 (x=3∧D.kept.length / 2 < used (W.recs++rs)+wgt b.length+16∧D2=D1∧W2=W1)∨
 (x=40∧0 < D.armed∧D2.down=true∧D2.kept=D.kept∧W2={ W1 with dead:=true }∧∃ xs,D2.wait=D.wait++xs∧xs.length≤300*(rs.length+1)∧sQ D.kept.length s (nbs W.recs) xs):=by
 have X0:Lg D1.show D1.kept.length W1 s:=by rw[h.kept];exact h.lg
 have hal:=UN X0 h.up h.dead hr
 obtain⟨xs,w1,w2,w3⟩:=h.wait
 have hnb:nbs W.recs≤nbs W1.recs:=by rw[h.recs,pR];omega
 rcases hal with ⟨a1,_⟩ | ⟨_,a1,a2,a3,a4⟩ | ⟨_,a1,a2,⟨ys,a3,a4,a5⟩,a6⟩
 · omega
 · rw[h.kept,h.recs]at a1
   exact .inr (.inl ⟨a2,a1,a3,a4⟩)
 rw[h.kept]at a1 a2 a5
 rw[h.recs]at a1
 have hw:D2.wait=D.wait++(xs++ys):=by rw[a3,w1,Bh]
 have hl:(xs++ys).length≤300*(rs.length+1):=by rw[Ae];omega
 have hf:=w3.app (a5.less hnb)
 rcases a6 with ⟨b1,b2,b3,b4,b5⟩ | ⟨b1,b2,b3,b4⟩
 · rw[h.kept]at b2
   refine .inl ⟨b1,a1,a2,⟨_,hw,by simpa using hl,hf⟩,?_,?_,?_,?_,?_,b2,b3,fun h0=>b4 (h.arm h0)⟩
   · rw[b5,qD,h.recs,Bh]
   · rw[b5];exact h.first
   · rw[b5];exact h.turn
   · rw[b5];exact h.told
   rw[b5];exact h.dead
 refine .inr (.inr ⟨b1,?_,b3,a2,b4,_,hw,hl,hf⟩)
 rcases Ku D.armed with h0 | h0
 · have:=h.arm h0;omega
 exact h0
end
section
def mxB (a b:Blk) (j:Nat):Blk:=a.take j++b.drop j
variable {a b l O B:Blk} {j c t f n s s2 i gone:Nat} {V V':Nat→Blk} {W W2:Wl} {ks:List Blk} {ws:List (Nat×Blk)}
theorem CL (a b:Blk):mxB a b 0=b:=by simp[mxB]
theorem WI (ha:a.length=8) (hb:b.length=8):mxB a b 8=a:=by
 unfold mxB
 rw[Ej (by omega),Gn (by omega),Dt]
theorem WH (ha:a.length=8) (hb:b.length=8) (hj:j≤8):(mxB a b j).length=8:=by
 unfold mxB
 rw[Ae,Aw,Bl]
 omega
theorem I2 (ha:a.length=8) (hb:b.length=8) (hj:j≤8) (hc:c≤8):a.take c++(mxB a b j).drop c=mxB a b (max c j):=by
 apply Om
 intro i
 unfold mxB
 by_cases h1:i < c
 · rw[Di (by rw[Aw];omega),Di (by rw[Aw];omega),Qb h1,Qb (by omega)]
 rw[Eb (by rw[Aw];omega),Em,Aw,show c+(i - min c a.length)=i by omega]
 by_cases h2:i < j
 · rw[Di (by rw[Aw];omega),Di (by rw[Aw];omega),Qb h2,Qb (by omega)]
 rw[Eb (by rw[Aw];omega),Eb (by rw[Aw];omega),Em,Em,Aw,Aw]
 congr 1
 omega
theorem S7 (ha:a.length=8) (hb:b.length=8) (hj:j < 8):(mxB a b j)[7]? =b[7]?:=by
 unfold mxB
 rw[Eb (by rw[Aw];omega),Em,Aw]
 congr 1
 omega
theorem D0 {c:UInt8} (h:l.length=8) (hc:l[7]? =some c):rdB l % 256=c.toNat:=by
 have e:l=l.take 7++[c]:=by
  have h1:=Fg 7 l
  have h2:l.drop 7=[c]:=by
   obtain⟨hlt,h3⟩:=Ec.1 hc
   rw[Ol hlt,h3,Gn (by omega)]
  rw[← h2,h1]
 rw[e,DZ]
 have:=c.toNat_lt
 omega
theorem gE {v:Nat} (h:v < 2^64):rdB (be8 v)=v:=by
 have h1:=kX h []
 unfold rd8 at h1
 rw[Dt,Ej (by rw[wZ];exact Ak _)]at h1
 exact h1
theorem TB {l2:Blk} (h:l.length=8) (h2:l2.length=8) (hl:l[7]? =l2[7]?):rdB l % 256=rdB l2 % 256:=by
 have h3:l[7]? =some l[7]:=Cb (by omega)
 rw[D0 h h3,D0 h2 (hl▸h3)]
structure Cur (t:Nat) (B:Blk):Prop where
 len:B.length=64
 low:B.take 8=be8 t
 top:B.drop 56=be8 t
structure Oth (t:Nat) (O:Blk):Prop where
 len:O.length=64
 mix:∃ i j,i≤7∧j≤8∧(0 < i→j=8)∧O.take 8=mxB (be8 (t+1)) (be8 (t - 1)) j∧O.drop 56=mxB (be8 (t+1)) (be8 (t - 1)) i
theorem IU (h:O.length=64):rd8 (O.drop 56)=rdB (O.drop 56):=by
 unfold rd8
 rw[Ej (by rw[Bl];omega)]
theorem Cur.rd (h:Cur t B) (ht:t < 2^64):rd8 B=t∧rd8 (B.drop 56)=t:=by
 refine⟨?_,?_⟩
 · unfold rd8;rw[h.low];exact gE ht
 rw[IU h.len,h.top];exact gE ht
theorem Oth.no (h:Oth t O) (ht:t+1 < 2^64) (he:rd8 O=rd8 (O.drop 56)):rd8 O=t - 1:=by
 obtain⟨i,j,hi,hj,hij,h1,h2⟩:=h.mix
 have e1:rd8 O=rdB (mxB (be8 (t+1)) (be8 (t - 1)) j):=by unfold rd8;rw[h1]
 have e2:rd8 (O.drop 56)=rdB (mxB (be8 (t+1)) (be8 (t - 1)) i):=by rw[IU h.len,h2]
 have la:=wZ (t+1)
 have lb:=wZ (t - 1)
 have k2:rdB (mxB (be8 (t+1)) (be8 (t - 1)) i) % 256=(t - 1) % 256:=by
  rw[TB (WH la lb (by omega)) lb (S7 la lb (by omega)),gE (by omega)]
 have hj8:j≠8:=by
  intro h8
  subst h8
  rw[WI la lb,gE (by omega)]at e1
  rw[← e2,← he,e1]at k2
  omega
 have hi0:i=0:=by
  rcases Ku i with h0 | h0
  · exact h0
  exact absurd (hij h0) hj8
 subst hi0
 rw[CL,gE (by omega)]at e2
 rw[he,e2]
theorem Oth.torn (h:Oth t O) (hc:c < 64):Oth t ((hdr (t+1) f n s).take c++O.drop c):=by
 obtain⟨i,j,hi,hj,hij,h1,h2⟩:=h.mix
 have la:=wZ (t+1)
 have lb:=wZ (t - 1)
 have hl:=jH (t+1) f n s
 have hol:=h.len
 have e8:(hdr (t+1) f n s).take 8=be8 (t+1):=by simp only[hdr,Bh];exact Ii la
 have e56:(hdr (t+1) f n s).drop 56=be8 (t+1):=by
  have:hdr (t+1) f n s=(be8 (t+1)++be8 f++be8 n++be8 s++List.replicate 24 0)++be8 (t+1):=by simp[hdr]
  rw[this]
  exact Gh (by simp[wZ])
 refine⟨by rw[Ae,Aw,Bl];omega,max (c - 56) i,max (min c 8) j,by omega,by omega,fun h0=>?_,?_,?_⟩
 · rcases Jj c 57 with h3 | h3
   · have:=hij (by omega);omega
   omega
 · rw[← I2 la lb hj (by omega),← h1,← e8,Oo,Aw]
   rcases Nat.le_total c 8 with h3 | h3
   · rw[List.take_take,List.take_take,List.take_drop,Io h3,show min 8 c=c by omega,show min c 8=c by omega,show 8 - min c (hdr (t+1) f n s).length=8 - c by omega,show c+(8 - c)=8 by omega]
   rw[List.take_take,List.take_take,show 8 - min c (hdr (t+1) f n s).length=0 by omega,List.take_zero,show min c 8=8 by omega,show min 8 c=8 by omega,Nat.min_self,Gn (by rw[Aw];omega)]
 rw[← I2 la lb (by omega) (by omega),← h2,← e56,List.drop_append,Aw]
 rcases Nat.le_total c 56 with h3 | h3
 · rw[show c - 56=0 by omega,List.take_zero,Ep,Gn (by rw[Aw];omega),Fq]
   congr 2
   omega
 rw[List.drop_take,show 56 - min c (hdr (t+1) f n s).length=0 by omega,Ep,Fq]
 congr 2
 omega
theorem Oth.next (h:Cur t B):Oth (t+1) B:=by
 refine⟨h.len,0,0,by omega,by omega,fun h=>absurd h (by omega),?_,?_⟩
 · rw[CL,h.low];rfl
 rw[CL,h.top];rfl
theorem Cur.hdr (t f n s:Nat):Cur t (hdr t f n s):=by
 refine⟨jH t f n s,?_,?_⟩
 · simp only[Go.Proofs.YtjoeklkmnfaabaaGreat.hdr,Bh];exact Ii (wZ t)
 have:Go.Proofs.YtjoeklkmnfaabaaGreat.hdr t f n s=(be8 t++be8 f++be8 n++be8 s++List.replicate 24 0)++be8 t:=by simp[Go.Proofs.YtjoeklkmnfaabaaGreat.hdr]
 rw[this]
 exact Gh (by simp[wZ])
theorem Cur.zero :Cur 0 tN:=⟨by decide,by decide,by decide⟩
theorem Oth.zero :Oth 0 tN:=⟨by decide,0,0,by decide,by decide,by decide,by decide,by decide⟩
structure Slt (t:Nat) (V:Nat→Blk):Prop where
 cur:Cur t (V (t % 2))
 oth:Oth t (V ((t+1) % 2))
theorem Slt.same (h:Slt t V) (h0:V' 0=V 0) (h1:V' 1=V 1):Slt t V':=by
 have key:∀ i,i < 2→V' i=V i:=fun i hi=>by
  rcases(show i=0∨i=1 by omega)with rfl | rfl
  · exact h0
  exact h1
 exact⟨by rw[key _ (Hq _ (by decide))];exact h.cur,by rw[key _ (Hq _ (by decide))];exact h.oth⟩
theorem Slt.torn (h:Slt t V) (hc:c < 64) (h0:V' (t % 2)=V (t % 2)) (h1:V' ((t+1) % 2)=(Go.Proofs.YtjoeklkmnfaabaaGreat.hdr (t+1) f n s).take c++(V ((t+1) % 2)).drop c):Slt t V':=
 ⟨by rw[h0];exact h.cur,by rw[h1];exact h.oth.torn hc⟩
theorem Slt.tell (h:Slt t V) (h0:V' (t % 2)=V (t % 2)) (h1:V' ((t+1) % 2)=Go.Proofs.YtjoeklkmnfaabaaGreat.hdr (t+1) f n s):Slt (t+1) V':=
 ⟨by rw[h1];exact Cur.hdr _ _ _ _,by rw[show(t+1+1) % 2=t % 2 by omega,h0];exact Oth.next h.cur⟩
theorem F4 (h:Slt t V) (ht:t+1 < 2^64):better (better (0,lV) (V 0)) (V 1)=if t=0 then(0,lV) else(t,pU (V (t % 2))):=by
 obtain⟨c1,c2⟩:=h.cur.rd (by omega)
 have hn:=h.oth.no ht
 rcases Nat.mod_two_eq_zero_or_one t with hz | hz
 · have hz2:(t+1) % 2=1:=by omega
   rw[hz]at c1 c2 ⊢
   rw[hz2]at hn
   split
   · rename_i h0
     subst h0
     rw[jP (p:=(0,lV)) (by rw[c1];exact Ak _)]
     unfold better
     rw[if_neg]
     rintro⟨a1,a2⟩
     have:=hn a1
     simp only at a2
     omega
   rename_i h0
   have e:better (0,lV) (V 0)=(t,pU (V 0)):=by unfold better;rw[if_pos ⟨by rw[c1,c2],by show 0 < rd8 _;omega⟩,c1]
   rw[e]
   unfold better
   rw[if_neg]
   rintro⟨a1,a2⟩
   have:=hn a1
   simp only at a2
   omega
 have hz2:(t+1) % 2=0:=by omega
 rw[hz]at c1 c2 ⊢
 rw[hz2]at hn
 rw[if_neg (by omega)]
 have hlt:(better (0,lV) (V 0)).1 < t:=by
  unfold better
  split
  · rename_i h1;have:=hn h1.1;show rd8 _ < t;omega
  show 0 < t;omega
 generalize better (0,lV) (V 0)=p at hlt
 unfold better
 rw[if_pos ⟨by rw[c1,c2],by rw[c1];exact hlt⟩,c1]
structure Bse (V:Nat→Blk) (n:Nat) (W:Wl) (s:Nat):Prop where
 lg:Lg V n W s
 told:W.told=W.recs.length
 slt:Slt W.turn V
 low:W.turn≤2^50
theorem Bse.same (h:Bse V n W s) (h0:V' 0=V 0) (h1:V' 1=V 1) (h2:∀ y,y < nbs W.recs→V' (2+(s+y) % (n - 2))=V (2+(s+y) % (n - 2))):Bse V' n W s:=
 ⟨h.lg.same h0 h1 h2,h.told,h.slt.same h0 h1,h.low⟩
theorem Bse.torn (h:Bse V n W s) {m:Nat} (hc:c < 64) (h1:V' ((W.turn+1) % 2)=(Go.Proofs.YtjoeklkmnfaabaaGreat.hdr (W.turn+1) f m s2).take c++(V ((W.turn+1) % 2)).drop c) (h2:∀ i,i≠(W.turn+1) % 2→V' i=V i):Bse V' n W s:=by
 have hs:=h.slt.torn hc (h2 _ (by omega)) h1
 have hl:=h.low
 refine⟨{ h.lg with laid:=fun k hk j hj=>?_,best:=?_,old:=?_ },h.told,hs,h.low⟩
 · rw[h2 _ (by omega)];exact h.lg.laid k hk j hj
 · rw[F4 hs (by omega),h2 _ (by omega),← F4 h.slt (by omega)];exact h.lg.best
 rw[h2 _ (by omega)];exact h.lg.old
@[reducible] def vk (ks:List Blk):Nat→Blk:=fun i=>ks.getD i []
theorem dM {D:Dk} (h:D.wait=[]):D.show=vk D.kept:=funext fun i=>by unfold Dk.show;rw[h];rfl
theorem PV (h:∀ p∈ws,p.1≠i):vk (flush ks ws) i=vk ks i:=by
 show(flush ks ws).getD i []=ks.getD i []
 rw[Ea,pV h,Ea]
theorem M6 {keep:List Int} {q:Nat} (h:∀ p∈ws,p.1≠i):vk (tears ks ws keep q) i=vk ks i:=by
 show(tears ks ws keep q).getD i []=ks.getD i []
 rw[Ea,iG h,Ea]
theorem Bse.free {ks':List Blk} (h:Bse (vk ks) n W s) (hf:sQ n s (nbs W.recs) ws) (hk:∀ i,(∀ p∈ws,p.1≠i)→vk ks' i=vk ks i):Bse (vk ks') n W s:=by
 have hnb:=bI W.recs
 have hrm:=h.lg.room
 have hsz:=h.lg.size
 refine h.same (hk 0 ?_) (hk 1 ?_) (fun y hy=>hk _ ?_)
 · intro p hp he
   obtain⟨y,_,_,h3⟩:=hf p hp
   omega
 · intro p hp he
   obtain⟨y,_,_,h3⟩:=hf p hp
   omega
 intro p hp he
 obtain⟨z,h1,h2,h3⟩:=hf p hp
 have:=CM (s:=s) (R:=n - 2) (x:=z) (y:=y) h2 (by omega) (by omega)
 omega
theorem Bse.flush (h:Bse (vk ks) n W s) (hf:sQ n s (nbs W.recs) ws):Bse (vk (Go.Proofs.YtjoeklkmnfaabaaGreat.flush ks ws)) n W s:=h.free hf fun _ hi=>PV hi
theorem Bse.fall (h:Bse (vk ks) n W s) (hf:sQ n s (nbs W.recs) ws) (keep:List Int) (q:Nat):Bse (vk (tears ks ws keep q)) n W s:=h.free hf fun _ hi=>M6 hi
theorem KW (ks:List Blk) (a:Nat) (b:Blk) (keep:List Int):tears ks [(a,b)] keep 1=ks.set a (b.take (clampK keep 0)++(ks.getD a []).drop (clampK keep 0)):=rfl
theorem oQ {a:Nat} (h:a < ks.length) (i:Nat):vk (ks.set a b) i=if i=a then b else vk ks i:=by
 show(ks.set a b).getD i []=_
 rw[Ea]
 split
 · rename_i hi;rw[hi,List.getElem?_set_self h];rfl
 rename_i hi;rw[List.getElem?_set_ne (fun he=>hi he.symm),← Ea]
theorem Bse.tear (h:Bse (vk ks) n W s) (h2:Lg (vk ks) n W2 s2) (ht:W2.turn=W.turn) (hg:gone≤W2.recs.length) (hf:W2.first≤2^50) (hn:n≤16384) (hl:ks.length=n) (hlo:W.turn+1≤2^50) (keep:List Int):
 Bse (vk (tears ks [((W2.turn+1) % 2,W2.head gone)] keep 1)) n W s∨∃ s3,Bse (vk (tears ks [((W2.turn+1) % 2,W2.head gone)] keep 1)) n (W2.tell gone) s3:=by
 have hsz:=h.lg.size
 have hlt:(W2.turn+1) % 2 < ks.length:=by omega
 rw[KW]
 have hc:=eP keep 0
 have hol:=h.slt.oth.len
 rw[ht]at hlt ⊢
 rcases Jj (clampK keep 0) 64 with h64 | h64
 · refine .inl (h.torn (f:=W2.first+gone) (m:=W2.first+W2.recs.length) (s2:=W2.start gone) h64 ?_ ?_)
   · rw[oQ hlt,if_pos rfl]
     show(hdr (W2.turn+1) _ _ _).take _++_=_
     rw[ht]
   intro i hi
   rw[oQ hlt,if_neg hi]
 refine .inr ⟨(s2+nbs (W2.recs.take gone)) % (n - 2),?_⟩
 have hhl:(W2.head gone).length=64:=jH _ _ _ _
 have e:(W2.head gone).take (clampK keep 0)++(ks.getD ((W.turn+1) % 2) []).drop (clampK keep 0)=W2.head gone:=by
  rw[Ej (by omega),Gn (by have:(ks.getD ((W.turn+1) % 2) []).length=64:=hol;omega),Dt]
 rw[e]
 refine⟨h2.tell hg (by omega) hf hn ?_ ?_,Y,?_,by show W2.turn+1≤_;omega⟩
 · rw[ht,oQ hlt,if_pos rfl]
 · intro i hi
   rw[ht]at hi
   rw[oQ hlt,if_neg hi]
 show Slt (W2.turn+1) _
 rw[ht]
 refine h.slt.tell (f:=W2.first+gone) (n:=W2.first+W2.recs.length) (s:=W2.start gone) ?_ ?_
 · rw[oQ hlt,if_neg (by omega)]
 rw[oQ hlt,if_pos rfl]
 show hdr (W2.turn+1) _ _ _=_
 rw[ht]
theorem Bse.tell (h:Bse (vk ks) n W s) (h2:Lg (vk ks) n W2 s2) (ht:W2.turn=W.turn) (hg:gone≤W2.recs.length) (hf:W2.first≤2^50) (hn:n≤16384) (hl:ks.length=n) (hlo:W.turn+1≤2^50):
 Bse (vk (Go.Proofs.YtjoeklkmnfaabaaGreat.flush ks [((W2.turn+1) % 2,W2.head gone)])) n (W2.tell gone) ((s2+nbs (W2.recs.take gone)) % (n - 2)):=by
 have hsz:=h.lg.size
 have hlt:(W2.turn+1) % 2 < ks.length:=by omega
 have e:Go.Proofs.YtjoeklkmnfaabaaGreat.flush ks [((W2.turn+1) % 2,W2.head gone)]=ks.set ((W2.turn+1) % 2) (W2.head gone):=rfl
 rw[e,ht]
 rw[ht]at hlt
 refine⟨h2.tell hg (by omega) hf hn ?_ ?_,Y,?_,by show W2.turn+1≤_;omega⟩
 · rw[ht,oQ hlt,if_pos rfl]
 · intro i hi
   rw[ht]at hi
   rw[oQ hlt,if_neg hi]
 show Slt (W2.turn+1) _
 rw[ht]
 refine h.slt.tell (f:=W2.first+gone) (n:=W2.first+W2.recs.length) (s:=W2.start gone) ?_ ?_
 · rw[oQ hlt,if_neg (by omega)]
 rw[oQ hlt,if_pos rfl]
 show hdr (W2.turn+1) _ _ _=_
 rw[ht]
end
end Go.Proofs.YtjoeklkmnfaabaaGreat
