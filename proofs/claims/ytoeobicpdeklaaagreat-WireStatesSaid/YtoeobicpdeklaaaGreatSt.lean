/-
  A function that goes over a thing's fields, part by part: where it stands, and what each call does.
-/
import Derived.Test.YtoeobicpdeklaaaGreatWireA
import Derived.Test.YtoeobicpdeklaaaGreatWireB
namespace Go.Proofs.YtoeobicpdeklaaaGreat
open Go Go.RowKit

theorem Th.fst {A B : Th} {w : World} {ok : Nat → Prop} {x : A.X × B.X} {vs : List Value} (h : (Th.pair A B).M w ok x vs) : A.M w ok x.1 (vs.take A.sz) := h.1
theorem Th.snd {A B : Th} {w : World} {ok : Nat → Prop} {x : A.X × B.X} {vs : List Value} (h : (Th.pair A B).M w ok x vs) : B.M w ok x.2 (vs.drop A.sz) := h.2.1
theorem FPs.part {w : World} {ok : Nat → Prop} {fs : List Fv} {vs : List Value} (h : FPs w ok fs vs) (k n : Nat) : FPs w ok ((fs.drop k).take n) ((vs.drop k).take n) := by
  refine ⟨by simp [h.len], fun i hi => ?_⟩
  simp only [List.length_take, List.length_drop] at hi
  obtain ⟨v, q1, q2⟩ := h.each (k + i) (by omega)
  refine ⟨v, ?_, by simpa using q2⟩
  rw [List.getElem?_take_of_lt (by omega), List.getElem?_drop]
  exact q1
theorem Th.part {ks : List Kd} {w : World} {ok : Nat → Prop} {x : List Fv} {vs : List Value} (h : (Th.flat ks).M w ok x vs) (k n : Nat) : (Th.flat ((ks.drop k).take n)).M w ok ((x.drop k).take n) ((vs.drop k).take n) :=
  ⟨by rw [← h.1]; simp [List.map_drop, List.map_take], h.2.part k n⟩
theorem Th.whole {ks : List Kd} {w : World} {ok : Nat → Prop} {x : List Fv} {vs : List Value} (h : (Th.flat ks).M w ok x vs) : x.take ks.length = x := List.take_of_length_le (by rw [← h.1]; simp)
theorem At.sub (vs : List Value) (k n : Nat) : At vs k ((vs.drop k).take n) := fun j u hu => by
  rw [List.getElem?_take] at hu
  split at hu
  · rwa [List.getElem?_drop] at hu
  · cases hu
theorem At.take (vs : List Value) (n : Nat) : At vs 0 (vs.take n) := fun j u hu => by
  rw [List.getElem?_take] at hu
  split at hu
  · rw [Nat.zero_add]; exact hu
  · cases hu
section
variable {P : Program} {l : List Value} {w : World} {ty t : TypeId} {x : Operand}
theorem ex_fieldAddrA {f off : Nat} {ft : TypeId} (h : fieldOf P t f = some (off, ft)) {a : Addr} (hx : ev l x = some (.pointer (some a))) : Ex P l (.fieldAddr t x f) ty w (.value (.pointer (some (a.add off)))) w := fun _ _ _ _ => by
  unfold fieldOf at h
  split at h
  · rename_i fs hu
    split at h
    · rename_i fd hfd
      split at h
      · rename_i i hi
        split at h
        · cases h
        · rename_i hsz
          simp only [Option.some.injEq, Prod.mk.injEq] at h
          obtain ⟨rfl, rfl⟩ := h
          simp [execOp, rho_of hx, Instr.fieldAt, run_underlying hu, hfd, Instr.sureAddr, fieldPlace, sizeOf, typeInfo, hi, hsz]
      · cases h
    · cases h
  · cases h
theorem ex_fieldAddrB {f off k : Nat} {ft : TypeId} (h : fieldOf P t f = some (off, ft)) {a : Addr} (hx : ev l x = some (.pointer (some (a.add k)))) : Ex P l (.fieldAddr t x f) ty w (.value (.pointer (some (a.add (k + off))))) w := by
  have := ex_fieldAddrA (ty := ty) (w := w) h hx
  rwa [add_add] at this
end
/-- A store of what stands there. -/
theorem setCell_same {w : World} {a : Addr} {v : Value} (h : w.cell? a = some v) : w.setCell a v = w := by
  have hh : (w.setCell a v).heap = w.heap := by
    unfold World.setCell
    simp only
    apply Array.ext_getElem?
    intro i
    rw [Array.getElem?_modify]
    split
    · rename_i hi
      subst hi
      unfold World.cell? at h
      split at h
      · rename_i c U fz hc
        rw [hc]
        simp only [Option.map_some]
        congr 2
        split
        · rfl
        · rename_i hs
          rw [if_neg hs] at h
          apply Array.ext_getElem?
          intro j
          rw [Array.getElem?_setIfInBounds]
          split
          · rename_i hj
            subst hj
            have := (Array.getElem?_eq_some_iff.1 h).1
            rw [if_pos this, h]
          · rfl
      · cases h
    · rfl
  have he : w.setCell a v = { w with heap := (w.setCell a v).heap } := rfl
  rw [he, hh]
theorem ops_same {P : Program} {ds : List Deferred} {Q : Post} {K : List Value → World → Prop} {all os : List Oper} {l : List Value} {w : World} {ty t : TypeId} {pos : String} {af : Array Edge} {x y : Operand} {zs : List Value} {bytes : Nat} {agg : Bool} {p : Addr} {v : Value}
    (ht : TyOk P t zs 1 bytes agg) (hx : ev l x = some (.pointer (some p))) (hy : ev l y = some v) (hv : v.cells = [v].toArray) (h1 : v.oneCell' = true) (hc : w.cell? p = some v) (hw : Thawed w p)
    (k : Ops P ds all K Q os l w) : Ops P ds all K Q (⟨none, .store t x y, ty, pos, af, none⟩ :: os) l w := by
  refine ops_skip (w' := w) ?_ k
  intro _ _ _ _
  have hfro : w.frozen? p = false := by
    obtain ⟨arr, U, hh⟩ := hw
    simp [World.frozen?, hh]
  have hst : (store p v).run P w = .ok () w := by
    rw [run_store P w _ v _ h1, hc]
    simp [hfro, setCell_same hc]
  simp [execOp, rho_of hx, rho_of hy, Instr.storeAt, Instr.sureAddr, storeVar, run_sizeOf ht, hv, storeCells, Addr.add_zero', hst]
/-! ### A pen that writes -/
structure WSt (tw : Bool) (gp : Nat) (a : Addr) (w0 : World) (S : List Nat) (w : World) (st : WS) (T : Th) (x : T.X) (vs : List Value) (g : Option Nat) (cap : Nat) (sp : List Value) : Prop where
  H : Hp w0 w S (pw gp g cap sp st)
  P : POk 65536 g cap sp st
  M : T.M w (fun b => b ∉ bl (pw gp g cap sp st)) x vs
  C : Cl w (bl (pw gp g cap sp st)) a vs
  tw_ : tw = true → Thawed w a ∧ 0 < vs.length
section
variable {P : Program} {f : FuncId} {tw tv : Bool} {gp o : Nat} {a : Addr} {w0 w w1 : World} {S : List Nat} {st st1 : WS} {T A : Th} {x : T.X} {y : A.X} {vs us : List Value} {g g1 : Option Nat} {cap cap1 : Nat} {sp sp1 : List Value} {k : Kd} {ys : List Fv} {gs n : Nat} {PT : TypeId}
theorem WSt.next (h : WSt tw gp a w0 S w st T x vs g cap sp) (hP : POk 65536 g1 cap1 sp1 st1) (Hd : Hp w w1 (bl (pw gp g cap sp st)) (pw gp g1 cap1 sp1 st1)) : WSt tw gp a w0 S w1 st1 T x vs g1 cap1 sp1 :=
  ⟨h.H.all Hd, hP, T.mono (T.to h.M Hd fun _ h => h) fun _ h => h.2, h.C.to Hd, fun ht => ⟨(h.tw_ ht).1.to Hd (h.C.apart (h.tw_ ht).2), (h.tw_ ht).2⟩⟩
theorem WSt.one (h : WSt tw gp a w0 S w st T x vs g cap sp) (hc : PenW P f A tv) (ht : tv = true → tw = true) (hp : ∀ w ok, T.M w ok x vs → A.M w ok y us) (hat : At vs o us) :
    Does P f #[Ptr0 gp, PtrV (a.add o)] w (fun _ w1 => ∃ g1 cap1 sp1, WSt tw gp a w0 S w1 (wAll (A.fl y) st) T x vs g1 cap1 sp1) :=
  (hc gp g cap sp st (a.add o) y us w h.H.here h.P (hp _ _ h.M) (h.C.part hat) (fun h1 => (h.tw_ (ht h1)).1.add o)).mono fun _ _ ⟨g1, cap1, sp1, hP, Hd⟩ => ⟨g1, cap1, sp1, h.next hP Hd⟩
theorem WSt.grp (h : WSt tw gp a w0 S w st T x vs g cap sp) (hc : PenWs P f k) (H1 : Hp w w1 (bl (pw gp g cap sp st)) (pw gp g cap sp st ++ [(some gs, PT, ptrsA a o n)])) (hn : n ≤ 1000000) (hp : ∀ w ok, T.M w ok x vs → (Th.flat (List.replicate n k)).M w ok ys us) (hat : At vs o us) :
    Does P f #[Ptr0 gp, .slice (hd (some gs)) n n] w1 (fun _ w2 => ∃ g1 cap1 sp1, WSt tw gp a w0 S w2 (wAll ys st) T x vs g1 cap1 sp1) := by
  have hM := T.to h.M H1.less fun _ h => h
  have hC := h.C.to H1.less
  refine (hc gp g cap sp st a o n n ys us w1 _ hn H1.less.here h.P (hp _ _ (T.mono hM fun _ h => h.2)) (hC.part hat) (H1.rd (i := 2) (o := some gs) (xs := ptrsA a o n) (T := PT) (sp := []) (by rw [List.append_nil]; rfl) (by simp [ptrsA_length]) (by decide)) (row_apart H1 (i := 0) rfl)).mono ?_
  rintro _ w2 ⟨g1, cap1, sp1, hP, Hd⟩
  exact ⟨g1, cap1, sp1, h.next hP (H1.front Hd).less⟩
end
theorem WSt.out {tw : Bool} {gp : Nat} {a : Addr} {w0 w : World} {S : List Nat} {st s2 : WS} {T : Th} {x : T.X} {vs : List Value} {g : Option Nat} {cap : Nat} {sp : List Value} (h : WSt tw gp a w0 S w st T x vs g cap sp) (e : st = s2) : PwOut gp s2 w0 S w := by subst e; exact ⟨g, cap, sp, h.P, h.H⟩
theorem At.cast {cs us : List Value} {o o' : Nat} (h : At cs o us) (e : o = o') : At cs o' us := by subst e; exact h
theorem wAll_flat {ks : List Kd} {w : World} {ok : Nat → Prop} {x : List Fv} {vs : List Value} (h : (Th.flat ks).M w ok x vs) {n : Nat} (hn : n = ks.length) (st : WS) : wAll (x.take n) st = wAll x st := by rw [hn, Th.whole h]
/-! ### A walk that writes -/
structure VSt (gp go o : Nat) (w0 : World) (S : List Nat) (w : World) (m : Nat) (a st : WS) (T : Th) (x : T.X) (vs : List Value) (U : TypeId) (cs : List Value) (g : Option Nat) (cap : Nat) (sp : List Value) : Prop where
  H : Hp w0 w S (vwo gp g cap sp st go U cs)
  P : POk m g cap sp st
  L : Alike a st
  M : T.M w (fun b => b ∉ bl (vwo gp g cap sp st go U cs)) x vs
  at_ : At cs o vs
section
variable {P : Program} {f : FuncId} {gp go o p : Nat} {w0 w w1 : World} {S : List Nat} {st st1 a a1 : WS} {T A : Th} {x : T.X} {y : A.X} {vs us cs : List Value} {g g1 : Option Nat} {cap cap1 : Nat} {sp sp1 : List Value} {k : Kd} {ys : List Fv} {gs n m m1 : Nat} {U PT : TypeId}
theorem VSt.next (h : VSt gp go o w0 S w m a st T x vs U cs g cap sp) (hL : Alike a1 st1) (hP : POk m1 g1 cap1 sp1 st1) (Hd : Hp w w1 (bl (vwo gp g cap sp st go U cs)) (vwo gp g1 cap1 sp1 st1 go U cs)) : VSt gp go o w0 S w1 m1 a1 st1 T x vs U cs g1 cap1 sp1 :=
  ⟨h.H.all Hd, hP, hL, T.mono (T.to h.M Hd fun _ h => h) fun _ h => h.2, h.at_⟩
theorem VSt.one (h : VSt gp go o w0 S w m a st T x vs U cs g cap sp) (hc : WalkW P f A) (hm : m + A.mx ≤ 1000000000) (hp : ∀ w ok, T.M w ok x vs → A.M w ok y us) (hat : At vs p us) :
    Does P f #[Ptr0 gp, PtrV ⟨go, o + p, none⟩] w (fun _ w1 => ∃ st1 g1 cap1 sp1, VSt gp go o w0 S w1 (m + A.mx) (wAll (A.fl y) a) st1 T x vs U cs g1 cap1 sp1) :=
  (hc gp go (o + p) g cap sp st U cs y us w m a h.H.here hm h.P h.L (hp _ _ h.M) (h.at_.trans hat)).mono fun _ _ ⟨st1, g1, cap1, sp1, hL, hP, Hd⟩ => ⟨st1, g1, cap1, sp1, h.next hL hP Hd⟩
theorem VSt.grp (h : VSt gp go o w0 S w m a st T x vs U cs g cap sp) (hc : WalkWs P f k) (H1 : Hp w w1 (bl (vwo gp g cap sp st go U cs)) (vwo gp g cap sp st go U cs ++ [(some gs, PT, ptrs go (o + p) n)])) (hn : n ≤ 1000000) (hm : m + 65545 * n ≤ 1000000000)
    (hp : ∀ w ok, T.M w ok x vs → (Th.flat (List.replicate n k)).M w ok ys us) (hat : At vs p us) :
    Does P f #[Ptr0 gp, .slice (hd (some gs)) n n] w1 (fun _ w2 => ∃ st1 g1 cap1 sp1, VSt gp go o w0 S w2 (m + 65545 * n) (wAll ys a) st1 T x vs U cs g1 cap1 sp1) := by
  have hM := T.to h.M H1.less fun _ h => h
  refine (hc gp go (o + p) n n g cap sp st U cs ys us w1 m a _ hn H1.less.here hm h.P h.L (hp _ _ (T.mono hM fun _ h => h.2)) (h.at_.trans hat) (H1.rd (i := 3) (o := some gs) (xs := ptrs go (o + p) n) (T := PT) (sp := []) (by rw [List.append_nil]; rfl) (by simp [ptrs_length]) (by decide)) (row_apart H1 (i := 0) rfl)).mono ?_
  rintro _ w2 ⟨st1, g1, cap1, sp1, hL, hP, Hd⟩
  exact ⟨st1, g1, cap1, sp1, h.next hL hP (H1.front Hd).less⟩
theorem VSt.re {m2 : Nat} (h : VSt gp go o w0 S w m a st T x vs U cs g cap sp) (e : m = m2) : VSt gp go o w0 S w m2 a st T x vs U cs g cap sp := by subst e; exact h
theorem VSt.out2 {m2 : Nat} (h : VSt gp go o w0 S w m a st T x vs U cs g cap sp) (e : a = a1) (em : m = m2) : VwOut m2 gp a1 go U cs w0 S w := by subst e em; exact ⟨st, g, cap, sp, h.L, h.P, h.H⟩
theorem VSt.out (h : VSt gp go o w0 S w m a st T x vs U cs g cap sp) : VwOut m gp a go U cs w0 S w := ⟨st, g, cap, sp, h.L, h.P, h.H⟩
end
/-! ### Reading -/
structure RSt (R : RRows) (go o : Nat) (U : TypeId) (cs : List Value) (b : List UInt8) (i0 e0 n : Nat) (w0 : World) (S : List Nat) (w : World) (A : Th) (us : List Value) (i e : Nat) : Prop where
  rd : (A.rd b i0 e0).2 = (i, e)
  ul : us.length = A.sz
  one_ : us.all (·.oneCell') = true
  H : Hp w0 w S (R i e ++ [(some go, U, putAt cs o us)])
  M : e = 0 → A.M w (Fr w n (R i e ++ [(some go, U, putAt cs o us)])) (A.rd b i0 e0).1 us
  le : i ≤ b.length
  nle : n ≤ w.heap.size
section
variable {P : Program} {f : FuncId} {R : RRows} {gp go o q : Nat} {U PT : TypeId} {cs us : List Value} {b : List UInt8} {i0 e0 i e n : Nat} {w0 w w1 : World} {S : List Nat} {A B : Th} {ks js : List Kd} {k : Kd} {m gs r : Nat}
theorem RSt.out (h : RSt R go o U cs b i0 e0 n w0 S w A us i e) : RdOut R A go o U cs b i0 e0 n w0 S w := by
  obtain ⟨h1, h2, h3, h4, h5, h6, h7⟩ := h
  refine ⟨us, h2, h3, ?_, ?_⟩
  · rw [h1]; exact h4
  · intro h0
    rw [h1] at h0
    have := h5 h0
    rw [h1]
    exact this
theorem RSt.start (H0 : Hp w0 w0 S (R i0 e0 ++ [(some go, U, cs)])) (hi : i0 ≤ b.length) : RSt R go o U cs b i0 e0 w0.heap.size w0 S w0 (Th.flat []) [] i0 e0 :=
  ⟨rfl, rfl, rfl, by rw [putAt_nil]; exact H0, fun _ => ⟨rfl, FPs.nil⟩, hi, Nat.le_refl _⟩
theorem RSt.step (h : RSt R go o U cs b i0 e0 n w0 S w A us i e) (hq : A.sz = q) (hfit : o + q + B.sz ≤ cs.length) {w1 w2 : World} (H1 : Hp w w1 (bl (R i e ++ [(some go, U, putAt cs o us)])) (R i e ++ [(some go, U, putAt cs o us)]))
    (Hd : RdOut R B go (o + q) U (putAt cs o us) b i e w1.heap.size w1 (bl (R i e ++ [(some go, U, putAt cs o us)])) w2) : ∃ us2 i2 e2, RSt R go o U cs b i0 e0 n w0 S w2 (Th.pair A B) (us ++ us2) i2 e2 := by
  subst hq
  obtain ⟨us2, hl2, ho2, H2, hM2⟩ := Hd
  have hul := h.ul
  have hput : putAt (putAt cs o us) (o + A.sz) us2 = putAt cs o (us ++ us2) := by rw [← hul]; exact putAt_app (by omega)
  rw [hput] at H2 hM2
  have hrd : ((Th.pair A B).rd b i0 e0).2 = (B.rd b i e).2 := by
    show (B.rd b (A.rd b i0 e0).2.1 (A.rd b i0 e0).2.2).2 = _
    rw [h.rd]
  have hrd1 : ((Th.pair A B).rd b i0 e0).1 = ((A.rd b i0 e0).1, (B.rd b i e).1) := by
    show ((A.rd b i0 e0).1, (B.rd b (A.rd b i0 e0).2.1 (A.rd b i0 e0).2.2).1) = _
    rw [h.rd]
  have H12 := H1.all H2
  have hsz1 := H1.size
  have hsz2 := H2.size
  have hn := h.nle
  refine ⟨us2, (B.rd b i e).2.1, (B.rd b i e).2.2, hrd, by rw [List.length_append, hul, hl2], by rw [List.all_append, h.one_, ho2]; rfl, h.H.all H12, ?_, B.le h.le, by omega⟩
  intro h0
  have he : e = 0 := by
    apply Classical.byContradiction
    intro hne
    have := B.bad (b := b) (i := i) hne
    rw [this] at h0
    exact hne h0
  rw [hrd1]
  have hA := Fr.to (h.M he) H12
  refine ⟨?_, ?_, by simp only [List.length_append]; omega⟩
  · rw [← hul, List.take_left]
    exact hA
  · rw [← hul, List.drop_left]
    exact B.mono (hM2 h0) fun _ h => ⟨by have := h.1; omega, h.2⟩
/-- Two runs of plain fields are one. -/
theorem flat_join {w : World} {ok : Nat → Prop} {x y : List Fv} {vs : List Value} (h1 : (Th.flat ks).M w ok x (vs.take ks.length)) (h2 : (Th.flat js).M w ok y (vs.drop ks.length)) : (Th.flat (ks ++ js)).M w ok (x ++ y) vs := by
  refine ⟨by rw [List.map_append, h1.1, h2.1], ?_⟩
  have := h1.2.app h2.2
  rwa [List.take_append_drop] at this
@[reducible] def fapp (a b : List Fv) : List Fv := a ++ b
theorem RSt.join1 (h : RSt R go o U cs b i0 e0 n w0 S w (Th.pair (Th.flat ks) (Th.flat js)) us i e) : RSt R go o U cs b i0 e0 n w0 S w (Th.flat (ks ++ js)) us i e := by
  have hx : (Th.flat (ks ++ js)).rd b i0 e0 = (fapp ((Th.pair (Th.flat ks) (Th.flat js)).rd b i0 e0).1.1 ((Th.pair (Th.flat ks) (Th.flat js)).rd b i0 e0).1.2, ((Th.pair (Th.flat ks) (Th.flat js)).rd b i0 e0).2) := rdAll_append ks js b i0 e0
  refine ⟨by rw [hx]; exact h.rd, by rw [h.ul]; exact List.length_append.symm, h.one_, h.H, fun h0 => ?_, h.le, h.nle⟩
  have := h.M h0
  rw [hx]
  exact flat_join this.1 this.2.1
theorem RSt.join (h : RSt R go o U cs b i0 e0 n w0 S w (Th.pair (Th.pair A (Th.flat ks)) (Th.flat js)) us i e) : RSt R go o U cs b i0 e0 n w0 S w (Th.pair A (Th.flat (ks ++ js))) us i e := by
  have hx : (Th.pair A (Th.flat (ks ++ js))).rd b i0 e0 = ((((Th.pair (Th.pair A (Th.flat ks)) (Th.flat js)).rd b i0 e0).1.1.1, fapp ((Th.pair (Th.pair A (Th.flat ks)) (Th.flat js)).rd b i0 e0).1.1.2 ((Th.pair (Th.pair A (Th.flat ks)) (Th.flat js)).rd b i0 e0).1.2), ((Th.pair (Th.pair A (Th.flat ks)) (Th.flat js)).rd b i0 e0).2) := by
    have := rdAll_append ks js b (A.rd b i0 e0).2.1 (A.rd b i0 e0).2.2
    show (((A.rd b i0 e0).1, (rdAll (ks ++ js) b (A.rd b i0 e0).2.1 (A.rd b i0 e0).2.2).1), (rdAll (ks ++ js) b (A.rd b i0 e0).2.1 (A.rd b i0 e0).2.2).2) = _
    rw [this]
  refine ⟨by rw [hx]; exact h.rd, by rw [h.ul]; show A.sz + ks.length + js.length = A.sz + (ks ++ js).length; simp; omega, h.one_, h.H, fun h0 => ?_, h.le, h.nle⟩
  obtain ⟨⟨m1, m2, m3⟩, m4, m5⟩ := h.M h0
  have hlen := h.ul
  change us.length = A.sz + ks.length + js.length at hlen
  rw [hx]
  refine ⟨?_, ?_, by omega⟩
  · have : (us.take (Th.pair A (Th.flat ks)).sz).take A.sz = us.take A.sz := by rw [List.take_take]; congr 1; show min A.sz (A.sz + ks.length) = A.sz; omega
    rw [← this]; exact m1
  · refine flat_join ?_ ?_
    · have : (us.take (Th.pair A (Th.flat ks)).sz).drop A.sz = (us.drop A.sz).take ks.length := by
        rw [List.drop_take]; congr 1; show A.sz + ks.length - A.sz = ks.length; omega
      rw [← this]; exact m2
    · rw [List.drop_drop]
      exact m4
theorem RSt.one (h : RSt R go o U cs b i0 e0 n w0 S w A us i e) (hc : ReadsTh P f R gp b B) (hq : A.sz = q) (hfit : o + q + B.sz ≤ cs.length) (hat : At cs (o + q) B.zs) :
    Does P f #[Ptr0 gp, PtrV ⟨go, o + q, none⟩] w (fun _ w1 => ∃ us2 i2 e2, RSt R go o U cs b i0 e0 n w0 S w1 (Th.pair A B) (us ++ us2) i2 e2) := by
  have hul := h.ul
  refine (hc go (o + q) i e U (putAt cs o us) w h.H.here h.le ?_ ?_).mono fun _ w1 hd => h.step hq hfit h.H.here hd
  · rw [← hq, ← hul] at hat ⊢
    exact At.behind hat (by omega)
  · rw [putAt_len (by omega)]; exact hfit
theorem RSt.grp (h : RSt R go o U cs b i0 e0 n w0 S w A us i e) (hc : ReadsThs P f R gp b k) (hq : A.sz = q) (H1 : Hp w w1 (bl (R i e ++ [(some go, U, putAt cs o us)])) (R i e ++ [(some go, U, putAt cs o us)] ++ [(some gs, PT, ptrs go (o + q) m)])) (hm : m ≤ 1000000)
    (hfit : o + q + m ≤ cs.length) (hat : At cs (o + q) (zCs (List.replicate m k))) (hR : (R i e ++ [(some go, U, putAt cs o us)]).length = r) (hz : (Th.flat (List.replicate m k)).sz = m) :
    Does P f #[Ptr0 gp, .slice (hd (some gs)) m m] w1 (fun _ w2 => ∃ us2 i2 e2, RSt R go o U cs b i0 e0 n w0 S w2 (Th.pair A (Th.flat (List.replicate m k))) (us ++ us2) i2 e2) := by
  have hul := h.ul
  refine (hc go (o + q) m m i e U (putAt cs o us) w1 _ hm H1.less.here h.le ?_ ?_ (H1.rd (i := r) (o := some gs) (xs := ptrs go (o + q) m) (T := PT) (sp := []) ?_ (by simp [ptrs_length]) (by decide)) (row_apart H1 (i := 0) rfl)).mono fun _ w2 hd => h.step hq (by rw [hz]; exact hfit) H1.less hd
  · rw [← hq, ← hul] at hat ⊢
    exact At.behind hat (by omega)
  · rw [putAt_len (by omega)]; exact hfit
  · rw [List.getElem?_append_right (by omega), hR]; simp
end
end Go.Proofs.YtoeobicpdeklaaaGreat
