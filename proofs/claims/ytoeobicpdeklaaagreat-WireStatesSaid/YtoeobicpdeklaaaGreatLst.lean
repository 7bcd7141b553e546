/-
  Lists of things: what their walks need.
-/
import Derived.Test.YtoeobicpdeklaaaGreatWr
namespace Go.Proofs.YtoeobicpdeklaaaGreat
open Go Go.RowKit

/-! ### Writing -/
/-- So many of a list's things written. -/
def wl (A : Th) (x : List A.X) (q : Nat) (st : WS) : WS := wAll (.count x.length :: (x.take q).flatMap A.fl) st
theorem wl_zero (A : Th) (x : List A.X) (st : WS) : wl A x 0 st = wFld (.count x.length) st := rfl
theorem wl_succ {A : Th} {x : List A.X} {q : Nat} (h : q < x.length) (st : WS) : wl A x (q + 1) st = wAll (A.fl x[q]) (wl A x q st) := by
  unfold wl
  rw [List.take_add_one, List.getElem?_eq_getElem h]
  rw [List.flatMap_append]
  rw [show ∀ (c : Fv) (a b : List Fv), c :: (a ++ b) = (c :: a) ++ b from fun _ _ _ => rfl, wAll_append]
  simp
theorem wl_all (A : Th) (tw : Bool) (x : List A.X) (st : WS) : wl A x x.length st = wAll ((Th.many A tw).fl x) st := by
  unfold wl
  rw [List.take_length]
theorem wl_stop {A : Th} (tw : Bool) {x : List A.X} {q : Nat} {st : WS} (h : (wl A x q st).long = true) : wAll ((Th.many A tw).fl x) st = wl A x q st := by
  show wAll (.count x.length :: x.flatMap A.fl) st = _
  have e : x.flatMap A.fl = (x.take q).flatMap A.fl ++ (x.drop q).flatMap A.fl := by rw [← List.flatMap_append, List.take_append_drop]
  rw [e, show ∀ (c : Fv) (a b : List Fv), c :: (a ++ b) = (c :: a) ++ b from fun _ _ _ => rfl, wAll_append]
  exact wAll_long h
theorem wl_too {A : Th} (tw : Bool) {x : List A.X} {st : WS} (h : st.long = false) (h2 : 1024 < x.length) : wAll ((Th.many A tw).fl x) st = ⟨st.out, true⟩ := by
  have h3 : wl A x 0 st = ⟨st.out, true⟩ := by rw [wl_zero]; exact wFld_too h (by simp [tooLong]; omega)
  rw [wl_stop tw (q := 0) (by rw [h3]), h3]
theorem vFld_count_long {n : Nat} {st : WS} (h : st.long = true ∨ tooLong (.count n) = true) : vFld (.count n) st = ⟨st.out, true⟩ := if_pos h
theorem vFld_count_put {n : Nat} {so : List UInt8} (h : ¬ tooLong (.count n) = true) : vFld (.count n) ⟨so, false⟩ = ⟨so ++ enc n, false⟩ := if_neg (by rintro (h1 | h1); cases h1; exact h h1)
theorem elem_cl {w : World} {S : List Nat} {pa : Addr} {n z q : Nat} {cells : List Value} (h : Rd w (some pa) n z cells) (hq : q < n) (ha : pa.block ∉ S) : Cl w S (pa.add (q * z)) ((cells.drop (q * z)).take z) := by
  have hc : Cl w S pa cells := ⟨fun j u hu => h.cells pa rfl j u hu, fun _ => ha⟩
  exact hc.part (At.sub _ _ _)
theorem elem_len {w : World} {B : Option Addr} {n z q : Nat} {cells : List Value} (h : Rd w B n z cells) (hq : q < n) : ((cells.drop (q * z)).take z).length = z := by
  have h1 := h.len
  have h2 : (q + 1) * z ≤ n * z := Nat.mul_le_mul_right _ hq
  rw [Nat.add_mul] at h2
  simp only [List.length_take, List.length_drop]; omega
/-! ### Reading -/
theorem rdN_step {A : Th} {b : List UInt8} {n q i e : Nat} {x : A.X} {i2 e2 : Nat} (h : q < n) (he : e = 0) (hx : A.rd b i e = (x, i2, e2)) : rdN A b (n - q) i e = (x :: (rdN A b (n - (q + 1)) i2 e2).1, (rdN A b (n - (q + 1)) i2 e2).2) := by
  obtain ⟨m, hm⟩ : ∃ m, n - q = m + 1 := ⟨n - q - 1, by omega⟩
  have hm2 : n - (q + 1) = m := by omega
  rw [hm, hm2]
  show (if e = 0 then _ else _) = _
  rw [if_pos he, hx]
theorem place_new {w0 w : World} {es0 es1 R : List Ent} (H : Hp w0 w (bl es0) (es1 ++ R)) (hb : bl es1 = bl es0) {i : Nat} {g : Option Nat} {T : TypeId} {cs : List Value} (he : R[i]? = some (g, T, cs)) : ∀ p, hd g = some p → w0.heap.size ≤ p.block := by
  intro p hp
  cases g with
  | none => cases hp
  | some x =>
    cases hp
    have h1 := H.place (i := es1.length + i) (by rw [List.getElem?_append_right (by omega), Nat.add_sub_cancel_left]; exact he)
    rcases h1 with h1 | h1
    · rw [← hb] at h1
      exact absurd h1 (row_apart H he ⟨x, 0, none⟩ rfl)
    · exact h1
theorem fill_one {zs us : List Value} {sz : Nat} {v : Value} (hz : zs.length = sz) (hv : v.cells = us.toArray) (hu : us.length = sz) : fillL (fun i => some (i * sz, sz)) (initL zs 1) [(0, v)] = some us := by
  have h1 : initL zs 1 = zs := by simp [initL]
  rw [h1]
  unfold fillL
  have h2 : v.cells.toList = us := by rw [hv]
  simp only [Nat.zero_mul, h2, hu, Nat.zero_add]
  rw [show decide True = true by simp, show decide (sz ≤ zs.length) = true by simp [hz]]
  simp only [fillL]
  rw [putAt_all (by rw [hu, hz])]
section
variable {P : Program} {ds : List Deferred} {Q : Post} {K : List Value → World → Prop} {all os : List Oper} {l : List Value} {w0 w : World} {S : List Nat} {es : List Ent} {ty t : TypeId} {pos : String} {af : Array Edge} {d : Tmp} {zs : List Value} {sz bytes : Nat} {agg : Bool} {x : Operand}
/-- A slice of one thing. -/
theorem ops_build1 {e : TypeId} (ht : P.underlying t = some (.slice e)) (he : TyOk P e zs sz bytes agg) (H : Hp w0 w S es) {v : Value} {us : List Value} (hx : ev l x = some v) (hv : v.cells = us.toArray) (hu : us.length = sz) (hn : 1 * sz ≤ 16777216)
    (k : ∀ w' g, Hp w0 w' S (es ++ [(some g, e, us)]) → g = w.heap.size → Ops P ds all K Q os (l.set d (.slice (hd (some g)) 1 1)) w') : Ops P ds all K Q (⟨some d, .buildSlice t 1 [(0, x)].toArray, ty, pos, af, none⟩ :: os) l w :=
  ops_buildSlice ht he H (vs := [(0, v)]) (by simp [partVals, hx]) hn (fill_one he.len hv hu) k
/-- A call of a method's value. -/
theorem ex_call_bound {f : FuncId} (hf : goFn P f = true) {xs : List Operand} {vs bs : List Value} {ats : Array TypeId} (hc : ev l x = some (.func (.func f) bs.toArray #[])) (hx : evs l xs = some vs) :
    Ex P l (.call { callee := .value x, args := xs.toArray, argTypes := ats }) ty w (.enter f (bs ++ vs).toArray) w := fun _ _ _ _ => by
  simp [execOp, resolve, Deferred.ofValue, invoke, rhos_of hx, run_goFn hf, rho_of hc]
end
theorem cells_one {v : Value} (h : v.oneCell' = true) : v.cells = [v].toArray := by cases v <;> first | rfl | cases h
/-! ### What a list's function does -/
@[reducible] def One (f gp : Nat) : Value := .func (.func f) [Ptr0 gp].toArray #[]
def PenWL (P : Program) (f fo : FuncId) (A : Th) : Prop :=
  ∀ (gp : Nat) (g : Option Nat) (cap : Nat) (sp : List Value) (st : WS) (a : Addr) (x : A.X) (vs : List Value) (w0 : World), Hp w0 w0 (bl (pw gp g cap sp st)) (pw gp g cap sp st) → POk 65536 g cap sp st →
    A.M w0 (fun b => b ∉ bl (pw gp g cap sp st)) x vs → Cl w0 (bl (pw gp g cap sp st)) a vs →
    Does P f #[Ptr0 gp, PtrV a, One fo gp] w0 (fun _ w' => PwOut gp (wAll (A.fl x) st) w0 (bl (pw gp g cap sp st)) w')
def PenRL (P : Program) (f fo : FuncId) (A : Th) : Prop := ∀ (gp gr : Nat) (gb : Option Nat) (cb : Nat) (sb : List Value) (b : List UInt8), b.length ≤ cb → b.length ≤ 65536 →
  ∀ (go o i e : Nat) (T : TypeId) (cs : List Value) (w0 : World), Hp w0 w0 (bl (pr gp gr gb cb sb b i e ++ [(some go, T, cs)])) (pr gp gr gb cb sb b i e ++ [(some go, T, cs)]) → i ≤ b.length → At cs o A.zs → o + A.sz ≤ cs.length →
    Does P f #[Ptr0 gp, PtrV ⟨go, o, none⟩, One fo gp] w0 (fun _ w' => RdOut (pr gp gr gb cb sb b) A go o T cs b i e w0.heap.size w0 (bl (pr gp gr gb cb sb b i e ++ [(some go, T, cs)])) w')
section
variable {P : Program} {f fo : FuncId} {tw : Bool} {gp gr o : Nat} {a : Addr} {w0 w : World} {S : List Nat} {st : WS} {T A : Th} {x : T.X} {y : A.X} {vs us : List Value} {g : Option Nat} {cap : Nat} {sp : List Value}
theorem WSt.lst (h : WSt tw gp a w0 S w st T x vs g cap sp) (hc : PenWL P f fo A) (hp : ∀ w ok, T.M w ok x vs → A.M w ok y us) (hat : At vs o us) :
    Does P f #[Ptr0 gp, PtrV (a.add o), One fo gp] w (fun _ w1 => ∃ g1 cap1 sp1, WSt tw gp a w0 S w1 (wAll (A.fl y) st) T x vs g1 cap1 sp1) :=
  (hc gp g cap sp st (a.add o) y us w h.H.here h.P (hp _ _ h.M) (h.C.part hat)).mono fun _ _ ⟨g1, cap1, sp1, hP, Hd⟩ => ⟨g1, cap1, sp1, h.next hP Hd⟩
variable {go q : Nat} {U : TypeId} {cs : List Value} {b : List UInt8} {i0 e0 i e n : Nat} {B : Th} {gb : Option Nat} {cb : Nat} {sb : List Value}
theorem RSt.lst {us : List Value} (h : RSt (pr gp gr gb cb sb b) go o U cs b i0 e0 n w0 S w A us i e) (hc : PenRL P f fo B) (hcb : b.length ≤ cb) (hbl : b.length ≤ 65536) (hq : A.sz = q) (hfit : o + q + B.sz ≤ cs.length) (hat : At cs (o + q) B.zs) :
    Does P f #[Ptr0 gp, PtrV ⟨go, o + q, none⟩, One fo gp] w (fun _ w1 => ∃ us2 i2 e2, RSt (pr gp gr gb cb sb b) go o U cs b i0 e0 n w0 S w1 (Th.pair A B) (us ++ us2) i2 e2) := by
  have hul := h.ul
  refine (hc gp gr gb cb sb b hcb hbl go (o + q) i e U (putAt cs o us) w h.H.here h.le ?_ ?_).mono fun _ w1 hd => h.step hq hfit h.H.here hd
  · rw [← hq, ← hul] at hat ⊢
    exact At.behind hat (by omega)
  · rw [putAt_len (by omega)]; exact hfit
end
/-! ### A number that is too great: a fault that the reader does not know of -/
def BadR (gp gr : Nat) (gb : Option Nat) (cb : Nat) (sb : List Value) (b : List UInt8) (A : Th) (go o : Nat) (T : TypeId) (cs : List Value) (i e : Nat) (w0 : World) (S : List Nat) (w' : World) : Prop :=
  (A.rd b i e).2.2 ≠ 0 ∧ ∃ j us, j ≤ b.length ∧ us.length = A.sz ∧ Hp w0 w' S (prB gp gr gb cb sb b j (A.rd b i e).2.2 ++ [(some go, T, putAt cs o us)])
def RdOutB (gp gr : Nat) (gb : Option Nat) (cb : Nat) (sb : List Value) (b : List UInt8) (A : Th) (go o : Nat) (T : TypeId) (cs : List Value) (i e n : Nat) (w0 : World) (S : List Nat) (w' : World) : Prop :=
  RdOut (pr gp gr gb cb sb b) A go o T cs b i e n w0 S w' ∨ BadR gp gr gb cb sb b A go o T cs i e w0 S w'
def PenRB (P : Program) (f : FuncId) (A : Th) : Prop := ∀ (gp gr : Nat) (gb : Option Nat) (cb : Nat) (sb : List Value) (b : List UInt8), b.length ≤ cb → b.length ≤ 65536 →
  ∀ (go o i e : Nat) (T : TypeId) (cs : List Value) (w0 : World), Hp w0 w0 (bl (pr gp gr gb cb sb b i e ++ [(some go, T, cs)])) (pr gp gr gb cb sb b i e ++ [(some go, T, cs)]) → i ≤ b.length → At cs o A.zs → o + A.sz ≤ cs.length →
    Does P f #[Ptr0 gp, PtrV ⟨go, o, none⟩] w0 (fun _ w' => RdOutB gp gr gb cb sb b A go o T cs i e w0.heap.size w0 (bl (pr gp gr gb cb sb b i e ++ [(some go, T, cs)])) w')
def RStB (gp gr : Nat) (gb : Option Nat) (cb : Nat) (sb : List Value) (b : List UInt8) (go o : Nat) (U : TypeId) (cs : List Value) (i0 e0 n : Nat) (w0 : World) (S : List Nat) (w : World) (A : Th) : Prop :=
  (∃ us i e, RSt (pr gp gr gb cb sb b) go o U cs b i0 e0 n w0 S w A us i e) ∨ BadR gp gr gb cb sb b A go o U cs i0 e0 w0 S w
section
variable {P : Program} {f : FuncId} {gp gr go o q : Nat} {gb : Option Nat} {cb : Nat} {sb : List Value} {b : List UInt8} {U : TypeId} {cs us : List Value} {i0 e0 i e n : Nat} {w0 w : World} {S : List Nat} {A B : Th} {ks js : List Kd}
theorem RStB.out (h : RStB gp gr gb cb sb b go o U cs i0 e0 n w0 S w A) : RdOutB gp gr gb cb sb b A go o U cs i0 e0 n w0 S w := by
  rcases h with ⟨us, i, e, h⟩ | h
  · exact .inl h.out
  · exact .inr h
theorem RSt.oneB (h : RSt (pr gp gr gb cb sb b) go o U cs b i0 e0 n w0 S w A us i e) (hc : PenRB P f B) (hcb : b.length ≤ cb) (hbl : b.length ≤ 65536) (hq : A.sz = q) (hfit : o + q + B.sz ≤ cs.length) (hat : At cs (o + q) B.zs) :
    Does P f #[Ptr0 gp, PtrV ⟨go, o + q, none⟩] w (fun _ w1 => RStB gp gr gb cb sb b go o U cs i0 e0 n w0 S w1 (Th.pair A B)) := by
  have hul := h.ul
  refine (hc gp gr gb cb sb b hcb hbl go (o + q) i e U (putAt cs o us) w h.H.here h.le ?_ ?_).mono fun _ w1 hd => ?_
  · rw [← hq, ← hul] at hat ⊢
    exact At.behind hat (by omega)
  · rw [putAt_len (by omega)]; exact hfit
  · rcases hd with hd | ⟨h0, j, us2, hj, hl2, Hd⟩
    · obtain ⟨us2, i2, e2, h2⟩ := h.step hq hfit h.H.here hd
      exact .inl ⟨_, i2, e2, h2⟩
    · right
      have hrd : ((Th.pair A B).rd b i0 e0).2 = (B.rd b i e).2 := by
        show (B.rd b (A.rd b i0 e0).2.1 (A.rd b i0 e0).2.2).2 = _
        rw [h.rd]
      have hput : putAt (putAt cs o us) (o + q) us2 = putAt cs o (us ++ us2) := by rw [← hq, ← hul]; exact putAt_app (by omega)
      rw [hput] at Hd
      refine ⟨by rw [hrd]; exact h0, j, us ++ us2, hj, by rw [List.length_append, hul, hl2], ?_⟩
      rw [hrd]
      exact h.H.all Hd
theorem RStB.join1 (h : RStB gp gr gb cb sb b go o U cs i0 e0 n w0 S w (Th.pair (Th.flat ks) (Th.flat js))) : RStB gp gr gb cb sb b go o U cs i0 e0 n w0 S w (Th.flat (ks ++ js)) := by
  rcases h with ⟨us, i, e, h⟩ | ⟨h0, j, us, hj, hl, H⟩
  · exact .inl ⟨us, i, e, h.join1⟩
  · have hx : ((Th.flat (ks ++ js)).rd b i0 e0).2 = ((Th.pair (Th.flat ks) (Th.flat js)).rd b i0 e0).2 := by
      have := rdAll_append ks js b i0 e0
      show (rdAll (ks ++ js) b i0 e0).2 = _
      rw [this]
    refine .inr ⟨by rw [hx]; exact h0, j, us, hj, by rw [hl]; exact List.length_append.symm, ?_⟩
    rw [hx]
    exact H
/-- Bytes behind a fault. -/
theorem RStB.bytes (h : RStB gp gr gb cb sb b go o U cs i0 e0 n w0 S w A) (hc : PenR P f (Th.flat [.bytes])) (hcb : b.length ≤ cb) (hbl : b.length ≤ 65536) (hq : A.sz = q) (hfit : o + q + 1 ≤ cs.length) (hat : At cs (o + q) (Th.flat [.bytes]).zs)
    (hbad : ∀ (j e : Nat) (U : TypeId) (cs : List Value) (w : World), j ≤ b.length → e ≠ 0 → Hp w w (bl (prB gp gr gb cb sb b j e ++ [(some go, U, cs)])) (prB gp gr gb cb sb b j e ++ [(some go, U, cs)]) → Does P f #[Ptr0 gp, PtrV ⟨go, o + q, none⟩] w (fun _ w1 => Hp w w1 (bl (prB gp gr gb cb sb b j e ++ [(some go, U, cs)])) (prB gp gr gb cb sb b j e ++ [(some go, U, cs)]))) :
    Does P f #[Ptr0 gp, PtrV ⟨go, o + q, none⟩] w (fun _ w1 => RStB gp gr gb cb sb b go o U cs i0 e0 n w0 S w1 (Th.pair A (Th.flat [.bytes]))) := by
  rcases h with ⟨us, i, e, h⟩ | ⟨h0, j, us, hj, hl, H⟩
  · exact (h.one (hc gp gr gb cb sb b hcb hbl) hq hfit hat).mono fun _ _ ⟨us2, i2, e2, h2⟩ => .inl ⟨_, i2, e2, h2⟩
  · refine (hbad j _ U (putAt cs o us) w hj h0 H.here).mono fun _ w1 Hd => .inr ?_
    have hb := (Th.flat [.bytes]).bad (b := b) (i := (A.rd b i0 e0).2.1) h0
    have hrd : ((Th.pair A (Th.flat [.bytes])).rd b i0 e0).2 = ((A.rd b i0 e0).2.1, (A.rd b i0 e0).2.2) := hb
    refine ⟨by rw [hrd]; exact h0, j, us ++ [.slice none 0 0], hj, by rw [List.length_append, hl]; rfl, ?_⟩
    rw [hrd, row_same (q := q) (by rw [hl, hq]) (by have := hat 0 _ rfl; rwa [Nat.add_zero] at this)]
    exact H.all Hd
end
end Go.Proofs.YtoeobicpdeklaaaGreat
