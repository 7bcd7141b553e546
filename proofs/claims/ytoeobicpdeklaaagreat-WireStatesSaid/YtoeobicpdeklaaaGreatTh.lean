/-
  Things: what they are as fields, how they are read, how they lie in memory; and what a pen's or a walk's function does with one.
-/
import Derived.Test.YtoeobicpdeklaaaGreatWire
namespace Go.Proofs.YtoeobicpdeklaaaGreat
open Go Go.RowKit

structure Th where
  X : Type
  sz : Nat
  mx : Nat
  zs : List Value
  fl : X → List Fv
  rd : List UInt8 → Nat → Nat → X × Nat × Nat
  M : World → (Nat → Prop) → X → List Value → Prop
  z : X
  zM : ∀ w ok, M w ok z zs
  zlen : zs.length = sz
  zone : zs.all (·.oneCell') = true
  len : ∀ {w ok x vs}, M w ok x vs → vs.length = sz
  mono : ∀ {w ok ok' x vs}, M w ok x vs → (∀ b, ok b → ok' b) → M w ok' x vs
  to : ∀ {w w' ok x vs S es}, M w ok x vs → Hp w w' S es → (∀ b, ok b → b ∉ S) → M w' (fun b => ok b ∧ b ∉ bl es) x vs
  good : ∀ {w ok x vs}, M w ok x vs → ∀ f ∈ fl x, FOk f
  ones : ∀ {w ok x vs}, M w ok x vs → vs.all (·.oneCell') = true
  bad : ∀ {b i e}, e ≠ 0 → (rd b i e).2 = (i, e)
  le : ∀ {b i e}, i ≤ b.length → (rd b i e).2.1 ≤ b.length
@[reducible] def Th.nil : Th where
  X := Unit
  sz := 0
  mx := 0
  zs := []
  fl _ := []
  rd _ i e := ((), i, e)
  M _ _ _ vs := vs = []
  z := ()
  zM _ _ := rfl
  zlen := rfl
  zone := rfl
  len h := by rw [h]; rfl
  mono h _ := h
  to h _ _ := h
  good _ f hf := by cases hf
  ones h := by rw [h]; rfl
  bad _ := rfl
  le h := h
theorem rdAll_bad : ∀ (ks : List Kd) {b : List UInt8} {i e : Nat}, e ≠ 0 → (rdAll ks b i e).2 = (i, e)
  | [], _, _, _, _ => rfl
  | k :: ks, b, i, e, h => by
    show (rdAll ks b (rdF k b i e).2.1 (rdF k b i e).2.2).2 = _
    rw [rdF_bad h]
    exact rdAll_bad ks h
theorem rdAll_le : ∀ (ks : List Kd) {b : List UInt8} {i e : Nat}, i ≤ b.length → (rdAll ks b i e).2.1 ≤ b.length
  | [], _, _, _, h => h
  | k :: ks, b, i, e, h => rdAll_le ks (rdF_le h)
theorem zC_one (k : Kd) : (zC k).oneCell' = true := by cases k <;> rfl
theorem zFPs (w : World) (ok : Nat → Prop) (ks : List Kd) : FPs w ok (ks.map zF) (zCs ks) := ⟨by simp [zCs], fun i h => by
  simp only [List.length_map] at h
  exact ⟨zC ks[i], by simp [zCs, h], by simpa using zFP w ok ks[i]⟩⟩
@[reducible] def Th.flat (ks : List Kd) : Th where
  X := List Fv
  sz := ks.length
  mx := 65545 * ks.length
  zs := zCs ks
  fl x := x
  rd := rdAll ks
  M w ok x vs := x.map Fv.kd = ks ∧ FPs w ok x vs
  z := ks.map zF
  zM w ok := ⟨by rw [List.map_map]; conv => rhs; rw [← List.map_id ks]
                 exact List.map_congr_left fun k _ => by cases k <;> rfl, zFPs w ok ks⟩
  zlen := by simp [zCs]
  zone := by rw [zCs, List.all_map, List.all_eq_true]; intro k _; exact zC_one k
  len h := by rw [h.2.len, ← h.1]; simp
  mono h hs := ⟨h.1, h.2.mono hs⟩
  to h H hs := ⟨h.1, h.2.to H hs⟩
  good h := h.2.fok
  ones h := h.2.ones
  bad h := rdAll_bad ks h
  le h := rdAll_le ks h
@[reducible] def Th.pair (A B : Th) : Th where
  X := A.X × B.X
  sz := A.sz + B.sz
  mx := A.mx + B.mx
  zs := A.zs ++ B.zs
  fl x := A.fl x.1 ++ B.fl x.2
  rd b i e := (((A.rd b i e).1, (B.rd b (A.rd b i e).2.1 (A.rd b i e).2.2).1), (B.rd b (A.rd b i e).2.1 (A.rd b i e).2.2).2)
  M w ok x vs := A.M w ok x.1 (vs.take A.sz) ∧ B.M w ok x.2 (vs.drop A.sz) ∧ A.sz ≤ vs.length
  z := (A.z, B.z)
  zM w ok := ⟨by rw [← A.zlen, List.take_left]; exact A.zM w ok, by rw [← A.zlen, List.drop_left]; exact B.zM w ok, by rw [List.length_append, A.zlen]; omega⟩
  zlen := by rw [List.length_append, A.zlen, B.zlen]
  zone := by rw [List.all_append, A.zone, B.zone]; rfl
  len h := by
    have h2 := B.len h.2.1
    have h3 := h.2.2
    rw [List.length_drop] at h2
    omega
  mono h hs := ⟨A.mono h.1 hs, B.mono h.2.1 hs, h.2.2⟩
  to h H hs := ⟨A.to h.1 H hs, B.to h.2.1 H hs, h.2.2⟩
  good h f hf := by
    rcases List.mem_append.1 hf with hf | hf
    · exact A.good h.1 f hf
    · exact B.good h.2.1 f hf
  ones {w ok x vs} h := by
    have h1 := A.ones h.1
    have h2 := B.ones h.2.1
    rw [← List.take_append_drop A.sz vs, List.all_append, h1, h2]; rfl
  bad {b i e} h := by
    have h1 := A.bad (b := b) (i := i) h
    show (B.rd _ _ _).2 = _
    rw [h1]; exact B.bad h
  le h := B.le (A.le h)
/-- So many things, one behind the other. -/
def rdN (A : Th) (b : List UInt8) : Nat → Nat → Nat → List A.X × Nat × Nat
  | 0, i, e => ([], i, e)
  | n + 1, i, e => if e = 0 then ((A.rd b i e).1 :: (rdN A b n (A.rd b i e).2.1 (A.rd b i e).2.2).1, (rdN A b n (A.rd b i e).2.1 (A.rd b i e).2.2).2) else ([], i, e)
theorem rdN_bad (A : Th) (b : List UInt8) (n : Nat) {i e : Nat} (h : e ≠ 0) : rdN A b n i e = ([], i, e) := by
  cases n with
  | zero => rfl
  | succ n => exact if_neg h
theorem rdN_le (A : Th) (b : List UInt8) : ∀ (n : Nat) {i e : Nat}, i ≤ b.length → (rdN A b n i e).2.1 ≤ b.length
  | 0, _, _, h => h
  | n + 1, i, e, h => by
    unfold rdN
    split
    · exact rdN_le A b n (A.le h)
    · exact h
/-- The block is no text's. -/
def Thawed (w : World) (a : Addr) : Prop := Tw w a.block
theorem Thawed.to {w w' : World} {S : List Nat} {es : List Ent} {a : Addr} (h : Thawed w a) (H : Hp w w' S es) (ha : a.block ∉ S) : Thawed w' a := by
  obtain ⟨arr, U, h⟩ := h
  exact ⟨arr, U, H.keep h ha⟩
theorem Thawed.add {w : World} {a : Addr} (h : Thawed w a) (k : Nat) : Thawed w (a.add k) := by unfold Thawed; rw [add_block]; exact h
@[reducible] def Th.many (A : Th) (tw : Bool) : Th where
  X := List A.X
  sz := 1
  mx := 65545 + 65536 + A.mx
  zs := [.slice none 0 0]
  fl xs := .count xs.length :: xs.flatMap A.fl
  rd b i e := rdN A b (countStep b 1024 i e).1 (countStep b 1024 i e).2.1 (countStep b 1024 i e).2.2
  M w ok xs vs := ∃ (B : Option Addr) (c : Nat) (cells : List Value), vs = [.slice B xs.length c] ∧ (xs.length ≤ 140737488351232 ∧ (0 < xs.length → 0 < A.sz)) ∧ Rd w B xs.length A.sz cells ∧ (0 < xs.length → ∀ p, B = some p → ok p.block) ∧ (0 < xs.length → tw = true → ∀ p, B = some p → Thawed w p) ∧ ∀ i (h : i < xs.length), A.M w ok xs[i] ((cells.drop (i * A.sz)).take A.sz)
  z := []
  zM w ok := ⟨none, 0, [], rfl, ⟨Nat.zero_le _, fun h => absurd h (by simp)⟩, Rd.none_ _ _ , fun h => absurd h (by simp), fun h => absurd h (by simp), fun i hi => by cases hi⟩
  zlen := rfl
  zone := rfl
  len h := by obtain ⟨B, c, cells, rfl, _⟩ := h; rfl
  mono h hs := by
    obtain ⟨B, c, cells, h1, hz, h2, h3, ht, h4⟩ := h
    exact ⟨B, c, cells, h1, hz, h2, fun h0 p hp => hs _ (h3 h0 p hp), ht, fun i hi => A.mono (h4 i hi) hs⟩
  to {w w' ok xs vs S es} h H hs := by
    obtain ⟨B, c, cells, h1, hz, h2, h3, ht, h4⟩ := h
    by_cases h0 : 0 < xs.length
    · refine ⟨B, c, cells, h1, hz, h2.to H fun p hp => hs _ (h3 h0 p hp), fun _ p hp => ⟨h3 h0 p hp, h2.apt (Nat.mul_pos h0 (hz.2 h0)) (fun p hp => hs _ (h3 h0 p hp)) H p hp⟩, fun _ h p hp => (ht h0 h p hp).to H (hs _ (h3 h0 p hp)), fun i hi => A.to (h4 i hi) H hs⟩
    · have hx : xs = [] := List.eq_nil_of_length_eq_zero (by omega)
      subst hx
      have hc : cells = [] := List.eq_nil_of_length_eq_zero (by have := h2.len; simpa using this)
      subst hc
      exact ⟨B, c, [], h1, hz, ⟨h2.len, fun _ _ _ _ hu => by simp at hu, fun _ => rfl⟩, fun h => absurd h h0, fun h => absurd h h0, fun i hi => by cases hi⟩
  good {w ok xs vs} h f hf := by
    obtain ⟨B, c, cells, h1, hz, h2, h3, ht, h4⟩ := h
    rcases List.mem_cons.1 hf with rfl | hf
    · trivial
    · obtain ⟨x, hx, hf⟩ := List.mem_flatMap.1 hf
      obtain ⟨i, hi, rfl⟩ := List.getElem_of_mem hx
      exact A.good (h4 i hi) f hf
  ones h := by obtain ⟨B, c, cells, rfl, _⟩ := h; rfl
  bad {b i e} h := by
    have h1 : countStep b 1024 i e = (0, i, e) := if_neg h
    show (rdN A _ _ _ _).2 = _
    rw [h1]; rfl
  le h := rdN_le A _ _ (countStep_le h).1
/-! ### What a function does with a thing -/
@[reducible] def PtrV (a : Addr) : Value := .pointer (some a)
@[reducible] def Ptr0 (g : Nat) : Value := .pointer (some ⟨g, 0, none⟩)
@[reducible] def OBJ (go : Nat) (T : TypeId) (cs : List Value) : List Ent := [(some go, T, cs)]
/-- A pen that writes, behind a call. -/
def PwOut (gp : Nat) (st : WS) (w0 : World) (S : List Nat) (w' : World) : Prop := ∃ g cap sp, POk 65536 g cap sp st ∧ Hp w0 w' S (pw gp g cap sp st)
def PenW (P : Program) (f : FuncId) (A : Th) (tw : Bool) : Prop :=
  ∀ (gp : Nat) (g : Option Nat) (cap : Nat) (sp : List Value) (st : WS) (a : Addr) (x : A.X) (vs : List Value) (w0 : World), Hp w0 w0 (bl (pw gp g cap sp st)) (pw gp g cap sp st) → POk 65536 g cap sp st →
    A.M w0 (fun b => b ∉ bl (pw gp g cap sp st)) x vs → Cl w0 (bl (pw gp g cap sp st)) a vs → (tw = true → Thawed w0 a) →
    Does P f #[Ptr0 gp, PtrV a] w0 (fun _ w' => PwOut gp (wAll (A.fl x) st) w0 (bl (pw gp g cap sp st)) w')
/-- A pen's function of some fields of one kind. -/
def PenWs (P : Program) (f : FuncId) (k : Kd) : Prop :=
  ∀ (gp : Nat) (g : Option Nat) (cap : Nat) (sp : List Value) (st : WS) (a : Addr) (o m c : Nat) (x : List Fv) (vs : List Value) (w0 : World) (A : Option Addr), m ≤ 1000000 → Hp w0 w0 (bl (pw gp g cap sp st)) (pw gp g cap sp st) → POk 65536 g cap sp st →
    (Th.flat (List.replicate m k)).M w0 (fun b => b ∉ bl (pw gp g cap sp st)) x vs → Cl w0 (bl (pw gp g cap sp st)) (a.add o) vs → Rd w0 A m 1 (ptrsA a o m) → (∀ p, A = some p → p.block ∉ bl (pw gp g cap sp st)) →
    Does P f #[Ptr0 gp, .slice A m c] w0 (fun _ w' => PwOut gp (wAll x st) w0 (bl (pw gp g cap sp st)) w')
@[reducible] def vwo (gp : Nat) (g : Option Nat) (cap : Nat) (sp : List Value) (st : WS) (go : Nat) (T : TypeId) (cs : List Value) : List Ent := vw gp g cap sp st ++ [(some go, T, cs)]
def VwOut (m : Nat) (gp : Nat) (a : WS) (go : Nat) (T : TypeId) (cs : List Value) (w0 : World) (S : List Nat) (w' : World) : Prop := ∃ st g cap sp, Alike a st ∧ POk m g cap sp st ∧ Hp w0 w' S (vwo gp g cap sp st go T cs)
def WalkW (P : Program) (f : FuncId) (A : Th) : Prop :=
  ∀ (gp go o : Nat) (g : Option Nat) (cap : Nat) (sp : List Value) (st : WS) (T : TypeId) (cs : List Value) (x : A.X) (vs : List Value) (w0 : World) (m : Nat) (a : WS), Hp w0 w0 (bl (vwo gp g cap sp st go T cs)) (vwo gp g cap sp st go T cs) → m + A.mx ≤ 1000000000 → POk m g cap sp st → Alike a st →
    A.M w0 (fun b => b ∉ bl (vwo gp g cap sp st go T cs)) x vs → At cs o vs →
    Does P f #[Ptr0 gp, PtrV ⟨go, o, none⟩] w0 (fun _ w' => VwOut (m + A.mx) gp (wAll (A.fl x) a) go T cs w0 (bl (vwo gp g cap sp st go T cs)) w')
def WalkWs (P : Program) (f : FuncId) (k : Kd) : Prop :=
  ∀ (gp go o n c : Nat) (g : Option Nat) (cap : Nat) (sp : List Value) (st : WS) (T : TypeId) (cs : List Value) (x : List Fv) (vs : List Value) (w0 : World) (m : Nat) (a : WS) (A : Option Addr), n ≤ 1000000 → Hp w0 w0 (bl (vwo gp g cap sp st go T cs)) (vwo gp g cap sp st go T cs) → m + 65545 * n ≤ 1000000000 → POk m g cap sp st → Alike a st →
    (Th.flat (List.replicate n k)).M w0 (fun b => b ∉ bl (vwo gp g cap sp st go T cs)) x vs → At cs o vs → Rd w0 A n 1 (ptrs go o n) → (∀ p, A = some p → p.block ∉ bl (vwo gp g cap sp st go T cs)) →
    Does P f #[Ptr0 gp, .slice A n c] w0 (fun _ w' => VwOut (m + 65545 * n) gp (wAll x a) go T cs w0 (bl (vwo gp g cap sp st go T cs)) w')
/-! Reading: rows R of the reader that stand at a place with a fault. -/
abbrev RRows := Nat → Nat → List Ent
def RdOut (R : RRows) (A : Th) (go o : Nat) (T : TypeId) (cs : List Value) (b : List UInt8) (i e : Nat) (n : Nat) (w0 : World) (S : List Nat) (w' : World) : Prop :=
  ∃ us, us.length = A.sz ∧ us.all (·.oneCell') = true ∧ Hp w0 w' S (R (A.rd b i e).2.1 (A.rd b i e).2.2 ++ [(some go, T, putAt cs o us)]) ∧
    ((A.rd b i e).2.2 = 0 → A.M w' (Fr w' n (R (A.rd b i e).2.1 (A.rd b i e).2.2 ++ [(some go, T, putAt cs o us)])) (A.rd b i e).1 us)
def ReadsTh (P : Program) (f : FuncId) (R : RRows) (gp : Nat) (b : List UInt8) (A : Th) : Prop :=
  ∀ (go o i e : Nat) (T : TypeId) (cs : List Value) (w0 : World), Hp w0 w0 (bl (R i e ++ [(some go, T, cs)])) (R i e ++ [(some go, T, cs)]) → i ≤ b.length → At cs o A.zs → o + A.sz ≤ cs.length →
    Does P f #[Ptr0 gp, PtrV ⟨go, o, none⟩] w0 (fun _ w' => RdOut R A go o T cs b i e w0.heap.size w0 (bl (R i e ++ [(some go, T, cs)])) w')
def ReadsThs (P : Program) (f : FuncId) (R : RRows) (gp : Nat) (b : List UInt8) (k : Kd) : Prop :=
  ∀ (go o n c i e : Nat) (T : TypeId) (cs : List Value) (w0 : World) (A : Option Addr), n ≤ 1000000 → Hp w0 w0 (bl (R i e ++ [(some go, T, cs)])) (R i e ++ [(some go, T, cs)]) → i ≤ b.length → At cs o (zCs (List.replicate n k)) → o + n ≤ cs.length → Rd w0 A n 1 (ptrs go o n) → (∀ p, A = some p → p.block ∉ bl (R i e ++ [(some go, T, cs)])) →
    Does P f #[Ptr0 gp, .slice A n c] w0 (fun _ w' => RdOut R (Th.flat (List.replicate n k)) go o T cs b i e w0.heap.size w0 (bl (R i e ++ [(some go, T, cs)])) w')
theorem rdOut_of {R : RRows} {ks : List Kd} {go o : Nat} {T : TypeId} {cs : List Value} {b : List UInt8} {i e n : Nat} {w0 w' : World} {S : List Nat}
    (h : ∃ fd i1 e1 us, rdAll ks b i e = (fd, i1, e1) ∧ i1 ≤ b.length ∧ NFs w' n (R i1 e1 ++ [(some go, T, putAt cs o us)]) fd us ∧ Hp w0 w' S (R i1 e1 ++ [(some go, T, putAt cs o us)])) : RdOut R (Th.flat ks) go o T cs b i e n w0 S w' := by
  obtain ⟨fd, i1, e1, us, hr, hi, hF, H⟩ := h
  have hr' : (Th.flat ks).rd b i e = (fd, i1, e1) := hr
  have hk := rdAll_kd ks b i e
  rw [hr] at hk
  unfold RdOut
  rw [hr']
  exact ⟨us, by rw [hF.len]; show fd.length = ks.length; rw [← hk]; simp, hF.ones, H, fun _ => ⟨hk, hF⟩⟩
theorem fresh_row {w w' : World} {gr : Nat} {e0 : TypeId × List Value} {es : List Ent} (H : Hp w w' [gr] ((some gr, e0) :: es)) {i : Nat} {g : Option Nat} {T : TypeId} {cs : List Value} (he : es[i]? = some (g, T, cs)) : ∀ p, hd g = some p → w.heap.size ≤ p.block := by
  refine fresh_at H (i + 1) he ?_
  intro p hp hb
  cases g with
  | none => cases hp
  | some x =>
    cases hp
    simp only [List.mem_singleton] at hb
    subst hb
    have := H.apart 0 (i + 1) _ _ x rfl he rfl rfl
    omega
theorem FP.zero {w w' : World} {ok ok' : Nat → Prop} {v : Value} (h : FP w ok (.bytes []) v) : FP w' ok' (.bytes []) v := by
  obtain ⟨B, c, h1, h2, _⟩ := h
  exact ⟨B, c, h1, ⟨rfl, fun _ _ _ _ hu => by simp [u8s] at hu, fun _ => rfl⟩, fun h => absurd h (by simp)⟩
theorem Fr.to {A : Th} {w w' : World} {n : Nat} {es es' : List Ent} {x : A.X} {vs : List Value} (h : A.M w (Fr w n es) x vs) (H : Hp w w' (bl es) es') : A.M w' (Fr w' n es') x vs :=
  A.mono (A.to h H fun _ h => h.2.1) fun _ h => ⟨h.1.1, h.2, h.1.2.2.to H h.1.2.1⟩
theorem Hp.tw {w0 w : World} {S : List Nat} {es : List Ent} {i : Nat} {g : Option Nat} {T : TypeId} {cs : List Value} (H : Hp w0 w S es) (he : es[i]? = some (g, T, cs)) : ∀ p, hd g = some p → Tw w p.block := by
  intro p hp
  cases g with
  | none => cases hp
  | some x => cases hp; exact ⟨_, _, H.at he⟩
theorem zCs_rep {n q : Nat} {k : Kd} (h : q < n) : (zCs (List.replicate n k))[q]? = some (zC k) := by simp [zCs, h]
def PenR (P : Program) (f : FuncId) (A : Th) : Prop := ∀ gp gr gb cb sb b, b.length ≤ cb → b.length ≤ 65536 → ReadsTh P f (pr gp gr gb cb sb b) gp b A
def PenRs (P : Program) (f : FuncId) (k : Kd) : Prop := ∀ gp gr gb cb sb b, b.length ≤ cb → b.length ≤ 65536 → ReadsThs P f (pr gp gr gb cb sb b) gp b k
def WalkR (P : Program) (f : FuncId) (A : Th) : Prop := ∀ gp gr gb cb sb b, b.length ≤ cb → b.length ≤ 65536 → ReadsTh P f (vr gp gr gb cb sb b) gp b A
def WalkRs (P : Program) (f : FuncId) (k : Kd) : Prop := ∀ gp gr gb cb sb b, b.length ≤ cb → b.length ≤ 65536 → ReadsThs P f (vr gp gr gb cb sb b) gp b k
end Go.Proofs.YtoeobicpdeklaaaGreat
