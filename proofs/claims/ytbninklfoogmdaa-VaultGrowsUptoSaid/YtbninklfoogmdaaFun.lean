/-
  Operations that make or write memory; how a function begins and ends.
-/
import Derived.Test.YtbninklfoogmdaaOps
namespace Go.Proofs.Ytbninklfoogmdaa
open Go Go.RowKit

def putAt (cs : List Value) (o : Nat) (vs : List Value) : List Value := cs.take o ++ vs ++ cs.drop (o + vs.length)
theorem putAt_one {cs : List Value} {o : Nat} {v : Value} (h : o < cs.length) : putAt cs o [v] = cs.set o v := by
  rw [putAt, List.set_eq_take_append_cons_drop, if_pos h]
  simp
theorem fold_set (off : Nat) : ∀ (vs : List Value) (k : Nat) (cs : List Value), off + k + vs.length ≤ cs.length →
    (vs.zipIdx k).foldl (fun (cs : Array Value) (x : Value × Nat) => cs.setIfInBounds (off + x.2) x.1) cs.toArray = (putAt cs (off + k) vs).toArray
  | [], k, cs, _ => by simp [putAt]
  | v :: vs, k, cs, h => by
    simp only [List.length_cons] at h
    simp only [List.zipIdx_cons, List.foldl_cons, List.setIfInBounds_toArray]
    rw [fold_set off vs (k + 1) (cs.set (off + k) v) (by simp; omega)]
    congr 1
    unfold putAt
    rw [List.set_eq_take_append_cons_drop, if_pos (by omega)]
    have e1 : (List.take (off + k) cs ++ v :: List.drop (off + k + 1) cs).take (off + (k + 1)) = cs.take (off + k) ++ [v] := by
      rw [List.take_append, List.length_take, Nat.min_eq_left (by omega), List.take_of_length_le (by simp; omega), show off + (k + 1) - (off + k) = 1 by omega]
      simp
    have e2 : (List.take (off + k) cs ++ v :: List.drop (off + k + 1) cs).drop (off + (k + 1) + vs.length) = cs.drop (off + k + (vs.length + 1)) := by
      rw [List.drop_append, List.length_take, Nat.min_eq_left (by omega), List.drop_of_length_le (by simp; omega), show off + (k + 1) + vs.length - (off + k) = vs.length + 1 by omega]
      simp only [List.drop_succ_cons, List.nil_append, List.drop_drop]
      congr 1
      omega
    rw [e1, e2]
    simp [Nat.add_assoc]
/-- 'fill' over lists. -/
def fillL (place : Nat → Option (Nat × Nat)) : List Value → List (Nat × Value) → Option (List Value)
  | cells, [] => some cells
  | cells, (i, v) :: rest => match place i with
    | none => none
    | some (off, size) => match decide (v.cells.toList.length = size), decide (off + v.cells.toList.length ≤ cells.length) with
      | true, true => fillL place (putAt cells off v.cells.toList) rest
      | _, _ => none
theorem fill_of (place : Nat → Option (Nat × Nat)) : ∀ (vs : List (Nat × Value)) (cells cs : List Value), fillL place cells vs = some cs → Instr.fill place cells.toArray vs = some cs.toArray
  | [], cells, cs, h => by simp [fillL] at h; simp [Instr.fill, h]
  | (i, v) :: rest, cells, cs, h => by
    unfold fillL at h
    unfold Instr.fill
    cases hp : place i with
    | none => rw [hp] at h; simp at h
    | some x =>
      obtain ⟨off, size⟩ := x
      rw [hp] at h
      simp only at h ⊢
      split at h
      · rename_i h1 h2
        simp only [decide_eq_true_eq, Array.length_toList] at h1 h2
        rw [if_neg (by simp; omega)]
        have hz : v.cells.zipIdx.foldl (fun (cs : Array Value) (x : Value × Nat) => cs.setIfInBounds (off + x.2) x.1) cells.toArray = (putAt cells off v.cells.toList).toArray := by
          have := fold_set off v.cells.toList 0 cells (by simpa using h2)
          rw [Nat.add_zero] at this
          rw [← this, ← Array.foldl_toList]
          congr 1
          simp
        have ih := fill_of place rest _ _ h
        rw [← hz] at ih
        exact ih
      · cases h
def initL (zs : List Value) (n : Nat) : List Value := (List.replicate n zs).flatten
theorem initL_length (zs : List Value) (n : Nat) : (initL zs n).length = n * zs.length := by simp [initL]
theorem initL_get (zs : List Value) : ∀ (n i : Nat), i < n * zs.length → (initL zs n)[i]? = zs[i % zs.length]?
  | 0, i, h => by simp at h
  | n + 1, i, h => by
    have e : initL zs (n + 1) = zs ++ initL zs n := by simp [initL, List.replicate_succ]
    rw [e]
    by_cases hi : i < zs.length
    · rw [List.getElem?_append_left hi, Nat.mod_eq_of_lt hi]
    · have h2 : i - zs.length < n * zs.length := by rw [Nat.succ_mul] at h; omega
      rw [List.getElem?_append_right (by omega), initL_get zs n _ h2]
      congr 1
      rw [Nat.mod_eq_sub_mod (a := i) (by omega)]
theorem init_eq (zs : List Value) (n : Nat) : (Array.range (n * zs.length)).map (zs.toArray[· % zs.toArray.size]!) = (initL zs n).toArray := by
  apply Array.ext
  · simp [initL_length]
  · intro i h1 h2
    simp only [Array.size_map, Array.size_range] at h1
    have hg := initL_get zs n i h1
    have hpos : 0 < zs.length := by
      rcases Nat.eq_zero_or_pos zs.length with h0 | h0
      · rw [h0] at h1; omega
      · exact h0
    have hlt := Nat.mod_lt i hpos
    have h3 : i < (initL zs n).length := by simpa using h2
    rw [List.getElem?_eq_getElem h3, List.getElem?_eq_getElem hlt] at hg
    simp only [Option.some.injEq] at hg
    simp only [Array.getElem_map, Array.getElem_range, List.getElem_toArray, hg, List.size_toArray]
    rw [getElem!_pos zs.toArray _ (by simpa using hlt)]
    simp

section mk
variable {P : Program} {ds : List Deferred} {Q : Post} {K : List Value → World → Prop} {all os : List Oper} {l : List Value} {w0 w : World} {S : List Nat} {es : List Ent} {ty t : TypeId} {pos : String} {af : Array Edge} {d : Tmp} {v : Value}
  {x y z : Operand} {zs : List Value} {sz bytes : Nat} {agg : Bool}
theorem run_zeroValue (h : TyOk P t zs sz bytes agg) : ∃ z, z.cells.toList = zs ∧ ∀ w, (zeroValue t).run P w = .ok z w := by
  obtain ⟨i, z, d, hi, hz, hzs, _, _, hd, _⟩ := h.ex
  exact ⟨z, hzs, fun w => by simp [zeroValue, typeInfo, hi, hz]⟩
/-- A new variable: zero. -/
theorem ops_alloc (h : TyOk P t zs sz bytes agg) (H : Hp w0 w S es)
    (k : ∀ w' g, Hp w0 w' S (es ++ [(some g, t, zs)]) → g = w.heap.size → Ops P ds all K Q os (l.set d (.pointer (some ⟨g, 0, none⟩))) w') : Ops P ds all K Q (⟨some d, .alloc t, ty, pos, af, none⟩ :: os) l w := by
  obtain ⟨z, hz, hr⟩ := run_zeroValue h
  have H' := H.alloc t zs
  refine ops_val (w' := w.alloc (.cells zs.toArray t)) ?_ (k _ _ H' rfl)
  intro _ _ _ _
  simp [execOp, Instr.alloc, hr, newVar, newRow, newObj, Sem.run]
  rw [← hz]
/-- A new variable that holds a value. -/
theorem ops_box (hx : ev l x = some v) {vs : List Value} (hv : v.cells = vs.toArray) (H : Hp w0 w S es)
    (k : ∀ w' g, Hp w0 w' S (es ++ [(some g, t, vs)]) → g = w.heap.size → Ops P ds all K Q os (l.set d (.pointer (some ⟨g, 0, none⟩))) w') : Ops P ds all K Q (⟨some d, .box t x, ty, pos, af, none⟩ :: os) l w := by
  have H' := H.alloc t vs
  refine ops_val (w' := w.alloc (.cells vs.toArray t)) ?_ (k _ _ H' rfl)
  intro _ _ _ _
  simp [execOp, Instr.box, rho_of hx, newVar, newRow, newObj, Sem.run, hv]
theorem run_storeAt (ht : TyOk P t zs sz bytes agg) (H : Hp w0 w S es) {i g o : Nat} {T : TypeId} {cs vs : List Value} (hi : es[i]? = some (some g, T, cs)) (hv : v.cells = vs.toArray) (hl : vs.length = sz) (hfit : o + vs.length ≤ cs.length) (h1 : vs.all (·.oneCell') = true) :
    (Instr.storeAt t (.pointer (some ⟨g, o, none⟩)) v).run P w = .ok () (w.setRow g (putAt cs o vs).toArray) := by
  have hs := run_storeCells_at (P := P) g o T vs 0 cs.toArray w (H.at hi) (by simpa using hfit) (by simpa using h1)
  simp only [Nat.add_zero] at hs
  simp [Instr.storeAt, Instr.sureAddr, storeVar, run_sizeOf ht, hv, hl, hs, putAt]
theorem ops_store (ht : TyOk P t zs sz bytes agg) (H : Hp w0 w S es) (i : Nat) {g o : Nat} {T : TypeId} {cs vs : List Value} (hx : ev l x = some (.pointer (some ⟨g, o, none⟩))) (hy : ev l y = some v) (hi : es[i]? = some (some g, T, cs))
    (hv : v.cells = vs.toArray) (hl : vs.length = sz) (hfit : o + vs.length ≤ cs.length) (h1 : vs.all (·.oneCell') = true)
    (k : ∀ w', Hp w0 w' S (es.set i (some g, T, putAt cs o vs)) → Ops P ds all K Q os l w') : Ops P ds all K Q (⟨none, .store t x y, ty, pos, af, none⟩ :: os) l w := by
  refine ops_skip (w' := w.setRow g (putAt cs o vs).toArray) ?_ (k _ (H.setRow hi _))
  intro _ _ _ _
  simp [execOp, rho_of hx, rho_of hy, run_storeAt ht H hi hv hl hfit h1]
/-- One cell. -/
theorem ops_store1 (ht : TyOk P t zs 1 bytes agg) (H : Hp w0 w S es) (i : Nat) {g o : Nat} {T : TypeId} {cs : List Value} (hx : ev l x = some (.pointer (some ⟨g, o, none⟩))) (hy : ev l y = some v) (hi : es[i]? = some (some g, T, cs))
    (hv : v.cells = [v].toArray) (hfit : o < cs.length) (h1 : v.oneCell' = true)
    (k : ∀ w', Hp w0 w' S (es.set i (some g, T, cs.set o v)) → Ops P ds all K Q os l w') : Ops P ds all K Q (⟨none, .store t x y, ty, pos, af, none⟩ :: os) l w := by
  refine ops_store ht H i hx hy hi hv rfl (by simpa using Nat.succ_le_of_lt hfit) (by simp [h1]) ?_
  rw [putAt_one hfit]
  exact k
/-- A slice written out. -/
def partVals (l : List Value) : List (Nat × Operand) → Option (List (Nat × Value))
  | [] => some []
  | (i, x) :: r => match ev l x, partVals l r with
    | some v, some vs => some ((i, v) :: vs)
    | _, _ => none
theorem partVals_eq : ∀ {ps : List (Nat × Operand)} {vs : List (Nat × Value)}, partVals l ps = some vs → ps.map (fun (i, x) => (i, rho l x)) = vs
  | [], vs, h => by simp [partVals] at h; simp [h]
  | (i, x) :: r, vs, h => by
    simp only [partVals] at h
    split at h
    · rename_i v us hv hus
      simp only [Option.some.injEq] at h
      subst h
      simp [rho_of hv, partVals_eq hus]
    · cases h
theorem ops_buildSlice {e : TypeId} (ht : P.underlying t = some (.slice e)) (he : TyOk P e zs sz bytes agg) (H : Hp w0 w S es) {n : Nat} {ps : List (Nat × Operand)} {vs : List (Nat × Value)} {cs : List Value} (hp : partVals l ps = some vs)
    (hn : n * sz ≤ 16777216) (hf' : fillL (fun i => some (i * sz, sz)) (initL zs n) vs = some cs)
    (k : ∀ w' g, Hp w0 w' S (es ++ [(some g, e, cs)]) → g = w.heap.size → Ops P ds all K Q os (l.set d (.slice (hd (some g)) n n)) w') : Ops P ds all K Q (⟨some d, .buildSlice t n ps.toArray, ty, pos, af, none⟩ :: os) l w := by
  obtain ⟨z, hz, hr⟩ := run_zeroValue he
  have H' := H.alloc e cs
  refine ops_val (w' := w.alloc (.cells cs.toArray e)) ?_ (k _ _ H' rfl)
  intro _ _ _ _
  have hps := partVals_eq hp
  have hnn : ¬ (n * sz > 2 ^ 24) := by omega
  have hzz : z.cells = zs.toArray := by rw [← hz]
  have hf := fill_of _ _ _ _ hf'
  rw [← init_eq, he.len] at hf
  have h00 : ∀ f : Nat → Value, (Array.range 0).map f = #[] := fun f => by rw [Array.range_zero']; simp
  by_cases h0 : n * sz = 0
  · rw [h0, h00] at hf
    simp only [execOp, Instr.buildSlice, Sem.run_bind, run_underlying ht, run_sizeOf he, Result.andThen_ok, List.map_toArray, hps, h0, if_true]
    simp [hf, h00, newRow, newObj, Sem.run]
  · have hcell : z.cells.size = zs.length := by rw [hzz]; simp
    simp only [List.size_toArray] at hf
    simp only [execOp, Instr.buildSlice, Sem.run_bind, run_underlying ht, run_sizeOf he, Result.andThen_ok, List.map_toArray, hps, hnn, h0, if_false, hr, hzz, List.size_toArray, Sem.run_pure, hf]
    simp [newRow, newObj, Sem.run]
/-- make([]T, n, c). -/
theorem ops_make {e : TypeId} {z : Value} (ht : P.underlying t = some (.slice e)) (he : TyOk P e [z] 1 bytes agg) (H : Hp w0 w S es) {k1 k2 : IntKind} {n c : Nat} (hx : ev l x = some (.int k1 n)) (hy : ev l y = some (.int k2 c))
    (hnc : n ≤ c) (hb : bytes * c ≤ 281474976710656) (h63 : c ≤ 9223372036854775807)
    (k : ∀ w' g, Hp w0 w' S (es ++ [(some g, e, List.replicate c z)]) → g = w.heap.size → Ops P ds all K Q os (l.set d (.slice (hd (some g)) n c)) w') : Ops P ds all K Q (⟨some d, .makeSlice t x y, ty, pos, af, none⟩ :: os) l w := by
  obtain ⟨i, z', d', hi, hz, hzs, hsz, hby, hd', _⟩ := he.ex
  have H' := H.alloc e (List.replicate c z)
  refine ops_val (w' := w.alloc (.cells (List.replicate c z).toArray e)) ?_ (k _ _ H' rfl)
  intro _ _ _ _
  have hr := run_make (P := P) w t e i z' ht hi hz k1 k2 n c (by omega) (by omega) (by rw [hby]; omega) (by omega)
  have hc : madeCells z'.cells (c * i.size) = (List.replicate c z).toArray := by
    have hcl : z'.cells = #[z] := by
      apply Array.ext'
      simpa using hzs
    rw [hsz, hcl, Nat.mul_one]
    apply Array.ext
    · simp [madeCells]
    · intro j h1 h2
      simp [madeCells, Nat.mod_one]
  simp only [Int.toNat_natCast] at hr
  simp [execOp, rho_of hx, rho_of hy, hr, hc]
/-! append -/
theorem fits {need old bytes : Nat} (h : old < need) (hb : need * bytes ≤ 211106232532992) (h2 : bytes ≤ 1048576) : Builtin.nextslicecap need old * bytes ≤ 281474976710656 := by
  have key : Builtin.nextslicecap need old ≤ need + (need + 768) / 4 + 512 := by
    unfold Builtin.nextslicecap
    split
    · omega
    · split
      · omega
      · rw [growBy_four]
        repeat' split
        all_goals omega
  have h3 : Builtin.nextslicecap need old * bytes ≤ (need + (need + 768) / 4 + 512) * bytes := Nat.mul_le_mul_right _ key
  have h4 : (4 * (need + (need + 768) / 4 + 512)) * bytes ≤ (5 * need + 2816) * bytes := Nat.mul_le_mul_right _ (by omega)
  rw [Nat.mul_assoc, Nat.add_mul (5 * need), Nat.mul_assoc 5] at h4
  omega
theorem run_append (H : Hp w0 w S es) {e : TypeId} (ht : P.underlying t = some (.slice e)) (he : TyOk P e zs sz bytes agg) (hsz : 0 < sz)
    {g : Option Nat} {n cap i : Nat} {xs sp : List Value} (hi : es[i]? = some (g, e, xs ++ sp)) (hn : xs.length = n * sz) (hc : cap * sz ≤ (xs ++ sp).length) (hnc : n ≤ cap) (hcap : g = none → cap = 0)
    {A : Option Addr} {m c : Nat} {ys : List Value} (hr : Rd w A m sz ys) (h1 : ys.all (·.oneCell') = true) (h63 : n + m ≤ 9223372036854775807) (hb : (n + m) * bytes ≤ 211106232532992) (hb2 : bytes ≤ 1048576) :
    ∃ w' g' cap' sp', (Builtin.append_ #[t, t] ty #[.slice (hd g) n cap, .slice A m c]).run P w = .ok (.slice (hd g') (n + m) cap') w' ∧
      Hp w0 w' S (es.set i (g', e, (xs ++ ys) ++ sp')) ∧ cap' * sz ≤ ((xs ++ ys) ++ sp').length ∧ n + m ≤ cap' ∧ (g' = none → cap' = 0) := by
  obtain ⟨inf, z, dd, hinf, hz, hzs, rfl, rfl, _, _⟩ := he.ex
  have hzsz : z.cells.size = zs.length := by rw [← hzs]; simp
  by_cases hroom : n + m ≤ cap
  · -- there is room
    cases g with
    | none =>
      have h0 := hcap rfl
      obtain ⟨rfl, rfl⟩ : n = 0 ∧ m = 0 := by omega
      subst h0
      have hys : ys = [] := List.eq_nil_of_length_eq_zero (by simpa using hr.len)
      have hxs := H.none_ hi
      subst hys
      refine ⟨w, none, 0, sp, ?_, ?_, by simp, by omega, fun _ => rfl⟩
      · cases A with
        | none => simp [hd, Builtin.append_, run_underlying ht, sizeOf, typeInfo, hinf, Builtin.lenOf, Builtin.firstCells]
        | some a =>
          simp [hd, Builtin.append_, run_underlying ht, sizeOf, typeInfo, hinf, Builtin.lenOf, Builtin.firstCells, loadCells, loadCellsFrom]
      · rw [List.append_nil]
        have : es.set i (none, e, xs ++ sp) = es := by
          apply List.ext_getElem?
          intro j
          rw [List.getElem?_set]
          split
          · rename_i hij; subst hij; rw [if_pos (lt_of_get hi)]; exact hi.symm
          · rfl
        rw [this]
        exact H
    | some g =>
      have hrun : (Builtin.append_ #[t, t] ty #[.slice (hd (some g)) n cap, .slice A m c]).run P w =
          .ok (.slice (hd (some g)) (n + m) cap) (w.setRow g (putAt (xs ++ sp) (n * inf.size) ys).toArray) := by
        have hst := run_storeCells_at (P := P) g (n * inf.size) e ys 0 (xs ++ sp).toArray w (H.at hi) (by
          simp only [Nat.add_zero, List.size_toArray]
          rw [hr.len, ← Nat.add_mul]
          exact Nat.le_trans (Nat.mul_le_mul_right _ hroom) hc) (by simpa using h1)
        simp only [Nat.add_zero] at hst
        have hfc : (Builtin.firstCells inf.size m (.slice A m c)).run P w = .ok ys.toArray w := by
          cases A with
          | none =>
            have := hr.nil rfl
            subst this
            have hys : ys = [] := List.eq_nil_of_length_eq_zero (by simpa using hr.len)
            subst hys
            exact run_firstCells_none w _ _ _ _
          | some a => exact run_firstCells_some w inf.size m a m c ys hr.len (hr.cells a rfl)
        simp [hd, Builtin.append_, run_underlying ht, sizeOf, typeInfo, hinf, Builtin.lenOf, hroom, hfc, Addr.add_lit, hst, putAt]
      have hp : putAt (xs ++ sp) (n * inf.size) ys = (xs ++ ys) ++ sp.drop ys.length := by
        rw [putAt, ← hn]
        have e1 : (xs ++ sp).take xs.length = xs := List.take_left
        have e2 : (xs ++ sp).drop (xs.length + ys.length) = sp.drop ys.length := by
          rw [List.drop_append]
          simp
        rw [e1, e2]
      refine ⟨_, some g, cap, sp.drop ys.length, hrun, ?_, ?_, hroom, by simp⟩
      · rw [← hp]; exact H.setRow hi _
      · rw [← hp, putAt]
        have hle : n * inf.size + ys.length ≤ (xs ++ sp).length := by
          rw [hr.len, ← Nat.add_mul]; exact Nat.le_trans (Nat.mul_le_mul_right _ hroom) hc
        simp only [List.length_append, List.length_take, List.length_drop] at hc hle ⊢
        omega
  · -- a new row
    have hold : cap < n + m := by omega
    have hfit := fits hold hb hb2
    have hfo : (Builtin.firstCells inf.size n (.slice (hd g) n cap)).run P w.drew = .ok xs.toArray w.drew := by
      cases g with
      | none =>
        have h0 := hcap rfl
        have hn0 : n = 0 := by omega
        subst hn0
        have hxs : xs = [] := List.eq_nil_of_length_eq_zero (by simpa using hn)
        subst hxs
        exact run_firstCells_none _ _ _ _ _
      | some g =>
        refine run_firstCells_some _ inf.size n ⟨g, 0, none⟩ n cap xs hn ?_
        intro j u hu
        rw [Addr.add_lit, Nat.zero_add]
        exact H.cell hi (by rw [List.getElem?_append_left (lt_of_get hu)]; exact hu)
    have hfc : (Builtin.firstCells inf.size m (.slice A m c)).run P w.drew = .ok ys.toArray w.drew := by
      cases A with
      | none =>
        have := hr.nil rfl
        subst this
        have hys : ys = [] := List.eq_nil_of_length_eq_zero (by simpa using hr.len)
        subst hys
        exact run_firstCells_none _ _ _ _ _
      | some a => exact run_firstCells_some _ inf.size m a m c ys hr.len (fun j u hu => hr.cells a rfl j u hu)
    have hn' : ¬ (n + m ≤ cap) := hroom
    have h63' : ¬ (9223372036854775807 < ((n : Int) + (m : Int))) := by omega
    have h48' : ¬ (281474976710656 < Builtin.nextslicecap (n + m) cap * inf.bytes) := by omega
    have hge := grownCap_ge w (n + m) cap e
    have hrun : (Builtin.append_ #[t, t] ty #[.slice (hd g) n cap, .slice A m c]).run P w =
        .ok (.slice (some ⟨w.heap.size, 0, none⟩) (n + m) (grownCap w (n + m) cap e))
          (w.drew.alloc (.cells ((xs ++ ys) ++ (Builtin.zeroCells z.cells (grownCap w (n + m) cap e - (n + m))).toList).toArray e)) := by
      simp [Builtin.append_, run_underlying ht, sizeOf, typeInfo, zeroValue, hinf, hz, Builtin.lenOf, hn', h63', h48', Question.forced, hfc, hfo, newRow, grownCap]
      congr 2
      apply Array.ext'
      simp
    have H1 : Hp w0 w.drew S es := H.drew
    have H2 := (H1.alloc e ((xs ++ ys) ++ (Builtin.zeroCells z.cells (grownCap w (n + m) cap e - (n + m))).toList)).pick
      ((List.range es.length).set i es.length) (by
        rw [List.nodup_iff_pairwise_ne, List.pairwise_iff_getElem]
        intro a b ha hb hab
        simp only [List.length_set, List.length_range] at ha hb
        rw [List.getElem_set, List.getElem_set]
        split <;> split <;> simp <;> omega)
    have hpick : (((List.range es.length).set i es.length).map fun j => (es ++ [(some w.drew.heap.size, e, (xs ++ ys) ++ (Builtin.zeroCells z.cells (grownCap w (n + m) cap e - (n + m))).toList)]).getD j (none, 0, [])) =
        es.set i (some w.heap.size, e, (xs ++ ys) ++ (Builtin.zeroCells z.cells (grownCap w (n + m) cap e - (n + m))).toList) := by
      apply List.ext_getElem?
      intro j
      rw [List.getElem?_map, List.getElem?_set, List.getElem?_set]
      by_cases hij : i = j
      · subst hij
        have hlt := lt_of_get hi
        simp [hlt]
      · simp only [hij, if_false]
        rcases Nat.lt_or_ge j es.length with hj | hj
        · rw [List.getElem?_range hj, Option.map_some, List.getD_eq_getElem?_getD, List.getElem?_append_left hj, List.getElem?_eq_getElem hj]
          rfl
        · rw [List.getElem?_eq_none (by simpa using hj), List.getElem?_eq_none hj]
          rfl
    rw [hpick] at H2
    refine ⟨_, some w.heap.size, _, _, hrun, H2, ?_, hge, by simp⟩
    simp only [List.length_append, hn, hr.len, Array.length_toList, Builtin.zeroCells, Array.size_map, Array.size_range]
    rw [hzsz, he.len, ← Nat.add_mul, ← Nat.add_mul]
    exact Nat.mul_le_mul_right _ (by omega)
theorem ops_append {e : TypeId} (ht : P.underlying t = some (.slice e)) (he : TyOk P e zs sz bytes agg) (hsz : 0 < sz) (H : Hp w0 w S es) (i : Nat)
    {g : Option Nat} {n cap : Nat} {xs sp : List Value} (hx : ev l x = some (.slice (hd g) n cap)) (hi : es[i]? = some (g, e, xs ++ sp)) (hn : xs.length = n * sz) (hc : cap * sz ≤ (xs ++ sp).length) (hnc : n ≤ cap) (hcap : g = none → cap = 0)
    {A : Option Addr} {m c : Nat} {ys : List Value} (hy : ev l y = some (.slice A m c)) (hr : Rd w A m sz ys) (h1 : ys.all (·.oneCell') = true) (h63 : n + m ≤ 9223372036854775807) (hb : (n + m) * bytes ≤ 211106232532992) (hb2 : bytes ≤ 1048576)
    (k : ∀ w' g' cap' sp', Hp w0 w' S (es.set i (g', e, (xs ++ ys) ++ sp')) → cap' * sz ≤ ((xs ++ ys) ++ sp').length → n + m ≤ cap' → (g' = none → cap' = 0) → Ops P ds all K Q os (l.set d (.slice (hd g') (n + m) cap')) w') :
    Ops P ds all K Q (⟨some d, .call { callee := .builtin .append, args := #[x, y], argTypes := #[t, t] }, ty, pos, af, none⟩ :: os) l w := by
  obtain ⟨w', g', cap', sp', hrun, H', h2, h3, h4⟩ := run_append (ty := ty) (c := c) H ht he hsz hi hn hc hnc hcap hr h1 h63 hb hb2
  refine ops_val (w' := w') ?_ (k w' g' cap' sp' H' h2 h3 h4)
  intro _ _ _ _
  simp [execOp, resolve, invoke, builtin, rho_of hx, rho_of hy, hrun]

/-! ### A function's beginning and end -/
/-- What the end of a function's code must show. -/
def fin (P : Program) (fn : Func) (R : Value → World → Prop) : Post
  | .normal, l, w => ∃ v, (results fn l.toArray).run P w = .ok v w ∧ R v w
  | .ret, l, w => ∃ v, (results fn l.toArray).run P w = .ok v w ∧ R v w
  | _, _, _ => False
theorem does_of {f : FuncId} {fn : Func} {c : Code} {args : List Value} {R : Value → World → Prop} {n : Nat} (hf : P.funcs[f]? = some fn) (hn : fn.ntmps = n) (hb : fn.body = some c)
    (h : Run P [] [c] (fin P fn R) (args ++ List.replicate (n - args.length) undef) w) : Does P f args.toArray w R := by
  refine calls_of_wp hf hb ?_
  rw [hn]
  have hl : args.toArray ++ Array.replicate (n - args.toArray.size) undef = (args ++ List.replicate (n - args.length) undef).toArray := by simp
  rw [hl]
  refine Go.wp_mono h ?_
  rintro e ⟨t, d⟩ w' ⟨hd, h2⟩
  cases e with
  | normal => exact (let ⟨v, h3, h4⟩ := h2; ⟨hd, v, h3, v, rfl, h4⟩)
  | ret => exact (let ⟨v, h3, h4⟩ := h2; ⟨hd, v, h3, v, rfl, h4⟩)
  | _ => exact h2.elim
variable {fn : Func} {R : Value → World → Prop} {u v1 v2 v3 : Value} {r1 r2 r3 : Tmp}
theorem fin_ret0 (hr : fn.results = #[]) (h : R (.tuple #[]) w) : fin P fn R .ret l w := ⟨_, results_none hr _ _ _, h⟩
theorem fin_end0 (hr : fn.results = #[]) (h : R (.tuple #[]) w) : fin P fn R .normal l w := ⟨_, results_none hr _ _ _, h⟩
theorem getD_of {l : List Value} {t : Nat} {v : Value} (h : nth l t = some v) : l.toArray.getD t undef = v := by
  rw [nth_eq] at h
  simp [h]
theorem fin_ret1 (hr : fn.results = #[.tmp r1]) (h1 : nth l r1 = some v1) (h : R v1 w) : fin P fn R .ret l w :=
  ⟨_, results_tmp hr _ _ _, by rw [getD_of h1]; exact h⟩
theorem fin_ret2 (hr : fn.results = #[.tmp r1, .tmp r2]) (h1 : nth l r1 = some v1) (h2 : nth l r2 = some v2) (h : R (.tuple #[v1, v2]) w) : fin P fn R .ret l w :=
  ⟨_, results_tmp2 hr _ _ _, by rw [getD_of h1, getD_of h2]; exact h⟩
theorem fin_ret3 (hr : fn.results = #[.tmp r1, .tmp r2, .tmp r3]) (h1 : nth l r1 = some v1) (h2 : nth l r2 = some v2) (h3 : nth l r3 = some v3) (h : R (.tuple #[v1, v2, v3]) w) : fin P fn R .ret l w :=
  ⟨.tuple #[v1, v2, v3], by rw [nth_eq] at h1 h2 h3; simp [results, hr, h1, h2, h3], h⟩
end mk
end Go.Proofs.Ytbninklfoogmdaa
