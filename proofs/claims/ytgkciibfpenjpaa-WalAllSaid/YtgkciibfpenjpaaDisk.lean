/-
  A disk in memory: its row, its blocks' row, its waiting writes' row; laws for blocks.
-/
import Derived.Test.YtgkciibfpenjpaaKit
import Derived.Test.YtgkciibfpenjpaaMid
import Derived.Laws.CopyRow
namespace Go.Proofs.Ytgkciibfpenjpaa
open Go Go.RowKit

section laws
variable {P : Program} {ds : List Deferred} {Q : Post} {K : List Value → World → Prop} {all os : List Oper} {l : List Value} {w0 w w' : World} {S S' : List Nat} {es es' : List Ent} {ty t : TypeId} {pos : String} {af : Array Edge} {d : Tmp} {v : Value} {op : Op}
  {x y : Operand} {zs cs : List Value} {sz bytes : Nat} {agg : Bool}
/-- make([]T, n, c), whatever T. -/
theorem ops_makeN {e : TypeId} (ht : P.underlying t = some (.slice e)) (he : TyOk P e zs sz bytes agg) (H : Hp w0 w S es) {k1 k2 : IntKind} {n c : Nat} (hx : ev l x = some (.int k1 n)) (hy : ev l y = some (.int k2 c))
    (hnc : n ≤ c) (hb : bytes * c ≤ 281474976710656) (h63 : c ≤ 9223372036854775807)
    (k : ∀ w' g, Hp w0 w' S (es ++ [(some g, e, initL zs c)]) → g = w.heap.size → Ops P ds all K Q os (l.set d (.slice (hd (some g)) n c)) w') : Ops P ds all K Q (⟨some d, .makeSlice t x y, ty, pos, af, none⟩ :: os) l w := by
  obtain ⟨i, z', d', hi, hz, hzs, hsz, hby, hd', _⟩ := he.ex
  have H' := H.alloc e (initL zs c)
  refine ops_val (w' := w.alloc (.cells (initL zs c).toArray e)) ?_ (k _ _ H' rfl)
  intro _ _ _ _
  have hr := run_make (P := P) w t e i z' ht hi hz k1 k2 n c (by omega) (by omega) (by rw [hby]; omega) (by omega)
  have hc : madeCells z'.cells (c * i.size) = (initL zs c).toArray := by
    have hcl : z'.cells = zs.toArray := by rw [← hzs]
    rw [hsz, ← he.len, hcl, ← init_eq]
    rfl
  simp only [Int.toNat_natCast] at hr
  simp [execOp, rho_of hx, rho_of hy, hr, hc]
/-- A slice's bytes as an array: the address. -/
theorem ex_slicePtr {n : Nat} {e : TypeId} (ht : P.underlying t = some (.array n e)) {A : Option Addr} {len c : Nat} (hx : ev l x = some (.slice A len c)) (h : n ≤ len) :
    Ex P l (.sliceToArrayPointer t x) ty w (.value (.pointer A)) w := fun _ _ _ _ => by
  have h2 : ¬ len < n := by omega
  simp [execOp, rho_of hx, Instr.arrayAt, run_underlying ht, h2]
/-- A part of an array behind an address. -/
theorem ex_cutArr {n : Nat} {e : TypeId} (ht : P.underlying t = some (.array n e)) (he : TyOk P e zs sz bytes agg) {a : Addr} {hi : Int} {kh : IntKind} {xh : Operand} (hx : ev l x = some (.pointer (some a))) (hh : ev l xh = some (.int kh hi)) (h : 0 ≤ hi ∧ hi ≤ n) (_ : 0 < n) :
    Ex P l (.slice t x none (some xh) none) ty w (.value (.slice (some a) hi.toNat n)) w := fun _ _ _ _ => by
  obtain ⟨b, rfl⟩ := Int.eq_ofNat_of_zero_le (show 0 ≤ hi by omega)
  have h2 : b ≤ n := by omega
  simp [execOp, rho_of hx, rho_of hh, Instr.sliceAt, run_underlying ht, run_sizeOf he, Instr.sliceBounds, Instr.sliceBound, asIntOf, h2, Instr.sureAddr, Addr.add_zero']
theorem ex_allArr {n : Nat} {e : TypeId} (ht : P.underlying t = some (.array n e)) (he : TyOk P e zs sz bytes agg) {a : Addr} (hx : ev l x = some (.pointer (some a))) (_ : 0 < n) :
    Ex P l (.slice t x none none none) ty w (.value (.slice (some a) n n)) w := fun _ _ _ _ => by
  simp [execOp, rho_of hx, Instr.sliceAt, run_underlying ht, run_sizeOf he, Instr.sliceBounds, Instr.sureAddr, Addr.add_zero']
theorem fill_one {v : Value} (hl : v.cells.toList.length = sz) (hz : zs.length = sz) : fillL (fun i => some (i * sz, sz)) (initL zs 1) [(0, v)] = some v.cells.toList := by
  have h1 : (initL zs 1).length = sz := by rw [initL_length, Nat.one_mul, hz]
  simp only [fillL, Nat.zero_mul]
  rw [decide_eq_true hl, decide_eq_true (by omega)]
  simp only [putAt, Nat.zero_add]
  congr 1
  rw [List.take_zero, List.nil_append, List.drop_of_length_le (by omega), List.append_nil]
end laws

/-! ### Rows that a call may turn -/
def bl (es : List Ent) : List Nat := es.filterMap (·.1)
theorem Hp.here {w0 w : World} {S : List Nat} {es : List Ent} (H : Hp w0 w S es) : Hp w w (bl es) es := by
  refine ⟨rfl, rfl, rfl, Nat.le_refl _, fun _ _ _ => rfl, ?_, H.apart⟩
  intro i e he
  have h := H.ent i e he
  unfold EntOk at h ⊢
  split
  · rename_i hn; rw [hn] at h; exact h
  · rename_i g hg
    rw [hg] at h
    exact ⟨h.1, .inl (List.mem_filterMap.2 ⟨e, List.mem_of_getElem? he, hg⟩)⟩
theorem bl_at {es es' : List Ent} {is : List Nat} (h : es' = is.map fun i => es.getD i (none, 0, [])) : ∀ b ∈ bl es', ∃ i ∈ is, ∃ T cs, es[i]? = some (some b, T, cs) := by
  intro b hb
  subst h
  obtain ⟨e, he, hg⟩ := List.mem_filterMap.1 hb
  obtain ⟨i, hi, rfl⟩ := List.mem_map.1 he
  refine ⟨i, hi, ?_⟩
  cases h : es[i]? with
  | none => rw [List.getD_eq_getElem?_getD, h] at hg; simp at hg
  | some x =>
    rw [List.getD_eq_getElem?_getD, h] at hg
    obtain ⟨a, T, cs⟩ := x
    simp at hg
    exact ⟨T, cs, by rw [hg]⟩
/-- A call that may turn these rows, and tells them anew. -/
theorem Hp.callr {w0 w w' : World} {S : List Nat} {es es1 es2 : List Ent} (H : Hp w0 w S es) (is : List Nat) (h1 : es1 = is.map fun i => es.getD i (none, 0, [])) (H' : Hp w w' (bl es1) es2) : Hp w0 w' S (kill es is ++ es2) := H.call H' is (bl_at h1)

/-! ### A disk -/
abbrev Blk := List UInt8
structure Dk where
  kept : List Blk
  wait : List (Nat × Blk)
  down : Bool
  armed : Nat
  kcap : Nat
  ksp : List Value
def kc (ks : List Blk) : List Value := ks.flatMap u8s
def wcell (p : Nat × Blk) : List Value := .int .i64 (p.1 : Int) :: u8s p.2
def wc (ws : List (Nat × Blk)) : List Value := ws.flatMap wcell
@[reducible] def dcells (gk : Nat) (gw : Option Nat) (n kq m cw : Nat) (dn : Bool) (ar : Nat) : List Value := [.slice (some ⟨gk, 0, none⟩) n kq, .slice (hd gw) m cw, .bool dn, .int .i64 (ar : Int)]
@[reducible] def dRows (gd gk : Nat) (gw : Option Nat) (cw : Nat) (sp : List Value) (D : Dk) : List Ent :=
  [(some gd, 90, dcells gk gw D.kept.length D.kcap D.wait.length cw D.down D.armed), (some gk, 87, kc D.kept ++ D.ksp), (gw, 93, wc D.wait ++ sp)]
structure DOk (D : Dk) (gw : Option Nat) (cw : Nat) (sp : List Value) : Prop where
  pos : 0 < D.kept.length
  most : D.kept.length ≤ 16384
  k64 : ∀ b ∈ D.kept, b.length = 64
  w64 : ∀ p ∈ D.wait, p.2.length = 64 ∧ p.1 < D.kept.length
  wcap : D.wait.length ≤ cw
  cap : cw * 65 ≤ (wc D.wait ++ sp).length
  nil : gw = none → cw = 0
  armed : D.armed < 2 ^ 63
/-- The disk stands there. -/
def DPost (w0 w' : World) (S : List Nat) (gd gk : Nat) (D : Dk) : Prop := ∃ gw cw sp, DOk D gw cw sp ∧ Hp w0 w' S (dRows gd gk gw cw sp D)
theorem kc_length {ks : List Blk} (h : ∀ b ∈ ks, b.length = 64) : (kc ks).length = ks.length * 64 := by
  induction ks with
  | nil => rfl
  | cons b ks ih =>
    have h1 := h b (by simp)
    have h2 := ih fun b hb => h b (List.mem_cons_of_mem _ hb)
    simp only [kc, List.flatMap_cons, List.length_append, List.length_cons, u8s_length] at h2 ⊢
    omega
theorem wc_length {ws : List (Nat × Blk)} {n : Nat} (h : ∀ p ∈ ws, p.2.length = 64 ∧ p.1 < n) : (wc ws).length = ws.length * 65 := by
  induction ws with
  | nil => rfl
  | cons b ks ih =>
    have h1 := (h b (by simp)).1
    have h2 := ih fun b hb => h b (List.mem_cons_of_mem _ hb)
    simp only [wc, wcell, List.flatMap_cons, List.length_append, List.length_cons, u8s_length] at h2 ⊢
    omega
theorem wc_append (a b : List (Nat × Blk)) : wc (a ++ b) = wc a ++ wc b := by simp [wc]
theorem wc_one' (ws : List (Nat × Blk)) : (wc ws).all (·.oneCell') = true := by
  simp only [wc, List.all_flatMap, List.all_eq_true]
  intro p _ x hx
  rcases List.mem_cons.1 hx with rfl | h
  · rfl
  · exact List.all_eq_true.1 (u8s_one' _) x h
def zero64 : Blk := List.replicate 64 0
theorem kc_zero (n : Nat) : kc (List.replicate n zero64) = initL (u8s zero64) n := by simp [kc, initL, List.flatMap]
/-- What waits reads. -/
theorem build_write {zs : List Value} (h : zs.length = 65) {n : Nat} {b : Blk} (hb : b.length = 64) :
    fillL (fun i => [(0, 1), (1, 64)][i]?) zs [(0, .int .i64 (n : Int)), (1, .agg (u8s b).toArray)] = some (wcell (n, b)) := by
  have e1 : (Value.int .i64 (n : Int)).cells.toList = [.int .i64 (n : Int)] := rfl
  have e2 : (Value.agg (u8s b).toArray).cells.toList = u8s b := by simp [Value.cells]
  simp only [fillL, List.getElem?_cons_zero, List.getElem?_cons_succ, e1, e2]
  have h1 : (putAt zs 0 [Value.int .i64 (n : Int)]).length = 65 := by simp [putAt, h]
  rw [decide_eq_true (by rfl), decide_eq_true (by simp [h])]
  simp only
  rw [decide_eq_true (by rw [u8s_length, hb]), decide_eq_true (by rw [h1, u8s_length, hb]; decide)]
  simp only
  congr 1
  simp only [putAt, wcell, List.length_cons, List.length_nil]
  rw [List.take_zero, List.nil_append, List.take_append_of_le_length (by simp), List.take_of_length_le (by simp), List.drop_of_length_le (by simp [h, u8s_length, hb])]
  simp
def blockOf (f : UInt8) : Blk := (List.range 64).map fun i => f + UInt8.ofNat i
theorem blockOf_length (f : UInt8) : (blockOf f).length = 64 := by simp [blockOf]
theorem blockOf_get (f : UInt8) {i : Nat} (h : i < 64) : (blockOf f)[i]? = some (f + UInt8.ofNat i) := by simp [blockOf, h]
theorem blockOf_snoc (f : UInt8) {q : Nat} (h : q < 64) : (u8s ((blockOf f).take q) ++ List.replicate (64 - q) (Value.int .u8 0)).set q (.int .u8 ((f + UInt8.ofNat q).toNat : Int)) = u8s ((blockOf f).take (q + 1)) ++ List.replicate (64 - (q + 1)) (Value.int .u8 0) := by
  have hl : (u8s ((blockOf f).take q)).length = q := by rw [u8s_length, List.length_take, blockOf_length]; omega
  rw [List.set_append_right _ _ (by omega), hl, Nat.sub_self, List.take_add_one, blockOf_get f h, u8s_append]
  obtain ⟨m, hm⟩ : ∃ m, 64 - q = m + 1 := ⟨63 - q, by omega⟩
  have hm2 : 64 - (q + 1) = m := by omega
  rw [hm, hm2, List.replicate_succ, List.set_cons_zero, List.append_assoc]
  rfl
theorem add8 (f : UInt8) (q : Nat) : IntKind.u8.wrap ((f.toNat : Int) + ((q % 256 : Nat) : Int)) = ((f + UInt8.ofNat q).toNat : Int) := by
  rw [IntKind.wrap_u8, UInt8.toNat_add, UInt8.toNat_ofNat']
  omega
/-- A write that comes; a barrier. -/
def Dk.hit (D : Dk) : Dk × Bool := if D.armed < 1 then (D, false) else ({ D with armed := D.armed - 1 }, decide (D.armed - 1 = 0))
theorem DOk.hit {D : Dk} {gw : Option Nat} {cw : Nat} {sp : List Value} (h : DOk D gw cw sp) : DOk D.hit.1 gw cw sp := by
  obtain ⟨h1, h2, h3, h4, h5, h6, h7, h8⟩ := h
  unfold Dk.hit
  split
  · exact ⟨h1, h2, h3, h4, h5, h6, h7, h8⟩
  · exact ⟨h1, h2, h3, h4, h5, h6, h7, by show D.armed - 1 < 2 ^ 63; omega⟩
theorem DOk.fall {D : Dk} {gw : Option Nat} {cw : Nat} {sp : List Value} (h : DOk D gw cw sp) (x : Bool) : DOk { D with down := x } gw cw sp :=
  ⟨h.1, h.2, h.3, h.4, h.5, h.6, h.7, h.8⟩
/-- A write. -/
def Dk.put (D : Dk) (n : Nat) (b : Blk) : Dk := { D with wait := D.wait ++ [(n, b)] }
def Dk.write (D : Dk) (a : Int) (b : Blk) : Dk × Nat :=
  if D.down = true then (D, 40) else if a < 0 ∨ (D.kept.length : Int) ≤ a then (D, 41) else if b.length ≠ 64 then (D, 1)
  else if (D.put a.toNat b).hit.2 = true then ({ (D.put a.toNat b).hit.1 with down := true }, 40) else ((D.put a.toNat b).hit.1, 0)
theorem wc_snoc (ws : List (Nat × Blk)) (n : Nat) (b : Blk) : wc (ws ++ [(n, b)]) = wc ws ++ wcell (n, b) := by simp [wc]
theorem wcell_length {n : Nat} {b : Blk} (h : b.length = 64) : (wcell (n, b)).length = 65 := by simp [wcell, u8s_length, h]
theorem wcell_one' (n : Nat) (b : Blk) : (wcell (n, b)).all (·.oneCell') = true := by
  have := wc_one' [(n, b)]
  rwa [show wc [(n, b)] = wcell (n, b) from List.append_nil _] at this
/-- Behind a call that told these rows anew. -/
theorem DPost.of {w0 w w' : World} {S : List Nat} {gd gk : Nat} {gw : Option Nat} {cw : Nat} {sp : List Value} {D D' : Dk} (H : Hp w0 w S (dRows gd gk gw cw sp D)) (h : DPost w w' (bl (dRows gd gk gw cw sp D)) gd gk D') : DPost w0 w' S gd gk D' := by
  obtain ⟨g, c, s, ho, h⟩ := h
  exact ⟨g, c, s, ho, (H.callr [0, 1, 2] rfl h).pick [3, 4, 5] (by decide)⟩
/-- A row that stands beside these. -/
theorem sep_of {w0 w : World} {S : List Nat} {es es1 : List Ent} (H : Hp w0 w S es) (i : Nat) (is : List Nat) {g : Option Nat} {T : TypeId} {cs : List Value} (he : es[i]? = some (g, T, cs)) (h1 : es1 = is.map fun j => es.getD j (none, 0, [])) (hi : i ∉ is) : ∀ p, hd g = some p → p.block ∉ bl es1 := by
  intro p hp hb
  obtain ⟨j, hj, T', cs', hj2⟩ := bl_at h1 _ hb
  cases g with
  | none => simp [hd] at hp
  | some x =>
    simp only [hd, Option.map_some, Option.some.injEq] at hp
    subst hp
    have := H.apart i j _ _ x he hj2 rfl rfl
    subst this
    exact hi hj
/-! The other calls. -/
def Dk.start (D : Dk) : Dk := if D.down = true then { D with wait := [], armed := 0, down := false } else D
def Dk.arm (D : Dk) (n : Int) : Dk × Nat := if D.down = true then (D, 40) else ({ D with armed := (max n 0).toNat }, 0)
def flush (ks : List Blk) (ws : List (Nat × Blk)) : List Blk := ws.foldl (fun ks p => ks.set p.1 p.2) ks
def Dk.sync (D : Dk) : Dk × Nat := if D.down = true then (D, 40) else if D.hit.2 = true then ({ D.hit.1 with down := true }, 40) else ({ D.hit.1 with kept := flush D.hit.1.kept D.hit.1.wait, wait := [] }, 0)
theorem flush_length (ks : List Blk) (ws : List (Nat × Blk)) : (flush ks ws).length = ks.length := by
  unfold flush
  induction ws generalizing ks with
  | nil => rfl
  | cons p ws ih => simp only [List.foldl_cons]; rw [ih]; simp
theorem flush_64 {ks : List Blk} {ws : List (Nat × Blk)} {n : Nat} (h : ∀ b ∈ ks, b.length = 64) (hw : ∀ p ∈ ws, p.2.length = 64 ∧ p.1 < n) : ∀ b ∈ flush ks ws, b.length = 64 := by
  unfold flush
  induction ws generalizing ks with
  | nil => exact h
  | cons p ws ih =>
    simp only [List.foldl_cons]
    refine ih (fun b hb => ?_) (fun q hq => hw q (List.mem_cons_of_mem _ hq))
    rcases List.mem_or_eq_of_mem_set hb with h1 | h1
    · exact h b h1
    · rw [h1]; exact (hw p (by simp)).1
theorem flush_snoc {ks : List Blk} {ws : List (Nat × Blk)} {q : Nat} (h : q < ws.length) : flush ks (ws.take (q + 1)) = (flush ks (ws.take q)).set ws[q].1 ws[q].2 := by
  unfold flush
  rw [List.take_add_one, List.getElem?_eq_getElem h, List.foldl_append]
  rfl
/-- Where a block's cells lie. -/
theorem kc_drop {ks : List Blk} (h : ∀ b ∈ ks, b.length = 64) {n : Nat} (hn : n < ks.length) : ((kc ks).drop (n * 64)).take 64 = u8s ks[n] := by
  induction ks generalizing n with
  | nil => simp at hn
  | cons b ks ih =>
    have hb := h b (by simp)
    cases n with
    | zero =>
      simp only [Nat.zero_mul, List.drop_zero, kc, List.flatMap_cons, List.getElem_cons_zero]
      rw [List.take_left' (by rw [u8s_length, hb])]
    | succ n =>
      have := ih (fun b hb => h b (List.mem_cons_of_mem _ hb)) (n := n) (by simpa using hn)
      simp only [kc, List.flatMap_cons, List.getElem_cons_succ] at this ⊢
      rw [show (n + 1) * 64 = 64 + n * 64 by omega, ← List.drop_drop, List.drop_left' (by rw [u8s_length, hb])]
      exact this
theorem kc_get {ks : List Blk} (h : ∀ b ∈ ks, b.length = 64) {n : Nat} (hn : n < ks.length) (j : Nat) (u : Value) (hu : (u8s ks[n])[j]? = some u) : (kc ks)[n * 64 + j]? = some u := by
  rw [← kc_drop h hn] at hu
  rw [List.getElem?_take] at hu
  split at hu
  · rwa [List.getElem?_drop] at hu
  · cases hu
theorem kc_put {ks : List Blk} (h : ∀ b ∈ ks, b.length = 64) {n : Nat} (hn : n < ks.length) {b : Blk} (hb : b.length = 64) : putAt (kc ks) (n * 64) (u8s b) = kc (ks.set n b) := by
  induction ks generalizing n with
  | nil => simp at hn
  | cons c ks ih =>
    have hc := h c (by simp)
    have hcl : (u8s c).length = 64 := by rw [u8s_length, hc]
    have hbl : (u8s b).length = 64 := by rw [u8s_length, hb]
    cases n with
    | zero =>
      simp only [putAt, Nat.zero_mul, List.take_zero, List.nil_append, Nat.zero_add, kc, List.flatMap_cons, List.set_cons_zero, hbl]
      rw [List.drop_left' hcl]
    | succ n =>
      have := ih (fun b hb => h b (List.mem_cons_of_mem _ hb)) (n := n) (by simpa using hn)
      simp only [putAt, kc, List.flatMap_cons, List.set_cons_succ] at this ⊢
      rw [show (n + 1) * 64 = 64 + n * 64 by omega, show 64 + n * 64 + (u8s b).length = 64 + (n * 64 + (u8s b).length) by omega, ← List.drop_drop, List.drop_left' hcl, List.take_append, hcl, List.take_of_length_le (by omega), Nat.add_sub_cancel_left, List.append_assoc, List.append_assoc]
      rw [List.append_assoc] at this
      rw [this]
theorem wc_get {ws : List (Nat × Blk)} {n : Nat} (h : ∀ p ∈ ws, p.2.length = 64 ∧ p.1 < n) {q : Nat} (hq : q < ws.length) (j : Nat) (u : Value) (hu : (wcell ws[q])[j]? = some u) : (wc ws)[q * 65 + j]? = some u := by
  induction ws generalizing q with
  | nil => simp at hq
  | cons p ws ih =>
    have hp := (h p (by simp)).1
    have hl : (wcell p).length = 65 := by obtain ⟨a, b⟩ := p; exact wcell_length hp
    cases q with
    | zero =>
      have hj : j < (wcell p).length := (List.getElem?_eq_some_iff.1 hu).1
      simp only [wc, List.flatMap_cons, Nat.zero_mul, Nat.zero_add]
      rw [List.getElem?_append_left hj]
      exact hu
    | succ q =>
      have := ih (fun p hp => h p (List.mem_cons_of_mem _ hp)) (q := q) (by simpa using hq) hu
      simp only [wc, List.flatMap_cons] at this ⊢
      rw [List.getElem?_append_right (by omega), ← this]
      congr 1
      omega
theorem putAt_all {cs vs : List Value} (h : cs.length = vs.length) : putAt cs 0 vs = vs := by
  simp [putAt, h]
/-- Cells of a row, behind an address. -/
theorem cells_of {w0 w : World} {S : List Nat} {es : List Ent} {i g o : Nat} {T : TypeId} {cs vs : List Value} (H : Hp w0 w S es) (he : es[i]? = some (some g, T, cs)) (h : ∀ j u, vs[j]? = some u → cs[o + j]? = some u) : ∀ j u, vs[j]? = some u → w.cell? ((⟨g, o, none⟩ : Addr).add j) = some u := by
  intro j u hu
  have e : (⟨g, o, none⟩ : Addr).add j = ⟨g, o + j, none⟩ := by
    unfold Addr.add
    split
    · rename_i h0; rw [h0]; rfl
    · rfl
  rw [e]
  exact H.cell he (h j u hu)
/-! What a block shows; what a fall leaves. -/
theorem flush_none {n : Nat} : ∀ {ws : List (Nat × Blk)} {ks : List Blk}, (∀ p ∈ ws, p.1 ≠ n) → (flush ks ws)[n]? = ks[n]?
  | [], ks, _ => rfl
  | p :: ws, ks, h => by
    show (flush (ks.set p.1 p.2) ws)[n]? = _
    rw [flush_none (fun q hq => h q (List.mem_cons_of_mem _ hq)), List.getElem?_set_ne (h p (by simp))]
theorem flush_append (ks : List Blk) (a b : List (Nat × Blk)) : flush ks (a ++ b) = flush (flush ks a) b := by simp [flush]
theorem flush_last {ks : List Blk} {ws : List (Nat × Blk)} {q n : Nat} (hq : q < ws.length) (hn : n < ks.length) (he : ws[q].1 = n) (h : ∀ p ∈ ws.drop (q + 1), p.1 ≠ n) : (flush ks ws)[n]? = some ws[q].2 := by
  have h2 : (flush ks (ws.take (q + 1) ++ ws.drop (q + 1)))[n]? = some ws[q].2 := by
    rw [flush_append, flush_none h, flush_snoc hq, he, List.getElem?_set_self (by rw [flush_length]; exact hn)]
  rwa [List.take_append_drop] at h2
def Dk.show (D : Dk) (n : Nat) : Blk := (flush D.kept D.wait).getD n []
def Dk.read (D : Dk) (a : Int) : Blk × Nat := if D.down = true then ([], 40) else if a < 0 ∨ (D.kept.length : Int) ≤ a then ([], 41) else (D.show a.toNat, 0)
theorem ops_call_rd {P : Program} {ds : List Deferred} {Q : Post} {K : List Value → World → Prop} {all os : List Oper} {l : List Value} {w : World} {op : Op} {ty : TypeId} {pos : String} {af : Array Edge} {d : Tmp} {f : FuncId} {args : Array Value} {n : Nat} {e : Int} {X : Option Nat → Nat → List Value → World → Prop}
    (hx : Ex P l op ty w (.enter f args) w) (hc : Does P f args w fun r w' => ∃ g cap sp, r = .tuple #[.slice (hd g) n cap, .int .i64 e] ∧ X g cap sp w')
    (h : ∀ w' g cap sp, X g cap sp w' → Ops P ds all K Q os (l.set d (.tuple #[.slice (hd g) n cap, .int .i64 e])) w') : Ops P ds all K Q (⟨some d, op, ty, pos, af, none⟩ :: os) l w :=
  ops_call hx hc fun r w' ⟨g, cap, sp, h1, h2⟩ => by rw [h1]; exact h w' g cap sp h2
def clampK (keep : List Int) (q : Nat) : Nat := (min (max (keep.getD q 0) 0) 64).toNat
theorem clampK_le (keep : List Int) (q : Nat) : clampK keep q ≤ 64 := by unfold clampK; omega
def tears (ks : List Blk) (ws : List (Nat × Blk)) (keep : List Int) : Nat → List Blk
  | 0 => ks
  | q + 1 => match ws[q]? with
    | some p => (tears ks ws keep q).set p.1 (p.2.take (clampK keep q) ++ ((tears ks ws keep q).getD p.1 []).drop (clampK keep q))
    | none => tears ks ws keep q
theorem tears_length (ks : List Blk) (ws : List (Nat × Blk)) (keep : List Int) (q : Nat) : (tears ks ws keep q).length = ks.length := by
  induction q with
  | zero => rfl
  | succ q ih => simp only [tears]; split <;> simp [ih]
theorem tears_64 {ks : List Blk} {ws : List (Nat × Blk)} {keep : List Int} (h : ∀ b ∈ ks, b.length = 64) (hw : ∀ p ∈ ws, p.2.length = 64 ∧ p.1 < ks.length) (q : Nat) : ∀ b ∈ tears ks ws keep q, b.length = 64 := by
  induction q with
  | zero => exact h
  | succ q ih =>
    simp only [tears]
    split
    · rename_i p hp
      intro b hb
      rcases List.mem_or_eq_of_mem_set hb with h1 | h1
      · exact ih b h1
      · have hpw := hw p (List.mem_of_getElem? hp)
        have hc := clampK_le keep q
        have hlt : p.1 < (tears ks ws keep q).length := by rw [tears_length]; exact hpw.2
        have h64 := ih _ (List.getElem_mem hlt)
        rw [h1, List.getD_eq_getElem?_getD, List.getElem?_eq_getElem hlt, Option.getD_some, List.length_append, List.length_take, List.length_drop]
        omega
    · exact ih
def Dk.crash (D : Dk) (keep : List Int) : Dk := { D with kept := tears D.kept D.wait keep D.wait.length, wait := [], down := true }
theorem kc_part {ks : List Blk} (h : ∀ b ∈ ks, b.length = 64) {n : Nat} (hn : n < ks.length) {b : Blk} (hb : b.length ≤ 64) : putAt (kc ks) (n * 64) (u8s b) = kc (ks.set n (b ++ (ks.getD n []).drop b.length)) := by
  induction ks generalizing n with
  | nil => simp at hn
  | cons c ks ih =>
    have hc := h c (by simp)
    have hcl : (u8s c).length = 64 := by rw [u8s_length, hc]
    cases n with
    | zero =>
      simp only [putAt, Nat.zero_mul, List.take_zero, List.nil_append, Nat.zero_add, kc, List.flatMap_cons, List.set_cons_zero, u8s_length, List.getD_cons_zero, u8s_append, List.append_assoc]
      rw [List.drop_append_of_le_length (by omega)]
      congr 2
      simp [u8s, List.map_drop]
    | succ n =>
      have := ih (fun b hb => h b (List.mem_cons_of_mem _ hb)) (n := n) (by simpa using hn)
      simp only [putAt, kc, List.flatMap_cons, List.set_cons_succ, List.getD_cons_succ] at this ⊢
      rw [show (n + 1) * 64 = 64 + n * 64 by omega, show 64 + n * 64 + (u8s b).length = 64 + (n * 64 + (u8s b).length) by omega, ← List.drop_drop, List.drop_left' hcl, List.take_append, hcl, List.take_of_length_le (by omega), Nat.add_sub_cancel_left, List.append_assoc, List.append_assoc]
      rw [List.append_assoc] at this
      rw [this]
/-- Numbers in memory. -/
def i64s (l : List Int) : List Value := l.map fun n => .int .i64 n
theorem i64s_get {l : List Int} {i : Nat} (h : i < l.length) : (i64s l)[i]? = some (.int .i64 l[i]) := by simp [i64s, h]
section
variable {P : Program} {ds : List Deferred} {Q : Post} {K : List Value → World → Prop} {all os : List Oper} {l : List Value} {w0 w w' : World} {S : List Nat} {es : List Ent} {ty t : TypeId} {pos : String} {af : Array Edge} {d : Tmp} {x y : Operand} {zs : List Value} {bytes : Nat} {agg : Bool}
theorem ops_copy {e : TypeId} (ht : P.underlying t = some (.slice e)) (he : TyOk P e zs 1 bytes agg) (H : Hp w0 w S es) (i : Nat) {g o n dc sc : Nat} {a : Addr} {T : TypeId} {cs vs : List Value} (hx : ev l x = some (.slice (some ⟨g, o, none⟩) n dc)) (hy : ev l y = some (.slice (some a) n sc))
    (hi : es[i]? = some (some g, T, cs)) (hn : vs.length = n) (hsrc : ∀ j u, vs[j]? = some u → w.cell? (a.add j) = some u) (hfit : o + n ≤ cs.length) (h1 : vs.all (·.oneCell') = true)
    (k : ∀ w', Hp w0 w' S (es.set i (some g, T, putAt cs o vs)) → Ops P ds all K Q os (l.set d (.int .i64 (n : Int))) w') :
    Ops P ds all K Q (⟨some d, .call { callee := .builtin .copy, args := #[x, y], argTypes := #[t, t] }, ty, pos, af, none⟩ :: os) l w := by
  obtain ⟨inf, z, dd, hinf, hz, hzs, hsz, hby, _, _⟩ := he.ex
  have hr := run_copy_row (P := P) w t t ty e g o n dc a n sc cs.toArray T vs ht (by rw [hinf]; simp [hsz]) (H.at hi) (by rw [hn]; simp) hsrc (by rw [hn]; simpa using hfit) (fun v hv => List.all_eq_true.1 h1 v hv)
  have e1 : (cs.toArray.toList.take o ++ vs ++ cs.toArray.toList.drop (o + vs.length)).toArray = (putAt cs o vs).toArray := by simp [putAt]
  rw [e1, hn] at hr
  refine ops_val (w' := w.setRow g (putAt cs o vs).toArray) ?_ (k _ (H.setRow hi _))
  intro _ _ _ _
  simp [execOp, resolve, invoke, builtin, rho_of hx, rho_of hy, hr, goInt]
end
/-! A list that grows into a row of its own, while the old one stands. -/
section
variable {P : Program} {ds : List Deferred} {Q : Post} {K : List Value → World → Prop} {all os : List Oper} {l : List Value} {w0 w w' : World} {S : List Nat} {es : List Ent} {ty t : TypeId} {pos : String} {af : Array Edge} {d : Tmp} {x y : Operand} {zs : List Value} {sz bytes : Nat} {agg : Bool}
theorem ops_append_new {e : TypeId} (ht : P.underlying t = some (.slice e)) (he : TyOk P e zs sz bytes agg) (H : Hp w0 w S es) {A0 : Option Addr} {n cap : Nat} {xs : List Value} (hx : ev l x = some (.slice A0 n cap)) (hrx : Rd w A0 n sz xs)
    {A : Option Addr} {m c : Nat} {ys : List Value} (hy : ev l y = some (.slice A m c)) (hr : Rd w A m sz ys) (hg : cap < n + m) (h63 : n + m ≤ 9223372036854775807) (hb : (n + m) * bytes ≤ 211106232532992) (hb2 : bytes ≤ 1048576)
    (k : ∀ w' g cap' sp', Hp w0 w' S (es ++ [(some g, e, (xs ++ ys) ++ sp')]) → cap' * sz ≤ ((xs ++ ys) ++ sp').length → n + m ≤ cap' → Ops P ds all K Q os (l.set d (.slice (hd (some g)) (n + m) cap')) w') :
    Ops P ds all K Q (⟨some d, .call { callee := .builtin .append, args := #[x, y], argTypes := #[t, t] }, ty, pos, af, none⟩ :: os) l w := by
  obtain ⟨inf, z, dd, hinf, hz, hzs, rfl, rfl, _, _⟩ := he.ex
  have hzsz : z.cells.size = zs.length := by rw [← hzs]; simp
  have hfit := fits hg hb hb2
  have first : ∀ {A : Option Addr} {n c : Nat} {xs : List Value}, Rd w A n inf.size xs → (Builtin.firstCells inf.size n (.slice A n c)).run P w.drew = .ok xs.toArray w.drew := by
    intro A n c xs hr
    cases A with
    | none =>
      have := hr.nil rfl
      subst this
      have hys : xs = [] := List.eq_nil_of_length_eq_zero (by simpa using hr.len)
      subst hys
      exact run_firstCells_none _ _ _ _ _
    | some a => exact run_firstCells_some _ inf.size n a n c xs hr.len (fun j u hu => hr.cells a rfl j u hu)
  have hfo := first (c := cap) hrx
  have hfc := first (c := c) hr
  have hn' : ¬ (n + m ≤ cap) := by omega
  have h63' : ¬ (9223372036854775807 < ((n : Int) + (m : Int))) := by omega
  have h48' : ¬ (281474976710656 < Builtin.nextslicecap (n + m) cap * inf.bytes) := by omega
  have hge := grownCap_ge w (n + m) cap e
  have hrun : (Builtin.append_ #[t, t] ty #[.slice A0 n cap, .slice A m c]).run P w =
      .ok (.slice (some ⟨w.heap.size, 0, none⟩) (n + m) (grownCap w (n + m) cap e))
        (w.drew.alloc (.cells ((xs ++ ys) ++ (Builtin.zeroCells z.cells (grownCap w (n + m) cap e - (n + m))).toList).toArray e)) := by
    simp [Builtin.append_, run_underlying ht, sizeOf, typeInfo, zeroValue, hinf, hz, Builtin.lenOf, hn', h63', h48', Question.forced, hfc, hfo, newRow, grownCap]
    congr 2
    apply Array.ext'
    simp
  have H2 := (H.drew).alloc e ((xs ++ ys) ++ (Builtin.zeroCells z.cells (grownCap w (n + m) cap e - (n + m))).toList)
  refine ops_val (w' := w.drew.alloc (.cells ((xs ++ ys) ++ (Builtin.zeroCells z.cells (grownCap w (n + m) cap e - (n + m))).toList).toArray e)) ?_ (k _ _ _ _ H2 ?_ hge)
  · intro _ _ _ _
    simp [execOp, resolve, invoke, builtin, rho_of hx, rho_of hy, hrun]
  · simp only [List.length_append, hrx.len, hr.len, Array.length_toList, Builtin.zeroCells, Array.size_map, Array.size_range]
    rw [hzsz, he.len, ← Nat.add_mul, ← Nat.add_mul]
    exact Nat.mul_le_mul_right _ (by omega)
end
theorem u64_nat (z : Int) : ∃ u : Nat, IntKind.u64.wrap z = (u : Int) := ⟨(IntKind.u64.wrap z).toNat, by rw [IntKind.wrap_u64]; omega⟩
theorem tmodN (a b : Nat) : ((a : Int)).tmod (b : Int) = ((a % b : Nat) : Int) := rfl
def dataOf (n : Int) (x : UInt8) : Blk := if n = 0 then blockOf x else ((blockOf x ++ blockOf x) ++ blockOf x).take ((IntKind.u64.wrap n).toNat % 130)
theorem dataOf_length (n : Int) (x : UInt8) : (dataOf n x).length ≤ 192 := by
  unfold dataOf
  split
  · rw [blockOf_length]; decide
  · simp only [List.length_take, List.length_append, blockOf_length]; omega
/-! A script in memory. -/
structure OpV where
  k : Int
  a : Int
  m : Int
  x : UInt8
  B : Option Addr
  keep : List Int
  kcap : Nat
@[reducible] def OpV.cells (o : OpV) : List Value := [.int .i64 o.k, .int .i64 o.a, .int .i64 o.m, .int .u8 (o.x.toNat : Int), .slice o.B o.keep.length o.kcap]
def opCells (s : List OpV) : List Value := s.flatMap OpV.cells
theorem opCells_get : ∀ (s : List OpV) (i : Nat) (h : i < s.length) (j : Nat) (u : Value), (OpV.cells s[i])[j]? = some u → (opCells s)[i * 5 + j]? = some u
  | o :: s, 0, h, j, u, hu => by
    have hj : j < 5 := by have := (List.getElem?_eq_some_iff.1 hu).1; simpa using this
    simp only [opCells, List.flatMap_cons, Nat.zero_mul, Nat.zero_add]
    rw [List.getElem?_append_left (by simpa using hj)]
    simpa using hu
  | o :: s, i + 1, h, j, u, hu => by
    have := opCells_get s i (by simpa using h) j u (by simpa using hu)
    simp only [opCells, List.flatMap_cons] at this ⊢
    rw [List.getElem?_append_right (by simp; omega)]
    rw [← this]
    congr 1
    simp; omega
theorem op_cell {w : World} {a : Addr} {s : List OpV} (h : Rd w (some a) s.length 5 (opCells s)) {i : Nat} (hi : i < s.length) : ∀ j u, (OpV.cells s[i])[j]? = some u → w.cell? ((a.add (i * 5)).add j) = some u := by
  intro j u hu
  rw [add_add]
  exact h.cells a rfl _ _ (opCells_get s i hi j u hu)
structure ScOk (w : World) (A : Option Addr) (s : List OpV) : Prop where
  rd : Rd w A s.length 5 (opCells s)
  most : s.length ≤ 2513174816128
  each : ∀ o ∈ s, -9223372036854775808 ≤ o.m ∧ o.m ≤ 9223372036854775807 ∧ Rd w o.B o.keep.length 1 (i64s o.keep)
theorem sep_old {w0 w : World} {es : List Ent} {B : Option Addr} {n : Nat} {xs : List Value} (H : Hp w0 w [] es) (hr : Rd w0 B n 1 xs) (hn : 0 < n) : ∀ p, B = some p → p.block ∉ bl es := by
  intro p hp hb
  obtain ⟨e, he, hg⟩ := List.mem_filterMap.1 hb
  obtain ⟨i, hi⟩ := List.getElem?_of_mem he
  obtain ⟨g, T, cs⟩ := e
  simp only at hg
  subst hg
  have h1 := H.place hi
  have h2 : 0 < xs.length := by rw [hr.len]; omega
  have h3 := World.block_lt_of_cell? w0 _ (hr.cells p hp 0 _ (List.getElem?_eq_getElem h2))
  rw [Addr.add_zero'] at h3
  rcases h1 with h1 | h1
  · cases h1
  · omega
theorem sync_bd (D : Dk) : D.sync.1.wait.length ≤ D.wait.length ∧ D.sync.1.kept.length = D.kept.length := by
  have h1 : D.hit.1.wait = D.wait := by unfold Dk.hit; split <;> rfl
  have h2 : D.hit.1.kept = D.kept := by unfold Dk.hit; split <;> rfl
  unfold Dk.sync
  split
  · exact ⟨Nat.le_refl _, rfl⟩
  · split
    · exact ⟨by show D.hit.1.wait.length ≤ _; rw [h1]; exact Nat.le_refl _, by show D.hit.1.kept.length = _; rw [h2]⟩
    · exact ⟨Nat.zero_le _, by show (flush _ _).length = _; rw [flush_length, h2]⟩
theorem write_bd (D : Dk) (a : Int) (b : Blk) : (D.write a b).1.wait.length ≤ D.wait.length + 1 ∧ (D.write a b).1.kept.length = D.kept.length := by
  have h1 : ∀ E : Dk, E.hit.1.wait = E.wait := fun E => by unfold Dk.hit; split <;> rfl
  have h2 : ∀ E : Dk, E.hit.1.kept = E.kept := fun E => by unfold Dk.hit; split <;> rfl
  have h3 : (D.put a.toNat b).wait.length = D.wait.length + 1 := by simp [Dk.put]
  unfold Dk.write
  split
  · exact ⟨by simp, rfl⟩
  split
  · exact ⟨by simp, rfl⟩
  split
  · exact ⟨by simp, rfl⟩
  split
  · exact ⟨by show (D.put a.toNat b).hit.1.wait.length ≤ _; rw [h1, h3]; exact Nat.le_refl _, by show (D.put a.toNat b).hit.1.kept.length = _; rw [h2]; rfl⟩
  · exact ⟨by show (D.put a.toNat b).hit.1.wait.length ≤ _; rw [h1, h3]; exact Nat.le_refl _, by show (D.put a.toNat b).hit.1.kept.length = _; rw [h2]; rfl⟩
theorem start_bd (D : Dk) : D.start.wait.length ≤ D.wait.length ∧ D.start.kept.length = D.kept.length := by
  unfold Dk.start
  split
  · exact ⟨Nat.zero_le _, rfl⟩
  · exact ⟨Nat.le_refl _, rfl⟩
theorem arm_bd (D : Dk) (n : Int) : (D.arm n).1.wait.length ≤ D.wait.length ∧ (D.arm n).1.kept.length = D.kept.length := by
  unfold Dk.arm
  split
  · exact ⟨Nat.le_refl _, rfl⟩
  · exact ⟨Nat.le_refl _, rfl⟩
theorem crash_bd (D : Dk) (keep : List Int) : (D.crash keep).wait.length ≤ D.wait.length ∧ (D.crash keep).kept.length = D.kept.length := ⟨Nat.zero_le _, tears_length _ _ _ _⟩
/-! What an armed disk does. -/
theorem start_up (D : Dk) : D.start.down = false := by
  unfold Dk.start
  split
  · rfl
  · rename_i h; simpa using h
theorem hit_more {D : Dk} (h : 2 ≤ D.armed) : D.hit = ({ D with armed := D.armed - 1 }, false) := by
  unfold Dk.hit
  rw [if_neg (by omega), decide_eq_false (by omega)]
theorem hit_last {D : Dk} (h : D.armed = 1) : D.hit = ({ D with armed := 0 }, true) := by
  unfold Dk.hit
  rw [if_neg (by omega), decide_eq_true (by omega), h]
theorem hit_none {D : Dk} (h : D.armed = 0) : D.hit = (D, false) := by
  unfold Dk.hit
  rw [if_pos (by omega)]
theorem arm_ok {D : Dk} {n : Int} (hd : D.down = false) : D.arm n = ({ D with armed := (max n 0).toNat }, 0) := if_neg (by rw [hd]; exact Bool.false_ne_true)
theorem sync_more {D : Dk} (hd : D.down = false) (h : 2 ≤ D.armed) : ∃ E, D.sync = (E, 0) ∧ E.down = false ∧ E.armed + 1 = D.armed ∧ E.kept.length = D.kept.length ∧ E.wait.length ≤ D.wait.length := by
  refine ⟨{ D with kept := flush D.kept D.wait, wait := [], armed := D.armed - 1 }, ?_, hd, by show D.armed - 1 + 1 = _; omega, flush_length _ _, Nat.zero_le _⟩
  unfold Dk.sync
  rw [if_neg (by rw [hd]; exact Bool.false_ne_true), hit_more h]
  rfl
theorem write_more {D : Dk} {a : Int} {b : Blk} (hd : D.down = false) (h : 2 ≤ D.armed) (h0 : 0 ≤ a) (ha : a < D.kept.length) (hb : b.length = 64) : ∃ E, D.write a b = (E, 0) ∧ E.down = false ∧ E.armed + 1 = D.armed ∧ E.kept.length = D.kept.length ∧ E.wait.length = D.wait.length + 1 := by
  refine ⟨{ D.put a.toNat b with armed := D.armed - 1 }, ?_, hd, by show D.armed - 1 + 1 = _; omega, rfl, by simp [Dk.put]⟩
  unfold Dk.write
  rw [if_neg (by rw [hd]; exact Bool.false_ne_true), if_neg (by omega), if_neg (by omega), hit_more (D := D.put a.toNat b) h]
  rfl
theorem write_last {D : Dk} {a : Int} {b : Blk} (hd : D.down = false) (h : D.armed = 1) (h0 : 0 ≤ a) (ha : a < D.kept.length) (hb : b.length = 64) : ∃ E, D.write a b = (E, 40) ∧ E.down = true ∧ E.kept.length = D.kept.length ∧ E.wait.length = D.wait.length + 1 := by
  refine ⟨{ D.put a.toNat b with armed := 0, down := true }, ?_, rfl, rfl, by simp [Dk.put]⟩
  unfold Dk.write
  rw [if_neg (by rw [hd]; exact Bool.false_ne_true), if_neg (by omega), if_neg (by omega), hit_last (D := D.put a.toNat b) h]
  rfl
theorem write_down {D : Dk} {a : Int} {b : Blk} (h : D.down = true) : D.write a b = (D, 40) := if_pos h
theorem sync_down {D : Dk} (h : D.down = true) : D.sync = (D, 40) := if_pos h
theorem arm_down {D : Dk} {n : Int} (h : D.down = true) : D.arm n = (D, 40) := if_pos h
theorem read_down {D : Dk} {a : Int} (h : D.down = true) : D.read a = ([], 40) := if_pos h
theorem conv_u8 (q : Nat) : IntKind.u8.wrap (q : Int) = ((UInt8.ofNat q).toNat : Int) := by rw [u8w, UInt8.toNat_ofNat']
/-! Lists of bytes in memory. -/
def Lst (w : World) (es : List Ent) (xs : List Value) (bs : List Blk) : Prop :=
  xs.length = bs.length ∧ ∀ i (h : i < bs.length), 0 < bs[i].length ∧ ∃ (B : Option Addr) (c : Nat), xs[i]? = some (.slice B bs[i].length c) ∧ Rd w B bs[i].length 1 (u8s bs[i]) ∧ ∀ p, B = some p → p.block ∉ bl es
theorem apt_to {w w' : World} {es es' : List Ent} {B : Option Addr} {n : Nat} {xs : List Value} (hr : Rd w B n 1 xs) (hn : 0 < n) (ha : ∀ p, B = some p → p.block ∉ bl es) (H : Hp w w' (bl es) es') : ∀ p, B = some p → p.block ∉ bl es' := by
  intro p hp hb
  obtain ⟨e, he, hg⟩ := List.mem_filterMap.1 hb
  obtain ⟨i, hi⟩ := List.getElem?_of_mem he
  obtain ⟨g, T, cs⟩ := e
  simp only at hg
  subst hg
  have h1 := H.place hi
  have h2 : 0 < xs.length := by rw [hr.len]; omega
  have h3 := World.block_lt_of_cell? w _ (hr.cells p hp 0 _ (List.getElem?_eq_getElem h2))
  rw [Addr.add_zero'] at h3
  rcases h1 with h1 | h1
  · exact ha p hp h1
  · omega
theorem Lst.to {w w' : World} {es es' : List Ent} {xs : List Value} {bs : List Blk} (h : Lst w es xs bs) (H : Hp w w' (bl es) es') : Lst w' es' xs bs := by
  refine ⟨h.1, fun i hi => ?_⟩
  obtain ⟨h0, B, c, h1, h2, h3⟩ := h.2 i hi
  exact ⟨h0, B, c, h1, h2.to H h3, apt_to h2 h0 h3 H⟩
theorem Lst.less {w : World} {es es' : List Ent} {xs : List Value} {bs : List Blk} (h : Lst w es xs bs) (hs : ∀ b ∈ bl es', b ∈ bl es) : Lst w es' xs bs := by
  refine ⟨h.1, fun i hi => ?_⟩
  obtain ⟨h0, B, c, h1, h2, h3⟩ := h.2 i hi
  exact ⟨h0, B, c, h1, h2, fun p hp hb => h3 p hp (hs _ hb)⟩
theorem Lst.snoc {w : World} {es : List Ent} {xs : List Value} {bs : List Blk} {b : Blk} {B : Option Addr} {c : Nat} (h : Lst w es xs bs) (h0 : 0 < b.length) (hr : Rd w B b.length 1 (u8s b)) (ha : ∀ p, B = some p → p.block ∉ bl es) : Lst w es (xs ++ [.slice B b.length c]) (bs ++ [b]) := by
  refine ⟨by simp [h.1], fun i hi => ?_⟩
  by_cases hin : i < bs.length
  · rw [List.getElem_append_left hin]
    obtain ⟨h1, B, c, h2, h3, h4⟩ := h.2 i hin
    exact ⟨h1, B, c, by rw [List.getElem?_append_left (by rw [h.1]; exact hin)]; exact h2, h3, h4⟩
  · have hi' : i = bs.length := by simp at hi; omega
    subst hi'
    rw [List.getElem_append_right (Nat.le_refl _)]
    simp only [Nat.sub_self, List.getElem_cons_zero]
    exact ⟨h0, B, c, by rw [List.getElem?_append_right (by rw [h.1]; exact Nat.le_refl _), h.1]; simp, hr, ha⟩
theorem Lst.nil (w : World) (es : List Ent) : Lst w es [] [] := ⟨rfl, fun i h => by cases h⟩
theorem apt_old {w : World} {w0 : World} {S : List Nat} {es : List Ent} (H : Hp w0 w S es) (i : Nat) (is : List Nat) {g : Option Nat} {T : TypeId} {cs : List Value} {es1 : List Ent} (he : es[i]? = some (g, T, cs)) (h1 : es1 = is.map fun j => es.getD j (none, 0, [])) (hi : i ∉ is) : ∀ p, hd g = some p → p.block ∉ bl es1 := sep_of H i is he h1 hi
/-- All blocks, as they are shown. -/
def Dk.shown (D : Dk) (q : Nat) : List Blk := (List.range q).map D.show
theorem shown_snoc (D : Dk) (q : Nat) : D.shown (q + 1) = D.shown q ++ [D.show q] := by simp [Dk.shown, List.range_succ]
theorem show_len {D : Dk} {gw : Option Nat} {cw : Nat} {sp : List Value} (h : DOk D gw cw sp) {n : Nat} (hn : n < D.kept.length) : (D.show n).length = 64 := by
  unfold Dk.show
  have h1 := flush_64 h.k64 h.w64
  have h2 : n < (flush D.kept D.wait).length := by rw [flush_length]; exact hn
  rw [List.getD_eq_getElem?_getD, List.getElem?_eq_getElem h2]
  exact h1 _ (List.getElem_mem h2)
theorem read_ok {D : Dk} {n : Nat} (hd : D.down = false) (hn : n < D.kept.length) : D.read (n : Int) = (D.show n, 0) := by
  unfold Dk.read
  rw [if_neg (by rw [hd]; exact Bool.false_ne_true), if_neg (by omega)]
  rfl
theorem sync_free {D : Dk} (hd : D.down = false) (h : D.armed = 0) : D.sync = ({ D with kept := flush D.kept D.wait, wait := [], down := false, armed := 0 }, 0) := by
  unfold Dk.sync
  rw [if_neg (by rw [hd]; exact Bool.false_ne_true), hit_none h]
  simp only [Bool.false_eq_true, if_false]
  congr 2
theorem write_free {D : Dk} {a : Int} {b : Blk} (hd : D.down = false) (h : D.armed = 0) (h0 : 0 ≤ a) (ha : a < D.kept.length) (hb : b.length = 64) : D.write a b = (D.put a.toNat b, 0) := by
  unfold Dk.write
  rw [if_neg (by rw [hd]; exact Bool.false_ne_true), if_neg (by omega), if_neg (by omega), hit_none (D := D.put a.toNat b) h]
  rfl
theorem put_show {D : Dk} {n : Nat} {b : Blk} (hn : n < D.kept.length) : (D.put n b).show n = b := by
  unfold Dk.show Dk.put
  simp only
  rw [flush_append]
  show ((flush D.kept D.wait).set n b).getD n [] = b
  rw [List.getD_eq_getElem?_getD, List.getElem?_set_self (by rw [flush_length]; exact hn)]
  rfl
/-! Where a row has room behind. -/
theorem putAt_app {cs sp vs : List Value} {o : Nat} (h : o + vs.length ≤ cs.length) : putAt (cs ++ sp) o vs = putAt cs o vs ++ sp := by
  simp only [putAt]
  rw [List.take_append_of_le_length (by omega), List.drop_append_of_le_length h, List.append_assoc, List.append_assoc, List.append_assoc]
theorem kc_putA {ks : List Blk} {sp : List Value} (h : ∀ b ∈ ks, b.length = 64) {n : Nat} (hn : n < ks.length) {b : Blk} (hb : b.length = 64) : putAt (kc ks ++ sp) (n * 64) (u8s b) = kc (ks.set n b) ++ sp := by
  rw [putAt_app (by rw [kc_length h, u8s_length, hb]; omega), kc_put h hn hb]
theorem kc_partA {ks : List Blk} {sp : List Value} (h : ∀ b ∈ ks, b.length = 64) {n : Nat} (hn : n < ks.length) {b : Blk} (hb : b.length ≤ 64) : putAt (kc ks ++ sp) (n * 64) (u8s b) = kc (ks.set n (b ++ (ks.getD n []).drop b.length)) ++ sp := by
  rw [putAt_app (by rw [kc_length h, u8s_length]; omega), kc_part h hn hb]
/-! Forks. -/
def Fresh (m : Nat) (xs : List Value) : Prop := ∀ (i : Nat) (p : Addr) (k c : Nat), xs[i]? = some (.slice (some p) k c) → m ≤ p.block
theorem Fresh.nil (m : Nat) : Fresh m [] := fun i p k c h => by simp at h
theorem Fresh.snoc {m : Nat} {xs : List Value} {B : Option Addr} {k c : Nat} (h : Fresh m xs) (hB : ∀ p, B = some p → m ≤ p.block) : Fresh m (xs ++ [.slice B k c]) := by
  intro i p k' c' hi
  by_cases hin : i < xs.length
  · rw [List.getElem?_append_left hin] at hi
    exact h i p k' c' hi
  · rw [List.getElem?_append_right (by omega)] at hi
    cases hj : i - xs.length with
    | zero =>
      rw [hj] at hi
      simp at hi
      exact hB p hi.1
    | succ n => rw [hj] at hi; simp at hi
theorem fresh_at {w0 w : World} {S : List Nat} {es : List Ent} (H : Hp w0 w S es) (i : Nat) {g : Option Nat} {T : TypeId} {cs : List Value} (he : es[i]? = some (g, T, cs)) (ha : ∀ p, hd g = some p → p.block ∉ S) : ∀ p, hd g = some p → w0.heap.size ≤ p.block := by
  intro p hp
  cases g with
  | none => simp [hd] at hp
  | some x =>
    have h2 := ha p hp
    simp only [hd, Option.map_some, Option.some.injEq] at hp
    subst hp
    rcases H.place he with h | h
    · exact absurd h h2
    · exact h
/-- Rows that stood before these blocks were made. -/
theorem Lst.wide {w w0 : World} {es es2 : List Ent} {S : List Nat} {xs : List Value} {bs : List Blk} (h : Lst w es xs bs) (hf : Fresh w0.heap.size xs) (H0 : Hp w0 w0 S es2) : Lst w es2 xs bs := by
  refine ⟨h.1, fun i hi => ?_⟩
  obtain ⟨h0, B, c, h1, h2, h3⟩ := h.2 i hi
  refine ⟨h0, B, c, h1, h2, fun p hp hb => ?_⟩
  subst hp
  have h4 := hf i p _ _ h1
  obtain ⟨e, he, hg⟩ := List.mem_filterMap.1 hb
  obtain ⟨j, hj⟩ := List.getElem?_of_mem he
  obtain ⟨g, T, cs⟩ := e
  simp only at hg
  subst hg
  have := H0.lt hj
  omega
theorem addn (b o n : Nat) : (⟨b, o, none⟩ : Addr).add n = ⟨b, o + n, none⟩ := by
  unfold Addr.add
  split
  · rename_i h; rw [h]; rfl
  · rfl
theorem op_spot {w : World} {a : Addr} {s : List OpV} (h : Rd w (some a) s.length 5 (opCells s)) (hs : 0 < s.length) : a.spot = none := by
  have := op_cell h hs 0 _ rfl
  rw [Nat.zero_mul, Addr.add_zero', Addr.add_zero'] at this
  exact World.cell?_spot this
theorem op_at {w : World} {b o : Nat} {s : List OpV} (h : Rd w (some ⟨b, o, none⟩) s.length 5 (opCells s)) {i : Nat} (hi : i < s.length) {j : Nat} {u : Value} (hu : (OpV.cells s[i])[j]? = some u) : w.cell? ⟨b, o + i * 5 + j, none⟩ = some u := by
  have := op_cell h hi j u hu
  rwa [addn, addn] at this
theorem sync_down_false {D : Dk} : D.sync.1.wait.length ≤ D.wait.length := (sync_bd D).1
theorem shown_eq {D E : Dk} (h1 : E.kept = D.kept) (h2 : E.wait = D.wait) (q : Nat) : E.shown q = D.shown q := by unfold Dk.shown Dk.show; rw [h1, h2]
end Go.Proofs.Ytgkciibfpenjpaa
