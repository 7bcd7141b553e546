/-
  A disk in memory: its row, its blocks' row, its waiting writes' row; laws for blocks.
-/
import Derived.Test.YtnlajgeehlpdaaaKit
import Derived.Test.YtnlajgeehlpdaaaMid
import Derived.Laws.CopyRow
namespace Go.Proofs.Ytnlajgeehlpdaaa
open Go Go.RowKit

section laws
variable {P : Program} {ds : List Deferred} {Q : Post} {K : List Value → World → Prop} {all os : List Oper} {l : List Value} {w0 w w' : World} {S S' : List Nat} {es es' : List Ent} {ty t : TypeId} {pos : String} {af : Array Edge} {d : Tmp} {v : Value} {op : Op}
  {x y : Operand} {zs cs : List Value} {sz bytes : Nat} {agg : Bool}
/-- make([]T, n, c), whatever T. -/
theorem ops_makeN {e : TypeId} (ht : P.underlying t = some (.slice e)) (he : TyOk P e zs sz bytes agg) (H : Hp w0 w S es) {k1 k2 : IntKind} {n c : Nat} (hx : ev l x = some (.int k1 n)) (hy : ev l y = some (.int k2 c))
    (hnc : n ≤ c) (hb : bytes * c ≤ 281474976710656) (h63 : c ≤ 9223372036854775807)
    (k : ∀ w' g, Hp w0 w' S (es ++ [(some g, e, initL zs c)]) → g = w.heap.size → Ops P ds all K Q os (l.set d (.slice (hd (some g)) n c)) w') : Ops P ds all K Q (⟨some d, .makeSlice t x y, ty, pos, af, none⟩ :: os) l w := by
  obtain ⟨i, z', d', hi, hz, hzs, hsz, hby, hd', _⟩ := he.ex
  have H' := H.alloc e (initL zs c)
  refine ops_val (w' := w.alloc (.cells (initL zs c).toArray e)) ?_ (k _ _ H' rfl)
  intro _ _ _ _
  have hr := run_make (P := P) w t e i z' ht hi hz k1 k2 n c (by omega) (by omega) (by rw [hby]; omega) (by omega)
  have hc : madeCells z'.cells (c * i.size) = (initL zs c).toArray := by
    have hcl : z'.cells = zs.toArray := by rw [← hzs]
    rw [hsz, ← he.len, hcl, ← init_eq]
    rfl
  simp only [Int.toNat_natCast] at hr
  simp [execOp, rho_of hx, rho_of hy, hr, hc]
/-- A slice's bytes as an array: the address. -/
theorem ex_slicePtr {n : Nat} {e : TypeId} (ht : P.underlying t = some (.array n e)) {A : Option Addr} {len c : Nat} (hx : ev l x = some (.slice A len c)) (h : n ≤ len) :
    Ex P l (.sliceToArrayPointer t x) ty w (.value (.pointer A)) w := fun _ _ _ _ => by
  have h2 : ¬ len < n := by omega
  simp [execOp, rho_of hx, Instr.arrayAt, run_underlying ht, h2]
/-- A part of an array behind an address. -/
theorem ex_cutArr {n : Nat} {e : TypeId} (ht : P.underlying t = some (.array n e)) (he : TyOk P e zs sz bytes agg) {a : Addr} {hi : Int} {kh : IntKind} {xh : Operand} (hx : ev l x = some (.pointer (some a))) (hh : ev l xh = some (.int kh hi)) (h : 0 ≤ hi ∧ hi ≤ n) (hn : 0 < n) :
    Ex P l (.slice t x none (some xh) none) ty w (.value (.slice (some a) hi.toNat n)) w := fun _ _ _ _ => by
  obtain ⟨b, rfl⟩ := Int.eq_ofNat_of_zero_le (show 0 ≤ hi by omega)
  have h2 : b ≤ n := by omega
  simp [execOp, rho_of hx, rho_of hh, Instr.sliceAt, run_underlying ht, run_sizeOf he, Instr.sliceBounds, Instr.sliceBound, asIntOf, h2, Instr.sureAddr, Addr.add_zero']
theorem ex_allArr {n : Nat} {e : TypeId} (ht : P.underlying t = some (.array n e)) (he : TyOk P e zs sz bytes agg) {a : Addr} (hx : ev l x = some (.pointer (some a))) (hn : 0 < n) :
    Ex P l (.slice t x none none none) ty w (.value (.slice (some a) n n)) w := fun _ _ _ _ => by
  simp [execOp, rho_of hx, Instr.sliceAt, run_underlying ht, run_sizeOf he, Instr.sliceBounds, Instr.sureAddr, Addr.add_zero']
theorem fill_one {v : Value} (hl : v.cells.toList.length = sz) (hz : zs.length = sz) : fillL (fun i => some (i * sz, sz)) (initL zs 1) [(0, v)] = some v.cells.toList := by
  have h1 : (initL zs 1).length = sz := by rw [initL_length, Nat.one_mul, hz]
  simp only [fillL, Nat.zero_mul]
  rw [decide_eq_true hl, decide_eq_true (by omega)]
  simp only [putAt, Nat.zero_add]
  congr 1
  rw [List.take_zero, List.nil_append, List.drop_of_length_le (by omega), List.append_nil]
end laws

/-! ### Rows that a call may turn -/
def bl (es : List Ent) : List Nat := es.filterMap (·.1)
theorem Hp.here {w0 w : World} {S : List Nat} {es : List Ent} (H : Hp w0 w S es) : Hp w w (bl es) es := by
  refine ⟨rfl, rfl, rfl, Nat.le_refl _, fun _ _ _ => rfl, ?_, H.apart⟩
  intro i e he
  have h := H.ent i e he
  unfold EntOk at h ⊢
  split
  · rename_i hn; rw [hn] at h; exact h
  · rename_i g hg
    rw [hg] at h
    exact ⟨h.1, .inl (List.mem_filterMap.2 ⟨e, List.mem_of_getElem? he, hg⟩)⟩
theorem bl_at {es es' : List Ent} {is : List Nat} (h : es' = is.map fun i => es.getD i (none, 0, [])) : ∀ b ∈ bl es', ∃ i ∈ is, ∃ T cs, es[i]? = some (some b, T, cs) := by
  intro b hb
  subst h
  obtain ⟨e, he, hg⟩ := List.mem_filterMap.1 hb
  obtain ⟨i, hi, rfl⟩ := List.mem_map.1 he
  refine ⟨i, hi, ?_⟩
  cases h : es[i]? with
  | none => rw [List.getD_eq_getElem?_getD, h] at hg; simp at hg
  | some x =>
    rw [List.getD_eq_getElem?_getD, h] at hg
    obtain ⟨a, T, cs⟩ := x
    simp at hg
    exact ⟨T, cs, by rw [hg]⟩
/-- A call that may turn these rows, and tells them anew. -/
theorem Hp.callr {w0 w w' : World} {S : List Nat} {es es1 es2 : List Ent} (H : Hp w0 w S es) (is : List Nat) (h1 : es1 = is.map fun i => es.getD i (none, 0, [])) (H' : Hp w w' (bl es1) es2) : Hp w0 w' S (kill es is ++ es2) := H.call H' is (bl_at h1)

/-! ### A disk -/
abbrev Blk := List UInt8
structure Dk where
  kept : List Blk
  wait : List (Nat × Blk)
  down : Bool
  armed : Nat
def kc (ks : List Blk) : List Value := ks.flatMap u8s
def wcell (p : Nat × Blk) : List Value := .int .i64 (p.1 : Int) :: u8s p.2
def wc (ws : List (Nat × Blk)) : List Value := ws.flatMap wcell
@[reducible] def dcells (gk : Nat) (gw : Option Nat) (n m cw : Nat) (dn : Bool) (ar : Nat) : List Value := [.slice (some ⟨gk, 0, none⟩) n n, .slice (hd gw) m cw, .bool dn, .int .i64 (ar : Int)]
@[reducible] def dRows (gd gk : Nat) (gw : Option Nat) (cw : Nat) (sp : List Value) (D : Dk) : List Ent :=
  [(some gd, 57, dcells gk gw D.kept.length D.wait.length cw D.down D.armed), (some gk, 59, kc D.kept), (gw, 61, wc D.wait ++ sp)]
structure DOk (D : Dk) (gw : Option Nat) (cw : Nat) (sp : List Value) : Prop where
  pos : 0 < D.kept.length
  most : D.kept.length ≤ 16384
  k64 : ∀ b ∈ D.kept, b.length = 64
  w64 : ∀ p ∈ D.wait, p.2.length = 64 ∧ p.1 < D.kept.length
  wcap : D.wait.length ≤ cw
  cap : cw * 65 ≤ (wc D.wait ++ sp).length
  nil : gw = none → cw = 0
  armed : D.armed < 2 ^ 62
/-- The disk stands there. -/
def DPost (w0 w' : World) (S : List Nat) (gd gk : Nat) (D : Dk) : Prop := ∃ gw cw sp, DOk D gw cw sp ∧ Hp w0 w' S (dRows gd gk gw cw sp D)
theorem kc_length {ks : List Blk} (h : ∀ b ∈ ks, b.length = 64) : (kc ks).length = ks.length * 64 := by
  induction ks with
  | nil => rfl
  | cons b ks ih =>
    have h1 := h b (by simp)
    have h2 := ih fun b hb => h b (List.mem_cons_of_mem _ hb)
    simp only [kc, List.flatMap_cons, List.length_append, List.length_cons, u8s_length] at h2 ⊢
    omega
theorem wc_length {ws : List (Nat × Blk)} {n : Nat} (h : ∀ p ∈ ws, p.2.length = 64 ∧ p.1 < n) : (wc ws).length = ws.length * 65 := by
  induction ws with
  | nil => rfl
  | cons b ks ih =>
    have h1 := (h b (by simp)).1
    have h2 := ih fun b hb => h b (List.mem_cons_of_mem _ hb)
    simp only [wc, wcell, List.flatMap_cons, List.length_append, List.length_cons, u8s_length] at h2 ⊢
    omega
theorem wc_append (a b : List (Nat × Blk)) : wc (a ++ b) = wc a ++ wc b := by simp [wc]
theorem wc_one' (ws : List (Nat × Blk)) : (wc ws).all (·.oneCell') = true := by
  simp only [wc, List.all_flatMap, List.all_eq_true]
  intro p _ x hx
  rcases List.mem_cons.1 hx with rfl | h
  · rfl
  · exact List.all_eq_true.1 (u8s_one' _) x h
def zero64 : Blk := List.replicate 64 0
theorem kc_zero (n : Nat) : kc (List.replicate n zero64) = initL (u8s zero64) n := by simp [kc, initL, List.flatMap]
/-- What waits reads. -/
theorem build_write {zs : List Value} (h : zs.length = 65) {n : Nat} {b : Blk} (hb : b.length = 64) :
    fillL (fun i => [(0, 1), (1, 64)][i]?) zs [(0, .int .i64 (n : Int)), (1, .agg (u8s b).toArray)] = some (wcell (n, b)) := by
  have e1 : (Value.int .i64 (n : Int)).cells.toList = [.int .i64 (n : Int)] := rfl
  have e2 : (Value.agg (u8s b).toArray).cells.toList = u8s b := by simp [Value.cells]
  simp only [fillL, List.getElem?_cons_zero, List.getElem?_cons_succ, e1, e2]
  have h1 : (putAt zs 0 [Value.int .i64 (n : Int)]).length = 65 := by simp [putAt, h]
  rw [decide_eq_true (by rfl), decide_eq_true (by simp [h])]
  simp only
  rw [decide_eq_true (by rw [u8s_length, hb]), decide_eq_true (by rw [h1, u8s_length, hb]; decide)]
  simp only
  congr 1
  simp only [putAt, wcell, List.length_cons, List.length_nil]
  rw [List.take_zero, List.nil_append, List.take_append_of_le_length (by simp), List.take_of_length_le (by simp), List.drop_of_length_le (by simp [h, u8s_length, hb])]
  simp
def blockOf (f : UInt8) : Blk := (List.range 64).map fun i => f + UInt8.ofNat i
theorem blockOf_length (f : UInt8) : (blockOf f).length = 64 := by simp [blockOf]
theorem blockOf_get (f : UInt8) {i : Nat} (h : i < 64) : (blockOf f)[i]? = some (f + UInt8.ofNat i) := by simp [blockOf, h]
theorem blockOf_snoc (f : UInt8) {q : Nat} (h : q < 64) : (u8s ((blockOf f).take q) ++ List.replicate (64 - q) (Value.int .u8 0)).set q (.int .u8 ((f + UInt8.ofNat q).toNat : Int)) = u8s ((blockOf f).take (q + 1)) ++ List.replicate (64 - (q + 1)) (Value.int .u8 0) := by
  have hl : (u8s ((blockOf f).take q)).length = q := by rw [u8s_length, List.length_take, blockOf_length]; omega
  rw [List.set_append_right _ _ (by omega), hl, Nat.sub_self, List.take_add_one, blockOf_get f h, u8s_append]
  obtain ⟨m, hm⟩ : ∃ m, 64 - q = m + 1 := ⟨63 - q, by omega⟩
  have hm2 : 64 - (q + 1) = m := by omega
  rw [hm, hm2, List.replicate_succ, List.set_cons_zero, List.append_assoc]
  rfl
theorem add8 (f : UInt8) (q : Nat) : IntKind.u8.wrap ((f.toNat : Int) + ((q % 256 : Nat) : Int)) = ((f + UInt8.ofNat q).toNat : Int) := by
  rw [IntKind.wrap_u8, UInt8.toNat_add, UInt8.toNat_ofNat']
  omega
/-- A write that comes; a barrier. -/
def Dk.hit (D : Dk) : Dk × Bool := if D.armed < 1 then (D, false) else ({ D with armed := D.armed - 1 }, decide (D.armed - 1 = 0))
theorem DOk.hit {D : Dk} {gw : Option Nat} {cw : Nat} {sp : List Value} (h : DOk D gw cw sp) : DOk D.hit.1 gw cw sp := by
  obtain ⟨h1, h2, h3, h4, h5, h6, h7, h8⟩ := h
  unfold Dk.hit
  split
  · exact ⟨h1, h2, h3, h4, h5, h6, h7, h8⟩
  · exact ⟨h1, h2, h3, h4, h5, h6, h7, by show D.armed - 1 < 2 ^ 62; omega⟩
theorem DOk.fall {D : Dk} {gw : Option Nat} {cw : Nat} {sp : List Value} (h : DOk D gw cw sp) (x : Bool) : DOk { D with down := x } gw cw sp :=
  ⟨h.1, h.2, h.3, h.4, h.5, h.6, h.7, h.8⟩
/-- A write. -/
def Dk.put (D : Dk) (n : Nat) (b : Blk) : Dk := { D with wait := D.wait ++ [(n, b)] }
def Dk.write (D : Dk) (a : Int) (b : Blk) : Dk × Nat :=
  if D.down = true then (D, 40) else if a < 0 ∨ (D.kept.length : Int) ≤ a then (D, 41) else if b.length ≠ 64 then (D, 1)
  else if (D.put a.toNat b).hit.2 = true then ({ (D.put a.toNat b).hit.1 with down := true }, 40) else ((D.put a.toNat b).hit.1, 0)
theorem wc_snoc (ws : List (Nat × Blk)) (n : Nat) (b : Blk) : wc (ws ++ [(n, b)]) = wc ws ++ wcell (n, b) := by simp [wc]
theorem wcell_length {n : Nat} {b : Blk} (h : b.length = 64) : (wcell (n, b)).length = 65 := by simp [wcell, u8s_length, h]
theorem wcell_one' (n : Nat) (b : Blk) : (wcell (n, b)).all (·.oneCell') = true := by
  have := wc_one' [(n, b)]
  rwa [show wc [(n, b)] = wcell (n, b) from List.append_nil _] at this
/-- Behind a call that told these rows anew. -/
theorem DPost.of {w0 w w' : World} {S : List Nat} {gd gk : Nat} {gw : Option Nat} {cw : Nat} {sp : List Value} {D D' : Dk} (H : Hp w0 w S (dRows gd gk gw cw sp D)) (h : DPost w w' (bl (dRows gd gk gw cw sp D)) gd gk D') : DPost w0 w' S gd gk D' := by
  obtain ⟨g, c, s, ho, h⟩ := h
  exact ⟨g, c, s, ho, (H.callr [0, 1, 2] rfl h).pick [3, 4, 5] (by decide)⟩
/-- A row that stands beside these. -/
theorem sep_of {w0 w : World} {S : List Nat} {es es1 : List Ent} (H : Hp w0 w S es) (i : Nat) (is : List Nat) {g : Option Nat} {T : TypeId} {cs : List Value} (he : es[i]? = some (g, T, cs)) (h1 : es1 = is.map fun j => es.getD j (none, 0, [])) (hi : i ∉ is) : ∀ p, hd g = some p → p.block ∉ bl es1 := by
  intro p hp hb
  obtain ⟨j, hj, T', cs', hj2⟩ := bl_at h1 _ hb
  cases g with
  | none => simp [hd] at hp
  | some x =>
    simp only [hd, Option.map_some, Option.some.injEq] at hp
    subst hp
    have := H.apart i j _ _ x he hj2 rfl rfl
    subst this
    exact hi hj
end Go.Proofs.Ytnlajgeehlpdaaa
