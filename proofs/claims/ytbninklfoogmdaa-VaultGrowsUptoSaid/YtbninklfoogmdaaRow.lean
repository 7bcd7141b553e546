/-
  General laws on rows: calls that turn some of them, lists that grow, copies.
-/
import Derived.Test.YtbninklfoogmdaaKit
import Derived.Test.YtbninklfoogmdaaMid
import Derived.Laws.CopyRow
import Derived.Laws.StructEq
import Derived.Laws.ResultCell
import Derived.Lib.AppendZerosOnto
import Derived.Lib.Overlaps
import Derived.Lib.Bytealg
import Derived.MapKept
import Derived.Laws.Externs
namespace Go.Proofs.Ytbninklfoogmdaa
open Go Go.RowKit
abbrev Blk := List UInt8
def bl (es : List Ent) : List Nat := es.filterMap (·.1)
theorem Hp.here {w0 w : World} {S : List Nat} {es : List Ent} (H : Hp w0 w S es) : Hp w w (bl es) es := by
  refine ⟨rfl, rfl, rfl, Nat.le_refl _, fun _ _ _ => rfl, ?_, H.apart⟩
  intro i e he
  have h := H.ent i e he
  unfold EntOk at h ⊢
  split
  · rename_i hn; rw [hn] at h; exact h
  · rename_i g hg
    rw [hg] at h
    exact ⟨h.1, .inl (List.mem_filterMap.2 ⟨e, List.mem_of_getElem? he, hg⟩)⟩
theorem bl_at {es es' : List Ent} {is : List Nat} (h : es' = is.map fun i => es.getD i (none, 0, [])) : ∀ b ∈ bl es', ∃ i ∈ is, ∃ T cs, es[i]? = some (some b, T, cs) := by
  intro b hb
  subst h
  obtain ⟨e, he, hg⟩ := List.mem_filterMap.1 hb
  obtain ⟨i, hi, rfl⟩ := List.mem_map.1 he
  refine ⟨i, hi, ?_⟩
  cases h : es[i]? with
  | none => rw [List.getD_eq_getElem?_getD, h] at hg; simp at hg
  | some x =>
    rw [List.getD_eq_getElem?_getD, h] at hg
    obtain ⟨a, T, cs⟩ := x
    simp at hg
    exact ⟨T, cs, by rw [hg]⟩
theorem fresh_at {w0 w : World} {S : List Nat} {es : List Ent} (H : Hp w0 w S es) (i : Nat) {g : Option Nat} {T : TypeId} {cs : List Value} (he : es[i]? = some (g, T, cs)) (ha : ∀ p, hd g = some p → p.block ∉ S) : ∀ p, hd g = some p → w0.heap.size ≤ p.block := by
  intro p hp
  cases g with
  | none => simp [hd] at hp
  | some x =>
    have h2 := ha p hp
    simp only [hd, Option.map_some, Option.some.injEq] at hp
    subst hp
    rcases H.place he with h | h
    · exact absurd h h2
    · exact h
theorem addn (b o n : Nat) : (⟨b, o, none⟩ : Addr).add n = ⟨b, o + n, none⟩ := by
  unfold Addr.add
  split
  · rename_i h; rw [h]; rfl
  · rfl
theorem kill_length : ∀ (is : List Nat) (es : List Ent), (kill es is).length = es.length
  | [], _ => rfl
  | i :: is, es => by simp [kill, kill_length is es]
theorem kill_not : ∀ (is : List Nat) (es : List Ent) (j : Nat), j ∉ is → (kill es is)[j]? = es[j]?
  | [], _, _, _ => rfl
  | i :: is, es, j, h => by
    simp only [kill]
    rw [List.getElem?_set_ne (fun e => h (by simp [e])), kill_not is es j (fun hh => h (List.mem_cons_of_mem _ hh))]
theorem bl_append (a b : List Ent) : bl (a ++ b) = bl a ++ bl b := by simp [bl]
theorem Hp.callr {w0 w w' : World} {S : List Nat} {es es1 es2 : List Ent} (H : Hp w0 w S es) (is : List Nat) (h1 : es1 = is.map fun i => es.getD i (none, 0, [])) (H' : Hp w w' (bl es1) es2) : Hp w0 w' S (kill es is ++ es2) := H.call H' is (bl_at h1)
section
variable {w0 w w' : World} {S S' : List Nat} {es es' es1 es2 R : List Ent}
theorem Hp.sub (H : Hp w0 w S es) (φ : Nat → Nat) (h : ∀ i e, es'[i]? = some e → es[φ i]? = some e ∨ (e.1 = none ∧ e.2.2 = [])) (hinj : ∀ i j, i < es'.length → j < es'.length → φ i = φ j → i = j) : Hp w0 w S es' := by
  refine ⟨H.os, H.tape, H.output, H.size, H.frame, ?_, ?_⟩
  · intro i e he
    rcases h i e he with h1 | ⟨h1, h2⟩
    · exact H.ent _ e h1
    · unfold EntOk; rw [h1]; exact h2
  · intro i j e f g hi hj he hf
    rcases h i e hi with h1 | ⟨h1, _⟩
    · rcases h j f hj with h2 | ⟨h2, _⟩
      · exact hinj i j (lt_of_get hi) (lt_of_get hj) (H.apart _ _ e f g h1 h2 he hf)
      · rw [h2] at hf; cases hf
    · rw [h1] at he; cases he
theorem Hp.less (H : Hp w0 w S (es ++ R)) : Hp w0 w S es :=
  H.sub id (fun i e he => .inl (by rw [id, List.getElem?_append_left (lt_of_get he)]; exact he)) (fun _ _ _ _ h => h)
theorem Hp.front (H : Hp w0 w S (es1 ++ R)) (H' : Hp w w' (bl es1) es2) : Hp w0 w' S (es2 ++ R) := by
  have hS : ∀ b ∈ bl es1, ∃ i ∈ List.range es1.length, ∃ T cs, (es1 ++ R)[i]? = some (some b, T, cs) := by
    intro b hb
    obtain ⟨⟨g, T, cs⟩, he, hg⟩ := List.mem_filterMap.1 hb
    obtain ⟨i, hi⟩ := List.getElem?_of_mem he
    have hlt := lt_of_get hi
    simp only at hg
    subst hg
    exact ⟨i, List.mem_range.2 hlt, T, cs, by rw [List.getElem?_append_left hlt]; exact hi⟩
  have hC := H.call H' (List.range es1.length) hS
  have hlen : (kill (es1 ++ R) (List.range es1.length)).length = es1.length + R.length := by rw [kill_length]; simp
  refine hC.sub (fun i => if i < es2.length then es1.length + R.length + i else es1.length + (i - es2.length)) ?_ ?_
  · intro i e he
    split
    · rename_i h
      left
      rw [List.getElem?_append_right (by omega), hlen, Nat.add_sub_cancel_left]
      rwa [List.getElem?_append_left h] at he
    · rename_i h
      left
      rw [List.getElem?_append_right (by omega)] at he
      have := lt_of_get he
      rw [List.getElem?_append_left (by omega), kill_not _ _ _ (by simp), List.getElem?_append_right (by omega), Nat.add_sub_cancel_left]
      exact he
  · intro i j hi hj h
    simp only [List.length_append] at hi hj
    split at h <;> split at h <;> omega
theorem Hp.all (HB : Hp w0 w S es) (H : Hp w w' (bl es) es') : Hp w0 w' S es' := by
  have := Hp.front (R := []) (by simpa using HB) H
  simpa using this
theorem apart_new (H : Hp w0 w S es) (H' : Hp w w' [] es2) {i : Nat} {g : Option Nat} {T : TypeId} {cs : List Value} (he : es2[i]? = some (g, T, cs)) : ∀ p, hd g = some p → p.block ∉ bl es := by
  intro p hp hb
  have h1 := fresh_at H' i he (by simp) p hp
  obtain ⟨⟨g2, T2, cs2⟩, hm, hg⟩ := List.mem_filterMap.1 hb
  obtain ⟨j, hj⟩ := List.getElem?_of_mem hm
  simp only at hg
  subst hg
  have := H.lt hj
  omega
theorem bl_left {b : Nat} (hb : b ∈ bl es1) : b ∈ bl (es1 ++ R) := by rw [bl_append]; exact List.mem_append_left _ hb
theorem Hp.allocAny (H : Hp w0 w S es) (o : Obj) : Hp w0 (w.alloc o) S es := by
  refine ⟨H.os, H.tape, H.output, ?_, ?_, ?_, H.apart⟩
  · have := H.size; simp; omega
  · intro k hk hS
    rw [heap_alloc_old w _ (by have := H.size; omega)]
    exact H.frame k hk hS
  · intro i e he
    have h := H.ent i e he
    unfold EntOk at h ⊢
    split
    · rename_i hn; rw [hn] at h; exact h
    · rename_i g hg
      rw [hg] at h
      exact ⟨by rw [heap_alloc_old w _ (H.ent_lt he hg)]; exact h.1, h.2⟩
theorem row_apart (H : Hp w0 w S (es1 ++ R)) {i : Nat} {g : Option Nat} {T : TypeId} {cs : List Value} (he : R[i]? = some (g, T, cs)) : ∀ p, hd g = some p → p.block ∉ bl es1 := by
  intro p hp hb
  obtain ⟨⟨g2, T2, cs2⟩, hm, hg⟩ := List.mem_filterMap.1 hb
  obtain ⟨j, hj⟩ := List.getElem?_of_mem hm
  simp only at hg
  subst hg
  cases g with
  | none => simp [hd] at hp
  | some x =>
    simp only [hd, Option.map_some, Option.some.injEq] at hp
    subst hp
    have hjl := lt_of_get hj
    have := H.apart j (es1.length + i) _ _ x (by rw [List.getElem?_append_left hjl]; exact hj) (by rw [List.getElem?_append_right (by omega), Nat.add_sub_cancel_left]; exact he) rfl rfl
    omega
theorem Hp.callN (H : Hp w0 w S es) (H' : Hp w w' [] es2) : Hp w0 w' S es := (H.call0 H').less
end
theorem bl_lt {w0 w : World} {S : List Nat} {es : List Ent} (H : Hp w0 w S es) {b : Nat} (hb : b ∈ bl es) : b < w.heap.size := by
  obtain ⟨⟨g, T, cs⟩, he, hg⟩ := List.mem_filterMap.1 hb
  obtain ⟨i, hi⟩ := List.getElem?_of_mem he
  simp only at hg
  subst hg
  exact H.lt hi
theorem own_some {w0 w : World} {S : List Nat} {es : List Ent} {i : Nat} {g : Option Nat} {T : TypeId} {cs : List Value} (H : Hp w0 w S es) (he : es[i]? = some (g, T, cs)) (h : 0 < cs.length) : ∃ k, g = some k := by
  cases g with
  | some k => exact ⟨k, rfl⟩
  | none =>
    have h1 := H.ent i _ he
    change cs = [] at h1
    subst h1
    cases h
theorem bl_place {w0 w : World} {S : List Nat} {es : List Ent} (H : Hp w0 w S es) : ∀ b ∈ bl es, b ∈ S ∨ w0.heap.size ≤ b := by
  intro b hb
  obtain ⟨e, he, hg2⟩ := List.mem_filterMap.1 hb
  obtain ⟨i, hi⟩ := List.getElem?_of_mem he
  obtain ⟨g', T, cs⟩ := e
  simp only at hg2
  subst hg2
  exact H.place hi
theorem bl_cells {w0 w : World} {S : List Nat} {es : List Ent} (H : Hp w0 w S es) : ∀ b ∈ bl es, ∃ arr T z, w.heap[b]? = some (.cells arr T z) := by
  intro b hb
  obtain ⟨e, he, hg2⟩ := List.mem_filterMap.1 hb
  obtain ⟨i, hi⟩ := List.getElem?_of_mem he
  obtain ⟨g', T, cs⟩ := e
  simp only at hg2
  subst hg2
  exact ⟨_, _, _, H.at hi⟩
theorem row_not {w0 w : World} {S : List Nat} {es : List Ent} (H : Hp w0 w S es) {i : Nat} {g : Nat} {T : TypeId} {cs : List Value} (hi : es[i]? = some (some g, T, cs)) {is : List Nat} (hn : i ∉ is) : g ∉ bl (is.map fun j => es.getD j (none, 0, [])) := by
  intro hb
  obtain ⟨j, hj, T', cs', hj2⟩ := bl_at rfl _ hb
  have := H.apart i j _ _ g hi hj2 rfl rfl
  subst this
  exact hn hj
theorem bl_pick {w0 w : World} {S : List Nat} {es : List Ent} {is : List Nat} (_ : Hp w0 w S es) : ∀ p ∈ bl (is.map fun i => es.getD i (none, 0, [])), p ∈ bl es := by
  intro p hp
  obtain ⟨i, _, T, cs, h⟩ := bl_at rfl p hp
  exact List.mem_filterMap.2 ⟨_, List.mem_of_getElem? h, rfl⟩
theorem Hp.drewW (w : World) : Hp w { w with drawn := w.drawn + 1 } [] [] := (Hp.refl w).drew
theorem Hp.noRows {w0 w : World} {S : List Nat} {es : List Ent} (H : Hp w0 w S es) : Hp w0 w S [] := H.pick [] (by simp)
theorem Hp.right {w0 w : World} {S : List Nat} {a b : List Ent} (H : Hp w0 w S (a ++ b)) : Hp w0 w S b := by
  have key : ∀ (i : Nat) (e : Ent), b[i]? = some e → (a ++ b)[a.length + i]? = some e := fun i e h => by rw [List.getElem?_append_right (by omega), Nat.add_sub_cancel_left]; exact h
  refine ⟨H.os, H.tape, H.output, H.size, H.frame, fun i e he => H.ent _ e (key i e he), fun i j e f g hi hj h1 h2 => ?_⟩
  have := H.apart _ _ e f g (key i e hi) (key j f hj) h1 h2
  omega
theorem bl_inr {a b : List Ent} {x : Nat} (h : x ∈ bl b) : x ∈ bl (a ++ b) := by rw [bl_append]; exact List.mem_append.2 (.inr h)
theorem bl_inl {a b : List Ent} {x : Nat} (h : x ∈ bl a) : x ∈ bl (a ++ b) := by rw [bl_append]; exact List.mem_append.2 (.inl h)
theorem Hp.step {w0 w w' : World} {S S2 : List Nat} {es es2 : List Ent} (H : Hp w0 w S es) (H' : Hp w w' S2 es2) (hS : ∀ b ∈ S2, b ∈ S ∨ w0.heap.size ≤ b) : Hp w0 w' S es2 := by
  refine ⟨H'.os.trans H.os, H'.tape.trans H.tape, H'.output.trans H.output, Nat.le_trans H.size H'.size, ?_, ?_, H'.apart⟩
  · intro k hk hkS
    rw [H'.frame k (by have := H.size; omega) (fun hx => by rcases hS k hx with h1 | h1; exact hkS h1; omega)]
    exact H.frame k hk hkS
  · intro i e he
    have h1 := H'.ent i e he
    unfold EntOk at h1 ⊢
    split
    · rename_i hn; rw [hn] at h1; exact h1
    · rename_i g hg
      rw [hg] at h1
      refine ⟨h1.1, ?_⟩
      rcases h1.2 with h2 | h2
      · exact hS g h2
      · exact .inr (Nat.le_trans H.size h2)
section laws
variable {P : Program} {ds : List Deferred} {Q : Post} {K : List Value → World → Prop} {all os : List Oper} {l : List Value} {w0 w w' : World} {S S' : List Nat} {es es' : List Ent} {ty t : TypeId} {pos : String} {af : Array Edge} {d : Tmp} {v : Value} {op : Op}
  {x y : Operand} {zs cs : List Value} {sz bytes : Nat} {agg : Bool}
theorem ex_idxN {e : TypeId} {k : IntKind} {n : Int} (ht : P.underlying t = some (.slice e)) (he : TyOk P e zs sz bytes agg) {b o len c i : Nat} (hx : ev l x = some (.slice (some ⟨b, o, none⟩) len c)) (hy : ev l y = some (.int k n)) (hn : n = (i : Int)) (hi : i < len) :
    Ex P l (.indexAddr t x y) ty w (.value (.pointer (some ⟨b, o + i * sz, none⟩))) w := by
  have h := ex_idx (ty := ty) (w := w) ht he hx hy hn hi rfl
  rwa [addn] at h
theorem ops_makeN {e : TypeId} (ht : P.underlying t = some (.slice e)) (he : TyOk P e zs sz bytes agg) (H : Hp w0 w S es) {k1 k2 : IntKind} {n c : Nat} (hx : ev l x = some (.int k1 n)) (hy : ev l y = some (.int k2 c))
    (hnc : n ≤ c) (hb : bytes * c ≤ 281474976710656) (h63 : c ≤ 9223372036854775807)
    (k : ∀ w' g, Hp w0 w' S (es ++ [(some g, e, initL zs c)]) → g = w.heap.size → Ops P ds all K Q os (l.set d (.slice (hd (some g)) n c)) w') : Ops P ds all K Q (⟨some d, .makeSlice t x y, ty, pos, af, none⟩ :: os) l w := by
  obtain ⟨i, z', d', hi, hz, hzs, hsz, hby, hd', _⟩ := he.ex
  have H' := H.alloc e (initL zs c)
  refine ops_val (w' := w.alloc (.cells (initL zs c).toArray e)) ?_ (k _ _ H' rfl)
  intro _ _ _ _
  have hr := run_make (P := P) w t e i z' ht hi hz k1 k2 n c (by omega) (by omega) (by rw [hby]; omega) (by omega)
  have hc : madeCells z'.cells (c * i.size) = (initL zs c).toArray := by
    have hcl : z'.cells = zs.toArray := by rw [← hzs]
    rw [hsz, ← he.len, hcl, ← init_eq]
    rfl
  simp only [Int.toNat_natCast] at hr
  simp [execOp, rho_of hx, rho_of hy, hr, hc]
theorem fill_one {v : Value} (hl : v.cells.toList.length = sz) (hz : zs.length = sz) : fillL (fun i => some (i * sz, sz)) (initL zs 1) [(0, v)] = some v.cells.toList := by
  have h1 : (initL zs 1).length = sz := by rw [initL_length, Nat.one_mul, hz]
  simp only [fillL, Nat.zero_mul]
  rw [decide_eq_true hl, decide_eq_true (by omega)]
  simp only [putAt, Nat.zero_add]
  congr 1
  rw [List.take_zero, List.nil_append, List.drop_of_length_le (by omega), List.append_nil]
theorem ops_append_new {e : TypeId} (ht : P.underlying t = some (.slice e)) (he : TyOk P e zs sz bytes agg) (H : Hp w0 w S es) {A0 : Option Addr} {n cap : Nat} {xs : List Value} (hx : ev l x = some (.slice A0 n cap)) (hrx : Rd w A0 n sz xs)
    {A : Option Addr} {m c : Nat} {ys : List Value} (hy : ev l y = some (.slice A m c)) (hr : Rd w A m sz ys) (hg : cap < n + m) (h63 : n + m ≤ 9223372036854775807) (hb : (n + m) * bytes ≤ 211106232532992) (hb2 : bytes ≤ 1048576)
    (k : ∀ w' g cap' sp', Hp w0 w' S (es ++ [(some g, e, (xs ++ ys) ++ sp')]) → cap' * sz ≤ ((xs ++ ys) ++ sp').length → n + m ≤ cap' → Ops P ds all K Q os (l.set d (.slice (hd (some g)) (n + m) cap')) w') :
    Ops P ds all K Q (⟨some d, .call { callee := .builtin .append, args := #[x, y], argTypes := #[t, t] }, ty, pos, af, none⟩ :: os) l w := by
  obtain ⟨inf, z, dd, hinf, hz, hzs, rfl, rfl, _, _⟩ := he.ex
  have hzsz : z.cells.size = zs.length := by rw [← hzs]; simp
  have hfit := fits hg hb hb2
  have first : ∀ {A : Option Addr} {n c : Nat} {xs : List Value}, Rd w A n inf.size xs → (Builtin.firstCells inf.size n (.slice A n c)).run P w.drew = .ok xs.toArray w.drew := by
    intro A n c xs hr
    cases A with
    | none =>
      have := hr.nil rfl
      subst this
      have hys : xs = [] := List.eq_nil_of_length_eq_zero (by simpa using hr.len)
      subst hys
      exact run_firstCells_none _ _ _ _ _
    | some a => exact run_firstCells_some _ inf.size n a n c xs hr.len (fun j u hu => hr.cells a rfl j u hu)
  have hfo := first (c := cap) hrx
  have hfc := first (c := c) hr
  have hn' : ¬ (n + m ≤ cap) := by omega
  have h63' : ¬ (9223372036854775807 < ((n : Int) + (m : Int))) := by omega
  have h48' : ¬ (281474976710656 < Builtin.nextslicecap (n + m) cap * inf.bytes) := by omega
  have hge := grownCap_ge w (n + m) cap e
  have hrun : (Builtin.append_ #[t, t] ty #[.slice A0 n cap, .slice A m c]).run P w =
      .ok (.slice (some ⟨w.heap.size, 0, none⟩) (n + m) (grownCap w (n + m) cap e))
        (w.drew.alloc (.cells ((xs ++ ys) ++ (Builtin.zeroCells z.cells (grownCap w (n + m) cap e - (n + m))).toList).toArray e)) := by
    simp [Builtin.append_, run_underlying ht, sizeOf, typeInfo, zeroValue, hinf, hz, Builtin.lenOf, hn', h63', h48', Question.forced, hfc, hfo, newRow, grownCap]
    congr 2
    apply Array.ext'
    simp
  have H2 := (H.drew).alloc e ((xs ++ ys) ++ (Builtin.zeroCells z.cells (grownCap w (n + m) cap e - (n + m))).toList)
  refine ops_val (w' := w.drew.alloc (.cells ((xs ++ ys) ++ (Builtin.zeroCells z.cells (grownCap w (n + m) cap e - (n + m))).toList).toArray e)) ?_ (k _ _ _ _ H2 ?_ hge)
  · intro _ _ _ _
    simp [execOp, resolve, invoke, builtin, rho_of hx, rho_of hy, hrun]
  · simp only [List.length_append, hrx.len, hr.len, Array.length_toList, Builtin.zeroCells, Array.size_map, Array.size_range]
    rw [hzsz, he.len, ← Nat.add_mul, ← Nat.add_mul]
    exact Nat.mul_le_mul_right _ (by omega)
theorem putAt_all {cs vs : List Value} (h : cs.length = vs.length) : putAt cs 0 vs = vs := by
  simp [putAt, h]
theorem cells_of {w0 w : World} {S : List Nat} {es : List Ent} {i g o : Nat} {T : TypeId} {cs vs : List Value} (H : Hp w0 w S es) (he : es[i]? = some (some g, T, cs)) (h : ∀ j u, vs[j]? = some u → cs[o + j]? = some u) : ∀ j u, vs[j]? = some u → w.cell? ((⟨g, o, none⟩ : Addr).add j) = some u := by
  intro j u hu
  have e : (⟨g, o, none⟩ : Addr).add j = ⟨g, o + j, none⟩ := by
    unfold Addr.add
    split
    · rename_i h0; rw [h0]; rfl
    · rfl
  rw [e]
  exact H.cell he (h j u hu)
theorem u64_nat (z : Int) : ∃ u : Nat, IntKind.u64.wrap z = (u : Int) := ⟨(IntKind.u64.wrap z).toNat, by rw [IntKind.wrap_u64]; omega⟩
theorem tmodN (a b : Nat) : ((a : Int)).tmod (b : Int) = ((a % b : Nat) : Int) := rfl
end laws
section
variable {P : Program} {fn : Func} {l : List Value} {w w0 : World} {R : Value → World → Prop} {zs : List Value} {sz bytes : Nat}
theorem fin_cell {r1 : Tmp} {ty : TypeId} (hr : fn.results = #[.cell r1 ty]) (ht : TyOk P ty zs sz bytes true) {g : Nat} {cs : List Value} (h1 : nth l r1 = some (.pointer (some ⟨g, 0, none⟩))) (hl : cs.length = sz) (hc : ∀ j u, cs[j]? = some u → w.cell? ((⟨g, 0, none⟩ : Addr).add j) = some u) (h : R (.agg cs.toArray) w) : fin P fn R .ret l w := by
  refine ⟨.agg cs.toArray, ?_, h⟩
  have hl2 := run_loadVarN (P := P) (w := w) ht hl hc
  have hp : l[r1]? = some (.pointer (some ⟨g, 0, none⟩)) := by rw [← nth_eq]; exact h1
  simp [results, hr, hp, asAddr, hl2]
theorem fin_cell_tmp {r1 r2 : Tmp} {ty : TypeId} (hr : fn.results = #[.cell r1 ty, .tmp r2]) (ht : TyOk P ty zs sz bytes true) {g : Nat} {cs : List Value} {v2 : Value} (h1 : nth l r1 = some (.pointer (some ⟨g, 0, none⟩))) (h2 : nth l r2 = some v2) (hl : cs.length = sz) (hc : ∀ j u, cs[j]? = some u → w.cell? ((⟨g, 0, none⟩ : Addr).add j) = some u)
    (h : R (.tuple #[.agg cs.toArray, v2]) w) : fin P fn R .ret l w := by
  refine ⟨.tuple #[.agg cs.toArray, v2], ?_, h⟩
  have hl2 := run_loadVarN (P := P) (w := w) ht hl hc
  have hp : l[r1]? = some (.pointer (some ⟨g, 0, none⟩)) := by rw [← nth_eq]; exact h1
  rw [results_cell_tmp hr]
  rw [getD_of h1, getD_of h2]
  simp [asAddr, hl2]
end
/-- Some cells of a row, from a place on. -/
theorem Hp.cellsR {w0 w : World} {S : List Nat} {es : List Ent} {i g o : Nat} {T : TypeId} {cs us : List Value} (H : Hp w0 w S es) (he : es[i]? = some (some g, T, cs)) (hs : (cs.drop o).take us.length = us) : ∀ j u, us[j]? = some u → w.cell? ((⟨g, o, none⟩ : Addr).add j) = some u :=
  cells_of H he fun j u hu => by
    rw [← hs, List.getElem?_take] at hu
    split at hu
    · rwa [List.getElem?_drop] at hu
    · cases hu

/-! ### Elements of some cells each -/
def Pl (sz : Nat) (ps : List (List Value)) : Prop := ∀ p ∈ ps, p.length = sz
section
variable {sz i : Nat} {ps qs : List (List Value)} {p q : List Value}
theorem Pl.nil (sz : Nat) : Pl sz [] := fun _ h => by cases h
theorem Pl.at (h : Pl sz ps) (hi : ps[i]? = some p) : p.length = sz := h p (List.mem_of_getElem? hi)
theorem Pl.tail (h : Pl sz (p :: ps)) : Pl sz ps := fun x hx => h x (List.mem_cons_of_mem _ hx)
theorem Pl.sub (h : Pl sz ps) (hs : ∀ x ∈ qs, x ∈ ps) : Pl sz qs := fun x hx => h x (hs x hx)
theorem Pl.app (h : Pl sz ps) (h2 : Pl sz qs) : Pl sz (ps ++ qs) := fun x hx => (List.mem_append.1 hx).elim (h x) (h2 x)
theorem Pl.one (h : p.length = sz) : Pl sz [p] := fun x hx => by rw [List.mem_singleton.1 hx]; exact h
theorem Pl.len : ∀ {ps : List (List Value)}, Pl sz ps → ps.flatten.length = ps.length * sz
  | [], _ => by simp
  | p :: ps, h => by
    rw [List.flatten_cons, List.length_append, h p (by simp), Pl.len h.tail, List.length_cons, Nat.add_mul]; omega
theorem Pl.drop_ : ∀ {ps : List (List Value)} (i : Nat), Pl sz ps → ps.flatten.drop (i * sz) = (ps.drop i).flatten
  | ps, 0, _ => by simp
  | [], i + 1, _ => by simp
  | p :: ps, i + 1, h => by
    rw [List.flatten_cons, List.drop_succ_cons, ← Pl.drop_ i h.tail, show (i + 1) * sz = p.length + i * sz by rw [h p (by simp), Nat.add_mul]; omega, ← List.drop_drop, List.drop_left]
theorem Pl.take_ : ∀ {ps : List (List Value)} (i : Nat), Pl sz ps → ps.flatten.take (i * sz) = (ps.take i).flatten
  | ps, 0, _ => by simp
  | [], i + 1, _ => by simp
  | p :: ps, i + 1, h => by
    rw [List.flatten_cons, List.take_succ_cons, List.flatten_cons, ← Pl.take_ i h.tail, show (i + 1) * sz = p.length + i * sz by rw [h p (by simp), Nat.add_mul]; omega, List.take_append, Nat.add_sub_cancel_left, List.take_of_length_le (by omega)]
theorem Pl.part (h : Pl sz ps) (hi : ps[i]? = some p) : (ps.flatten.drop (i * sz)).take sz = p := by
  obtain ⟨hl, rfl⟩ := List.getElem?_eq_some_iff.1 hi
  rw [Pl.drop_ i h, List.drop_eq_getElem_cons hl, List.flatten_cons, ← h.at hi, List.take_left]
theorem Pl.get (h : Pl sz ps) (hi : ps[i]? = some p) {j : Nat} {u : Value} (hu : p[j]? = some u) : ps.flatten[i * sz + j]? = some u := by
  rw [← List.getElem?_drop]
  rw [← h.part hi, List.getElem?_take] at hu
  split at hu
  · exact hu
  · cases hu
theorem Pl.set_ (h : Pl sz ps) (hi : i < ps.length) (hq : q.length = sz) : putAt ps.flatten (i * sz) q = (ps.set i q).flatten := by
  rw [putAt, h.take_, hq, show i * sz + sz = (i + 1) * sz by rw [Nat.add_mul]; omega, h.drop_, List.set_eq_take_append_cons_drop, if_pos hi, List.flatten_append, List.flatten_cons, List.append_assoc]
theorem Pl.set_len (h : Pl sz ps) (hq : q.length = sz) : Pl sz (ps.set i q) := fun x hx => by
  rcases List.mem_or_eq_of_mem_set hx with hx | rfl
  · exact h x hx
  · exact hq
theorem putAt_left {cs sp vs : List Value} {o : Nat} (h : o + vs.length ≤ cs.length) : putAt (cs ++ sp) o vs = putAt cs o vs ++ sp := by
  unfold putAt
  rw [List.take_append, List.drop_append, show o - cs.length = 0 by omega, show o + vs.length - cs.length = 0 by omega]
  simp
theorem ones_flatten (h : ∀ p ∈ ps, p.all (·.oneCell') = true) : ps.flatten.all (·.oneCell') = true := by
  rw [List.all_eq_true]
  intro x hx
  obtain ⟨p, hp, hxp⟩ := List.mem_flatten.1 hx
  exact List.all_eq_true.1 (h p hp) x hxp
/-- An element, read. -/
theorem Rd.elem {w : World} {a : Addr} {n : Nat} (h : Rd w (some a) n sz ps.flatten) (hp : Pl sz ps) (hi : ps[i]? = some p) : ∀ j u, p[j]? = some u → w.cell? ((a.add (i * sz)).add j) = some u := fun j u hu => by
  rw [add_add]
  exact h.cells a rfl _ u (hp.get hi hu)
theorem Hp.elem {w0 w : World} {S : List Nat} {es : List Ent} {k g : Nat} {T : TypeId} {sp : List Value} (H : Hp w0 w S es) (he : es[k]? = some (some g, T, ps.flatten ++ sp)) (hp : Pl sz ps) (hi : ps[i]? = some p) : ∀ j u, p[j]? = some u → w.cell? (((⟨g, 0, none⟩ : Addr).add (i * sz)).add j) = some u := fun j u hu => by
  rw [add_add, addn, Nat.zero_add]
  exact H.cell he (by
    have h1 := hp.get hi hu
    rw [List.getElem?_append_left (lt_of_get h1)]; exact h1)
end
/-- Things and what they are, one beside the other. -/
def All2 {α β : Type} (R : α → β → Prop) : List α → List β → Prop
  | [], [] => True
  | a :: xs, b :: ys => R a b ∧ All2 R xs ys
  | _, _ => False
section
variable {α β : Type} {R R' : α → β → Prop}
theorem All2.len : ∀ {xs : List α} {ys : List β}, All2 R xs ys → xs.length = ys.length
  | [], [], _ => rfl
  | _ :: _, _ :: _, h => by rw [List.length_cons, List.length_cons, All2.len h.2]
theorem All2.imp (hh : ∀ a b, R a b → R' a b) : ∀ {xs : List α} {ys : List β}, All2 R xs ys → All2 R' xs ys
  | [], [], _ => trivial
  | _ :: _, _ :: _, h => ⟨hh _ _ h.1, All2.imp hh h.2⟩
theorem All2.impm : ∀ {xs : List α} {ys : List β}, (∀ a b, a ∈ xs → b ∈ ys → R a b → R' a b) → All2 R xs ys → All2 R' xs ys
  | [], [], _, _ => trivial
  | a :: xs, b :: ys, hh, h => ⟨hh _ _ (by simp) (by simp) h.1, All2.impm (fun a b ha hb => hh a b (List.mem_cons_of_mem _ ha) (List.mem_cons_of_mem _ hb)) h.2⟩
theorem All2.app : ∀ {xs xs' : List α} {ys ys' : List β}, All2 R xs ys → All2 R xs' ys' → All2 R (xs ++ xs') (ys ++ ys')
  | [], _, [], _, _, h2 => h2
  | _ :: _, _, _ :: _, _, h, h2 => ⟨h.1, All2.app h.2 h2⟩
theorem All2.get : ∀ {xs : List α} {ys : List β} {i : Nat} {b : β}, All2 R xs ys → ys[i]? = some b → ∃ a, xs[i]? = some a ∧ R a b
  | [], [], _, _, _, hi => by simp at hi
  | a :: _, b :: _, 0, _, h, hi => by simp only [List.getElem?_cons_zero, Option.some.injEq] at hi; subst hi; exact ⟨a, rfl, h.1⟩
  | _ :: _, _ :: _, i + 1, _, h, hi => All2.get (i := i) h.2 (by simpa using hi)
theorem All2.getL : ∀ {xs : List α} {ys : List β} {i : Nat} {a : α}, All2 R xs ys → xs[i]? = some a → ∃ b, ys[i]? = some b ∧ R a b
  | [], [], _, _, _, hi => by simp at hi
  | _ :: _, b :: _, 0, _, h, hi => by simp only [List.getElem?_cons_zero, Option.some.injEq] at hi; subst hi; exact ⟨b, rfl, h.1⟩
  | _ :: _, _ :: _, i + 1, _, h, hi => All2.getL (i := i) h.2 (by simpa using hi)
theorem All2.take : ∀ {xs : List α} {ys : List β} (i : Nat), All2 R xs ys → All2 R (xs.take i) (ys.take i)
  | _, _, 0, _ => by simp [All2]
  | [], [], _ + 1, _ => trivial
  | _ :: _, _ :: _, i + 1, h => ⟨h.1, All2.take i h.2⟩
theorem All2.drop : ∀ {xs : List α} {ys : List β} (i : Nat), All2 R xs ys → All2 R (xs.drop i) (ys.drop i)
  | _, _, 0, h => h
  | [], [], _ + 1, _ => trivial
  | _ :: _, _ :: _, i + 1, h => All2.drop i h.2
theorem All2.set : ∀ {xs : List α} {ys : List β} (i : Nat) {a : α} {b : β}, All2 R xs ys → R a b → All2 R (xs.set i a) (ys.set i b)
  | [], [], _, _, _, _, _ => trivial
  | _ :: _, _ :: _, 0, _, _, h, h2 => ⟨h2, h.2⟩
  | _ :: _, _ :: _, i + 1, _, _, h, h2 => ⟨h.1, All2.set i h.2 h2⟩
theorem All2.filter {f : α → Bool} {g : β → Bool} (hfg : ∀ a b, R a b → f a = g b) : ∀ {xs : List α} {ys : List β}, All2 R xs ys → All2 R (xs.filter f) (ys.filter g)
  | [], [], _ => trivial
  | a :: xs, b :: ys, h => by
    rw [List.filter_cons, List.filter_cons, hfg a b h.1]
    split
    · exact ⟨h.1, All2.filter hfg h.2⟩
    · exact All2.filter hfg h.2
theorem All2.one {a : α} {b : β} (h : R a b) : All2 R [a] [b] := ⟨h, trivial⟩
theorem All2.nil : All2 R [] [] := trivial
theorem All2.of_get : ∀ {xs : List α} {ys : List β}, xs.length = ys.length → (∀ (i : Nat) (a : α) (b : β), xs[i]? = some a → ys[i]? = some b → R a b) → All2 R xs ys
  | [], [], _, _ => trivial
  | a :: xs, b :: ys, hl, h => ⟨h 0 a b rfl rfl, All2.of_get (xs := xs) (ys := ys) (by simpa using hl) fun i a b ha hb => h (i + 1) a b (by simpa using ha) (by simpa using hb)⟩
end
section laws
variable {P : Program} {ds : List Deferred} {Q : Post} {K : List Value → World → Prop} {all os : List Oper} {l : List Value} {w0 w w' : World} {S S' : List Nat} {es es' : List Ent} {ty t : TypeId} {pos : String} {af : Array Edge} {d : Tmp} {v : Value} {op : Op}
  {x y : Operand} {zs cs : List Value} {sz bytes : Nat} {agg : Bool}
/-- copy, of elements of whatever size. -/
theorem ops_copyN {e : TypeId} (ht : P.underlying t = some (.slice e)) (he : TyOk P e zs sz bytes agg) (H : Hp w0 w S es) (i : Nat) {g o n m dc sc : Nat} {a : Addr} {T : TypeId} {cs vs : List Value} (hx : ev l x = some (.slice (some ⟨g, o, none⟩) n dc)) (hy : ev l y = some (.slice (some a) m sc))
    (hi : es[i]? = some (some g, T, cs)) (hn : vs.length = Nat.min m n * sz) (hsrc : ∀ j u, vs[j]? = some u → w.cell? (a.add j) = some u) (hfit : o + vs.length ≤ cs.length) (h1 : vs.all (·.oneCell') = true)
    (k : ∀ w', Hp w0 w' S (es.set i (some g, T, putAt cs o vs)) → Ops P ds all K Q os (l.set d (.int .i64 ((Nat.min m n : Nat) : Int))) w') :
    Ops P ds all K Q (⟨some d, .call { callee := .builtin .copy, args := #[x, y], argTypes := #[t, t] }, ty, pos, af, none⟩ :: os) l w := by
  obtain ⟨inf, z, dd, hinf, hz, hzs, rfl, hby, _, _⟩ := he.ex
  have hl := run_loadCells_list (P := P) w a vs hsrc
  rw [hn] at hl
  have hst := run_storeCells_at P g o T vs 0 cs.toArray w (H.at hi) (by simpa using hfit) (fun v hv => List.all_eq_true.1 h1 v hv)
  have e1 : (cs.toArray.toList.take (o + 0) ++ vs ++ cs.toArray.toList.drop (o + 0 + vs.length)).toArray = (putAt cs o vs).toArray := by simp [putAt]
  rw [e1] at hst
  refine ops_val (w' := w.setRow g (putAt cs o vs).toArray) ?_ (k _ (H.setRow hi _))
  intro _ _ _ _
  simp [execOp, resolve, invoke, builtin, Builtin.copy_, run_underlying ht, Builtin.lenOf, Builtin.firstCells, sizeOf, typeInfo, hinf, hl, hst, rho_of hx, rho_of hy, goInt]
theorem ops_copyN_none {e : TypeId} (ht : P.underlying t = some (.slice e)) (he : TyOk P e zs sz bytes agg) (H : Hp w0 w S es) (i : Nat) {g o n m dc sc : Nat} {a : Addr} {T : TypeId} {cs vs : List Value} (hx : ev l x = some (.slice (some ⟨g, o, none⟩) n dc)) (hy : ev l y = some (.slice (some a) m sc))
    (hi : es[i]? = some (some g, T, cs)) (hn : vs.length = Nat.min m n * sz) (hsrc : ∀ j u, vs[j]? = some u → w.cell? (a.add j) = some u) (hfit : o + vs.length ≤ cs.length) (h1 : vs.all (·.oneCell') = true)
    (k : ∀ w', Hp w0 w' S (es.set i (some g, T, putAt cs o vs)) → Ops P ds all K Q os l w') :
    Ops P ds all K Q (⟨none, .call { callee := .builtin .copy, args := #[x, y], argTypes := #[t, t] }, ty, pos, af, none⟩ :: os) l w := by
  obtain ⟨inf, z, dd, hinf, hz, hzs, rfl, hby, _, _⟩ := he.ex
  have hl := run_loadCells_list (P := P) w a vs hsrc
  rw [hn] at hl
  have hst := run_storeCells_at P g o T vs 0 cs.toArray w (H.at hi) (by simpa using hfit) (fun v hv => List.all_eq_true.1 h1 v hv)
  have e1 : (cs.toArray.toList.take (o + 0) ++ vs ++ cs.toArray.toList.drop (o + 0 + vs.length)).toArray = (putAt cs o vs).toArray := by simp [putAt]
  rw [e1] at hst
  refine wpList_plain rfl fun K' hK => ?_
  unfold Oper.wp
  rw [rho_eq]
  have hx2 : (execOp (rho l) ⟨none, .call { callee := .builtin .copy, args := #[x, y], argTypes := #[t, t] }, ty, pos, af, none⟩).run P w = .ok (.value (.int .i64 ((Nat.min m n : Nat) : Int))) (w.setRow g (putAt cs o vs).toArray) := by
    simp [execOp, resolve, invoke, builtin, Builtin.copy_, run_underlying ht, Builtin.lenOf, Builtin.firstCells, sizeOf, typeInfo, hinf, hl, hst, rho_of hx, rho_of hy, goInt]
  rw [hx2, Oper.upon_value]
  exact hK _ _ (k _ (H.setRow hi _))
/-- clear of a part of a row. -/
theorem ops_clear {e : TypeId} (ht : P.underlying t = some (.slice e)) (he : TyOk P e zs sz bytes agg) (H : Hp w0 w S es) (i : Nat) {g o n c : Nat} {T : TypeId} {cs : List Value} (hx : ev l x = some (.slice (some ⟨g, o, none⟩) n c))
    (hi : es[i]? = some (some g, T, cs)) (hfit : o + n * sz ≤ cs.length) (h1 : zs.all (·.oneCell') = true)
    (k : ∀ w', Hp w0 w' S (es.set i (some g, T, putAt cs o (initL zs n))) → Ops P ds all K Q os l w') :
    Ops P ds all K Q (⟨none, .call { callee := .builtin .clear, args := #[x], argTypes := #[t] }, ty, pos, af, none⟩ :: os) l w := by
  obtain ⟨z, hz, hr⟩ := run_zeroValue he
  have hlen : zs.length = sz := he.len
  have hzc : z.cells = zs.toArray := by rw [← hz]
  have hil : (initL zs n).length = n * sz := by rw [initL_length, hlen]
  have h1' : ∀ v ∈ initL zs n, v.oneCell' = true := by
    intro v hv
    obtain ⟨q, hq, hvq⟩ := List.mem_flatten.1 hv
    rw [(List.mem_replicate.1 hq).2] at hvq
    exact List.all_eq_true.1 h1 v hvq
  have hst := run_storeCells_at P g o T (initL zs n) 0 cs.toArray w (H.at hi) (by simpa [hil] using hfit) h1'
  have e1 : (cs.toArray.toList.take (o + 0) ++ initL zs n ++ cs.toArray.toList.drop (o + 0 + (initL zs n).length)).toArray = (putAt cs o (initL zs n)).toArray := by simp [putAt]
  rw [e1] at hst
  have hzz : (Builtin.zeroCells z.cells n).toList = initL zs n := by
    rw [hzc]
    have h2 := init_eq zs n
    rw [List.size_toArray] at h2
    unfold Builtin.zeroCells
    rw [List.size_toArray, h2]
  refine wpList_plain rfl fun K' hK => ?_
  unfold Oper.wp
  rw [rho_eq]
  have hx2 : (execOp (rho l) ⟨none, .call { callee := .builtin .clear, args := #[x], argTypes := #[t] }, ty, pos, af, none⟩).run P w = .ok (.value (.tuple #[])) (w.setRow g (putAt cs o (initL zs n)).toArray) := by
    cases n with
    | zero =>
      have h0 : initL zs 0 = [] := by simp [initL]
      have h3 : putAt cs o [] = cs := by simp [putAt]
      have hs := setRow_self w g cs.toArray T (0, 0) (H.at hi)
      rw [h0, h3, hs]
      simp [execOp, resolve, invoke, builtin, Builtin.clear_, run_underlying ht, rho_of hx]
    | succ n =>
      simp [execOp, resolve, invoke, builtin, Builtin.clear_, run_underlying ht, rho_of hx, hr, hzz, hst]
  rw [hx2, Oper.upon_value]
  exact hK _ _ (k _ (H.setRow hi _))
/-- append of make, where there is no room. -/
theorem ops_append0 {e tn : TypeId} {kn kq : IntKind} (ht : P.underlying t = some (.slice e)) (htn : P.underlying tn = some (.int kn)) (he : TyOk P e zs sz bytes agg) (hsz : 0 < sz) (H : Hp w0 w S es) {A0 : Option Addr} {n cap m : Nat} {xs : List Value} (hx : ev l x = some (.slice A0 n cap)) (hrx : Rd w A0 n sz xs)
    (hy : ev l y = some (.int kq (m : Int))) (h0 : 0 < m) (hg : cap < n + m) (h63 : n + m ≤ 9223372036854775807) (hb : (n + m) * bytes ≤ 211106232532992) (hb2 : bytes ≤ 1048576)
    (k : ∀ w' g cap' sp', Hp w0 w' S (es ++ [(some g, e, (xs ++ initL zs m) ++ sp')]) → cap' * sz ≤ ((xs ++ initL zs m) ++ sp').length → n + m ≤ cap' → Ops P ds all K Q os (l.set d (.slice (hd (some g)) (n + m) cap')) w') :
    Ops P ds all K Q (⟨some d, .call { callee := .builtin .append, args := #[x, y], argTypes := #[t, tn] }, ty, pos, af, none⟩ :: os) l w := by
  obtain ⟨inf, z, dd, hinf, hz, hzs, rfl, rfl, _, _⟩ := he.ex
  have hzsz : z.cells.size = zs.length := by rw [← hzs]; simp
  have hlen : zs.length = inf.size := he.len
  have hzc : z.cells = zs.toArray := by rw [← hzs]
  have hfit := fits hg hb hb2
  have hold : (Builtin.firstCells inf.size n (.slice A0 n cap)).run P w.drew = .ok xs.toArray w.drew := by
    cases A0 with
    | none =>
      have hn0 := hrx.nil rfl
      subst hn0
      have hxs : xs = [] := List.eq_nil_of_length_eq_zero (by simpa using hrx.len)
      subst hxs
      exact run_firstCells_none _ _ _ _ _
    | some a => exact run_firstCells_some _ inf.size n a n cap xs hrx.len (fun j u hu => hrx.cells a rfl j u hu)
  have hrun := Lib.run_append_grow_zeros (P := P) w t tn ty e inf z kq kn ht htn hinf hz A0 n cap xs hold m h0 hsz hg (by omega) (Nat.le_trans (Nat.le_trans (Nat.mul_le_mul_right _ (Nat.le_add_left m n)) hb) (by omega)) hfit
  have hge := grownCap_ge w (n + m) cap e
  have hzm : ∀ q, Builtin.zeroCells z.cells q = (initL zs q).toArray := by
    intro q
    rw [hzc]
    have h2 := init_eq zs q
    rw [List.size_toArray] at h2
    unfold Builtin.zeroCells
    rw [List.size_toArray, h2]
  rw [hzm, hzm] at hrun
  have H2 := (Hp.drew H).alloc e ((xs ++ initL zs m) ++ initL zs (grownCap w (n + m) cap e - (n + m)))
  refine ops_val (w' := w.drew.alloc (.cells ((xs ++ initL zs m) ++ initL zs (grownCap w (n + m) cap e - (n + m))).toArray e)) ?_ (k _ w.heap.size (grownCap w (n + m) cap e) (initL zs (grownCap w (n + m) cap e - (n + m))) H2 ?_ hge)
  · intro _ _ _ _
    have e2 : (xs.toArray ++ (initL zs m).toArray ++ (initL zs (grownCap w (n + m) cap e - (n + m))).toArray) = ((xs ++ initL zs m) ++ initL zs (grownCap w (n + m) cap e - (n + m))).toArray := by simp
    rw [e2] at hrun
    simp [execOp, resolve, invoke, builtin, rho_of hx, rho_of hy, hrun]
  · simp only [List.length_append, initL_length, hrx.len, hlen, ← Nat.add_mul]
    exact Nat.mul_le_mul_right _ (by omega)
/-- A call whose answer is a test. -/
theorem ops_call_test {f : FuncId} {args : Array Value} {p : Prop} {_ : Decidable p} {R : World → Prop} (hx : Ex P l op ty w (.enter f args) w) (hc : Does P f args w fun r w' => r = .bool (decide p) ∧ R w')
    (h1 : p → ∀ w', R w' → Ops P ds all K Q os (l.set d (.bool true)) w') (h2 : ¬ p → ∀ w', R w' → Ops P ds all K Q os (l.set d (.bool false)) w') : Ops P ds all K Q (⟨some d, op, ty, pos, af, none⟩ :: os) l w :=
  ops_call_val hx hc fun w' hr => by
    by_cases hp : p
    · rw [decide_eq_true hp]; exact h1 hp w' hr
    · rw [decide_eq_false hp]; exact h2 hp w' hr
theorem ops_call_true {f : FuncId} {args : Array Value} {p : Prop} {_ : Decidable p} {R : World → Prop} (hx : Ex P l op ty w (.enter f args) w) (hc : Does P f args w fun r w' => r = .bool (decide p) ∧ R w')
    (hp : p) (h1 : ∀ w', R w' → Ops P ds all K Q os (l.set d (.bool true)) w') : Ops P ds all K Q (⟨some d, op, ty, pos, af, none⟩ :: os) l w :=
  ops_call_test hx hc (fun _ => h1) fun h => absurd hp h
theorem ops_call_false {f : FuncId} {args : Array Value} {p : Prop} {_ : Decidable p} {R : World → Prop} (hx : Ex P l op ty w (.enter f args) w) (hc : Does P f args w fun r w' => r = .bool (decide p) ∧ R w')
    (hp : ¬ p) (h1 : ∀ w', R w' → Ops P ds all K Q os (l.set d (.bool false)) w') : Ops P ds all K Q (⟨some d, op, ty, pos, af, none⟩ :: os) l w :=
  ops_call_test hx hc (fun h => absurd h hp) fun _ => h1
theorem bt {p : Prop} {_ : Decidable p} (h : p) : Value.bool true = .bool (decide p) := by rw [decide_eq_true h]
theorem bf {p : Prop} {_ : Decidable p} (h : ¬ p) : Value.bool false = .bool (decide p) := by rw [decide_eq_false h]
/-- A call of an entry of the model's own. -/
theorem ops_extern {f : FuncId} {fn : Func} {e : Array Value → Sem Value} {xs : List Operand} {vs : List Value} {ats : Array TypeId} (hf : P.funcs[f]? = some fn) (hname : (fn.name == "runtime.NumGoroutine") = false) (hb : fn.body.isNone = true) (hn : Extern.findNext fn = none) (he : Extern.find fn = some e)
    (hx : evs l xs = some vs) (hr : (e vs.toArray).run P w = .ok v w) (h : Ops P ds all K Q os (l.set d v) w) :
    Ops P ds all K Q (⟨some d, .call { callee := .value (.func f), args := xs.toArray, argTypes := ats }, ty, pos, af, none⟩ :: os) l w := by
  refine ops_val ?_ h
  intro _ _ _ _
  have hq := run_callFunc_extern hf hname hb hn he vs.toArray w
  have hr2 : rho l (.func f) = .func (.func f) #[] #[] := rfl
  simp only [hr, Result.andThen_ok] at hq
  simp [execOp, resolve, Deferred.ofValue, invoke, rhos_of hx, hq, hr2]
/-! Maps: made, and written into; what is in them is not told. -/
theorem Hp.newObj (H : Hp w0 w S es) (o : Obj) : Hp w0 (w.alloc o) S es := H.allocAny o
theorem ops_makeMap (H : Hp w0 w S es) (k : ∀ w' g, Hp w0 w' S es → w'.heap[g]? = some (.map #[] 0) → g = w.heap.size → Ops P ds all K Q os (l.set d (.map (some g))) w') : Ops P ds all K Q (⟨some d, .makeMap t none, ty, pos, af, none⟩ :: os) l w := by
  refine ops_val (w' := w.alloc (.map #[] 0)) ?_ (k _ w.heap.size (H.allocAny _) (heap_alloc_new w _) rfl)
  intro _ _ _ _
  simp [execOp, Instr.makeMap, newObj, Sem.run]
/-- A map, all of whose keys are numbers. -/
def IntMap (w : World) (r : Nat) : Prop := ∃ es clock, w.heap[r]? = some (.map es clock) ∧ ∀ x ∈ es.toList, MapKept.IsKey (.int .i64) x.key
theorem IntMap.not {w : World} {r : Nat} (h : IntMap w r) : ∀ arr T z, w.heap[r]? ≠ some (.cells arr T z) := by
  obtain ⟨es, c, h, _⟩ := h
  intro arr T z h2
  rw [h] at h2
  cases h2
theorem IntMap.new {w : World} {r : Nat} (h : w.heap[r]? = some (.map #[] 0)) : IntMap w r := ⟨_, _, h, fun x hx => by cases hx⟩
theorem IntMap.to {w w' : World} {S : List Nat} {es : List Ent} {r : Nat} (h : IntMap w r) (H : Hp w w' S es) (hr : r ∉ S) : IntMap w' r := by
  obtain ⟨a, c, h1, h2⟩ := h
  exact ⟨a, c, (H.frame r (Array.getElem?_eq_some_iff.1 h1).1 hr).trans h1, h2⟩
theorem Hp.putM (H : Hp w0 w S es) {r : Nat} {o : Obj} (hn : ∀ arr T z, w.heap[r]? ≠ some (.cells arr T z)) (hr : w0.heap.size ≤ r) : Hp w0 { w with heap := w.heap.setIfInBounds r o } S es := by
  refine ⟨H.os, H.tape, H.output, by simpa using H.size, ?_, ?_, H.apart⟩
  · intro k hk hS
    have h1 : ¬ r = k := by omega
    rw [← H.frame k hk hS]
    simp [h1]
  · intro i e he
    have h := H.ent i e he
    unfold EntOk at h ⊢
    split
    · rename_i hg; rw [hg] at h; exact h
    · rename_i g hg
      rw [hg] at h
      have h1 : ¬ r = g := fun hh => hn _ _ _ (by rw [hh]; exact h.1)
      exact ⟨by rw [← h.1]; simp [h1], h.2⟩
theorem ops_mapUpdate {kt et : TypeId} {z : Operand} (hm : P.underlying t = some (.map kt et)) (hd : P.underlying kt = some (.int .i64)) (H : Hp w0 w S es) {r : Nat} {n : Int} (hx : ev l x = some (.map (some r))) (hy : ev l y = some (.int .i64 n)) (hz : ev l z = some v) (hI : IntMap w r) (hr : w0.heap.size ≤ r)
    (k : ∀ w', Hp w0 w' S es → IntMap w' r → w'.heap.size = w.heap.size → Ops P ds all K Q os l w') : Ops P ds all K Q (⟨none, .mapUpdate t x y z, ty, pos, af, none⟩ :: os) l w := by
  obtain ⟨mes, clock, hb, hks⟩ := hI
  have hk : MapKept.IsKey (.int .i64) (.int .i64 n) := rfl
  have key : ∃ o, (Instr.mapUpdate t (.map (some r)) (.int .i64 n) v).run P w = .ok () { w with heap := w.heap.setIfInBounds r o } ∧ IntMap { w with heap := w.heap.setIfInBounds r o } r := by
    rcases MapKept.findNow_spec hk mes.toList 0 hks with ⟨h1, _⟩ | ⟨j, e, h1, h2, h3⟩
    · refine ⟨.map (mes.push { key := .int .i64 n, val := v, born := clock }) (clock + 1), ?_, _, _, (MapKept.heap_set hb).1, ?_⟩
      · simp [Instr.mapUpdate, run_underlying hm, MapKept.run_getObj_map hb, MapKept.run_checkKey hd hk, MapKept.run_findKey hd h1, MapKept.run_setObj_map _ hb, Result.andThen]
      · intro x hx
        simp only [Array.toList_push, List.mem_append, List.mem_singleton] at hx
        rcases hx with hx | rfl
        · exact hks x hx
        · exact hk
    · have hj : mes[j]? = some e := by simpa using h2
      refine ⟨.map (mes.modify j fun e => { e with key := .int .i64 n, val := v }) clock, ?_, _, _, (MapKept.heap_set hb).1, ?_⟩
      · simp [Instr.mapUpdate, run_underlying hm, MapKept.run_getObj_map hb, MapKept.run_checkKey hd hk, MapKept.run_findKey hd h1, hj, h3, MapKept.run_keyThatStays hk, MapKept.run_setObj_map _ hb, Result.andThen]
      · intro x hx
        obtain ⟨i, hi⟩ := List.getElem?_of_mem hx
        rw [Array.getElem?_toList, Array.getElem?_modify] at hi
        split at hi
        · cases h5 : mes[i]? with
          | none => rw [h5] at hi; cases hi
          | some y => rw [h5] at hi; simp only [Option.map_some, Option.some.injEq] at hi; subst hi; exact hk
        · exact hks x (by rw [Array.mem_toList_iff]; exact Array.mem_of_getElem? hi)
  obtain ⟨o, hrun, hI2⟩ := key
  refine ops_skip ?_ (k _ (H.putM (fun arr T z h => by rw [hb] at h; cases h) hr) hI2 (by simp))
  intro _ _ _ _
  simp [execOp, rho_of hx, rho_of hy, rho_of hz, hrun]
/-! Equality of structs of whatever cells is told by the kit at a struct's own type: here of two numbers. -/
end laws
end Go.Proofs.Ytbninklfoogmdaa
