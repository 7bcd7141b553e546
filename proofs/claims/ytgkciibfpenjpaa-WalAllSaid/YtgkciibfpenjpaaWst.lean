/-
  A log over a disk: how it lies in memory.
-/
import Derived.Test.YtgkciibfpenjpaaWal
namespace Go.Proofs.Ytgkciibfpenjpaa
open Go Go.RowKit
/-! ### Lists of bytes, empty ones too -/
def Lsw (w : World) (es : List Ent) (xs : List Value) (bs : List Blk) : Prop :=
  xs.length = bs.length ∧ ∀ i (h : i < bs.length), ∃ (B : Option Addr) (c : Nat), xs[i]? = some (.slice B bs[i].length c) ∧ Rd w B bs[i].length 1 (u8s bs[i]) ∧ (0 < bs[i].length → ∀ p, B = some p → p.block ∉ bl es)
theorem Rd.empty {w w' : World} {B : Option Addr} {n : Nat} {xs : List Value} (h : Rd w B n 1 xs) (h0 : n = 0) : Rd w' B n 1 xs := by
  subst h0
  have hx : xs = [] := List.eq_nil_of_length_eq_zero (by simpa using h.len)
  subst hx
  exact ⟨rfl, by simp, fun _ => rfl⟩
theorem Lsw.to {w w' : World} {es es' : List Ent} {xs : List Value} {bs : List Blk} (h : Lsw w es xs bs) (H : Hp w w' (bl es) es') : Lsw w' es' xs bs := by
  refine ⟨h.1, fun i hi => ?_⟩
  obtain ⟨B, c, h1, h2, h3⟩ := h.2 i hi
  by_cases h0 : bs[i].length = 0
  · exact ⟨B, c, h1, h2.empty h0, fun h => absurd h (by omega)⟩
  · exact ⟨B, c, h1, h2.to H (h3 (by omega)), fun hp => apt_to h2 (by omega) (h3 (by omega)) H⟩
/-- Through a call that may turn some blocks, none of them these. -/
theorem Lsw.keep {w w' : World} {S : List Nat} {es es' es2 : List Ent} {xs : List Value} {bs : List Blk} (h : Lsw w es xs bs) (H : Hp w w' S es2) (hS : ∀ b ∈ S, b ∈ bl es) (hn : ∀ b ∈ bl es', b ∈ bl es ∨ w.heap.size ≤ b) : Lsw w' es' xs bs := by
  refine ⟨h.1, fun i hi => ?_⟩
  obtain ⟨B, c, h1, h2, h3⟩ := h.2 i hi
  by_cases h0 : bs[i].length = 0
  · exact ⟨B, c, h1, h2.empty h0, fun h => absurd h (by omega)⟩
  · refine ⟨B, c, h1, h2.to H (fun p hp hb => h3 (by omega) p hp (hS _ hb)), fun _ p hp hb => ?_⟩
    rcases hn _ hb with h4 | h4
    · exact h3 (by omega) p hp h4
    · have h5 : 0 < (u8s bs[i]).length := by rw [u8s_length]; omega
      have h6 := World.block_lt_of_cell? w _ (h2.cells p hp 0 _ (List.getElem?_eq_getElem h5))
      rw [Addr.add_zero'] at h6
      omega
theorem Lsw.less {w : World} {es es' : List Ent} {xs : List Value} {bs : List Blk} (h : Lsw w es xs bs) (hs : ∀ b ∈ bl es', b ∈ bl es) : Lsw w es' xs bs := by
  refine ⟨h.1, fun i hi => ?_⟩
  obtain ⟨B, c, h1, h2, h3⟩ := h.2 i hi
  exact ⟨B, c, h1, h2, fun h0 p hp hb => h3 h0 p hp (hs _ hb)⟩
theorem Lsw.snoc {w : World} {es : List Ent} {xs : List Value} {bs : List Blk} {b : Blk} {B : Option Addr} {c : Nat} (h : Lsw w es xs bs) (hr : Rd w B b.length 1 (u8s b)) (ha : 0 < b.length → ∀ p, B = some p → p.block ∉ bl es) : Lsw w es (xs ++ [.slice B b.length c]) (bs ++ [b]) := by
  refine ⟨by simp [h.1], fun i hi => ?_⟩
  by_cases hin : i < bs.length
  · rw [List.getElem_append_left hin]
    obtain ⟨B', c', h1, h2, h3⟩ := h.2 i hin
    exact ⟨B', c', by rw [List.getElem?_append_left (by rw [h.1]; exact hin)]; exact h1, h2, h3⟩
  · have hi2 : i = bs.length := by simp at hi; omega
    subst hi2
    rw [List.getElem_append_right (Nat.le_refl _)]
    simp only [Nat.sub_self, List.getElem_cons_zero]
    exact ⟨B, c, by rw [List.getElem?_append_right (by rw [h.1]; exact Nat.le_refl _), h.1, Nat.sub_self]; rfl, hr, ha⟩
theorem Lsw.drop {w : World} {es : List Ent} {xs : List Value} {bs : List Blk} (h : Lsw w es xs bs) (n : Nat) : Lsw w es (xs.drop n) (bs.drop n) := by
  refine ⟨by simp [h.1], fun i hi => ?_⟩
  have hi' : n + i < bs.length := by simp at hi; omega
  obtain ⟨B, c, h1, h2, h3⟩ := h.2 (n + i) hi'
  rw [List.getElem_drop]
  exact ⟨B, c, by rw [List.getElem?_drop]; exact h1, h2, h3⟩
theorem Lsw.take {w : World} {es : List Ent} {xs : List Value} {bs : List Blk} (h : Lsw w es xs bs) (n : Nat) : Lsw w es (xs.take n) (bs.take n) := by
  refine ⟨by simp [h.1], fun i hi => ?_⟩
  have hi' : i < bs.length := by simp at hi; omega
  have hn : i < n := by simp at hi; omega
  obtain ⟨B, c, h1, h2, h3⟩ := h.2 i hi'
  rw [List.getElem_take]
  exact ⟨B, c, by rw [List.getElem?_take, if_pos hn]; exact h1, h2, h3⟩
theorem Lsw.nil (w : World) (es : List Ent) : Lsw w es [] [] := ⟨rfl, fun i hi => absurd hi (by simp)⟩
theorem Lsw.at {w : World} {es : List Ent} {xs : List Value} {bs : List Blk} (h : Lsw w es xs bs) {i : Nat} (hi : i < bs.length) : ∃ (B : Option Addr) (c : Nat), xs[i]? = some (.slice B bs[i].length c) ∧ Rd w B bs[i].length 1 (u8s bs[i]) ∧ (0 < bs[i].length → ∀ p, B = some p → p.block ∉ bl es) := h.2 i hi
theorem Lsw.ones {w : World} {es : List Ent} {xs : List Value} {bs : List Blk} (h : Lsw w es xs bs) : xs.all (·.oneCell') = true := by
  rw [List.all_eq_true]
  intro v hv
  obtain ⟨i, hi⟩ := List.getElem?_of_mem hv
  obtain ⟨B, c, h1, _⟩ := h.2 i (by rw [← h.1]; exact lt_of_get hi)
  have e : v = _ := (Option.some.inj (h1.symm.trans hi)).symm
  rw [e]; rfl
theorem cell_toW {w w' : World} {S : List Nat} {es : List Ent} {p : Addr} {u : Value} (h : w.cell? p = some u) (H : Hp w w' S es) (hp : p.block ∉ S) : w'.cell? p = some u := by
  have hlt := World.block_lt_of_cell? w _ h
  rw [World.cell?_of_block (w := w)]
  · exact h
  · exact H.frame _ hlt hp
theorem Hp.two {w : World} {g1 g2 : Nat} {T1 T2 : TypeId} {c1 c2 : List Value} (h1 : w.heap[g1]? = some (.cells c1.toArray T1 (0, 0))) (h2 : w.heap[g2]? = some (.cells c2.toArray T2 (0, 0))) (hne : g1 ≠ g2) : Hp w w [g1, g2] [(some g1, T1, c1), (some g2, T2, c2)] := by
  refine ⟨rfl, rfl, rfl, Nat.le_refl _, fun _ _ _ => rfl, ?_, ?_⟩
  · intro i e he
    match i, he with
    | 0, he => simp at he; subst he; exact ⟨h1, .inl (by simp)⟩
    | 1, he => simp at he; subst he; exact ⟨h2, .inl (by simp)⟩
    | n + 2, he => simp at he
  · intro i j e f g hi hj hge hgf
    match i, j, hi, hj with
    | 0, 0, _, _ => rfl
    | 1, 1, _, _ => rfl
    | 0, 1, hi, hj => simp at hi hj; subst hi hj; simp at hge hgf; omega
    | 1, 0, hi, hj => simp at hi hj; subst hi hj; simp at hge hgf; omega
    | n + 2, _, hi, _ => simp at hi
    | 0, n + 2, _, hj => simp at hj
    | 1, n + 2, _, hj => simp at hj
theorem old_not {w0 w : World} {S : List Nat} {es : List Ent} (H : Hp w0 w S es) {g : Nat} (hlt : g < w0.heap.size) (hg : g ∉ S) : g ∉ bl es := by
  intro hb
  obtain ⟨e, he, hg2⟩ := List.mem_filterMap.1 hb
  obtain ⟨i, hi⟩ := List.getElem?_of_mem he
  obtain ⟨g', T, cs⟩ := e
  simp only at hg2
  subst hg2
  rcases H.place hi with h | h
  · exact hg h
  · omega
theorem bl_place {w0 w : World} {S : List Nat} {es : List Ent} (H : Hp w0 w S es) : ∀ b ∈ bl es, b ∈ S ∨ w0.heap.size ≤ b := by
  intro b hb
  obtain ⟨e, he, hg2⟩ := List.mem_filterMap.1 hb
  obtain ⟨i, hi⟩ := List.getElem?_of_mem he
  obtain ⟨g', T, cs⟩ := e
  simp only at hg2
  subst hg2
  exact H.place hi
theorem bl_cells {w0 w : World} {S : List Nat} {es : List Ent} (H : Hp w0 w S es) : ∀ b ∈ bl es, ∃ arr T z, w.heap[b]? = some (.cells arr T z) := by
  intro b hb
  obtain ⟨e, he, hg2⟩ := List.mem_filterMap.1 hb
  obtain ⟨i, hi⟩ := List.getElem?_of_mem he
  obtain ⟨g', T, cs⟩ := e
  simp only at hg2
  subst hg2
  exact ⟨_, _, _, H.at hi⟩
theorem Hp.putO {W : World} {D : Nat} {o : Obj} (o' : Obj) (_ : W.heap[D]? = some o) : Hp W (W.putObj D o') [D] [] :=
  ⟨rfl, rfl, rfl, by simp, fun k _ hk => World.putObj_heap_other (fun e => hk (by simp [e])), by simp, by simp⟩
theorem notc {W : World} {D : Nat} {x : Option (List Deferred)} (h : W.heap[D]? = some (.deferred x)) : ∀ arr T z, W.heap[D]? ≠ some (.cells arr T z) := fun arr T z h2 => by rw [h] at h2; cases h2
/-- The block of a row is not that of another. -/
theorem row_not {w0 w : World} {S : List Nat} {es : List Ent} (H : Hp w0 w S es) {i : Nat} {g : Nat} {T : TypeId} {cs : List Value} (hi : es[i]? = some (some g, T, cs)) {is : List Nat} (hn : i ∉ is) : g ∉ bl (is.map fun j => es.getD j (none, 0, [])) := by
  intro hb
  obtain ⟨j, hj, T', cs', hj2⟩ := bl_at rfl _ hb
  have := H.apart i j _ _ g hi hj2 rfl rfl
  subst this
  exact hn hj
theorem rd_lt {w : World} {A : Option Addr} {b : Blk} (hr : Rd w A b.length 1 (u8s b)) (h0 : 0 < b.length) {p : Addr} (hp : A = some p) : p.block < w.heap.size := by
  have h5 : 0 < (u8s b).length := by rw [u8s_length]; omega
  have h6 := World.block_lt_of_cell? w _ (hr.cells p hp 0 _ (List.getElem?_eq_getElem h5))
  rw [Addr.add_zero'] at h6
  exact h6
theorem cell_cells {w : World} {a : Addr} {v : Value} (h : w.cell? a = some v) : ∃ arr T z, w.heap[a.block]? = some (.cells arr T z) := by
  unfold World.cell? at h
  cases ho : w.heap[a.block]? with
  | none => simp [ho] at h
  | some o => cases o <;> simp_all
theorem Lsw.loop {w w' : World} {es : List Ent} {L : Nat} {xs : List Value} {bs : List Blk} (h : Lsw w es xs bs) (H : Hp w w' [L] []) (hL : ∀ arr T z, w.heap[L]? ≠ some (.cells arr T z)) : Lsw w' es xs bs := by
  refine ⟨h.1, fun i hi => ?_⟩
  obtain ⟨B, c, h1, h2, h3⟩ := h.2 i hi
  by_cases h0 : bs[i].length = 0
  · exact ⟨B, c, h1, h2.empty h0, fun h => absurd h (by omega)⟩
  · refine ⟨B, c, h1, h2.to H (fun p hp hb => ?_), h3⟩
    have h5 : 0 < (u8s bs[i]).length := by rw [u8s_length]; omega
    have h6 := h2.cells p hp 0 _ (List.getElem?_eq_getElem h5)
    rw [Addr.add_zero'] at h6
    obtain ⟨arr, T, z, h7⟩ := cell_cells h6
    rw [List.mem_singleton.1 hb] at h7
    exact hL _ _ _ h7
theorem results_cell1 {P : Program} {fn : Func} {l : List Value} {w : World} {r : Tmp} {ty : TypeId} {zs : List Value} {sz bytes : Nat} {p : Addr} {v : Value} (hr : fn.results = #[.cell r ty]) (ht : TyOk P ty zs sz bytes false) (hn : nth l r = some (.pointer (some p))) (hc : w.cell? p = some v) : (results fn l.toArray).run P w = .ok v w := by
  have h1 := run_loadVar1 ht hc
  rw [nth_eq] at hn
  simp [results, hr, hn, asAddr, h1]
theorem results_cell2 {P : Program} {fn : Func} {l : List Value} {w : World} {r r2 : Tmp} {ty ty2 : TypeId} {zs zs2 : List Value} {sz sz2 bytes bytes2 : Nat} {p p2 : Addr} {v v2 : Value} (hr : fn.results = #[.cell r ty, .cell r2 ty2]) (ht : TyOk P ty zs sz bytes false) (ht2 : TyOk P ty2 zs2 sz2 bytes2 false) (hn : nth l r = some (.pointer (some p))) (hn2 : nth l r2 = some (.pointer (some p2))) (hc : w.cell? p = some v) (hc2 : w.cell? p2 = some v2) : (results fn l.toArray).run P w = .ok (.tuple #[v, v2]) w := by
  have h1 := run_loadVar1 ht hc
  have h3 := run_loadVar1 ht2 hc2
  rw [nth_eq] at hn hn2
  simp [results, hr, hn, hn2, asAddr, h1, h3]
theorem Rd.fcw {w0 w : World} {S : List Nat} {es : List Ent} {B : Option Addr} {s : Blk} (h : Rd w0 B s.length 1 (u8s s)) (H : Hp w0 w S es) (ha : 0 < s.length → ∀ p, B = some p → p.block ∉ S) : Rd w B s.length 1 (u8s s) := by
  by_cases h0 : s.length = 0
  · exact h.empty h0
  · exact h.to H (ha (by omega))
theorem bl_pick {w0 w : World} {S : List Nat} {es : List Ent} {is : List Nat} (_ : Hp w0 w S es) : ∀ p ∈ bl (is.map fun i => es.getD i (none, 0, [])), p ∈ bl es := by
  intro p hp
  obtain ⟨i, _, T, cs, h⟩ := bl_at rfl p hp
  exact List.mem_filterMap.2 ⟨_, List.mem_of_getElem? h, rfl⟩
theorem results0 {P : Program} {fn : Func} (hr : fn.results = #[]) (t : Array Value) (w : World) : (results fn t).run P w = .ok (.tuple #[]) w := by simp [results, hr]
theorem Hp.drewW (w : World) : Hp w { w with drawn := w.drawn + 1 } [] [] := (Hp.refl w).drew
theorem Hp.noRows {w0 w : World} {S : List Nat} {es : List Ent} (H : Hp w0 w S es) : Hp w0 w S [] := H.pick [] (by simp)
/-! ### What a log is -/
def wgt (n : Nat) : Nat := (n + 63) / 64 + 2
def nbk (n : Nat) : Nat := (n + 4 + 63) / 64
structure Wl where
  dead : Bool
  turn : Nat
  first : Nat
  recs : List Blk
  places : List Nat
  fin : Nat
  told : Nat
def used (rs : List Blk) : Nat := (rs.map fun r => wgt r.length).sum
theorem used_append (a b : List Blk) : used (a ++ b) = used a + used b := by simp [used]
theorem used_one (r : Blk) : used [r] = wgt r.length := by simp [used]
theorem used_ge (rs : List Blk) : 2 * rs.length ≤ used rs := by
  induction rs with
  | nil => simp [used]
  | cons r rs ih =>
    have h : 2 ≤ wgt r.length := by unfold wgt; omega
    simp only [used, List.map_cons, List.sum_cons, List.length_cons] at ih ⊢; omega
theorem used_drop (rs : List Blk) (n : Nat) : used (rs.take n) + used (rs.drop n) = used rs := by rw [← used_append, List.take_append_drop]
def i64n (l : List Nat) : List Value := l.map fun (n : Nat) => .int .i64 (n : Int)
theorem i64n_get {l : List Nat} {i : Nat} (h : i < l.length) : (i64n l)[i]? = some (.int .i64 (l[i] : Int)) := by simp [i64n, h]
theorem i64n_len (l : List Nat) : (i64n l).length = l.length := by simp [i64n]
theorem i64n_one (l : List Nat) : (i64n l).all (·.oneCell') = true := by simp [i64n, Value.oneCell']
/-- Where it lies. -/
structure Mw where
  gd : Nat
  gk : Nat
  gw : Option Nat
  cw : Nat
  sp : List Value
  gv : Nat
  gr : Option Nat
  cr : Nat
  xs : List Value
  sr : List Value
  gp : Option Nat
  cp : Nat
  sq : List Value
@[reducible] def wcl (m : Mw) (W : Wl) : List Value := [.pointer (some ⟨m.gd, 0, none⟩), .bool W.dead, .int .u64 (W.turn : Int), .int .i64 (W.first : Int), .slice (hd m.gr) W.recs.length m.cr, .slice (hd m.gp) W.places.length m.cp, .int .i64 (W.fin : Int), .int .i64 (used W.recs : Int), .int .i64 (W.told : Int)]
@[reducible] def lRows (m : Mw) (W : Wl) : List Ent := [(some m.gv, 58, wcl m W), (m.gr, 34, m.xs ++ m.sr), (m.gp, 3, i64n W.places ++ m.sq)]
@[reducible] def wRows (m : Mw) (D : Dk) (W : Wl) : List Ent := dRows m.gd m.gk m.gw m.cw m.sp D ++ lRows m W
structure WOk (w : World) (m : Mw) (D : Dk) (W : Wl) : Prop where
  d : DOk D m.gw m.cw m.sp
  lst : Lsw w (wRows m D W) m.xs W.recs
  rc : W.recs.length ≤ m.cr
  rs : m.cr ≤ (m.xs ++ m.sr).length
  rn : m.gr = none → m.cr = 0
  pl : W.places.length = W.recs.length
  pc : W.places.length ≤ m.cp
  ps : m.cp ≤ (i64n W.places ++ m.sq).length
  pn : m.gp = none → m.cp = 0
  most : W.recs.length ≤ 16384
  long : ∀ r ∈ W.recs, r.length ≤ 16384
  size : 64 ≤ D.kept.length
  fin : W.fin < D.kept.length - 2
  plb : ∀ p ∈ W.places, p < 16384
  first : W.first ≤ 2 ^ 60
  turn : W.turn ≤ 2 ^ 60
  used : used W.recs ≤ 2 ^ 40
  told : W.told ≤ 16384
/-- These slices are of those, or lie in new memory. -/
def XsOk (w0 : World) (xs ys : List Value) : Prop := ∀ v ∈ ys, v ∈ xs ∨ ∀ p n c, v = .slice (some p) n c → w0.heap.size ≤ p.block
theorem XsOk.refl (w0 : World) (xs : List Value) : XsOk w0 xs xs := fun _ h => .inl h
theorem XsOk.trans {w0 w1 : World} {xs ys zs : List Value} (h : XsOk w0 xs ys) (h2 : XsOk w1 ys zs) (hs : w0.heap.size ≤ w1.heap.size) : XsOk w0 xs zs := by
  intro v hv
  rcases h2 v hv with h3 | h3
  · exact h v h3
  · exact .inr fun p n c he => Nat.le_trans hs (h3 p n c he)
theorem XsOk.snoc {w0 : World} {xs : List Value} {g : Option Nat} {n c : Nat} (h : ∀ p, hd g = some p → w0.heap.size ≤ p.block) : XsOk w0 xs (xs ++ [.slice (hd g) n c]) := by
  intro v hv
  rcases List.mem_append.1 hv with h1 | h1
  · exact .inl h1
  · refine .inr fun p n' c' he => ?_
    rw [List.mem_singleton.1 h1] at he
    simp only [Value.slice.injEq] at he
    exact h p he.1
theorem XsOk.drop (w0 : World) (xs : List Value) (n : Nat) : XsOk w0 xs (xs.drop n) := fun _ hv => .inl (List.mem_of_mem_drop hv)
/-- The log stands there. -/
def WPost (w0 w' : World) (S : List Nat) (m : Mw) (D : Dk) (W : Wl) : Prop := ∃ m' : Mw, m'.gd = m.gd ∧ m'.gk = m.gk ∧ m'.gv = m.gv ∧ XsOk w0 m.xs m'.xs ∧ WOk w' m' D W ∧ Hp w0 w' S (wRows m' D W)
/-- Records apart from the caller's own rows, behind a call. -/
theorem Lsw.frame {w1 w2 : World} {es1 es2 F : List Ent} {xs ys : List Value} {rs rs' : List Blk} (h1 : Lsw w1 es1 xs rs) (hx : XsOk w1 xs ys) (h2 : Lsw w2 es2 ys rs') (hF : ∀ b ∈ bl F, b ∈ bl es1 ∧ b < w1.heap.size) : Lsw w2 (es2 ++ F) ys rs' := by
  refine ⟨h2.1, fun i hi => ?_⟩
  obtain ⟨B, c, a1, a2, a3⟩ := h2.2 i hi
  refine ⟨B, c, a1, a2, fun h0 p hp hb => ?_⟩
  have hb' : p.block ∈ bl es2 ∨ p.block ∈ bl F := by
    unfold bl at hb ⊢
    rw [List.filterMap_append] at hb
    exact List.mem_append.1 hb
  rcases hb' with hb | hb
  · exact a3 h0 p hp hb
  · obtain ⟨hf1, hf2⟩ := hF _ hb
    rcases hx _ (List.mem_of_getElem? a1) with hv | hv
    · obtain ⟨j, hj⟩ := List.getElem?_of_mem hv
      obtain ⟨B', c', b1, b2, b3⟩ := h1.2 j (by rw [← h1.1]; exact lt_of_get hj)
      rw [hj] at b1
      simp only [Option.some.injEq, Value.slice.injEq] at b1
      exact b3 (by rw [← b1.2.1]; exact h0) p (by rw [← b1.1]; exact hp) hf1
    · have := hv p _ c (by rw [hp])
      omega
theorem WOk.move {w0 w : World} {m : Mw} {D : Dk} {W : Wl} {es : List Ent} (h : WOk w0 m D W) (H : Hp w0 w (bl (wRows m D W)) es) (is : List Nat) (e : wRows m D W = is.map fun i => es.getD i (none, 0, [])) : WOk w m D W :=
  { h with lst := (h.lst.to H).less (fun b hb => by rw [e] at hb; exact bl_pick H b hb) }
theorem Hp.right {w0 w : World} {S : List Nat} {a b : List Ent} (H : Hp w0 w S (a ++ b)) : Hp w0 w S b := by
  have key : ∀ (i : Nat) (e : Ent), b[i]? = some e → (a ++ b)[a.length + i]? = some e := fun i e h => by rw [List.getElem?_append_right (by omega), Nat.add_sub_cancel_left]; exact h
  refine ⟨H.os, H.tape, H.output, H.size, H.frame, fun i e he => H.ent _ e (key i e he), fun i j e f g hi hj h1 h2 => ?_⟩
  have := H.apart _ _ e f g (key i e hi) (key j f hj) h1 h2
  omega
/-- A call's post, told from the beginning on. -/
theorem WPost.of {w0 w w' : World} {S : List Nat} {es : List Ent} {m : Mw} {D D' : Dk} {W W' : Wl} (H : Hp w0 w S es) (is : List Nat) (e : wRows m D W = is.map fun i => es.getD i (none, 0, [])) (h : WPost w w' (bl (wRows m D W)) m D' W') : WPost w0 w' S m D' W' := by
  obtain ⟨m', e1, e2, e3, e4, hok, H'⟩ := h
  exact ⟨m', e1, e2, e3, (XsOk.refl _ _).trans e4 H.size, hok, (H.callr is e H').right⟩
theorem WPost.here {w0 w : World} {S : List Nat} {es : List Ent} {m : Mw} {D : Dk} {W W' : Wl} (h : WOk w0 m D W) (H : Hp w0 w S es) (hS : S = bl (wRows m D W)) (is : List Nat) (hnd : is.Nodup) (e : wRows m D W' = is.map fun i => es.getD i (none, 0, [])) (hb : bl (wRows m D W') = bl (wRows m D W)) (h2 : WOk w0 m D W → WOk w0 m D W') : WPost w0 w S m D W' := by
  subst hS
  refine ⟨m, rfl, rfl, rfl, XsOk.refl _ _, ?_, by rw [e]; exact H.pick is hnd⟩
  have hk := h2 h
  have hl : Lsw w0 (wRows m D W) m.xs W'.recs := hk.lst.less (fun b hx => by rw [hb]; exact hx)
  exact { hk with lst := (hl.to H).less (fun b hx => by rw [e] at hx; exact bl_pick H b hx) }
theorem WOk.ring {w : World} {m : Mw} {D : Dk} {W : Wl} (h : WOk w m D W) : D.kept.length ≤ 16384 := h.d.most
/-- Of another world in which these rows stand, and nothing was turned but they. -/
theorem WOk.to {w w' : World} {m : Mw} {D : Dk} {W : Wl} (h : WOk w m D W) (H : Hp w w' (bl (wRows m D W)) (wRows m D W)) : WOk w' m D W :=
  { h with lst := h.lst.to H }
end Go.Proofs.Ytgkciibfpenjpaa
