/-
  Things with lists: what comes in, what is short, copies.
-/
import Derived.Test.YtoeobicpdeklaaaGreatGet
import Derived.Test.YtoeobicpdeklaaaGreatIn
namespace Go.Proofs.YtoeobicpdeklaaaGreat
open Go Go.ChangeShapes Go.WideShapes Go.ChangeAt Go.RowKit

/-- Reading makes no text longer than what is read. -/
def Th.Sh (A : Th) : Prop := (∀ (b : List UInt8) (i e : Nat), i ≤ b.length → ∀ s, Fv.bytes s ∈ A.fl (A.rd b i e).1 → s.length ≤ b.length) ∧ Short (A.fl A.z)
theorem sh_flat (ks : List Kd) : (Th.flat ks).Sh := by
  refine ⟨fun b i e hi s hs => rdAll_short ks hi s hs, fun s hs => ?_⟩
  obtain ⟨k, _, hk⟩ := List.mem_map.1 hs
  cases k <;> simp [zF] at hk
  subst hk
  exact Nat.zero_le _
theorem sh_pair {A B : Th} (hA : A.Sh) (hB : B.Sh) : (Th.pair A B).Sh := by
  refine ⟨fun b i e hi s hs => ?_, fun s hs => ?_⟩
  · rcases List.mem_append.1 hs with h | h
    · exact hA.1 b i e hi s h
    · exact hB.1 b _ _ (A.le hi) s h
  · rcases List.mem_append.1 hs with h | h
    · exact hA.2 s h
    · exact hB.2 s h
theorem sh_rdN {A : Th} (hA : A.Sh) (b : List UInt8) : ∀ (n i e : Nat), i ≤ b.length → ∀ x ∈ (rdN A b n i e).1, ∀ s, Fv.bytes s ∈ A.fl x → s.length ≤ b.length
  | 0, _, _, _, x, hx, _, _ => by cases hx
  | n + 1, i, e, hi, x, hx, s, hs => by
    unfold rdN at hx
    split at hx
    · rcases List.mem_cons.1 hx with rfl | hx
      · exact hA.1 b i e hi s hs
      · exact sh_rdN hA b n _ _ (A.le hi) x hx s hs
    · cases hx
theorem sh_many {A : Th} {tw : Bool} (hA : A.Sh) : (Th.many A tw).Sh := by
  refine ⟨fun b i e hi s hs => ?_, fun s hs => ?_⟩
  · rcases List.mem_cons.1 hs with h | h
    · cases h
    · obtain ⟨x, hx, hs⟩ := List.mem_flatMap.1 h
      exact sh_rdN hA b _ _ _ (countStep_le hi).1 x hx s hs
  · rcases List.mem_cons.1 hs with h | h
    · cases h
    · cases h
theorem got_sh {A : Th} (hA : A.Sh) {b : List UInt8} (hb : b.length ≤ 140737488351232) : Short (A.fl (gotR A b)) := by
  intro s hs
  unfold gotR at hs
  split at hs
  · exact Nat.le_trans (hA.1 b 0 0 (Nat.zero_le _) s hs) hb
  · exact hA.2 s hs
theorem Short.app {a b : List Fv} (h : Short (a ++ b)) : Short a ∧ Short b := ⟨fun s hs => h s (List.mem_append_left _ hs), fun s hs => h s (List.mem_append_right _ hs)⟩
theorem Short.and {a b : List Fv} (h1 : Short a) (h2 : Short b) : Short (a ++ b) := fun s hs => by
  rcases List.mem_append.1 hs with h | h
  · exact h1 s h
  · exact h2 s h
theorem Short.at {A : Th} {tw : Bool} {x : List A.X} (h : Short ((Th.many A tw).fl x)) {q : Nat} (hq : q < x.length) : Short (A.fl x[q]) :=
  fun s hs => h s (List.mem_cons_of_mem _ (List.mem_flatMap.2 ⟨_, List.getElem_mem hq, hs⟩))
/-- Whether a list's block is a text's is not asked. -/
theorem many_free {A : Th} {tw : Bool} {w : World} {ok : Nat → Prop} {x : List A.X} {vs : List Value} (h : (Th.many A tw).M w ok x vs) : (Th.many A false).M w ok x vs := by
  obtain ⟨B, c, cells, h1, hz, h2, h3, _, h4⟩ := h
  exact ⟨B, c, cells, h1, hz, h2, h3, fun _ h => (by cases h), h4⟩
theorem pair_map {A B A' : Th} {w : World} {ok : Nat → Prop} {x : A.X × B.X} {vs : List Value} (h : (Th.pair A B).M w ok x vs) (y : A'.X) (hs : A'.sz = A.sz) (hA : A'.M w ok y (vs.take A.sz)) : (Th.pair A' B).M w ok (y, x.2) vs := ⟨by rw [hs]; exact hA, by rw [hs]; exact h.2.1, by rw [hs]; exact h.2.2⟩
theorem At.castM {A : Th} {w : World} {ok : Nat → Prop} {x : A.X} {cs us : List Value} {o o' : Nat} (_ : A.M w ok x us) (h : At cs o us) (e : o = o') : At cs o' us := by subst e; exact h
theorem Th.split {A B : Th} {w : World} {ok : Nat → Prop} {x : A.X × B.X} {vs : List Value} (h : (Th.pair A B).M w ok x vs) : ∃ u1 u2, vs = u1 ++ u2 ∧ A.M w ok x.1 u1 ∧ B.M w ok x.2 u2 := ⟨_, _, (List.take_append_drop A.sz vs).symm, h.1, h.2.1⟩
theorem pair_app {A B : Th} {w : World} {ok : Nat → Prop} {x : A.X} {y : B.X} {u1 u2 : List Value} (h1 : A.M w ok x u1) (h2 : B.M w ok y u2) : (Th.pair A B).M w ok (x, y) (u1 ++ u2) := by
  have hl := A.len h1
  exact ⟨by rw [← hl, List.take_left]; exact h1, by rw [← hl, List.drop_left]; exact h2, by rw [List.length_append]; omega⟩
theorem rd_weak {A m : Th} {b : List UInt8} {w w' : World} {r : Value} (h : RdRes (Th.pair A (Th.many m true)) b w w' r) : RdRes (Th.pair A (Th.many m false)) b w w' r := by
  obtain ⟨cells, h1, h2, h3⟩ := h
  exact ⟨cells, h1, ⟨h2.1, many_free h2.2.1, h2.2.2⟩, h3⟩
/-! ### A copy of a list -/
theorem many_ones {A : Th} {w : World} {ok : Nat → Prop} {x : List A.X} {cells : List Value} (hn : cells.length = x.length * A.sz) (h : ∀ i (h : i < x.length), A.M w ok x[i] ((cells.drop (i * A.sz)).take A.sz)) : cells.all (·.oneCell') = true := by
  rw [List.all_eq_true]
  intro v hv
  obtain ⟨j, hj, rfl⟩ := List.getElem_of_mem hv
  by_cases hz : A.sz = 0
  · rw [hz, Nat.mul_zero] at hn; omega
  · have hq : j / A.sz < x.length := by rw [Nat.div_lt_iff_lt_mul (by omega)]; omega
    have h1 := A.ones (h _ hq)
    rw [List.all_eq_true] at h1
    refine h1 _ ?_
    have hm := Nat.mod_lt j (Nat.pos_of_ne_zero hz)
    have hd := Nat.div_add_mod j A.sz
    rw [Nat.mul_comm] at hd
    refine List.mem_of_getElem? (i := j % A.sz) ?_
    rw [List.getElem?_take, if_pos hm, List.getElem?_drop, hd]
    exact List.getElem?_eq_getElem hj
/-- A list's elements, copied into a row of their own. -/
theorem many_copy {A : Th} {tw' : Bool} {w0 w : World} {S : List Nat} {es : List Ent} {x : List A.X} {g : Option Nat} {T : TypeId} {cap i : Nat} {cells sp : List Value} (hsz : 0 < A.sz) (hl : x.length ≤ 140737488351232) (hcl : cells.length = x.length * A.sz)
    (hel : ∀ i (h : i < x.length), A.M w (fun _ => True) x[i] ((cells.drop (i * A.sz)).take A.sz)) (H : Hp w0 w S es) (he : es[i]? = some (g, T, cells ++ sp)) : (Th.many A tw').M w (fun _ => True) x [.slice (hd g) x.length cap] :=
  ⟨hd g, cap, cells, rfl, ⟨hl, fun _ => hsz⟩, H.rd he hcl hsz, fun _ _ _ => trivial, fun _ _ p hp => H.tw he p hp, hel⟩
/-! ### Lists that come in -/
section
variable {H : Type} {enc : TypeId × Value → H} {P : Program} {w : World}
/-- What comes in as this type lies as such a thing; of a thing that weighs little something more is known. -/
structure Comes (P : Program) (t : TypeId) (A : Th) (X : A.X → Prop) : Prop where
  size : P.cellsOf t = A.sz
  comes : ∀ {H : Type} {enc : TypeId × Value → H} {w : World} {base : Nat} (m : Nat) (cs : List Value) (y : DataW H × List MemPlace), DataW.trod enc P w base (fun _ => true) true m t cs = some y → (∀ n ∈ y.1.weights P t, n ≤ 140737488351232) → ∃ x, A.M w (fun _ => True) x cs ∧ Short (A.fl x) ∧ X x
theorem comes_flat {d : Nat} {t : TypeId} {ks : List Kd} (h : lay P d t ks = true) (hs : P.cellsOf t = ks.length) : Comes P t (Th.flat ks) (fun _ => True) :=
  ⟨hs, fun m cs y hy hw => by
    obtain ⟨xs, h1, h2, h3⟩ := trod_lay d t ks cs m y h hy rfl
    refine ⟨xs, ⟨h1, h2⟩, fun s hs => ?_, trivial⟩
    rcases h3 s hs with h0 | ⟨n, hn, h4⟩
    · omega
    · exact Nat.le_trans h4 (hw n hn)⟩
theorem weighAll_mem {t : TypeId} {l : List (DataW H)} {d : DataW H} (hd : d ∈ l) {n : Nat} (hn : n ∈ d.weights P t) : n ∈ DataW.weightsAll P t l := by
  induction l with
  | nil => cases hd
  | cons a l ih =>
    show n ∈ a.weights P t ++ DataW.weightsAll P t l
    rcases List.mem_cons.1 hd with rfl | hd
    · exact List.mem_append_left _ hn
    · exact List.mem_append_right _ (ih hd)
theorem flat_sz {n z : Nat} (f : Nat → List Value) : (∀ i, i < n → (f i).length = z) → ((List.range n).flatMap f).length = n * z := by
  induction n with
  | zero => intro _; simp
  | succ n ih =>
    intro h
    rw [List.range_succ, List.flatMap_append, List.length_append, ih fun i hi => h i (by omega), Nat.add_mul]
    simp [h n (by omega)]
theorem flat_at {z : Nat} (f : Nat → List Value) : ∀ (n q : Nat), (∀ i, i < n → (f i).length = z) → q < n → (((List.range n).flatMap f).drop (q * z)).take z = f q
  | 0, q, _, hq => by omega
  | n + 1, q, h, hq => by
    rw [List.range_succ, List.flatMap_append]
    have hl := flat_sz f (n := n) (z := z) fun i hi => h i (by omega)
    by_cases hqn : q < n
    · have h1 : (q + 1) * z ≤ n * z := Nat.mul_le_mul_right _ hqn
      rw [Nat.add_mul] at h1
      rw [List.drop_append_of_le_length (by omega), List.take_append_of_le_length (by rw [List.length_drop]; omega)]
      exact flat_at f n q (fun i hi => h i (by omega)) hqn
    · have : q = n := by omega
      subst this
      rw [← hl, List.drop_left]
      simp only [List.flatMap_cons, List.flatMap_nil, List.append_nil]
      exact List.take_of_length_le (Nat.le_of_eq (h q (by omega)))
theorem comes_many {t e : TypeId} {A : Th} {X : A.X → Prop} (hu : P.underlying t = some (.slice e)) (h : Comes P e A X) (hz : 0 < A.sz) (hsz : P.cellsOf t = 1) {by_ : Nat} (hby : P.bytesOf e = by_) (hb : 1 ≤ by_) : Comes P t (Th.many A false) (fun xs => xs.length * by_ ≤ 140737488351232 ∧ ∀ x ∈ xs, X x) := by
  subst hby
  refine ⟨hsz, fun {H enc w base} m cs y hy hw => ?_⟩
  rcases DataW.trod_slice hu hy with ⟨rfl, hcs⟩ | ⟨a, l, c, elems, rest, n, _, rfl, rfl, _, _, hcm, hlen, hel, _, _⟩
  · refine ⟨[], (Th.many A false).zM w _, fun s hs => ?_, by simp, fun x hx => by cases hx⟩
    rcases List.mem_cons.1 hs with h | h
    · cases h
    · cases h
  · have hwl : l * P.bytesOf e ≤ 140737488351232 := by
      refine Nat.le_trans ?_ (hw (((elems.map (·.1)).length + (rest.map (·.1)).length) * P.bytesOf e) ?_)
      · exact Nat.mul_le_mul_right _ (by simp [hlen])
      · unfold DataW.weights
        rw [hu]
        exact List.mem_cons_self
    have hll : l ≤ 140737488351232 := Nat.le_trans (Nat.le_mul_of_pos_right _ (by omega)) hwl
    have hex : ∀ i, i < l → ∃ x, A.M w (fun _ => True) x ((w.cells? base (a.add (i * A.sz)) A.sz).getD []) ∧ (∀ j, j < A.sz → ∀ u, ((w.cells? base (a.add (i * A.sz)) A.sz).getD [])[j]? = some u → w.cell? ((a.add (i * A.sz)).add j) = some u) ∧ Short (A.fl x) ∧ X x := by
      intro i hi
      have hb := hel i hi
      rw [h.size, List.getElem?_eq_getElem (by omega), Option.bind_eq_some_iff] at hb
      obtain ⟨cs', hcs, hy'⟩ := hb
      obtain ⟨x, h1, h2, h3⟩ := h.comes _ _ _ hy' (fun k hk => hw k (by
        unfold DataW.weights
        rw [hu]
        exact List.mem_cons_of_mem _ (List.mem_append_left _ (weighAll_mem (List.mem_map.2 ⟨elems[i]'(by omega), List.getElem_mem _, rfl⟩) hk))))
      rw [hcs]
      refine ⟨x, h1, fun j hj u hu => ?_, h2, h3⟩
      rw [(World.cells?_some hcs).2.2 j hj]
      exact hu
    have hlist : ∀ k, k ≤ l → ∃ xs : List A.X, xs.length = k ∧ ∀ i (hi : i < xs.length), A.M w (fun _ => True) xs[i] ((w.cells? base (a.add (i * A.sz)) A.sz).getD []) ∧ (∀ j, j < A.sz → ∀ u, ((w.cells? base (a.add (i * A.sz)) A.sz).getD [])[j]? = some u → w.cell? ((a.add (i * A.sz)).add j) = some u) ∧ Short (A.fl xs[i]) ∧ X xs[i] := by
      intro k
      induction k with
      | zero => intro _; exact ⟨[], rfl, fun i hi => by cases hi⟩
      | succ k ih =>
        intro hk
        obtain ⟨xs, h1, h2⟩ := ih (by omega)
        obtain ⟨x, hx⟩ := hex k (by omega)
        refine ⟨xs ++ [x], by simp [h1], fun i hi => ?_⟩
        by_cases hin : i < xs.length
        · rw [List.getElem_append_left hin]; exact h2 i hin
        · have : i = k := by simp at hi; omega
          subst this
          rw [List.getElem_append_right (by omega)]
          simpa [h1] using hx
    obtain ⟨xs, hxl, hx⟩ := hlist l (Nat.le_refl _)
    have hfl : ∀ i, i < l → ((fun i => (w.cells? base (a.add (i * A.sz)) A.sz).getD []) i).length = A.sz := fun i hi => A.len (hx i (by omega)).1
    refine ⟨xs, ⟨some a, c, (List.range l).flatMap fun i => (w.cells? base (a.add (i * A.sz)) A.sz).getD [], by rw [hxl], ⟨by omega, fun _ => hz⟩, ⟨by rw [hxl]; exact flat_sz _ hfl, fun b hb k u hu => ?_, fun h => by cases h⟩, fun _ _ _ => trivial, fun _ h => (by cases h), fun i hi => ?_⟩, fun s hs => ?_, by rw [hxl]; exact hwl, fun x hx1 => ?_⟩
    · cases hb
      have hk := lt_of_get hu
      rw [flat_sz _ hfl] at hk
      have hq : k / A.sz < l := by rw [Nat.div_lt_iff_lt_mul hz]; exact hk
      have hm := Nat.mod_lt k hz
      have hd := Nat.div_add_mod k A.sz
      rw [Nat.mul_comm] at hd
      have hf := flat_at _ l (k / A.sz) hfl hq
      have hg : ((w.cells? base (a.add (k / A.sz * A.sz)) A.sz).getD [])[k % A.sz]? = some u := by
        rw [← hf, List.getElem?_take, if_pos hm, List.getElem?_drop, hd]
        exact hu
      have := (hx (k / A.sz) (by omega)).2.1 _ hm u hg
      rw [add_add, hd] at this
      exact this
    · rw [flat_at _ l i hfl (by omega)]
      exact (hx i hi).1
    · rcases List.mem_cons.1 hs with h | h
      · cases h
      · obtain ⟨x, hx1, hs⟩ := List.mem_flatMap.1 h
        obtain ⟨i, hi, rfl⟩ := List.getElem_of_mem hx1
        exact (hx i hi).2.2.1 s hs
    · obtain ⟨i, hi, rfl⟩ := List.getElem_of_mem hx1
      exact (hx i hi).2.2.2
/-! A struct, field by field. -/
theorem pre_step {A B : Th} {ok : Nat → Prop} {x : A.X} {y : B.X} {cs : List Value} (hA : A.M w ok x (cs.take A.sz)) (hB : B.M w ok y ((cs.drop A.sz).take B.sz)) (hl : A.sz + B.sz ≤ cs.length) : (Th.pair A B).M w ok (x, y) (cs.take (A.sz + B.sz)) := by
  refine ⟨?_, ?_, by rw [List.length_take]; omega⟩
  · rw [List.take_take, Nat.min_eq_left (by omega)]; exact hA
  · rw [List.drop_take, Nat.add_sub_cancel_left]; exact hB
theorem pre_join {A : Th} {ks js : List Kd} {ok : Nat → Prop} {x : (Th.pair (Th.pair A (Th.flat ks)) (Th.flat js)).X} {cs : List Value} (h : (Th.pair (Th.pair A (Th.flat ks)) (Th.flat js)).M w ok x cs) : (Th.pair A (Th.flat (ks ++ js))).M w ok (x.1.1, fapp x.1.2 x.2) cs := by
  obtain ⟨⟨m1, m2, m3⟩, m4, m5⟩ := h
  have hlen : cs.length = A.sz + ks.length + js.length := (Th.pair (Th.pair A (Th.flat ks)) (Th.flat js)).len (w := w) (ok := ok) (x := x) ⟨⟨m1, m2, m3⟩, m4, m5⟩
  have hsz : (Th.pair A (Th.flat ks)).sz = A.sz + ks.length := rfl
  rw [hsz] at m1 m2 m3 m4 m5
  refine ⟨?_, ?_, by omega⟩
  · have : (cs.take (A.sz + ks.length)).take A.sz = cs.take A.sz := by rw [List.take_take]; congr 1; omega
    rw [← this]; exact m1
  · refine flat_join ?_ ?_
    · have : (cs.take (A.sz + ks.length)).drop A.sz = (cs.drop A.sz).take ks.length := by
        rw [List.drop_take]; congr 1; omega
      rw [← this]; exact m2
    · rw [List.drop_drop]; exact m4
theorem pre_join1 {ks js : List Kd} {ok : Nat → Prop} {x : (Th.pair (Th.flat ks) (Th.flat js)).X} {cs : List Value} (h : (Th.pair (Th.flat ks) (Th.flat js)).M w ok x cs) : (Th.flat (ks ++ js)).M w ok (fapp x.1 x.2) cs := flat_join h.1 h.2.1
end
section
variable {H : Type} {enc : TypeId × Value → H} {P : Program} {w : World}
/-- A thing that comes in as an argument. -/
theorem big_in {t : TypeId} {fs : Array Field} {r : Reach} {b0 : Nat} {v : Value} {dd : DataW H} {ps : List MemPlace} {A : Th} {X : A.X → Prop} (hc : Comes P t A X) (ht : P.underlying t = some (.struct fs)) (hval : Value.okWide P w r b0 t v) (hd : DataW.Trod enc P w 0 (fun _ => true) true t v dd ps)
    {ts : List TypeId} {ds : List (DataW H)} (h : (DataW.weightsEach P ts ds).all (· ≤ reachBytes) = true) {j : Nat} (htj : ts[j]? = some t) (hdj : ds[j]? = some dd) :
    ∃ (x : A.X) (cells : List Value), v = .agg cells.toArray ∧ A.M w (fun _ => True) x cells ∧ Short (A.fl x) ∧ X x := by
  obtain ⟨cs, rfl, _⟩ := okWide_struct ht hval
  obtain ⟨fuel, hf⟩ := hd
  obtain ⟨x, h1, h2, h3⟩ := hc.comes fuel cs.toList (dd, ps) hf (fun n hn => by
    have := of_decide_eq_true (List.all_eq_true.1 h _ (DataW.weights_mem_each htj hdj n hn))
    simp only [reachBytes] at this
    omega)
  exact ⟨x, cs.toList, by simp, h1, h2, h3⟩
end
theorem ex_neq_strS {P : Program} {l : List Value} {w : World} {ty t t' : TypeId} {x y : Operand} {s : List UInt8} (hx : ev l x = some (strV s)) (hy : ev l y = some (strV s)) : Ex P l (.binOp .neq t x y t') ty w (.value (.bool false)) w := fun _ _ _ _ => by
  have hr : (binOp .neq t (strV s) (strV s)).run P w = .ok (.bool false) w := by
    show (Op.stringOp .neq ⟨s.toArray⟩ ⟨s.toArray⟩).run P w = _
    simp [Op.stringOp]
  have hg : eqGuard .neq t x y (strV s) (strV s) = pure () := rfl
  simp only [execOp, rho_of hx, rho_of hy, hg]
  simp [hr]
end Go.Proofs.YtoeobicpdeklaaaGreat
