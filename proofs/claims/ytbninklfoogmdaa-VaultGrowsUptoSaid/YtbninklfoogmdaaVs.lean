/-
  Tables of functions; marks found; books stay good.
-/
import Derived.Test.YtbninklfoogmdaaVr
namespace Go.Proofs.Ytbninklfoogmdaa
open Go Go.RowKit

section
variable {P : Program} {l : List Value} {w : World} {ty t t2 e : TypeId} {x y : Operand} {zs cs : List Value} {sz bytes len : Nat} {agg : Bool} {v : Value}
theorem eqIn_func_nil {p1 p2 : Array TypeId} {b : Bool} (ht : P.underlying t = some (.func p1 p2 b)) {fn : Fn} {a c : Array Value} (d : Nat) : (Op.equalIn (d + 1) t (.func fn a c) .nilFunc).run P w = .ok false w := by
  simp [Op.equalIn, run_underlying ht]
theorem ex_eql_func {p1 p2 : Array TypeId} {b : Bool} (ht : P.underlying t = some (.func p1 p2 b)) {fn : Fn} {a c : Array Value} (hx : ev l x = some (.func fn a c)) : Ex P l (.binOp .eql t x (.const .nilFunc) t2) ty w (.value (.bool false)) w := ex_eql_of hx rfl rfl rfl (eqIn_func_nil ht)
theorem eqIn_nil_nil {p1 p2 : Array TypeId} {b : Bool} (ht : P.underlying t = some (.func p1 p2 b)) (d : Nat) : (Op.equalIn (d + 1) t .nilFunc .nilFunc).run P w = .ok true w := by
  simp [Op.equalIn, run_underlying ht]
theorem ex_eql_func0 {p1 p2 : Array TypeId} {b : Bool} (ht : P.underlying t = some (.func p1 p2 b)) (hx : ev l x = some .nilFunc) : Ex P l (.binOp .eql t x (.const .nilFunc) t2) ty w (.value (.bool true)) w := ex_eql_of hx rfl rfl rfl (eqIn_nil_nil ht)
/-- A table written out. -/
theorem ex_buildA (h : TyOk P t zs sz bytes agg) (ht : P.underlying t = some (.array len e)) {ez : List Value} {es eb : Nat} {ea : Bool} (he : TyOk P e ez es eb ea) {xs : List (Nat × Operand)} {vs : List (Nat × Value)} (hv : partVals l xs = some vs) (hf : fillL (fun i => some (i * es, es)) zs vs = some cs) :
    Ex P l (.build t xs.toArray) ty w (.value (.agg cs.toArray)) w := fun _ _ _ _ => by
  have hvs : (xs.toArray.map fun (i, x) => (i, rho l x)).toList = vs := by simpa using partVals_eq hv
  have hf' := fill_of (fun i => some (i * es, es)) vs zs cs hf
  obtain ⟨i, z, d, hi, hz, hzs, _, _, hd, _⟩ := h.ex
  obtain ⟨i2, z2, d2, hi2, hz2, hzs2, hs2, _, hd2, _⟩ := he.ex
  have hzc : z.cells = zs.toArray := by rw [← hzs]
  have hb : P.built t (xs.toArray.map fun (i, x) => (i, rho l x)).toList = some cs.toArray := by
    rw [hvs]
    unfold Program.built
    rw [hi, ht]
    simp [hz, hi2, hs2, hzc, hf']
  have hr := run_build (P := P) w t _ _ hb
  simp only [execOp, Sem.run_bind]
  rw [hr]
  rfl
theorem ex_indexA1 (ht : P.underlying t = some (.array len e)) (he : TyOk P e zs 1 bytes false) {vs : List Value} {k : IntKind} {n : Int} {i : Nat} (hx : ev l x = some (.agg vs.toArray)) (hy : ev l y = some (.int k n)) (hn : n = (i : Int)) (hi : i < len) (hv : vs[i]? = some v) :
    Ex P l (.index t x y) ty w (.value v) w := fun _ _ _ _ => by
  subst hn
  have h2 : (0 : Int) ≤ (i : Int) ∧ i < len := ⟨by omega, hi⟩
  simp [execOp, rho_of hx, rho_of hy, Instr.index, asIntOf, run_underlying ht, run_sizeOf he, h2, part, run_isAgg he, hv]
end
theorem Hp.fresh {w0 w : World} {S : List Nat} {es : List Ent} (H : Hp w0 w S es) : ∀ x, w.heap.size ≤ x → x ∉ bl es := fun x hx hb => by have := bl_lt H hb; omega
/-! Marks. -/
theorem find_found {ps : List (List Value)} {l : List Mk} {c : Int} {i : Nat} {f : Bool} (h : Found ps (mkCf c) i f) (h2 : All2 MkR ps l) (hr : ∀ (i j : Nat) (a b : Mk), i < j → l[i]? = some a → l[j]? = some b → a.client < b.client) :
    (f = true → ∃ m, l[i]? = some m ∧ findMk l c = some m) ∧ (f = false → findMk l c = none) := by
  have hlo : ∀ (k : Nat) (m : Mk), k < i → l[k]? = some m → m.client < c := fun k m hk hm => by
    obtain ⟨p, hp, hR⟩ := h2.get hm
    have := h.lo k p hk hp
    rw [mkCf_eq hR] at this
    exact cmpI_lt.1 this
  refine ⟨fun hf => ?_, fun hf => ?_⟩
  · obtain ⟨p, hp, h0⟩ := h.yes hf
    obtain ⟨m, hm, hR⟩ := h2.getL hp
    rw [mkCf_eq hR] at h0
    have hc := cmpI_eq.1 h0
    refine ⟨m, hm, ?_⟩
    unfold findMk
    rw [List.find?_eq_some_iff_getElem]
    obtain ⟨hl, he⟩ := List.getElem?_eq_some_iff.1 hm
    refine ⟨by simpa using hc, i, hl, he, fun j hj => ?_⟩
    have := hlo j _ hj (List.getElem?_eq_getElem (by omega))
    simp; omega
  · unfold findMk
    rw [List.find?_eq_none]
    intro m hm
    obtain ⟨k, hk⟩ := List.getElem?_of_mem hm
    obtain ⟨p, hp, hR⟩ := h2.get hk
    rcases Nat.lt_trichotomy k i with hki | hki | hki
    · have := hlo k m hki hk
      simp; omega
    · subst hki
      have := h.no hf p hp
      rw [mkCf_eq hR] at this
      simp
      exact fun hh => this (cmpI_eq.2 hh)
    · have h3 := h.hi i
      have hil : i < l.length := by have := lt_of_get hk; omega
      obtain ⟨mi, hmi⟩ := get_of hil
      obtain ⟨pi, hpi, hRi⟩ := h2.get hmi
      have h4 := h3 pi (Nat.le_refl _) hpi
      rw [mkCf_eq hRi] at h4
      have h5 : ¬ mi.client < c := fun hh => by have := cmpI_lt.2 hh; omega
      have h6 := hr i k mi m hki hmi hk
      simp; omega
theorem find_some {l : List Mk} {c : Int} {m : Mk} (h : findMk l c = some m) : m ∈ l ∧ m.client = c := by
  unfold findMk at h
  exact ⟨List.mem_of_find?_eq_some h, by simpa using List.find?_some h⟩
/-- A mark put where the others of its client were let go. -/
theorem putMk_del {l : List Mk} {v : Mk} {i : Nat} (hr : ∀ (i j : Nat) (a b : Mk), i < j → l[i]? = some a → l[j]? = some b → a.client < b.client)
    (hi : i ≤ (l.filter fun x => !decide (x.client = v.client)).length) (hlo : ∀ (k : Nat) (m : Mk), k < i → (l.filter fun x => !decide (x.client = v.client))[k]? = some m → m.client < v.client)
    (hhi : i = (l.filter fun x => !decide (x.client = v.client)).length ∨ ∃ m, (l.filter fun x => !decide (x.client = v.client))[i]? = some m ∧ ¬ m.client < v.client) :
    (l.filter fun x => !decide (x.client = v.client)).take i ++ v :: (l.filter fun x => !decide (x.client = v.client)).drop i = putMk l v := by
  have hp : (l.filter fun x => !decide (x.client = v.client)).Pairwise fun a b => a.client < b.client := by
    refine List.Pairwise.filter _ ?_
    rw [List.pairwise_iff_getElem]
    exact fun i j hi hj hij => hr i j _ _ hij (List.getElem?_eq_getElem hi) (List.getElem?_eq_getElem hj)
  have hr2 : ∀ (i j : Nat) (a b : Mk), i < j → (l.filter fun x => !decide (x.client = v.client))[i]? = some a → (l.filter fun x => !decide (x.client = v.client))[j]? = some b → a.client < b.client := fun i j a b hij ha hb => by
    obtain ⟨h1, rfl⟩ := List.getElem?_eq_some_iff.1 ha
    obtain ⟨h2, rfl⟩ := List.getElem?_eq_some_iff.1 hb
    exact List.pairwise_iff_getElem.1 hp i j h1 h2 hij
  have hne : ∀ x ∈ (l.filter fun x => !decide (x.client = v.client)), x.client ≠ v.client := fun x hx => by simpa using (List.mem_filter.1 hx).2
  have key := (rise_mk hr2 v.client).put (v := v) (i := i) (f := false) hi (fun k a hk ha => cmpI_lt.2 (hlo k a hk ha)) (fun k a hk ha => by
    rcases hhi with h | ⟨m, hm, h⟩
    · have := lt_of_get ha; omega
    · rcases Nat.eq_or_lt_of_le hk with rfl | h2
      · rw [hm] at ha
        simp only [Option.some.injEq] at ha
        subst ha
        have h3 : ¬ cmpI m.client v.client < 0 := fun hh => h (cmpI_lt.1 hh)
        show 0 ≤ cmpI m.client v.client
        omega
      · have h3 := hr2 i k m a h2 hm ha
        have h4 : ¬ cmpI a.client v.client < 0 := fun hh => by have := cmpI_lt.1 hh; omega
        show 0 ≤ cmpI a.client v.client
        omega) (fun h => by cases h) (fun _ a ha h0 => hne a (List.mem_of_getElem? ha) (cmpI_eq.1 h0))
  rw [if_neg (by decide)] at key
  rw [← key, putMk_eq]
  congr 1
  · rw [List.filter_filter]
    exact List.filter_congr fun x _ => by
      by_cases h : cmpI x.client v.client < 0
      · have := cmpI_lt.1 h
        simp [h]; omega
      · simp [h]
  · congr 1
    rw [List.filter_filter]
    exact List.filter_congr fun x _ => by
      by_cases h : 0 < cmpI x.client v.client
      · have := cmpI_gt.1 h
        simp [h]; omega
      · simp [h]
theorem mkIs_neq {p : List Value} {x : Mk} {c : Int} (h : MkR p x) : (!mkIs c p) = !decide (x.client = c) := by rw [mkIs_eq h]
theorem spend_no {l : List Mk} {c q : Int} (h : c < 1 ∨ 8 < c ∨ q < 1 ∨ 4611686018427387904 < q) : spend l c q = l := by unfold spend; rw [if_pos h]
theorem spend_has {l : List Mk} {c q : Int} {m : Mk} (hf : findMk l c = some m) (h : q ≤ m.seq) : spend l c q = l := by
  unfold spend
  split
  · rfl
  · rw [hf]; simp [h]
theorem spend_more {l : List Mk} {c q : Int} {m : Mk} (h0 : ¬ (c < 1 ∨ 8 < c ∨ q < 1 ∨ 4611686018427387904 < q)) (hf : findMk l c = some m) (h : ¬ q ≤ m.seq) : spend l c q = putMk l ⟨c, q⟩ := by
  unfold spend
  rw [if_neg h0, hf]; simp [h]
theorem spend_new {l : List Mk} {c q : Int} (h0 : ¬ (c < 1 ∨ 8 < c ∨ q < 1 ∨ 4611686018427387904 < q)) (hf : findMk l c = none) : spend l c q = putMk l ⟨c, q⟩ := by
  unfold spend
  rw [if_neg h0, hf]
/-! What stays so. -/
theorem mksOk_of : ∀ {l : List Mk} {n : Int}, (∀ x ∈ l, n < x.client ∧ x.client ≤ 8 ∧ 1 ≤ x.seq ∧ x.seq ≤ 4611686018427387904) → l.Pairwise (fun a b => a.client < b.client) → mksOk n l
  | [], _, _, _ => trivial
  | m :: l, n, h, hp => by
    obtain ⟨h1, h2⟩ := List.pairwise_cons.1 hp
    obtain ⟨a, b, c, d⟩ := h m (by simp)
    exact ⟨a, b, c, d, mksOk_of (fun x hx => ⟨h1 x hx, (h x (List.mem_cons_of_mem _ hx)).2⟩) h2⟩
theorem mks_pair {l : List Mk} {n : Int} (h : mksOk n l) : l.Pairwise (fun a b => a.client < b.client) := by
  rw [List.pairwise_iff_getElem]
  exact fun i j hi hj hij => (mks_rise h).2 i j _ _ hij (List.getElem?_eq_getElem hi) (List.getElem?_eq_getElem hj)
theorem pair_put {X : Type} {R : X → X → Prop} {l : List X} {v : X} {f g : X → Bool} (hp : l.Pairwise R) (hf : ∀ x ∈ l, f x = true → R x v) (hg : ∀ x ∈ l, g x = true → R v x) (hfg : ∀ a ∈ l, ∀ b ∈ l, f a = true → g b = true → R a b) : (l.filter f ++ v :: l.filter g).Pairwise R := by
  rw [List.pairwise_append, List.pairwise_cons]
  refine ⟨hp.filter f, ⟨fun a ha => hg a (List.mem_filter.1 ha).1 (List.mem_filter.1 ha).2, hp.filter g⟩, fun a ha b hb => ?_⟩
  rcases List.mem_cons.1 hb with rfl | hb
  · exact hf a (List.mem_filter.1 ha).1 (List.mem_filter.1 ha).2
  · exact hfg a (List.mem_filter.1 ha).1 b (List.mem_filter.1 hb).1 (List.mem_filter.1 ha).2 (List.mem_filter.1 hb).2
theorem mks_put {l : List Mk} {m : Mk} (h : mksOk 0 l) (h1 : 1 ≤ m.client ∧ m.client ≤ 8) (h2 : 1 ≤ m.seq ∧ m.seq ≤ 4611686018427387904) : mksOk 0 (putMk l m) := by
  have ha := (mks_rise h).1
  refine mksOk_of (fun x hx => ?_) ?_
  · unfold putMk at hx
    rcases List.mem_append.1 hx with hx | hx
    · exact ha x (List.mem_filter.1 hx).1
    · rcases List.mem_cons.1 hx with rfl | hx
      · exact ⟨by omega, h1.2, h2⟩
      · exact ha x (List.mem_filter.1 hx).1
  · refine pair_put (mks_pair h) (fun x _ hx => by simpa using hx) (fun x _ hx => by simpa using hx) (fun a _ b _ h1 h2 => ?_)
    simp only [decide_eq_true_eq] at h1 h2
    omega
theorem spend_ok {l : List Mk} {c q : Int} (h : mksOk 0 l) : mksOk 0 (spend l c q) := by
  unfold spend
  split
  · exact h
  · rename_i hc
    split
    · split
      · exact h
      · exact mks_put h ⟨by show 1 ≤ c; omega, by show c ≤ 8; omega⟩ ⟨by show 1 ≤ q; omega, by show q ≤ _; omega⟩
    · exact mks_put h ⟨by show 1 ≤ c; omega, by show c ≤ 8; omega⟩ ⟨by show 1 ≤ q; omega, by show q ≤ _; omega⟩
theorem rtsOk_of : ∀ {l : List Rt}, (∀ x ∈ l, mayR x) → l.Pairwise (fun a b => ltR a b = true) → rtsOk l
  | [], _, _ => trivial
  | m :: l, h, hp => by
    obtain ⟨h1, h2⟩ := List.pairwise_cons.1 hp
    exact ⟨h m (by simp), h1, rtsOk_of (fun x hx => h x (List.mem_cons_of_mem _ hx)) h2⟩
theorem rts_pair {l : List Rt} (h : rtsOk l) : l.Pairwise (fun a b => ltR a b = true) := by
  rw [List.pairwise_iff_getElem]
  exact fun i j hi hj hij => (rts_rise h).2 i j _ _ hij (List.getElem?_eq_getElem hi) (List.getElem?_eq_getElem hj)
theorem rts_put {l : List Rt} {r : Rt} (h : rtsOk l) (hr : mayR r) : rtsOk (putRt l r) := by
  have ha := (rts_rise h).1
  refine rtsOk_of (fun x hx => ?_) ?_
  · unfold putRt at hx
    rcases List.mem_append.1 hx with hx | hx
    · exact ha x (List.mem_filter.1 hx).1
    · rcases List.mem_cons.1 hx with rfl | hx
      · exact hr
      · exact ha x (List.mem_filter.1 hx).1
  · exact pair_put (rts_pair h) (fun x _ hx => hx) (fun x _ hx => hx) (fun a _ b _ h1 h2 => ltR_trans h1 h2)
theorem putRt_len (l : List Rt) (r : Rt) : (putRt l r).length ≤ l.length + 1 := by
  have key : ∀ l : List Rt, (l.filter fun x => ltR x r).length + (l.filter fun x => ltR r x).length ≤ l.length := by
    intro l
    induction l with
    | nil => simp
    | cons a l ih =>
      rw [List.filter_cons, List.filter_cons]
      have : ¬ (ltR a r = true ∧ ltR r a = true) := fun h => by
        have h2 := ltR_trans h.1 h.2
        rw [ltR_irr] at h2; cases h2
      by_cases h1 : ltR a r = true <;> by_cases h2 : ltR r a = true <;> simp [h1, h2] <;> first | omega | exact absurd ⟨h1, h2⟩ this
  unfold putRt
  rw [List.length_append, List.length_cons]
  have := key l
  omega
theorem Good.into {b b' : Bo} {N : Nat} {n : Nt} (h : Good b N) (hi : b.into n = some b') : Good b' (N + 1) := by
  unfold Bo.into at hi
  split at hi
  · split at hi
    · rename_i hm
      simp only [Option.some.injEq] at hi
      subst hi
      exact ⟨h.eight, h.chk, rts_put h.rts hm, spend_ok h.mks, Nat.le_trans (putRt_len _ _) (by have := h.few; omega)⟩
    · cases hi
  · split at hi
    · cases hi
    · split at hi
      · split at hi
        · rename_i hc
          simp only [Option.some.injEq] at hi
          subst hi
          refine ⟨by rw [List.length_set]; exact h.eight, fun s hs => ?_, h.rts, h.mks, by have := h.few; show b.rights.length ≤ N + 1; omega⟩
          rcases List.mem_or_eq_of_mem_set hs with hs | rfl
          · exact h.chk s hs
          · exact hc
        · cases hi
      · cases hi
theorem Good.empty : Good Bo.empty 0 := ⟨rfl, fun s hs => by rw [(List.mem_replicate.1 hs).2]; rfl, trivial, trivial, Nat.le_refl _⟩
theorem Good.more {b : Bo} {N M : Nat} (h : Good b N) (hm : N ≤ M) : Good b M := { h with few := Nat.le_trans h.few hm }
theorem mks_len {l : List Mk} (h : mksOk 0 l) : l.length ≤ 8 := by
  have key : ∀ (l : List Mk) (n : Int), mksOk n l → 0 ≤ n → n ≤ 8 → (l.length : Int) ≤ 8 - n := by
    intro l
    induction l with
    | nil => intro n _ _ h; simp; omega
    | cons m l ih =>
      intro n h h0 h8
      have := ih m.client h.2.2.2.2 (by have := h.1; omega) h.2.1
      have := h.1
      rw [List.length_cons]; omega
  have := key l 0 h (by omega) (by omega)
  omega
end Go.Proofs.Ytbninklfoogmdaa
