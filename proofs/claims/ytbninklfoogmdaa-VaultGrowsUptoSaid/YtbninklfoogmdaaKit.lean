/-
  General laws: rows, slices of bytes, calls; for seats without the codec.
-/
import Derived.Test.YtbninklfoogmdaaCodecA
namespace Go.Proofs.Ytbninklfoogmdaa
open Go Go.RowKit

section more
variable {P : Program} {ds : List Deferred} {Q : Post} {K : List Value → World → Prop} {all os : List Oper} {l : List Value} {w0 w w' : World} {S S' : List Nat} {es es' : List Ent} {ty t : TypeId} {pos : String} {af : Array Edge} {d : Tmp} {v : Value} {op : Op}
  {zs cs : List Value} {sz bytes : Nat} {agg : Bool}
def placesOf (P : Program) (t : TypeId) : Option (List (Nat × Nat)) :=
  match P.underlying t with
  | some (.struct fields) => fields.toList.mapM (fun f => (P.info? f.type).map fun i => (f.offset, i.size))
  | _ => none
theorem ex_build (h : TyOk P t zs sz bytes agg) {ps : List (Nat × Nat)} (hp : placesOf P t = some ps) {xs : List (Nat × Operand)} {vs : List (Nat × Value)} (hv : partVals l xs = some vs) (hf : fillL (fun i => ps[i]?) zs vs = some cs) :
    Ex P l (.build t xs.toArray) ty w (.value (.agg cs.toArray)) w := fun _ _ _ _ => by
  obtain ⟨i, z, d, hi, hz, hzs, _, _, hd, _⟩ := h.ex
  have hb : P.built t (xs.toArray.map fun (i, x) => (i, rho l x)).toList = some cs.toArray := by
    have hvs : (xs.toArray.map fun (i, x) => (i, rho l x)).toList = vs := by simpa using partVals_eq hv
    rw [hvs]
    unfold placesOf at hp
    rw [hd] at hp
    cases d with
    | struct fields =>
      simp only at hp
      have hf' := fill_of (fun i => ps[i]?) vs zs cs hf
      have e : z.cells = zs.toArray := by rw [← hzs]
      unfold Program.built
      rw [hi, hd]
      simp only [hz, hp, e]
      simpa using hf'
    | _ => cases hp
  have hr := run_build (P := P) w t _ _ hb
  simp only [execOp, Sem.run_bind]
  rw [hr]
  rfl
theorem Hp.then (H : Hp w0 w S es) (H' : Hp w w' S' es') : Hp w0 w' (S ++ S') es' := by
  refine ⟨H'.os.trans H.os, H'.tape.trans H.tape, H'.output.trans H.output, Nat.le_trans H.size H'.size, ?_, ?_, H'.apart⟩
  · intro k hk hS
    simp only [List.mem_append, not_or] at hS
    rw [H'.frame k (Nat.lt_of_lt_of_le hk H.size) hS.2]
    exact H.frame k hk hS.1
  · intro i e he
    have := H'.ent i e he
    unfold EntOk at this ⊢
    split
    · rename_i hn; rw [hn] at this; exact this
    · rename_i g hg
      rw [hg] at this
      refine ⟨this.1, ?_⟩
      rcases this.2 with h | h
      · exact .inl (List.mem_append_right _ h)
      · exact .inr (Nat.le_trans H.size h)
theorem Hp.keep (H : Hp w0 w S es) {g : Nat} {o : Obj} (hg : w0.heap[g]? = some o) (hS : g ∉ S) : w.heap[g]? = some o := by
  rw [H.frame g (Array.getElem?_eq_some_iff.1 hg).1 hS]; exact hg
theorem ops_call_pair {f : FuncId} {args : Array Value} {R : Nat → Nat → World → Prop} (hx : Ex P l op ty w (.enter f args) w) (hc : Does P f args w fun r w' => ∃ k e : Nat, r = .tuple #[.int .i64 k, .int .i64 e] ∧ R k e w')
    (h : ∀ (k e : Nat) w', R k e w' → Ops P ds all K Q os (l.set d (.tuple #[.int .i64 k, .int .i64 e])) w') : Ops P ds all K Q (⟨some d, op, ty, pos, af, none⟩ :: os) l w :=
  ops_call hx hc fun r w' ⟨k, e, h1, h2⟩ => by rw [h1]; exact h k e w' h2
theorem ops_thing {f : FuncId} {args : Array Value} {R : Nat → Nat → World → Prop} {M : Nat → Nat → World → World → Prop} (hx : Ex P l op ty w (.enter f args) w) (hc : Does P f args w fun r w' => ∃ k e w2, R k e w2 ∧ r = .bool (decide (e = 0)) ∧ M k e w2 w')
    (h : ∀ (k e : Nat) w2 w', R k e w2 → M k e w2 w' → Ops P ds all K Q os (l.set d (.bool (decide (e = 0)))) w') : Ops P ds all K Q (⟨some d, op, ty, pos, af, none⟩ :: os) l w :=
  ops_call hx hc fun r w' ⟨k, e, w2, h1, h2, h3⟩ => by rw [h2]; exact h k e w2 w' h1 h3
/-- A cut, told in natural numbers. -/
theorem ex_cut3s {e : TypeId} {x : Operand} (ht : P.underlying t = some (.slice e)) (he : TyOk P e zs sz bytes agg) {A : Option Addr} {len c lo hi mx n m : Nat} {kl kh km : IntKind} {xl xh xm : Operand}
    (hx : ev l x = some (.slice A len c)) (hl : ev l xl = some (.int kl lo)) (hh : ev l xh = some (.int kh hi)) (hm : ev l xm = some (.int km mx)) (h : lo ≤ hi ∧ hi ≤ mx ∧ mx ≤ c) (hn : n = hi - lo) (hm' : m = mx - lo) :
    Ex P l (.slice t x (some xl) (some xh) (some xm)) ty w (.value (.slice (cutAddr A lo mx sz) n m)) w := by
  subst hn hm'
  have := ex_cut3 (ty := ty) (w := w) ht he hx hl hh hm (by omega)
  simpa only [Int.toNat_natCast] using this
theorem Hp.drop (H : Hp w0 w S es) (S' : List Nat) (hS : ∀ k, k < w0.heap.size → w.heap[k]? = w0.heap[k]? := by intro k hk; rfl) : Hp w0 w S' [] :=
  ⟨H.os, H.tape, H.output, H.size, fun k hk _ => hS k hk, by simp, by simp⟩
theorem still_not {KS : List Value → Prop} {j : Nat} {c b : Bool} (hg : yes all l j = some c) (hc : c = !b) (h : Still P ds all w KS os (l.set d undef)) : Still P ds all w KS (⟨some d, op, ty, pos, af, some (j, b)⟩ :: os) l := by
  refine still_no ?_ h
  rw [hg, hc]
  cases b <;> rfl
end more

section rdr
variable {w w' : World} {gr : Nat} {A : Option Addr} {c : Nat} {b : List UInt8} {i e : Nat}
theorem u8s_drop (b : List UInt8) (i : Nat) : u8s (b.drop i) = (u8s b).drop i := by simp [u8s, List.map_drop]
theorem u8s_take (b : List UInt8) (i : Nat) : u8s (b.take i) = (u8s b).take i := by simp [u8s, List.map_take]
theorem Rd.tail (h : Rd w A b.length 1 (u8s b)) (hi : i ≤ b.length) : Rd w (cutAddr A i b.length 1) (b.drop i).length 1 (u8s (b.drop i)) := by
  have := h.cut i b.length b.length hi (Nat.le_refl _) (Nat.le_refl _)
  rw [u8s_drop, List.length_drop]
  simp only [Nat.mul_one] at this
  rw [List.take_of_length_le (by rw [List.length_drop, u8s_length]; exact Nat.le_refl _)] at this
  unfold cutAddr
  simp only [Nat.mul_one]
  exact this
theorem Rd.mid {n v : Nat} (h : Rd w A b.length 1 (u8s b)) (hi : n + v ≤ b.length) : Rd w (cutAddr A n (n + v) 1) ((b.drop n).take v).length 1 (u8s ((b.drop n).take v)) := by
  have := h.cut n (n + v) (n + v) (by omega) hi (Nat.le_refl _)
  rw [u8s_take, u8s_drop, List.length_take, List.length_drop, Nat.min_eq_left (by omega)]
  simp only [Nat.mul_one, Nat.add_sub_cancel_left] at this
  unfold cutAddr
  simp only [Nat.mul_one]
  exact this
theorem Rd.head {n : Nat} (h : Rd w A b.length 1 (u8s b)) (hi : n ≤ b.length) : Rd w A (b.take n).length 1 (u8s (b.take n)) := by
  have := h.cut 0 n (n + 1) (by omega) hi (by omega)
  rw [u8s_take, List.length_take, Nat.min_eq_left hi]
  simp only [Nat.mul_one, Nat.sub_zero, List.drop_zero] at this
  rw [if_neg (by omega)] at this
  cases A with
  | none => exact this
  | some a => simpa [Addr.add_zero'] using this
end rdr
section app
variable {P : Program} {ds : List Deferred} {Q : Post} {K : List Value → World → Prop} {all os : List Oper} {l : List Value} {w0 w w' : World} {S S' : List Nat} {es es' : List Ent} {ty t : TypeId} {pos : String} {af : Array Edge} {d : Tmp} {v : Value} {op : Op}
  {zs cs : List Value} {agg : Bool} {x y : Operand}
/-- append of bytes to bytes. -/
theorem ops_app8 {e : TypeId} (ht : P.underlying t = some (.slice e)) (he : TyOk P e zs 1 1 agg) (H : Hp w0 w S es) (i : Nat)
    {g : Option Nat} {cap : Nat} {L M : List UInt8} {sp : List Value} (hx : ev l x = some (.slice (hd g) L.length cap)) (hi : es[i]? = some (g, e, u8s L ++ sp)) (hc : cap * 1 ≤ (u8s L ++ sp).length) (hnc : L.length ≤ cap) (hcap : g = none → cap = 0)
    {A : Option Addr} {c : Nat} (hy : ev l y = some (.slice A M.length c)) (hr : Rd w A M.length 1 (u8s M)) (hb : L.length + M.length ≤ 211106232532992)
    (k : ∀ w' g' cap' sp', Hp w0 w' S (es.set i (g', e, u8s (L ++ M) ++ sp')) → (L ++ M).length ≤ cap' → cap' * 1 ≤ (u8s (L ++ M) ++ sp').length → (g' = none → cap' = 0) → Ops P ds all K Q os (l.set d (.slice (hd g') (L ++ M).length cap')) w') :
    Ops P ds all K Q (⟨some d, .call { callee := .builtin .append, args := #[x, y], argTypes := #[t, t] }, ty, pos, af, none⟩ :: os) l w := by
  refine ops_append ht he (by decide) H i hx hi (u8s_length1 L) hc hnc hcap hy hr (u8s_one' M) (by omega) (by omega) (by decide) ?_
  intro w' g' cap' sp' H' h1 h2 h3
  rw [← List.length_append]
  rw [← List.length_append] at h2
  rw [← u8s_append] at H' h1
  exact k w' g' cap' sp' H' h2 h1 h3
theorem ops_call_slice {f : FuncId} {args : Array Value} {n : Nat} {X : Option Nat → Nat → List Value → World → Prop} (hx : Ex P l op ty w (.enter f args) w) (hc : Does P f args w fun r w' => ∃ g cap sp, r = .slice (hd g) n cap ∧ X g cap sp w')
    (h : ∀ w' g cap sp, X g cap sp w' → Ops P ds all K Q os (l.set d (.slice (hd g) n cap)) w') : Ops P ds all K Q (⟨some d, op, ty, pos, af, none⟩ :: os) l w :=
  ops_call hx hc fun r w' ⟨g, cap, sp, h1, h2⟩ => by rw [h1]; exact h w' g cap sp h2
end app
theorem Hp.ne {w0 w : World} {S : List Nat} {es : List Ent} (H : Hp w0 w S es) {i j g g' : Nat} {T T' : TypeId} {cs cs' : List Value} (h1 : es[i]? = some (some g, T, cs)) (h2 : es[j]? = some (some g', T', cs')) (hij : i ≠ j) : g ≠ g' := by
  rintro rfl
  exact hij (H.apart i j _ _ g h1 h2 rfl rfl)
theorem Hp.neh {w0 w : World} {S : List Nat} {es : List Ent} (H : Hp w0 w S es) {i j g' : Nat} {g : Option Nat} {T T' : TypeId} {cs cs' : List Value} (h1 : es[i]? = some (g, T, cs)) (h2 : es[j]? = some (some g', T', cs')) (hij : i ≠ j) : ∀ a, hd g = some a → a.block ≠ g' := by
  intro a ha
  cases g with
  | none => simp [hd] at ha
  | some x =>
    simp only [hd, Option.map_some, Option.some.injEq] at ha
    subst ha
    exact H.ne h1 h2 hij
theorem Rd.mid2 {w : World} {A : Option Addr} {b : List UInt8} {n v c : Nat} (h : Rd w A b.length 1 (u8s b)) (hi : n + v ≤ b.length) (hc : b.length ≤ c) : Rd w (cutAddr A n c 1) ((n + v) - n) 1 (u8s ((b.drop n).take v)) := by
  have := h.cut n (n + v) c (by omega) hi (by omega)
  rw [u8s_take, u8s_drop]
  simp only [Nat.mul_one, Nat.add_sub_cancel_left] at this ⊢
  unfold cutAddr
  simp only [Nat.mul_one]
  exact this
theorem Rd.tail2 {w : World} {A : Option Addr} {b : List UInt8} {i c : Nat} (h : Rd w A b.length 1 (u8s b)) (hi : i ≤ b.length) (hc : b.length ≤ c) : Rd w (cutAddr A i c 1) (b.length - i) 1 (u8s (b.drop i)) := by
  have := h.mid2 (n := i) (v := b.length - i) (c := c) (by omega) hc
  rw [Nat.add_sub_cancel_left, List.take_of_length_le (by rw [List.length_drop]; exact Nat.le_refl _)] at this
  exact this
theorem addz (g o : Nat) : (⟨g, 0, none⟩ : Addr).add o = ⟨g, o, none⟩ := by
  unfold Addr.add
  split
  · rename_i h; rw [h]
  · simp
end Go.Proofs.Ytbninklfoogmdaa
