/-
  Readers: their state, what a call of theirs does to it, and the laws that their walks need.
-/
import Derived.Test.YtoeobicpdeklaaaGreatCodecA
namespace Go.Proofs.YtoeobicpdeklaaaGreat
open Go Go.RowKit

section more
variable {P : Program} {ds : List Deferred} {Q : Post} {K : List Value → World → Prop} {all os : List Oper} {l : List Value} {w0 w w' : World} {S S' : List Nat} {es es' : List Ent} {ty t : TypeId} {pos : String} {af : Array Edge} {d : Tmp} {v : Value} {op : Op}
  {zs cs : List Value} {sz bytes : Nat} {agg : Bool}
def placesOf (P : Program) (t : TypeId) : Option (List (Nat × Nat)) :=
  match P.underlying t with
  | some (.struct fields) => fields.toList.mapM (fun f => (P.info? f.type).map fun i => (f.offset, i.size))
  | _ => none
theorem ex_build (h : TyOk P t zs sz bytes agg) {ps : List (Nat × Nat)} (hp : placesOf P t = some ps) {xs : List (Nat × Operand)} {vs : List (Nat × Value)} (hv : partVals l xs = some vs) (hf : fillL (fun i => ps[i]?) zs vs = some cs) :
    Ex P l (.build t xs.toArray) ty w (.value (.agg cs.toArray)) w := fun _ _ _ _ => by
  obtain ⟨i, z, d, hi, hz, hzs, _, _, hd, _⟩ := h.ex
  have hb : P.built t (xs.toArray.map fun (i, x) => (i, rho l x)).toList = some cs.toArray := by
    have hvs : (xs.toArray.map fun (i, x) => (i, rho l x)).toList = vs := by simpa using partVals_eq hv
    rw [hvs]
    unfold placesOf at hp
    rw [hd] at hp
    cases d with
    | struct fields =>
      simp only at hp
      have hf' := fill_of (fun i => ps[i]?) vs zs cs hf
      have e : z.cells = zs.toArray := by rw [← hzs]
      unfold Program.built
      rw [hi, hd]
      simp only [hz, hp, e]
      simpa using hf'
    | _ => cases hp
  have hr := run_build (P := P) w t _ _ hb
  simp only [execOp, Sem.run_bind]
  rw [hr]
  rfl
theorem Hp.then (H : Hp w0 w S es) (H' : Hp w w' S' es') : Hp w0 w' (S ++ S') es' := by
  refine ⟨H'.os.trans H.os, H'.tape.trans H.tape, H'.output.trans H.output, Nat.le_trans H.size H'.size, ?_, ?_, H'.apart⟩
  · intro k hk hS
    simp only [List.mem_append, not_or] at hS
    rw [H'.frame k (Nat.lt_of_lt_of_le hk H.size) hS.2]
    exact H.frame k hk hS.1
  · intro i e he
    have := H'.ent i e he
    unfold EntOk at this ⊢
    split
    · rename_i hn; rw [hn] at this; exact this
    · rename_i g hg
      rw [hg] at this
      refine ⟨this.1, ?_⟩
      rcases this.2 with h | h
      · exact .inl (List.mem_append_right _ h)
      · exact .inr (Nat.le_trans H.size h)
theorem Hp.keep (H : Hp w0 w S es) {g : Nat} {o : Obj} (hg : w0.heap[g]? = some o) (hS : g ∉ S) : w.heap[g]? = some o := by
  rw [H.frame g (Array.getElem?_eq_some_iff.1 hg).1 hS]; exact hg
theorem ops_call_pair {f : FuncId} {args : Array Value} {R : Nat → Nat → World → Prop} (hx : Ex P l op ty w (.enter f args) w) (hc : Does P f args w fun r w' => ∃ k e : Nat, r = .tuple #[.int .i64 k, .int .i64 e] ∧ R k e w')
    (h : ∀ (k e : Nat) w', R k e w' → Ops P ds all K Q os (l.set d (.tuple #[.int .i64 k, .int .i64 e])) w') : Ops P ds all K Q (⟨some d, op, ty, pos, af, none⟩ :: os) l w :=
  ops_call hx hc fun r w' ⟨k, e, h1, h2⟩ => by rw [h1]; exact h k e w' h2
theorem ops_thing {f : FuncId} {args : Array Value} {R : Nat → Nat → World → Prop} {M : Nat → Nat → World → World → Prop} (hx : Ex P l op ty w (.enter f args) w) (hc : Does P f args w fun r w' => ∃ k e w2, R k e w2 ∧ r = .bool (decide (e = 0)) ∧ M k e w2 w')
    (h : ∀ (k e : Nat) w2 w', R k e w2 → M k e w2 w' → Ops P ds all K Q os (l.set d (.bool (decide (e = 0)))) w') : Ops P ds all K Q (⟨some d, op, ty, pos, af, none⟩ :: os) l w :=
  ops_call hx hc fun r w' ⟨k, e, w2, h1, h2, h3⟩ => by rw [h2]; exact h k e w2 w' h1 h3
/-- A cut, told in natural numbers. -/
theorem ex_cut3s {e : TypeId} {x : Operand} (ht : P.underlying t = some (.slice e)) (he : TyOk P e zs sz bytes agg) {A : Option Addr} {len c lo hi mx n m : Nat} {kl kh km : IntKind} {xl xh xm : Operand}
    (hx : ev l x = some (.slice A len c)) (hl : ev l xl = some (.int kl lo)) (hh : ev l xh = some (.int kh hi)) (hm : ev l xm = some (.int km mx)) (h : lo ≤ hi ∧ hi ≤ mx ∧ mx ≤ c) (hn : n = hi - lo) (hm' : m = mx - lo) :
    Ex P l (.slice t x (some xl) (some xh) (some xm)) ty w (.value (.slice (cutAddr A lo mx sz) n m)) w := by
  subst hn hm'
  have := ex_cut3 (ty := ty) (w := w) ht he hx hl hh hm (by omega)
  simpa only [Int.toNat_natCast] using this
theorem Hp.drop (H : Hp w0 w S es) (S' : List Nat) (hS : ∀ k, k < w0.heap.size → w.heap[k]? = w0.heap[k]? := by intro k hk; rfl) : Hp w0 w S' [] :=
  ⟨H.os, H.tape, H.output, H.size, fun k hk _ => hS k hk, by simp, by simp⟩
theorem still_not {KS : List Value → Prop} {j : Nat} {c b : Bool} (hg : yes all l j = some c) (hc : c = !b) (h : Still P ds all w KS os (l.set d undef)) : Still P ds all w KS (⟨some d, op, ty, pos, af, some (j, b)⟩ :: os) l := by
  refine still_no ?_ h
  rw [hg, hc]
  cases b <;> rfl
end more

/-- A reader's cells. -/
@[reducible] def rc (A : Option Addr) (b : List UInt8) (c i e : Nat) : List Value := [.slice A b.length c, .int .i64 (i : Int), .int .i64 (e : Int)]
/-- A reader stands there: over these bytes, at this place, with this fault. -/
structure Rdr (w : World) (gr : Nat) (A : Option Addr) (c : Nat) (b : List UInt8) (i e : Nat) : Prop where
  row : w.heap[gr]? = some (.cells (rc A b c i e).toArray 159 (0, 0))
  rd : Rd w A b.length 1 (u8s b)
  apart : ∀ a, A = some a → a.block ≠ gr
  le : i ≤ b.length
  cap : b.length ≤ c
  len : b.length ≤ 211106232532900
section rdr
variable {w w' : World} {gr : Nat} {A : Option Addr} {c : Nat} {b : List UInt8} {i e : Nat}
theorem u8s_drop (b : List UInt8) (i : Nat) : u8s (b.drop i) = (u8s b).drop i := by simp [u8s, List.map_drop]
theorem u8s_take (b : List UInt8) (i : Nat) : u8s (b.take i) = (u8s b).take i := by simp [u8s, List.map_take]
theorem Rd.tail (h : Rd w A b.length 1 (u8s b)) (hi : i ≤ b.length) : Rd w (cutAddr A i b.length 1) (b.drop i).length 1 (u8s (b.drop i)) := by
  have := h.cut i b.length b.length hi (Nat.le_refl _) (Nat.le_refl _)
  rw [u8s_drop, List.length_drop]
  simp only [Nat.mul_one] at this
  rw [List.take_of_length_le (by rw [List.length_drop, u8s_length]; exact Nat.le_refl _)] at this
  unfold cutAddr
  simp only [Nat.mul_one]
  exact this
theorem Rd.mid {n v : Nat} (h : Rd w A b.length 1 (u8s b)) (hi : n + v ≤ b.length) : Rd w (cutAddr A n (n + v) 1) ((b.drop n).take v).length 1 (u8s ((b.drop n).take v)) := by
  have := h.cut n (n + v) (n + v) (by omega) hi (Nat.le_refl _)
  rw [u8s_take, u8s_drop, List.length_take, List.length_drop, Nat.min_eq_left (by omega)]
  simp only [Nat.mul_one, Nat.add_sub_cancel_left] at this
  unfold cutAddr
  simp only [Nat.mul_one]
  exact this
theorem Rd.head {n : Nat} (h : Rd w A b.length 1 (u8s b)) (hi : n ≤ b.length) : Rd w A (b.take n).length 1 (u8s (b.take n)) := by
  have := h.cut 0 n (n + 1) (by omega) hi (by omega)
  rw [u8s_take, List.length_take, Nat.min_eq_left hi]
  simp only [Nat.zero_mul, Nat.mul_one, Nat.sub_zero, List.drop_zero] at this
  rw [if_neg (by omega)] at this
  cases A with
  | none => exact this
  | some a => simpa [Addr.add_zero'] using this
theorem Rdr.to (h : Rdr w gr A c b i e) {es : List Ent} {S : List Nat} (H : Hp w w' S es) (h1 : gr ∉ S) (h2 : ∀ a, A = some a → a.block ∉ S) : Rdr w' gr A c b i e :=
  ⟨H.keep h.row h1, h.rd.to H h2, h.apart, h.le, h.cap, h.len⟩
theorem Rdr.to0 (h : Rdr w gr A c b i e) {es : List Ent} (H : Hp w w' [] es) : Rdr w' gr A c b i e := h.to H (by simp) (by simp)
theorem Rdr.next {w2 : World} {j f : Nat} (h : Rdr w gr A c b i e) (H : Hp w w2 [gr] [(some gr, 159, rc A b c j f)]) (hj : j ≤ b.length) : Rdr w2 gr A c b j f :=
  ⟨H.at (i := 0) rfl, h.rd.to H (by intro a ha; simp; exact h.apart a ha), h.apart, hj, h.cap, h.len⟩
end rdr
/-! What is read next. -/
def byteOf : List UInt8 → Nat × Nat × Nat
  | [] => (0, 0, 20)
  | x :: _ => (x.toNat, 1, 0)
def flagOf : List UInt8 → Bool × Nat × Nat
  | [] => (false, 0, 20)
  | x :: _ => if 1 < x.toNat then (false, 0, 21) else (decide (x.toNat = 1), 1, 0)
def textOf (b : List UInt8) (most : Int) : List UInt8 × Nat × Nat :=
  if (countedOf b most).2.2 ≠ 0 then ([], 0, (countedOf b most).2.2)
  else if b.length < (countedOf b most).2.1 + (countedOf b most).1 then ([], 0, 20)
  else ((b.drop (countedOf b most).2.1).take (countedOf b most).1, (countedOf b most).2.1 + (countedOf b most).1, 0)
theorem countedOf_bd (b : List UInt8) (most : Int) : (countedOf b most).1 < 2 ^ 64 ∧ (countedOf b most).2.1 ≤ b.length ∧ (countedOf b most).2.1 ≤ 10 ∧
    ((countedOf b most).2.2 = 0 ∨ (countedOf b most).2.2 = 20 ∨ (countedOf b most).2.2 = 21 ∨ (countedOf b most).2.2 = 22) ∧ ((countedOf b most).2.2 ≠ 0 → (countedOf b most).1 = 0 ∧ (countedOf b most).2.1 = 0) ∧
    ((countedOf b most).2.2 = 0 → (numOf b).2.2 = 0 ∧ (countedOf b most).1 = (numOf b).1 ∧ (countedOf b most).2.1 = (numOf b).2.1 ∧ ((numOf b).1 : Int) ≤ max most 0) := by
  have h := numOf_bd b
  by_cases h1 : (numOf b).2.2 = 0
  · by_cases h2 : max most 0 < ((numOf b).1 : Int)
    · rw [countedOf_l h1 h2]; simp
    · rw [countedOf_t h1 h2]; exact ⟨h.1, h.2.1, h.2.2.1, .inl rfl, fun h => absurd rfl h, fun _ => ⟨h1, rfl, rfl, by omega⟩⟩
  · rw [countedOf_f h1]
    simp only
    exact ⟨by omega, by omega, by omega, by have := h.2.2.2.1; omega, fun _ => by simp, fun h => absurd h h1⟩
/-- What a reader's calls answer, and where they leave it. -/
def numStep (b : List UInt8) (i e : Nat) : Nat × Nat × Nat := if e = 0 then ((numOf (b.drop i)).1, i + (numOf (b.drop i)).2.1, (numOf (b.drop i)).2.2) else (0, i, e)
def countStep (b : List UInt8) (most : Int) (i e : Nat) : Nat × Nat × Nat := if e = 0 then ((countedOf (b.drop i) most).1, i + (countedOf (b.drop i) most).2.1, (countedOf (b.drop i) most).2.2) else (0, i, e)
def byteStep (b : List UInt8) (i e : Nat) : Nat × Nat × Nat := if e = 0 then ((byteOf (b.drop i)).1, i + (byteOf (b.drop i)).2.1, (byteOf (b.drop i)).2.2) else (0, i, e)
def flagStep (b : List UInt8) (i e : Nat) : Bool × Nat × Nat := if e = 0 then ((flagOf (b.drop i)).1, i + (flagOf (b.drop i)).2.1, (flagOf (b.drop i)).2.2) else (false, i, e)
def textStep (b : List UInt8) (most : Int) (i e : Nat) : List UInt8 × Nat × Nat := if e = 0 then ((textOf (b.drop i) most).1, i + (textOf (b.drop i) most).2.1, (textOf (b.drop i) most).2.2) else ([], i, e)
theorem byteOf_bd (b : List UInt8) : (byteOf b).1 < 256 ∧ (byteOf b).2.1 ≤ b.length ∧ (byteOf b).2.2 < 100 ∧ ((byteOf b).2.2 ≠ 0 → (byteOf b).2.1 = 0) := by
  cases b with
  | nil => simp [byteOf]
  | cons x t => have := x.toNat_lt; simp [byteOf]; omega
theorem flagOf_bd (b : List UInt8) : (flagOf b).2.1 ≤ b.length ∧ (flagOf b).2.2 < 100 ∧ ((flagOf b).2.2 ≠ 0 → (flagOf b).2.1 = 0) := by
  cases b with
  | nil => simp [flagOf]
  | cons x t => by_cases h : 1 < x.toNat <;> simp [flagOf, h]
theorem textOf_bd (b : List UInt8) (most : Int) : (textOf b most).2.1 ≤ b.length ∧ (textOf b most).2.2 < 100 ∧ ((textOf b most).2.2 ≠ 0 → (textOf b most).2.1 = 0) := by
  have h := countedOf_bd b most
  unfold textOf
  split
  · simp; omega
  · split
    · simp
    · simp; omega
def unz (v : Nat) : Int := if v % 2 = 1 then -((v / 2 : Nat) : Int) - 1 else ((v / 2 : Nat) : Int)
theorem shr1 (v : Nat) : ((v : Int)).fdiv (2 ^ (min (1 : Int).toNat IntKind.u64.bits)) = ((v / 2 : Nat) : Int) := shr_nat v 1 64
theorem compl_pos (m : Nat) (h : m < 2 ^ 63) : bits .xor .i64 (-1) (m : Int) = -(m : Int) - 1 := by
  simp only [bits]
  have e2 : BitVec.ofInt 64 (-1) = BitVec.allOnes 64 := by decide
  show IntKind.i64.wrap ((BitVec.ofInt 64 (-1) ^^^ BitVec.ofInt 64 (m : Int)).toNat : Int) = _
  rw [BitVec.ofInt_natCast, e2, BitVec.allOnes_xor, BitVec.toNat_not, BitVec.toNat_ofNat, Nat.mod_eq_of_lt (by omega), IntKind.wrap_i64]
  omega
theorem numStep_lt (b : List UInt8) (i e : Nat) : (numStep b i e).1 < 2 ^ 64 := by
  unfold numStep
  split
  · exact (numOf_bd _).1
  · simp
/-- A reader of its own, new. -/
def NewRd (w0 w' : World) (r : Value) (b : List UInt8) : Prop :=
  ∃ gr g cap sp, r = .pointer (some ⟨gr, 0, none⟩) ∧ b.length ≤ cap ∧ cap * 1 ≤ (u8s b ++ sp).length ∧ (g = none → cap = 0) ∧ Hp w0 w' [] [(some gr, 159, rc (hd g) b cap 0 0), (g, 5, u8s b ++ sp)]
theorem rdr_of {w0 w : World} {S : List Nat} {es : List Ent} {j k gr c i e : Nat} {g : Option Nat} {b : List UInt8} {sp : List Value} (H : Hp w0 w S es) (h1 : es[j]? = some (some gr, 159, rc (hd g) b c i e)) (h2 : es[k]? = some (g, 5, u8s b ++ sp)) (hjk : j ≠ k)
    (hc : b.length ≤ c) (hb : b.length ≤ 211106232532900) (hi : i ≤ b.length) : Rdr w gr (hd g) c b i e := by
  refine ⟨H.at h1, H.rd h2 (u8s_length1 b) (by decide), ?_, hi, hc, hb⟩
  intro a ha
  cases g with
  | none => simp [hd] at ha
  | some x =>
    simp only [hd, Option.map_some, Option.some.injEq] at ha
    subst ha
    intro h
    simp only at h
    subst h
    exact hjk (H.apart j k _ _ x h1 h2 rfl rfl)

theorem ops_new {P : Program} {ds : List Deferred} {Q : Post} {K : List Value → World → Prop} {all os : List Oper} {l : List Value} {w : World} {op : Op} {ty : TypeId} {pos : String} {af : Array Edge} {d : Tmp}
    {f : FuncId} {args : Array Value} {b : List UInt8} (hx : Ex P l op ty w (.enter f args) w) (hc : Does P f args w fun r w' => NewRd w w' r b)
    (h : ∀ w' gr g cap sp, b.length ≤ cap → cap * 1 ≤ (u8s b ++ sp).length → (g = none → cap = 0) → Hp w w' [] [(some gr, 159, rc (hd g) b cap 0 0), (g, 5, u8s b ++ sp)] → Ops P ds all K Q os (l.set d (.pointer (some ⟨gr, 0, none⟩))) w') :
    Ops P ds all K Q (⟨some d, op, ty, pos, af, none⟩ :: os) l w :=
  ops_call hx hc fun r w' ⟨gr, g, cap, sp, h1, h2, h3, h4, h5⟩ => by rw [h1]; exact h w' gr g cap sp h2 h3 h4 h5
theorem numStep_5 : numStep [5] 0 0 = (5, 1, 0) := by simp [numStep, numOf_eq, numGo]
theorem enc_300 : (enc 300).length = 2 := by rw [enc_ge (by decide), enc_lt (by decide)]; rfl
end Go.Proofs.YtoeobicpdeklaaaGreat
