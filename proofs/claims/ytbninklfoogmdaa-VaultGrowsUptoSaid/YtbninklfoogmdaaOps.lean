/-
  One law an operation: what it yields over a frame, and how a walk goes on behind it.
-/
import Derived.Test.YtbninklfoogmdaaMem
namespace Go.Proofs.Ytbninklfoogmdaa
open Go Go.RowKit

/-- The operation runs so. -/
def Ex (P : Program) (l : List Value) (op : Op) (ty : TypeId) (w : World) (nx : Next) (w' : World) : Prop :=
  ∀ d pos af g, (execOp (rho l) ⟨d, op, ty, pos, af, g⟩).run P w = .ok nx w'
def noneOf (t : Option Tmp) : Bool := t.isNone

section steps
variable {P : Program} {ds : List Deferred} {Q : Post} {K : List Value → World → Prop} {all os : List Oper} {l : List Value} {w w' : World} {op : Op} {ty : TypeId} {pos : String} {af : Array Edge} {d : Tmp} {v : Value}
theorem list_put (l : List Value) (ds : List Deferred) (d : Tmp) (v : Value) : (⟨l.toArray, ds⟩ : Act).put (some d) v = ⟨(l.set d v).toArray, ds⟩ := by
  simp [Act.put]
theorem ops_val (hx : Ex P l op ty w (.value v) w') (h : Ops P ds all K Q os (l.set d v) w') : Ops P ds all K Q (⟨some d, op, ty, pos, af, none⟩ :: os) l w := by
  refine wpList_plain rfl fun K' hK => ?_
  unfold Oper.wp
  rw [rho_eq, hx, Oper.upon_value]
  refine hK _ _ ?_
  rw [list_put]
  exact h
theorem ops_skip (hx : Ex P l op ty w .skip w') (h : Ops P ds all K Q os l w') : Ops P ds all K Q (⟨none, op, ty, pos, af, none⟩ :: os) l w := by
  refine wpList_plain rfl fun K' hK => ?_
  unfold Oper.wp
  rw [rho_eq, hx, Oper.upon_skip]
  exact hK _ _ h
theorem ops_call {f : FuncId} {args : Array Value} {R : Value → World → Prop} (hx : Ex P l op ty w (.enter f args) w) (hc : Does P f args w R)
    (h : ∀ v w', R v w' → Ops P ds all K Q os (l.set d v) w') : Ops P ds all K Q (⟨some d, op, ty, pos, af, none⟩ :: os) l w := by
  refine wpList_plain rfl fun K' hK => ?_
  unfold Oper.wp
  rw [rho_eq, hx, Oper.upon_enter]
  refine Calls.mono hc ?_
  rintro e w2 ⟨v, rfl, hR⟩
  refine hK _ _ ?_
  rw [list_put]
  exact h v w2 hR
theorem ops_call_eq {f : FuncId} {args : Array Value} (hx : Ex P l op ty w (.enter f args) w) (hc : Does P f args w fun r w' => r = v ∧ w' = w)
    (h : Ops P ds all K Q os (l.set d v) w) : Ops P ds all K Q (⟨some d, op, ty, pos, af, none⟩ :: os) l w :=
  ops_call hx hc fun r w' ⟨h1, h2⟩ => by rw [h1, h2]; exact h
theorem ops_call_val {f : FuncId} {args : Array Value} {R : World → Prop} (hx : Ex P l op ty w (.enter f args) w) (hc : Does P f args w fun r w' => r = v ∧ R w')
    (h : ∀ w', R w' → Ops P ds all K Q os (l.set d v) w') : Ops P ds all K Q (⟨some d, op, ty, pos, af, none⟩ :: os) l w :=
  ops_call hx hc fun r w' ⟨h1, h2⟩ => by rw [h1]; exact h w' h2
theorem ops_call_none {f : FuncId} {args : Array Value} {R : Value → World → Prop} (hx : Ex P l op ty w (.enter f args) w) (hc : Does P f args w R)
    (h : ∀ v w', R v w' → Ops P ds all K Q os l w') : Ops P ds all K Q (⟨none, op, ty, pos, af, none⟩ :: os) l w := by
  refine wpList_plain rfl fun K' hK => ?_
  unfold Oper.wp
  rw [rho_eq, hx, Oper.upon_enter]
  refine Calls.mono hc ?_
  rintro e w2 ⟨v, rfl, hR⟩
  exact hK _ _ (h v w2 hR)
/-- A test that is known. -/
theorem ops_true {p : Prop} {_ : Decidable p} (hx : Ex P l op ty w (.value (.bool (decide p))) w) (hp : p) (h : Ops P ds all K Q os (l.set d (.bool true)) w) : Ops P ds all K Q (⟨some d, op, ty, pos, af, none⟩ :: os) l w :=
  ops_val hx (by rw [decide_eq_true hp]; exact h)
theorem ops_false {p : Prop} {_ : Decidable p} (hx : Ex P l op ty w (.value (.bool (decide p))) w) (hp : ¬ p) (h : Ops P ds all K Q os (l.set d (.bool false)) w) : Ops P ds all K Q (⟨some d, op, ty, pos, af, none⟩ :: os) l w :=
  ops_val hx (by rw [decide_eq_false hp]; exact h)
theorem ops_test {p : Prop} {_ : Decidable p} (hx : Ex P l op ty w (.value (.bool (decide p))) w) (h1 : p → Ops P ds all K Q os (l.set d (.bool true)) w) (h2 : ¬ p → Ops P ds all K Q os (l.set d (.bool false)) w) :
    Ops P ds all K Q (⟨some d, op, ty, pos, af, none⟩ :: os) l w := by
  by_cases hp : p
  · exact ops_true hx hp (h1 hp)
  · exact ops_false hx hp (h2 hp)
/-- Guards. -/
def yes (all : List Oper) (l : List Value) (j : Nat) : Option Bool :=
  match all[j]? with
  | some o => match o.dst with
    | some t => match nth l t with
      | some (.bool b) => some b
      | _ => none
    | none => none
  | none => none
theorem yielded_eq (all : List Oper) (l : List Value) (j : Nat) : yielded all.toArray l.toArray j = yes all l j := by
  simp only [yielded, yes, nth_eq, List.getElem?_toArray]
  cases all[j]? with
  | none => rfl
  | some o =>
    simp only [Option.bind_some]
    cases o.dst with
    | none => rfl
    | some t => simp only [Option.bind_some]; cases l[t]? <;> rfl
theorem ops_yes {dst : Option Tmp} {j : Nat} {b : Bool} (hg : yes all l j = some b) (h : Ops P ds all K Q (⟨dst, op, ty, pos, af, none⟩ :: os) l w) : Ops P ds all K Q (⟨dst, op, ty, pos, af, some (j, b)⟩ :: os) l w := by
  unfold Ops wpList at h ⊢
  have e1 : Region.wanted ⟨dst, op, ty, pos, af, some (j, b)⟩ (yielded all.toArray l.toArray) = true := by simp [Region.wanted, yielded_eq, hg]
  have e2 : Region.wanted ⟨dst, op, ty, pos, af, none⟩ (yielded all.toArray l.toArray) = true := rfl
  rw [if_pos e1]
  rw [if_pos e2] at h
  exact h
theorem ops_no {j : Nat} {b : Bool} (hg : (yes all l j == some b) = false) (h : Ops P ds all K Q os (l.set d undef) w) : Ops P ds all K Q (⟨some d, op, ty, pos, af, some (j, b)⟩ :: os) l w := by
  refine wpList_skip ?_ ?_
  · simpa [Region.wanted, yielded_eq] using hg
  · rw [list_put]; exact h
theorem ops_no_none {j : Nat} {b : Bool} (hg : (yes all l j == some b) = false) (h : Ops P ds all K Q os l w) : Ops P ds all K Q (⟨none, op, ty, pos, af, some (j, b)⟩ :: os) l w := by
  refine wpList_skip ?_ h
  simpa [Region.wanted, yielded_eq] using hg

/-! The same in a region that draws its order. -/
variable {KS : List Value → Prop}
theorem still_nil (h : KS l) : Still P ds all w KS [] l := wpStill_nil ⟨rfl, h⟩
theorem still_go (h : Oper.still P ⟨some d, op, ty, pos, af, none⟩ ⟨l.toArray, ds⟩ w (wpStill P all.toArray w (fun a => a.defers = ds ∧ KS a.tmps.toList) os)) : Still P ds all w KS (⟨some d, op, ty, pos, af, none⟩ :: os) l := h
theorem still_val (hx : Ex P l op ty w (.value v) w) (h : Still P ds all w KS os (l.set d v)) : Still P ds all w KS (⟨some d, op, ty, pos, af, none⟩ :: os) l := by
  refine still_go ?_
  unfold Oper.still
  rw [rho_eq, hx, Oper.stillUpon_value, list_put]
  exact h
theorem still_call {f : FuncId} {args : Array Value} (hx : Ex P l op ty w (.enter f args) w) (hc : Does P f args w fun v' w' => v' = v ∧ w' = w)
    (h : Still P ds all w KS os (l.set d v)) : Still P ds all w KS (⟨some d, op, ty, pos, af, none⟩ :: os) l := by
  refine still_go ?_
  unfold Oper.still
  rw [rho_eq, hx]
  refine ⟨rfl, v, Calls.mono hc ?_, ?_⟩
  · rintro e w' ⟨v', rfl, rfl, rfl⟩; exact ⟨rfl, rfl⟩
  · rw [list_put]; exact h
theorem still_true {p : Prop} {_ : Decidable p} (hx : Ex P l op ty w (.value (.bool (decide p))) w) (hp : p) (h : Still P ds all w KS os (l.set d (.bool true))) : Still P ds all w KS (⟨some d, op, ty, pos, af, none⟩ :: os) l :=
  still_val hx (by rw [decide_eq_true hp]; exact h)
theorem still_false {p : Prop} {_ : Decidable p} (hx : Ex P l op ty w (.value (.bool (decide p))) w) (hp : ¬ p) (h : Still P ds all w KS os (l.set d (.bool false))) : Still P ds all w KS (⟨some d, op, ty, pos, af, none⟩ :: os) l :=
  still_val hx (by rw [decide_eq_false hp]; exact h)
theorem still_test {p : Prop} {_ : Decidable p} (hx : Ex P l op ty w (.value (.bool (decide p))) w) (h1 : p → Still P ds all w KS os (l.set d (.bool true))) (h2 : ¬ p → Still P ds all w KS os (l.set d (.bool false))) :
    Still P ds all w KS (⟨some d, op, ty, pos, af, none⟩ :: os) l := by
  by_cases hp : p
  · exact still_true hx hp (h1 hp)
  · exact still_false hx hp (h2 hp)
theorem still_yes {dst : Option Tmp} {j : Nat} {b : Bool} (hg : yes all l j = some b) (h : Still P ds all w KS (⟨dst, op, ty, pos, af, none⟩ :: os) l) : Still P ds all w KS (⟨dst, op, ty, pos, af, some (j, b)⟩ :: os) l := by
  have e1 : Region.wanted ⟨dst, op, ty, pos, af, some (j, b)⟩ (yielded all.toArray l.toArray) = true := by simp [Region.wanted, yielded_eq, hg]
  show (if _ then _ else _)
  rw [if_pos e1]
  exact h
theorem still_no {j : Nat} {b : Bool} (hg : (yes all l j == some b) = false) (h : Still P ds all w KS os (l.set d undef)) : Still P ds all w KS (⟨some d, op, ty, pos, af, some (j, b)⟩ :: os) l := by
  have e1 : ¬ Region.wanted ⟨some d, op, ty, pos, af, some (j, b)⟩ (yielded all.toArray l.toArray) = true := by simpa [Region.wanted, yielded_eq] using hg
  show (if _ then _ else _)
  rw [if_neg e1, list_put]
  exact h
end steps

/-! ### What the operations yield -/
section ex
variable {P : Program} {l : List Value} {w : World} {ty t t' : TypeId} {x y z : Operand} {k k' : IntKind} {m n r : Int} {b : Bool} {u v : Value}
theorem ex_move (hx : ev l x = some v) : Ex P l (.move x) ty w (.value v) w := fun _ _ _ _ => by simp [execOp, rho_of hx]
theorem ex_assign (hx : ev l x = some v) : Ex P l (.assign x) ty w (.value v) w := fun _ _ _ _ => by simp [execOp, rho_of hx]
theorem ex_pick_t (hc : ev l x = some (.bool true)) (hx : ev l y = some v) : Ex P l (.pick x y z) ty w (.value v) w := fun _ _ _ _ => by simp [execOp, rho_of hc, rho_of hx, asBool]
theorem ex_pick_f (hc : ev l x = some (.bool false)) (hx : ev l z = some v) : Ex P l (.pick x y z) ty w (.value v) w := fun _ _ _ _ => by simp [execOp, rho_of hc, rho_of hx, asBool]
theorem ex_not (hx : ev l x = some (.bool b)) : Ex P l (.unOp .not t x) ty w (.value (.bool (!b))) w := fun _ _ _ _ => by simp [execOp, rho_of hx, Op.unary]
theorem ex_add (hx : ev l x = some (.int k m)) (hy : ev l y = some (.int k n)) (hr : k.wrap (m + n) = r) : Ex P l (.binOp .add t x y t') ty w (.value (.int k r)) w := fun _ _ _ _ => by
  simp [execOp, rho_of hx, rho_of hy, binOp, Op.intArith, eqGuard, hr]
theorem ex_sub (hx : ev l x = some (.int k m)) (hy : ev l y = some (.int k n)) (hr : k.wrap (m - n) = r) : Ex P l (.binOp .sub t x y t') ty w (.value (.int k r)) w := fun _ _ _ _ => by
  simp [execOp, rho_of hx, rho_of hy, binOp, Op.intArith, eqGuard, hr]
theorem ex_mul (hx : ev l x = some (.int k m)) (hy : ev l y = some (.int k n)) (hr : k.wrap (m * n) = r) : Ex P l (.binOp .mul t x y t') ty w (.value (.int k r)) w := fun _ _ _ _ => by
  simp [execOp, rho_of hx, rho_of hy, binOp, Op.intArith, eqGuard, hr]
theorem ex_quo (hx : ev l x = some (.int k m)) (hy : ev l y = some (.int k n)) (h0 : n ≠ 0) (hr : k.wrap (m.tdiv n) = r) : Ex P l (.binOp .quo t x y t') ty w (.value (.int k r)) w := fun _ _ _ _ => by
  simp [execOp, rho_of hx, rho_of hy, binOp, Op.intDiv, eqGuard, h0, hr]
theorem ex_rem (hx : ev l x = some (.int k m)) (hy : ev l y = some (.int k n)) (h0 : n ≠ 0) (hr : m.tmod n = r) : Ex P l (.binOp .rem t x y t') ty w (.value (.int k r)) w := fun _ _ _ _ => by
  simp [execOp, rho_of hx, rho_of hy, binOp, Op.intDiv, eqGuard, h0, hr]
theorem ex_and (hx : ev l x = some (.int k m)) (hy : ev l y = some (.int k n)) (hr : bits .and k m n = r) : Ex P l (.binOp .and t x y t') ty w (.value (.int k r)) w := fun _ _ _ _ => by
  simp [execOp, rho_of hx, rho_of hy, binOp, Op.intBits, eqGuard, ← hr, bits]
theorem ex_or (hx : ev l x = some (.int k m)) (hy : ev l y = some (.int k n)) (hr : bits .or k m n = r) : Ex P l (.binOp .or t x y t') ty w (.value (.int k r)) w := fun _ _ _ _ => by
  simp [execOp, rho_of hx, rho_of hy, binOp, Op.intBits, eqGuard, ← hr, bits]
theorem ex_xor (hx : ev l x = some (.int k m)) (hy : ev l y = some (.int k n)) (hr : bits .xor k m n = r) : Ex P l (.binOp .xor t x y t') ty w (.value (.int k r)) w := fun _ _ _ _ => by
  simp [execOp, rho_of hx, rho_of hy, binOp, Op.intBits, eqGuard, ← hr, bits]
theorem ex_compl (hx : ev l x = some (.int k m)) (hr : bits .xor k (if k.signed then -1 else k.max) m = r) : Ex P l (.unOp .xor t x) ty w (.value (.int k r)) w := fun _ _ _ _ => by
  simp [execOp, rho_of hx, Op.unary, Op.intBits, ← hr, bits]
theorem ex_neg (hx : ev l x = some (.int k m)) (hr : k.wrap (0 - m) = r) : Ex P l (.unOp .neg t x) ty w (.value (.int k r)) w := fun _ _ _ _ => by
  simp [execOp, rho_of hx, Op.unary, Op.intArith, ← hr]
theorem ex_shl (hx : ev l x = some (.int k m)) (hy : ev l y = some (.int k' n)) (h0 : 0 ≤ n) (hr : k.wrap (m * 2 ^ (min n.toNat k.bits)) = r) : Ex P l (.binOp .shl t x y t') ty w (.value (.int k r)) w := fun _ _ _ _ => by
  have h0' : ¬ n < 0 := by omega
  simp [execOp, rho_of hx, rho_of hy, binOp, Op.shift, eqGuard, h0', ← hr]
theorem ex_shr (hx : ev l x = some (.int k m)) (hy : ev l y = some (.int k' n)) (h0 : 0 ≤ n) (hr : m.fdiv (2 ^ (min n.toNat k.bits)) = r) : Ex P l (.binOp .shr t x y t') ty w (.value (.int k r)) w := fun _ _ _ _ => by
  have h0' : ¬ n < 0 := by omega
  simp [execOp, rho_of hx, rho_of hy, binOp, Op.shift, eqGuard, h0', ← hr]
theorem ex_lss (hx : ev l x = some (.int k m)) (hy : ev l y = some (.int k n)) : Ex P l (.binOp .lss t x y t') ty w (.value (.bool (decide (m < n)))) w := fun _ _ _ _ => by
  simp [execOp, rho_of hx, rho_of hy, binOp, Op.intCmp, eqGuard]
theorem ex_leq (hx : ev l x = some (.int k m)) (hy : ev l y = some (.int k n)) : Ex P l (.binOp .leq t x y t') ty w (.value (.bool (decide (m ≤ n)))) w := fun _ _ _ _ => by
  simp [execOp, rho_of hx, rho_of hy, binOp, Op.intCmp, eqGuard]
theorem ex_gtr (hx : ev l x = some (.int k m)) (hy : ev l y = some (.int k n)) : Ex P l (.binOp .gtr t x y t') ty w (.value (.bool (decide (n < m)))) w := fun _ _ _ _ => by
  simp [execOp, rho_of hx, rho_of hy, binOp, Op.intCmp, eqGuard]
theorem ex_geq (hx : ev l x = some (.int k m)) (hy : ev l y = some (.int k n)) : Ex P l (.binOp .geq t x y t') ty w (.value (.bool (decide (n ≤ m)))) w := fun _ _ _ _ => by
  simp [execOp, rho_of hx, rho_of hy, binOp, Op.intCmp, eqGuard]
theorem ex_eql (hx : ev l x = some (.int k m)) (hy : ev l y = some (.int k n)) : Ex P l (.binOp .eql t x y t') ty w (.value (.bool (decide (m = n)))) w := fun _ _ _ _ => by
  simp [execOp, rho_of hx, rho_of hy, binOp, Op.intCmp, eqGuard]
  rfl
theorem ex_neq (hx : ev l x = some (.int k m)) (hy : ev l y = some (.int k n)) : Ex P l (.binOp .neq t x y t') ty w (.value (.bool (decide (m ≠ n)))) w := fun _ _ _ _ => by
  simp [execOp, rho_of hx, rho_of hy, binOp, Op.intCmp, eqGuard, bne]
  rfl
theorem ex_conv (hd : P.underlying t' = some (.int k)) (hs : P.underlying t = some (.int k')) {k2 : IntKind} (hx : ev l x = some (.int k2 m)) (hr : k.wrap m = r) : Ex P l (.convert t t' x) ty w (.value (.int k r)) w := fun _ _ _ _ => by
  simp [execOp, rho_of hx, convert, run_underlying hd, run_underlying hs, Conv.intToInt, hr]
theorem ex_nilCheck {a : Addr} (hx : ev l x = some (.pointer (some a))) : Ex P l (.nilCheck x) ty w (.value (.pointer (some a))) w := fun _ _ _ _ => by
  simp [execOp, rho_of hx]
theorem ex_extract {vs : List Value} {i : Nat} (hx : ev l x = some (.tuple vs.toArray)) (hi : vs[i]? = some v) : Ex P l (.extract x i) ty w (.value v) w := fun _ _ _ _ => by
  simp [execOp, rho_of hx, Instr.extract, hi]
theorem ex_makeFunc {fn : Fn} {xs ys : List Operand} {us vs : List Value} (h1 : evs l xs = some us) (h2 : evs l ys = some vs) : Ex P l (.makeFunc fn xs.toArray ys.toArray) ty w (.value (.func fn us.toArray vs.toArray)) w := fun _ _ _ _ => by
  simp [execOp, Instr.makeFunc, rhos_of h1, rhos_of h2]
theorem ex_len_slice {e : TypeId} {A : Option Addr} {n c : Nat} {ats : Array TypeId} (ht : (ats[0]?).bind P.underlying = some (.slice e)) (hx : ev l x = some (.slice A n c)) :
    Ex P l (.call { callee := .builtin .len, args := #[x], argTypes := ats }) ty w (.value (.int .i64 n)) w := fun _ _ _ _ => by
  cases ha : ats[0]? with
  | none => rw [ha] at ht; simp at ht
  | some s =>
    rw [ha] at ht
    simp only [Option.bind_some] at ht
    simp [execOp, resolve, invoke, builtin, rho_of hx, Builtin.len_, ha, run_underlying ht, goInt]
theorem ex_cap_slice {e : TypeId} {A : Option Addr} {n c : Nat} {ats : Array TypeId} (ht : (ats[0]?).bind P.underlying = some (.slice e)) (hx : ev l x = some (.slice A n c)) :
    Ex P l (.call { callee := .builtin .cap, args := #[x], argTypes := ats }) ty w (.value (.int .i64 c)) w := fun _ _ _ _ => by
  cases ha : ats[0]? with
  | none => rw [ha] at ht; simp at ht
  | some s =>
    rw [ha] at ht
    simp only [Option.bind_some] at ht
    simp [execOp, resolve, invoke, builtin, rho_of hx, Builtin.cap_, ha, run_underlying ht, goInt]
theorem ex_len_string {s : ByteArray} {ats : Array TypeId} (ht : (ats[0]?).bind P.underlying = some .string) (hx : ev l x = some (.string s)) :
    Ex P l (.call { callee := .builtin .len, args := #[x], argTypes := ats }) ty w (.value (.int .i64 s.size)) w := fun _ _ _ _ => by
  cases ha : ats[0]? with
  | none => rw [ha] at ht; simp at ht
  | some u =>
    rw [ha] at ht
    simp only [Option.bind_some] at ht
    simp [execOp, resolve, invoke, builtin, rho_of hx, Builtin.len_, ha, run_underlying ht, goInt]
theorem ex_max {ats : Array TypeId} (hx : ev l x = some (.int k m)) (hy : ev l y = some (.int k n)) :
    Ex P l (.call { callee := .builtin .max, args := #[x, y], argTypes := ats }) ty w (.value (.int k (max m n))) w := fun _ _ _ _ => by
  simp [execOp, resolve, invoke, builtin, rho_of hx, rho_of hy, Builtin.max_, Builtin.max2]
  by_cases h : m < n
  · rw [if_pos h]; omega
  · rw [if_neg h]; omega
theorem ex_min {ats : Array TypeId} (hx : ev l x = some (.int k m)) (hy : ev l y = some (.int k n)) :
    Ex P l (.call { callee := .builtin .min, args := #[x, y], argTypes := ats }) ty w (.value (.int k (min m n))) w := fun _ _ _ _ => by
  simp [execOp, resolve, invoke, builtin, rho_of hx, rho_of hy, Builtin.min_, Builtin.min2]
  by_cases h : n < m
  · rw [if_pos h]; omega
  · rw [if_neg h]; omega
theorem run_callFunc {f : FuncId} {fn : Func} {c : Code} (hf : P.funcs[f]? = some fn) (hb : fn.body = some c) (hn : (fn.name == "runtime.NumGoroutine") = false) (args : Array Value) : (callFunc f args).run P w = .ok (.enter f args) w := by
  have hn' : ¬ fn.name = "runtime.NumGoroutine" := by simpa using hn
  simp [callFunc, hf, hb, program, Sem.run, hn']
/-- What a call of a function of the program wants to know of it. -/
def goFn (P : Program) (f : FuncId) : Bool := match P.funcs[f]? with
  | some fn => fn.body.isSome && !(fn.name == "runtime.NumGoroutine")
  | none => false
theorem run_goFn {f : FuncId} (h : goFn P f = true) (args : Array Value) : (callFunc f args).run P w = .ok (.enter f args) w := by
  unfold goFn at h
  split at h
  · rename_i fn hf
    simp only [Bool.and_eq_true, Bool.not_eq_true', Option.isSome_iff_exists] at h
    obtain ⟨⟨c, hc⟩, hn⟩ := h
    exact run_callFunc hf hc hn args
  · cases h
theorem ex_call {f : FuncId} (hf : goFn P f = true) {xs : List Operand} {vs : List Value} {ats : Array TypeId} (hx : evs l xs = some vs) :
    Ex P l (.call { callee := .value (.func f), args := xs.toArray, argTypes := ats }) ty w (.enter f vs.toArray) w := fun _ _ _ _ => by
  have hr : rho l (.func f) = .func (.func f) #[] #[] := rfl
  simp [execOp, resolve, Deferred.ofValue, invoke, rhos_of hx, run_goFn hf, hr]
theorem ex_call_val {f : FuncId} (hf : goFn P f = true) {xs : List Operand} {vs cap : List Value} {ats : Array TypeId} (hc : ev l x = some (.func (.func f) #[] cap.toArray)) (hx : evs l xs = some vs) :
    Ex P l (.call { callee := .value x, args := xs.toArray, argTypes := ats }) ty w (.enter f (vs ++ cap).toArray) w := fun _ _ _ _ => by
  simp [execOp, resolve, Deferred.ofValue, invoke, rhos_of hx, run_goFn hf, rho_of hc]

/-! ### Types' facts, each a closed reckoning over the program's tables -/
/-- The zero cells, the number of cells, the bytes of a type. -/
def tyOf (P : Program) (t : TypeId) : Option (List Value × Nat × Nat × Bool) :=
  match P.info? t, P.underlying t with
  | some i, some d => match i.zero with
    | some z => if z.cells.toList.length = i.size then some (z.cells.toList, i.size, i.bytes, match d with | .struct _ | .array _ _ => true | _ => false) else none
    | none => none
  | _, _ => none
structure TyOk (P : Program) (t : TypeId) (zs : List Value) (sz bytes : Nat) (agg : Bool) : Prop where
  len : zs.length = sz
  ex : ∃ i z d, P.info? t = some i ∧ i.zero = some z ∧ z.cells.toList = zs ∧ i.size = sz ∧ i.bytes = bytes ∧ P.underlying t = some d ∧ agg = (match d with | .struct _ | .array _ _ => true | _ => false)
theorem tyOk {t : TypeId} {zs : List Value} {sz bytes : Nat} {agg : Bool} (h : tyOf P t = some (zs, sz, bytes, agg)) : TyOk P t zs sz bytes agg := by
  unfold tyOf at h
  split at h
  · rename_i i d hi hd
    split at h
    · rename_i z hz
      split at h
      · rename_i hl
        simp only [Option.some.injEq, Prod.mk.injEq] at h
        exact ⟨by rw [← h.1, ← h.2.1]; exact hl, i, z, d, hi, hz, h.1, h.2.1, h.2.2.1, hd, h.2.2.2.symm⟩
      · cases h
    · cases h
  · cases h
def fieldOf (P : Program) (t : TypeId) (f : Nat) : Option (Nat × TypeId) :=
  match P.underlying t with
  | some (.struct fs) => match fs[f]? with
    | some fd => match P.info? fd.type with
      | some i => if i.size = 0 then none else some (fd.offset, fd.type)
      | none => none
    | none => none
  | _ => none
variable {zs : List Value} {sz bytes : Nat} {agg : Bool}
theorem run_isAgg (h : TyOk P t zs sz bytes agg) : (isAgg t).run P w = .ok agg w := by
  obtain ⟨i, z, d, hi, hz, _, _, _, hd, rfl⟩ := h.ex
  simp only [isAgg, Sem.run_bind, run_underlying hd, Result.andThen_ok]
  cases d <;> rfl
theorem run_sizeOf (h : TyOk P t zs sz bytes agg) : (sizeOf t).run P w = .ok sz w := by
  obtain ⟨i, z, d, hi, hz, _, rfl, _, hd, rfl⟩ := h.ex
  simp [sizeOf, typeInfo, hi]
theorem run_loadVar1 (h : TyOk P t zs sz bytes false) {p : Addr} (hc : w.cell? p = some v) : (loadVar t p).run P w = .ok v w := by
  simp only [loadVar, Sem.run_bind, run_isAgg h, Result.andThen_ok]
  simp [load, Sem.run, hc]
theorem run_loadVarN (h : TyOk P t zs sz bytes true) {p : Addr} {vs : List Value} (hl : vs.length = sz) (hc : ∀ j u, vs[j]? = some u → w.cell? (p.add j) = some u) : (loadVar t p).run P w = .ok (.agg vs.toArray) w := by
  have hr := run_loadCells_list (P := P) w p vs hc
  simp [loadVar, run_isAgg h, run_sizeOf h, ← hl, hr]
theorem ex_load (h : TyOk P t zs sz bytes false) {p : Addr} (hx : ev l x = some (.pointer (some p))) (hc : w.cell? p = some v) : Ex P l (.load t x) ty w (.value v) w := fun _ _ _ _ => by
  simp [execOp, rho_of hx, Instr.loadAt, Instr.sureAddr, run_loadVar1 h hc]
theorem ex_loadN (h : TyOk P t zs sz bytes true) {p : Addr} (hx : ev l x = some (.pointer (some p))) {vs : List Value} (hl : vs.length = sz) (hc : ∀ j u, vs[j]? = some u → w.cell? (p.add j) = some u) : Ex P l (.load t x) ty w (.value (.agg vs.toArray)) w := fun _ _ _ _ => by
  simp [execOp, rho_of hx, Instr.loadAt, Instr.sureAddr, run_loadVarN h hl hc]
theorem ex_fieldAddr {f off : Nat} {ft : TypeId} (h : fieldOf P t f = some (off, ft)) {b o : Nat} (hx : ev l x = some (.pointer (some ⟨b, o, none⟩))) : Ex P l (.fieldAddr t x f) ty w (.value (.pointer (some ⟨b, o + off, none⟩))) w := fun _ _ _ _ => by
  unfold fieldOf at h
  split at h
  · rename_i fs hu
    split at h
    · rename_i fd hfd
      split at h
      · rename_i i hi
        split at h
        · cases h
        · rename_i hsz
          simp only [Option.some.injEq, Prod.mk.injEq] at h
          obtain ⟨rfl, rfl⟩ := h
          simp [execOp, rho_of hx, Instr.fieldAt, run_underlying hu, hfd, Instr.sureAddr, fieldPlace, sizeOf, typeInfo, hi, hsz, Addr.add_lit]
      · cases h
    · cases h
  · cases h
theorem ex_field1 {f off : Nat} {ft : TypeId} (h : fieldOf P t f = some (off, ft)) (hft : TyOk P ft zs sz bytes false) {vs : List Value} (hx : ev l x = some (.agg vs.toArray)) (hv : vs[off]? = some v) : Ex P l (.field t x f) ty w (.value v) w := fun _ _ _ _ => by
  unfold fieldOf at h
  split at h
  · rename_i fs hu
    split at h
    · rename_i fd hfd
      split at h
      · rename_i i hi
        split at h
        · cases h
        · rename_i hsz
          simp only [Option.some.injEq, Prod.mk.injEq] at h
          obtain ⟨rfl, rfl⟩ := h
          simp [execOp, rho_of hx, Instr.field, run_underlying hu, hfd, asAgg, part, run_isAgg hft, hv]
      · cases h
    · cases h
  · cases h
/-- An index into a slice. -/
theorem ex_index {e : TypeId} (ht : P.underlying t = some (.slice e)) (he : TyOk P e zs sz bytes agg) {a : Addr} {len c : Nat} (hx : ev l x = some (.slice (some a) len c)) (hy : ev l y = some (.int k n)) (h0 : 0 ≤ n) (h1 : n < len) :
    Ex P l (.indexAddr t x y) ty w (.value (.pointer (some (a.add (n.toNat * sz))))) w := fun _ _ _ _ => by
  have h2 : 0 ≤ n ∧ n < len := ⟨h0, h1⟩
  simp [execOp, rho_of hx, rho_of hy, Instr.indexAt, asIntOf, run_underlying ht, run_sizeOf he, h2]
/-- An index that is a natural number. -/
theorem ex_idx {e : TypeId} (ht : P.underlying t = some (.slice e)) (he : TyOk P e zs sz bytes agg) {a : Addr} {len c i o : Nat} (hx : ev l x = some (.slice (some a) len c)) (hy : ev l y = some (.int k n)) (hn : n = (i : Int)) (hi : i < len) (ho : i * sz = o) :
    Ex P l (.indexAddr t x y) ty w (.value (.pointer (some (a.add o)))) w := by
  subst hn
  have h := ex_index (ty := ty) (w := w) ht he hx hy (by omega) (by omega)
  rw [Int.toNat_natCast, ho] at h
  exact h
/-- An index into an array behind a pointer. -/
theorem ex_indexA {e : TypeId} {len : Nat} (ht : P.underlying t = some (.array len e)) (he : TyOk P e zs sz bytes agg) {a : Addr} (hx : ev l x = some (.pointer (some a))) (hy : ev l y = some (.int k n)) (h0 : 0 ≤ n) (h1 : n < len) :
    Ex P l (.indexAddr t x y) ty w (.value (.pointer (some (a.add (n.toNat * sz))))) w := fun _ _ _ _ => by
  have h2 : 0 ≤ n ∧ n < len := ⟨h0, h1⟩
  simp [execOp, rho_of hx, rho_of hy, Instr.indexAt, asIntOf, run_underlying ht, run_sizeOf he, h2, Instr.sureAddr]
/-! Cuts of a slice. -/
def cutAddr (A : Option Addr) (lo mx sz : Nat) : Option Addr := if mx = lo then A else A.map (·.add (lo * sz))
theorem ex_cut3 {e : TypeId} (ht : P.underlying t = some (.slice e)) (he : TyOk P e zs sz bytes agg) {A : Option Addr} {len c : Nat} {lo hi mx : Int} {kl kh km : IntKind} {xl xh xm : Operand}
    (hx : ev l x = some (.slice A len c)) (hl : ev l xl = some (.int kl lo)) (hh : ev l xh = some (.int kh hi)) (hm : ev l xm = some (.int km mx)) (h : 0 ≤ lo ∧ lo ≤ hi ∧ hi ≤ mx ∧ mx ≤ c) :
    Ex P l (.slice t x (some xl) (some xh) (some xm)) ty w (.value (.slice (cutAddr A lo.toNat mx.toNat sz) (hi.toNat - lo.toNat) (mx.toNat - lo.toNat))) w := fun _ _ _ _ => by
  obtain ⟨a, rfl⟩ := Int.eq_ofNat_of_zero_le (show 0 ≤ lo by omega)
  obtain ⟨b, rfl⟩ := Int.eq_ofNat_of_zero_le (show 0 ≤ hi by omega)
  obtain ⟨d, rfl⟩ := Int.eq_ofNat_of_zero_le (show 0 ≤ mx by omega)
  have h1 : d ≤ c := by omega
  have h2 : b ≤ d := by omega
  have h3 : a ≤ b := by omega
  simp [execOp, rho_of hx, rho_of hl, rho_of hh, rho_of hm, Instr.sliceAt, Instr.slice, run_underlying ht, run_sizeOf he, Instr.sliceBounds, Instr.sliceBound, asIntOf, h1, h2, h3, cutAddr]
theorem ex_cut2 {e : TypeId} (ht : P.underlying t = some (.slice e)) (he : TyOk P e zs sz bytes agg) {A : Option Addr} {len c : Nat} {lo hi : Int} {kl kh : IntKind} {xl xh : Operand}
    (hx : ev l x = some (.slice A len c)) (hl : ev l xl = some (.int kl lo)) (hh : ev l xh = some (.int kh hi)) (h : 0 ≤ lo ∧ lo ≤ hi ∧ hi ≤ c) :
    Ex P l (.slice t x (some xl) (some xh) none) ty w (.value (.slice (cutAddr A lo.toNat c sz) (hi.toNat - lo.toNat) (c - lo.toNat))) w := fun _ _ _ _ => by
  obtain ⟨a, rfl⟩ := Int.eq_ofNat_of_zero_le (show 0 ≤ lo by omega)
  obtain ⟨b, rfl⟩ := Int.eq_ofNat_of_zero_le (show 0 ≤ hi by omega)
  have h2 : b ≤ c := by omega
  have h3 : a ≤ b := by omega
  simp [execOp, rho_of hx, rho_of hl, rho_of hh, Instr.sliceAt, Instr.slice, run_underlying ht, run_sizeOf he, Instr.sliceBounds, Instr.sliceBound, asIntOf, h2, h3, cutAddr]
theorem cut_same (A : Option Addr) (m : Nat) : (if m = 0 then A else A.map (fun x => x.add 0)) = A := by
  split
  · rfl
  · cases A <;> simp [Addr.add_zero']
theorem ex_cutHi {e : TypeId} (ht : P.underlying t = some (.slice e)) (he : TyOk P e zs sz bytes agg) {A : Option Addr} {len c : Nat} {hi : Int} {kh : IntKind} {xh : Operand}
    (hx : ev l x = some (.slice A len c)) (hh : ev l xh = some (.int kh hi)) (h : 0 ≤ hi ∧ hi ≤ c) :
    Ex P l (.slice t x none (some xh) none) ty w (.value (.slice A hi.toNat c)) w := fun _ _ _ _ => by
  obtain ⟨b, rfl⟩ := Int.eq_ofNat_of_zero_le (show 0 ≤ hi by omega)
  have h2 : b ≤ c := by omega
  simp [execOp, rho_of hx, rho_of hh, Instr.sliceAt, Instr.slice, run_underlying ht, run_sizeOf he, Instr.sliceBounds, Instr.sliceBound, asIntOf, h2, Addr.add_zero']
theorem ex_cutLo {e : TypeId} (ht : P.underlying t = some (.slice e)) (he : TyOk P e zs sz bytes agg) {A : Option Addr} {len c : Nat} {lo : Int} {kl : IntKind} {xl : Operand}
    (hx : ev l x = some (.slice A len c)) (hl : ev l xl = some (.int kl lo)) (h : 0 ≤ lo ∧ lo ≤ len) :
    Ex P l (.slice t x (some xl) none none) ty w (.value (.slice (cutAddr A lo.toNat c sz) (len - lo.toNat) (c - lo.toNat))) w := fun _ _ _ _ => by
  obtain ⟨a, rfl⟩ := Int.eq_ofNat_of_zero_le (show 0 ≤ lo by omega)
  have h3 : a ≤ len := by omega
  simp [execOp, rho_of hx, rho_of hl, Instr.sliceAt, Instr.slice, run_underlying ht, run_sizeOf he, Instr.sliceBounds, Instr.sliceBound, asIntOf, h3, cutAddr]
theorem ex_cutHi3 {e : TypeId} (ht : P.underlying t = some (.slice e)) (he : TyOk P e zs sz bytes agg) {A : Option Addr} {len c : Nat} {hi mx : Int} {kh km : IntKind} {xh xm : Operand}
    (hx : ev l x = some (.slice A len c)) (hh : ev l xh = some (.int kh hi)) (hm : ev l xm = some (.int km mx)) (h : 0 ≤ hi ∧ hi ≤ mx ∧ mx ≤ c) :
    Ex P l (.slice t x none (some xh) (some xm)) ty w (.value (.slice A hi.toNat mx.toNat)) w := fun _ _ _ _ => by
  obtain ⟨b, rfl⟩ := Int.eq_ofNat_of_zero_le (show 0 ≤ hi by omega)
  obtain ⟨d, rfl⟩ := Int.eq_ofNat_of_zero_le (show 0 ≤ mx by omega)
  have h1 : d ≤ c := by omega
  have h2 : b ≤ d := by omega
  simp [execOp, rho_of hx, rho_of hh, rho_of hm, Instr.sliceAt, Instr.slice, run_underlying ht, run_sizeOf he, Instr.sliceBounds, Instr.sliceBound, asIntOf, h1, h2, Addr.add_zero']
/-! Equality. -/
theorem ex_eql_of {u v : Value} {b : Bool} (hx : ev l x = some u) (hy : ev l y = some v) (hg : eqGuard .eql t x y u v = pure ()) (hb : binOp .eql t u v = (do pure (.bool (← Op.equal t u v)))) (h : ∀ d, (Op.equalIn (d + 1) t u v).run P w = .ok b w) :
    Ex P l (.binOp .eql t x y t') ty w (.value (.bool b)) w := fun _ _ _ _ => by
  have he : (Op.equal t u v).run P w = .ok b w := h 9999
  simp only [execOp, rho_of hx, rho_of hy, hb, hg]
  simp [he]
theorem ex_neq_of {u v : Value} {b : Bool} (hx : ev l x = some u) (hy : ev l y = some v) (hg : eqGuard .neq t x y u v = pure ()) (hb : binOp .neq t u v = (do pure (.bool (!(← Op.equal t u v))))) (h : ∀ d, (Op.equalIn (d + 1) t u v).run P w = .ok b w) :
    Ex P l (.binOp .neq t x y t') ty w (.value (.bool (!b))) w := fun _ _ _ _ => by
  have he : (Op.equal t u v).run P w = .ok b w := h 9999
  simp only [execOp, rho_of hx, rho_of hy, hb, hg]
  simp [he]
theorem eqIn_slice_nil {e : TypeId} (ht : P.underlying t = some (.slice e)) (A : Option Addr) (n c : Nat) (d : Nat) : (Op.equalIn (d + 1) t (.slice A n c) (.slice none 0 0)).run P w = .ok (decide (A = none)) w := by
  cases A <;> simp [Op.equalIn, run_underlying ht]
theorem eqIn_ptr_nil {e : TypeId} (ht : P.underlying t = some (.pointer e)) (A : Option Addr) (d : Nat) : (Op.equalIn (d + 1) t (.pointer A) (.pointer none)).run P w = .ok (decide (A = none)) w := by
  cases A <;> simp [Op.equalIn, run_underlying ht]
theorem ex_eql_nil_slice {e : TypeId} (ht : P.underlying t = some (.slice e)) {A : Option Addr} {len c : Nat} (hx : ev l x = some (.slice A len c)) :
    Ex P l (.binOp .eql t x (.const (.slice none 0 0)) t') ty w (.value (.bool (decide (A = none)))) w :=
  ex_eql_of hx rfl rfl rfl (eqIn_slice_nil ht A len c)
theorem ex_neq_nil_slice {e : TypeId} (ht : P.underlying t = some (.slice e)) {A : Option Addr} {len c : Nat} (hx : ev l x = some (.slice A len c)) :
    Ex P l (.binOp .neq t x (.const (.slice none 0 0)) t') ty w (.value (.bool (decide (¬ A = none)))) w := by
  rw [decide_not]; exact ex_neq_of hx rfl rfl rfl (eqIn_slice_nil ht A len c)
theorem ex_eql_nil_ptr {e : TypeId} (ht : P.underlying t = some (.pointer e)) {A : Option Addr} (hx : ev l x = some (.pointer A)) :
    Ex P l (.binOp .eql t x (.const (.pointer none)) t') ty w (.value (.bool (decide (A = none)))) w :=
  ex_eql_of hx rfl rfl rfl (eqIn_ptr_nil ht A)
theorem ex_neq_nil_ptr {e : TypeId} (ht : P.underlying t = some (.pointer e)) {A : Option Addr} (hx : ev l x = some (.pointer A)) :
    Ex P l (.binOp .neq t x (.const (.pointer none)) t') ty w (.value (.bool (decide (¬ A = none)))) w := by
  rw [decide_not]; exact ex_neq_of hx rfl rfl rfl (eqIn_ptr_nil ht A)
theorem ex_eql_bool {a b : Bool} (ht : P.underlying t = some .bool) (hx : ev l x = some (.bool a)) (hy : ev l y = some (.bool b)) :
    Ex P l (.binOp .eql t x y t') ty w (.value (.bool (decide (a = b)))) w :=
  ex_eql_of hx hy rfl rfl fun d => by simp [Op.equalIn, run_underlying ht]; rfl
theorem ex_neq_bool {a b : Bool} (ht : P.underlying t = some .bool) (hx : ev l x = some (.bool a)) (hy : ev l y = some (.bool b)) :
    Ex P l (.binOp .neq t x y t') ty w (.value (.bool (decide (¬ a = b)))) w := by
  rw [decide_not]; exact ex_neq_of hx hy rfl rfl fun d => by simp [Op.equalIn, run_underlying ht]; rfl
end ex
end Go.Proofs.Ytbninklfoogmdaa
