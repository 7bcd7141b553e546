/-
  Equality of ballots, answers, rights, marks, as the machine tells it; strings, compared.
-/
import Derived.Test.YtbninklfoogmdaaGreatVd
import Derived.Test.YtbninklfoogmdaaGreatTypes
import Derived.Laws.Strings
namespace Go.Proofs.YtbninklfoogmdaaGreat
open Go Go.RowKit

section
variable {P : Program} {l : List Value} {w : World} {ty t t' : TypeId} {x y : Operand}
theorem strV_size (s : Blk) : (⟨s.toArray⟩ : ByteArray).size = s.length := by show s.toArray.size = _; simp
theorem strV_list (s : Blk) : (⟨s.toArray⟩ : ByteArray).toList = s := by simp
theorem ex_lss_str {a b : Blk} (hx : ev l x = some (strV a)) (hy : ev l y = some (strV b)) : Ex P l (.binOp .lss t x y t') ty w (.value (.bool (decide (Op.bytesLess a b = true)))) w := fun _ _ _ _ => by
  have hr : (binOp .lss t (strV a) (strV b)).run P w = .ok (.bool (decide (Op.bytesLess a b = true))) w := by
    show (Op.stringOp .lss ⟨a.toArray⟩ ⟨b.toArray⟩).run P w = _
    simp [Op.stringOp]
  have hg : eqGuard .lss t x y (strV a) (strV b) = pure () := rfl
  simp only [execOp, rho_of hx, rho_of hy, hg]
  simp [hr]
theorem ex_len_strV {s : Blk} {ats : Array TypeId} (ht : (ats[0]?).bind P.underlying = some .string) (hx : ev l x = some (strV s)) :
    Ex P l (.call { callee := .builtin .len, args := #[x], argTypes := ats }) ty w (.value (.int .i64 (s.length : Int))) w := by
  have h := ex_len_string (P := P) (l := l) (w := w) (ty := ty) (x := x) (s := ⟨s.toArray⟩) ht hx
  rwa [strV_size] at h
/-- Two aggregates of one type, by how their parts compare. -/
theorem ex_agg {op : BinOp} {xs ys : List Value} {b : Bool} (hm : P.eqGuardType P.depth t = false) (he : ∀ w, (Op.equalIn 10000 t (.agg xs.toArray) (.agg ys.toArray)).run P w = .ok b w) (hx : ev l x = some (.agg xs.toArray)) (hy : ev l y = some (.agg ys.toArray)) (ho : op = .eql ∨ op = .neq) :
    Ex P l (.binOp op t x y t') ty w (.value (.bool (if op = .eql then b else !b))) w := fun _ _ _ _ => by
  have hg := run_eqGuard_agg (P := P) w op t x y xs.toArray ys.toArray hm
  rcases ho with rfl | rfl
  · simp [execOp, rho_of hx, rho_of hy, hg, run_eql_struct, he]
  · simp [execOp, rho_of hx, rho_of hy, hg, run_neq_struct, he]
end
section
variable {l : List Value} {w : World} {ty t t' : TypeId} {x y : Operand}
theorem eq_bal (a b c d : Int) (w : World) (n : Nat) : (Op.equalIn (n + 2) 36 (.agg [.int .i64 a, .int .i64 b].toArray) (.agg [.int .i64 c, .int .i64 d].toArray)).run Tryz.prog w = .ok (decide (a = c ∧ b = d)) w := by
  have u3 := Tryz.underlying3
  have a3 := Tryz.isAgg3
  have z3 := Tryz.sizeOf3
  have hS : Tryz.prog.underlying 36 = some (.struct (Tryz.prog.fieldsOf 36)) := by kernel_rfl
  have hp : Tryz.prog.stoodInHeld 36 = false := by kernel_rfl
  rw [show (n + 2 : Nat) = (n + 1) + 1 from rfl, run_equalIn_agg w (n + 1) 36 _ _ hS hp]
  simp only [Program.fieldsOf, Tryz.underlying36]
  go_simp
  by_cases h1 : a = c <;> by_cases h2 : b = d <;> simp [h1, h2]
theorem ex_neq_bal {a b c d : Int} (hx : ev l x = some (.agg [.int .i64 a, .int .i64 b].toArray)) (hy : ev l y = some (.agg [.int .i64 c, .int .i64 d].toArray)) : Ex Tryz.prog l (.binOp .neq 36 x y t') ty w (.value (.bool (decide (¬ (a = c ∧ b = d))))) w := by
  have h := ex_agg (ty := ty) (t' := t') (w := w) (op := .neq) (P := Tryz.prog) (t := 36) (by kernel_rfl) (fun w => eq_bal a b c d w 9998) hx hy (.inr rfl)
  simp only [reduceCtorEq, if_false] at h
  rw [decide_not]; exact h
theorem ex_eql_bal {a b c d : Int} (hx : ev l x = some (.agg [.int .i64 a, .int .i64 b].toArray)) (hy : ev l y = some (.agg [.int .i64 c, .int .i64 d].toArray)) : Ex Tryz.prog l (.binOp .eql 36 x y t') ty w (.value (.bool (decide (a = c ∧ b = d)))) w := by
  have h := ex_agg (ty := ty) (t' := t') (w := w) (op := .eql) (P := Tryz.prog) (t := 36) (by kernel_rfl) (fun w => eq_bal a b c d w 9998) hx hy (.inl rfl)
  simp only [if_true] at h
  exact h
theorem eq_rt (r : Rt) (w : World) (n : Nat) : (Op.equalIn (n + 2) 43 (.agg (rtC r).toArray) (.agg (rtC r).toArray)).run Tryz.prog w = .ok true w := by
  have u3 := Tryz.underlying3
  have a3 := Tryz.isAgg3
  have z3 := Tryz.sizeOf3
  have u9 := Tryz.underlying9
  have a9 := Tryz.isAgg9
  have z9 := Tryz.sizeOf9
  have hS : Tryz.prog.underlying 43 = some (.struct (Tryz.prog.fieldsOf 43)) := by kernel_rfl
  have hp : Tryz.prog.stoodInHeld 43 = false := by kernel_rfl
  rw [show (n + 2 : Nat) = (n + 1) + 1 from rfl, run_equalIn_agg w (n + 1) 43 _ _ hS hp]
  simp only [Program.fieldsOf, Tryz.underlying43, rtC, strV]
  go_simp
theorem ex_eql_rt {r : Rt} (hx : ev l x = some (.agg (rtC r).toArray)) (hy : ev l y = some (.agg (rtC r).toArray)) : Ex Tryz.prog l (.binOp .eql 43 x y t') ty w (.value (.bool true)) w := by
  have h := ex_agg (ty := ty) (t' := t') (w := w) (op := .eql) (P := Tryz.prog) (t := 43) (by kernel_rfl) (fun w => eq_rt r w 9998) hx hy (.inl rfl)
  simpa using h
theorem ex_neq_rt {r : Rt} (hx : ev l x = some (.agg (rtC r).toArray)) (hy : ev l y = some (.agg (rtC r).toArray)) : Ex Tryz.prog l (.binOp .neq 43 x y t') ty w (.value (.bool false)) w := by
  have h := ex_agg (ty := ty) (t' := t') (w := w) (op := .neq) (P := Tryz.prog) (t := 43) (by kernel_rfl) (fun w => eq_rt r w 9998) hx hy (.inr rfl)
  simpa using h
theorem eq_an (w : World) (n : Nat) : (Op.equalIn (n + 2) 61 (.agg [.int .i64 0, .int .i64 0, .int .i64 0, .int .i64 0].toArray) (.agg [.int .i64 0, .int .i64 0, .int .i64 0, .int .i64 0].toArray)).run Tryz.prog w = .ok true w := by
  have u3 := Tryz.underlying3
  have a3 := Tryz.isAgg3
  have z3 := Tryz.sizeOf3
  have u9 := Tryz.underlying28
  have a9 := Tryz.isAgg28
  have z9 := Tryz.sizeOf28
  have hS : Tryz.prog.underlying 61 = some (.struct (Tryz.prog.fieldsOf 61)) := by kernel_rfl
  have hp : Tryz.prog.stoodInHeld 61 = false := by kernel_rfl
  rw [show (n + 2 : Nat) = (n + 1) + 1 from rfl, run_equalIn_agg w (n + 1) 61 _ _ hS hp]
  simp only [Program.fieldsOf, Tryz.underlying61]
  go_simp
theorem eq_mk (m : Mk) (w : World) (n : Nat) : (Op.equalIn (n + 3) 63 (.agg (mkC m).toArray) (.agg (mkC m).toArray)).run Tryz.prog w = .ok true w := by
  have u3 := Tryz.underlying3
  have a3 := Tryz.isAgg3
  have z3 := Tryz.sizeOf3
  have u4 := Tryz.underlying4
  have a4 := Tryz.isAgg4
  have z4 := Tryz.sizeOf4
  have a5 := Tryz.isAgg61
  have z5 := Tryz.sizeOf61
  have e5 := fun w => eq_an w n
  have hS : Tryz.prog.underlying 63 = some (.struct (Tryz.prog.fieldsOf 63)) := by kernel_rfl
  have hp : Tryz.prog.stoodInHeld 63 = false := by kernel_rfl
  rw [show (n + 3 : Nat) = (n + 2) + 1 from rfl, run_equalIn_agg w (n + 2) 63 _ _ hS hp]
  simp only [Program.fieldsOf, Tryz.underlying63, mkC]
  simp only [List.toArray] at e5 ⊢
  go_simp
theorem ex_neq_mk {m : Mk} (hx : ev l x = some (.agg (mkC m).toArray)) (hy : ev l y = some (.agg (mkC m).toArray)) : Ex Tryz.prog l (.binOp .neq 63 x y t') ty w (.value (.bool false)) w := by
  have h := ex_agg (ty := ty) (t' := t') (w := w) (op := .neq) (P := Tryz.prog) (t := 63) (by kernel_rfl) (fun w => eq_mk m w 9997) hx hy (.inr rfl)
  simpa using h
theorem ex_neq_an (hx : ev l x = some (.agg [.int .i64 0, .int .i64 0, .int .i64 0, .int .i64 0].toArray)) (hy : ev l y = some (.agg [.int .i64 0, .int .i64 0, .int .i64 0, .int .i64 0].toArray)) : Ex Tryz.prog l (.binOp .neq 61 x y t') ty w (.value (.bool false)) w := by
  have h := ex_agg (ty := ty) (t' := t') (w := w) (op := .neq) (P := Tryz.prog) (t := 61) (by kernel_rfl) (fun w => eq_an w 9998) hx hy (.inr rfl)
  simpa using h
end
end Go.Proofs.YtbninklfoogmdaaGreat
