/-
  Equality of ballots, answers, rights, marks, as the machine tells it; strings, compared.
-/
import Derived.Test.YtbninklfoogmdaaVd
import Derived.Test.YtbninklfoogmdaaTypes
import Derived.Laws.Strings
namespace Go.Proofs.Ytbninklfoogmdaa
open Go Go.RowKit

section
variable {P : Program} {l : List Value} {w : World} {ty t t' : TypeId} {x y : Operand}
theorem strV_size (s : Blk) : (⟨s.toArray⟩ : ByteArray).size = s.length := by show s.toArray.size = _; simp
theorem strV_list (s : Blk) : (⟨s.toArray⟩ : ByteArray).toList = s := by simp
theorem ex_lss_str {a b : Blk} (hx : ev l x = some (strV a)) (hy : ev l y = some (strV b)) : Ex P l (.binOp .lss t x y t') ty w (.value (.bool (decide (Op.bytesLess a b = true)))) w := fun _ _ _ _ => by
  have hr : (binOp .lss t (strV a) (strV b)).run P w = .ok (.bool (decide (Op.bytesLess a b = true))) w := by
    show (Op.stringOp .lss ⟨a.toArray⟩ ⟨b.toArray⟩).run P w = _
    simp [Op.stringOp]
  have hg : eqGuard .lss t x y (strV a) (strV b) = pure () := rfl
  simp only [execOp, rho_of hx, rho_of hy, hg]
  simp [hr]
theorem ex_len_strV {s : Blk} {ats : Array TypeId} (ht : (ats[0]?).bind P.underlying = some .string) (hx : ev l x = some (strV s)) :
    Ex P l (.call { callee := .builtin .len, args := #[x], argTypes := ats }) ty w (.value (.int .i64 (s.length : Int))) w := by
  have h := ex_len_string (P := P) (l := l) (w := w) (ty := ty) (x := x) (s := ⟨s.toArray⟩) ht hx
  rwa [strV_size] at h
/-- Two aggregates of one type, by how their parts compare. -/
theorem ex_agg {op : BinOp} {xs ys : List Value} {b : Bool} (hm : P.eqGuardType P.depth t = false) (he : ∀ w, (Op.equalIn 10000 t (.agg xs.toArray) (.agg ys.toArray)).run P w = .ok b w) (hx : ev l x = some (.agg xs.toArray)) (hy : ev l y = some (.agg ys.toArray)) (ho : op = .eql ∨ op = .neq) :
    Ex P l (.binOp op t x y t') ty w (.value (.bool (if op = .eql then b else !b))) w := fun _ _ _ _ => by
  have hg := run_eqGuard_agg (P := P) w op t x y xs.toArray ys.toArray hm
  rcases ho with rfl | rfl
  · simp [execOp, rho_of hx, rho_of hy, hg, run_eql_struct, he]
  · simp [execOp, rho_of hx, rho_of hy, hg, run_neq_struct, he]
end
section
variable {l : List Value} {w : World} {ty t t' : TypeId} {x y : Operand}
theorem eq_bal (a b c d : Int) (w : World) (n : Nat) : (Op.equalIn (n + 2) 34 (.agg [.int .i64 a, .int .i64 b].toArray) (.agg [.int .i64 c, .int .i64 d].toArray)).run Try.prog w = .ok (decide (a = c ∧ b = d)) w := by
  have u3 := Try.underlying3
  have a3 := Try.isAgg3
  have z3 := Try.sizeOf3
  have hS : Try.prog.underlying 34 = some (.struct (Try.prog.fieldsOf 34)) := by kernel_rfl
  have hp : Try.prog.stoodInHeld 34 = false := by kernel_rfl
  rw [show (n + 2 : Nat) = (n + 1) + 1 from rfl, run_equalIn_agg w (n + 1) 34 _ _ hS hp]
  simp only [Program.fieldsOf, Try.underlying34]
  go_simp
  by_cases h1 : a = c <;> by_cases h2 : b = d <;> simp [h1, h2]
theorem ex_neq_bal {a b c d : Int} (hx : ev l x = some (.agg [.int .i64 a, .int .i64 b].toArray)) (hy : ev l y = some (.agg [.int .i64 c, .int .i64 d].toArray)) : Ex Try.prog l (.binOp .neq 34 x y t') ty w (.value (.bool (decide (¬ (a = c ∧ b = d))))) w := by
  have h := ex_agg (ty := ty) (t' := t') (w := w) (op := .neq) (P := Try.prog) (t := 34) (by kernel_rfl) (fun w => eq_bal a b c d w 9998) hx hy (.inr rfl)
  simp only [reduceCtorEq, if_false] at h
  rw [decide_not]; exact h
theorem ex_eql_bal {a b c d : Int} (hx : ev l x = some (.agg [.int .i64 a, .int .i64 b].toArray)) (hy : ev l y = some (.agg [.int .i64 c, .int .i64 d].toArray)) : Ex Try.prog l (.binOp .eql 34 x y t') ty w (.value (.bool (decide (a = c ∧ b = d)))) w := by
  have h := ex_agg (ty := ty) (t' := t') (w := w) (op := .eql) (P := Try.prog) (t := 34) (by kernel_rfl) (fun w => eq_bal a b c d w 9998) hx hy (.inl rfl)
  simp only [if_true] at h
  exact h
theorem eq_rt (r : Rt) (w : World) (n : Nat) : (Op.equalIn (n + 2) 46 (.agg (rtC r).toArray) (.agg (rtC r).toArray)).run Try.prog w = .ok true w := by
  have u3 := Try.underlying3
  have a3 := Try.isAgg3
  have z3 := Try.sizeOf3
  have u9 := Try.underlying9
  have a9 := Try.isAgg9
  have z9 := Try.sizeOf9
  have hS : Try.prog.underlying 46 = some (.struct (Try.prog.fieldsOf 46)) := by kernel_rfl
  have hp : Try.prog.stoodInHeld 46 = false := by kernel_rfl
  rw [show (n + 2 : Nat) = (n + 1) + 1 from rfl, run_equalIn_agg w (n + 1) 46 _ _ hS hp]
  simp only [Program.fieldsOf, Try.underlying46, rtC, strV]
  go_simp
theorem ex_eql_rt {r : Rt} (hx : ev l x = some (.agg (rtC r).toArray)) (hy : ev l y = some (.agg (rtC r).toArray)) : Ex Try.prog l (.binOp .eql 46 x y t') ty w (.value (.bool true)) w := by
  have h := ex_agg (ty := ty) (t' := t') (w := w) (op := .eql) (P := Try.prog) (t := 46) (by kernel_rfl) (fun w => eq_rt r w 9998) hx hy (.inl rfl)
  simpa using h
theorem ex_neq_rt {r : Rt} (hx : ev l x = some (.agg (rtC r).toArray)) (hy : ev l y = some (.agg (rtC r).toArray)) : Ex Try.prog l (.binOp .neq 46 x y t') ty w (.value (.bool false)) w := by
  have h := ex_agg (ty := ty) (t' := t') (w := w) (op := .neq) (P := Try.prog) (t := 46) (by kernel_rfl) (fun w => eq_rt r w 9998) hx hy (.inr rfl)
  simpa using h
theorem eq_an (w : World) (n : Nat) : (Op.equalIn (n + 2) 60 (.agg [.int .i64 0, .int .i64 0, .int .i64 0, .int .i64 0].toArray) (.agg [.int .i64 0, .int .i64 0, .int .i64 0, .int .i64 0].toArray)).run Try.prog w = .ok true w := by
  have u3 := Try.underlying3
  have a3 := Try.isAgg3
  have z3 := Try.sizeOf3
  have u9 := Try.underlying29
  have a9 := Try.isAgg29
  have z9 := Try.sizeOf29
  have hS : Try.prog.underlying 60 = some (.struct (Try.prog.fieldsOf 60)) := by kernel_rfl
  have hp : Try.prog.stoodInHeld 60 = false := by kernel_rfl
  rw [show (n + 2 : Nat) = (n + 1) + 1 from rfl, run_equalIn_agg w (n + 1) 60 _ _ hS hp]
  simp only [Program.fieldsOf, Try.underlying60]
  go_simp
theorem eq_mk (m : Mk) (w : World) (n : Nat) : (Op.equalIn (n + 3) 62 (.agg (mkC m).toArray) (.agg (mkC m).toArray)).run Try.prog w = .ok true w := by
  have u3 := Try.underlying3
  have a3 := Try.isAgg3
  have z3 := Try.sizeOf3
  have u4 := Try.underlying4
  have a4 := Try.isAgg4
  have z4 := Try.sizeOf4
  have a5 := Try.isAgg60
  have z5 := Try.sizeOf60
  have e5 := fun w => eq_an w n
  have hS : Try.prog.underlying 62 = some (.struct (Try.prog.fieldsOf 62)) := by kernel_rfl
  have hp : Try.prog.stoodInHeld 62 = false := by kernel_rfl
  rw [show (n + 3 : Nat) = (n + 2) + 1 from rfl, run_equalIn_agg w (n + 2) 62 _ _ hS hp]
  simp only [Program.fieldsOf, Try.underlying62, mkC]
  simp only [List.toArray] at e5 ⊢
  go_simp
theorem ex_neq_mk {m : Mk} (hx : ev l x = some (.agg (mkC m).toArray)) (hy : ev l y = some (.agg (mkC m).toArray)) : Ex Try.prog l (.binOp .neq 62 x y t') ty w (.value (.bool false)) w := by
  have h := ex_agg (ty := ty) (t' := t') (w := w) (op := .neq) (P := Try.prog) (t := 62) (by kernel_rfl) (fun w => eq_mk m w 9997) hx hy (.inr rfl)
  simpa using h
theorem ex_neq_an (hx : ev l x = some (.agg [.int .i64 0, .int .i64 0, .int .i64 0, .int .i64 0].toArray)) (hy : ev l y = some (.agg [.int .i64 0, .int .i64 0, .int .i64 0, .int .i64 0].toArray)) : Ex Try.prog l (.binOp .neq 60 x y t') ty w (.value (.bool false)) w := by
  have h := ex_agg (ty := ty) (t' := t') (w := w) (op := .neq) (P := Try.prog) (t := 60) (by kernel_rfl) (fun w => eq_an w 9998) hx hy (.inr rfl)
  simpa using h
end
end Go.Proofs.Ytbninklfoogmdaa
