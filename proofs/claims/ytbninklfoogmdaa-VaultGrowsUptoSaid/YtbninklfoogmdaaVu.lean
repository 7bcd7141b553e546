/-
  Fields of what an unknown address points to; the law's first line.
-/
import Derived.Test.YtbninklfoogmdaaVt
namespace Go.Proofs.Ytbninklfoogmdaa
open Go Go.RowKit

section
variable {P : Program} {l : List Value} {w : World} {ty t : TypeId} {x : Operand}
theorem ex_fieldAddrA {f off : Nat} {ft : TypeId} (h : fieldOf P t f = some (off, ft)) {a : Addr} (hx : ev l x = some (.pointer (some a))) : Ex P l (.fieldAddr t x f) ty w (.value (.pointer (some (a.add off)))) w := fun _ _ _ _ => by
  unfold fieldOf at h
  split at h
  · rename_i fs hu
    split at h
    · rename_i fd hfd
      split at h
      · rename_i i hi
        split at h
        · cases h
        · rename_i hsz
          simp only [Option.some.injEq, Prod.mk.injEq] at h
          obtain ⟨rfl, rfl⟩ := h
          simp [execOp, rho_of hx, Instr.fieldAt, run_underlying hu, hfd, Instr.sureAddr, fieldPlace, sizeOf, typeInfo, hi, hsz]
      · cases h
    · cases h
  · cases h
theorem ex_fieldAddrB {f off k : Nat} {ft : TypeId} (h : fieldOf P t f = some (off, ft)) {a : Addr} (hx : ev l x = some (.pointer (some (a.add k)))) : Ex P l (.fieldAddr t x f) ty w (.value (.pointer (some (a.add (k + off))))) w := by
  have := ex_fieldAddrA (ty := ty) (w := w) h hx
  rwa [add_add] at this
end
def awN : Nt := ⟨1, 1, ⟨2, 1⟩, ⟨0, ⟨0, 0⟩, []⟩, ⟨0, []⟩, ⟨0, [], 0, 0⟩, 0, 0⟩
def awS : Sv := ⟨⟨2, 1⟩, [], 0, [], []⟩
def awB : Bo := { Bo.empty with groups := Bo.empty.groups.set 1 awS }
theorem awB_eq : repl Bo.empty [awN] = some awB := by
  have h1 : Sv.none.goes awN = awS := rfl
  have h2 : chk awS = true := rfl
  have h3 : Bo.empty.into awN = some awB := by
    unfold Bo.into
    rw [if_neg (by decide), if_neg (by decide)]
    show (match some Sv.none with | some s => if chk (s.goes awN) = true then some { Bo.empty with groups := Bo.empty.groups.set 1 (s.goes awN) } else none | none => none) = _
    simp only [h1, h2, if_true]
    rfl
  unfold repl
  rw [h3]
  rfl
end Go.Proofs.Ytbninklfoogmdaa
