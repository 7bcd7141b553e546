/-
  Small laws for a script that is read field by field, and for blocks that are cloned.
-/
import Derived.Test.YtnlajgeehlpdaaaDiskH
namespace Go.Proofs.Ytnlajgeehlpdaaa
open Go Go.RowKit
section
variable {P : Program} {l : List Value} {w : World} {ty t : TypeId} {x y : Operand} {zs : List Value} {sz bytes : Nat} {agg : Bool}
theorem ex_idxN {e : TypeId} {k : IntKind} {n : Int} (ht : P.underlying t = some (.slice e)) (he : TyOk P e zs sz bytes agg) {b o len c i : Nat} (hx : ev l x = some (.slice (some ⟨b, o, none⟩) len c)) (hy : ev l y = some (.int k n)) (hn : n = (i : Int)) (hi : i < len) :
    Ex P l (.indexAddr t x y) ty w (.value (.pointer (some ⟨b, o + i * sz, none⟩))) w := by
  have h := ex_idx (ty := ty) (w := w) ht he hx hy hn hi rfl
  rwa [addn] at h
end
theorem op_cellN {w : World} {b o : Nat} {s : List OpV} (h : Rd w (some ⟨b, o, none⟩) s.length 5 (opCells s)) {i : Nat} (hi : i < s.length) (t : Nat) (v : Value) (hv : (OpV.cells s[i])[t]? = some v) : w.cell? ((⟨b, o + i * 5, none⟩ : Addr).add t) = some v := by
  rw [addn]; exact op_at h hi hv
theorem kc_one' (ks : List Blk) : (kc ks).all (·.oneCell') = true := by
  simp only [kc, List.all_flatMap, List.all_eq_true]
  intro b _ x hx
  exact List.all_eq_true.1 (u8s_one' _) x hx
theorem start_alike {D E : Dk} (h1 : E.kept = D.kept) (h2 : E.wait = D.wait) (h3 : E.down = D.down) : E.start.kept = D.start.kept ∧ E.start.wait = D.start.wait := by
  unfold Dk.start
  rw [h3]
  split
  · exact ⟨h1, rfl⟩
  · exact ⟨h1, h2⟩
end Go.Proofs.Ytnlajgeehlpdaaa
