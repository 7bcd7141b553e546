/-
  Plain things that come in as a law's arguments.
-/
import Derived.Test.YtoeobicpdeklaaaGreatGet
namespace Go.Proofs.YtoeobicpdeklaaaGreat
open Go Go.ChangeShapes Go.WideShapes Go.ChangeAt Go.RowKit
section
variable {H : Type} {enc : TypeId × Value → H} {P : Program} {w : World}
theorem flat_in {d : Nat} {t : TypeId} {ks : List Kd} {fs : Array Field} {r : Reach} {b0 : Nat} {v : Value} {dd : DataW H} {ps : List MemPlace} (hl : lay P d t ks = true) (ht : P.underlying t = some (.struct fs)) (hval : Value.okWide P w r b0 t v) (hd : DataW.Trod enc P w 0 (fun _ => true) true t v dd ps) :
    ∃ (x : List Fv) (cells : List Value), v = .agg cells.toArray ∧ (Th.flat ks).M w (fun _ => True) x cells ∧ Weigh x (dd.weights P t) := by
  obtain ⟨cs, rfl, _⟩ := okWide_struct ht hval
  obtain ⟨fuel, hf⟩ := hd
  obtain ⟨xs, h1, h2, h3⟩ := trod_lay d t ks cs.toList fuel (dd, ps) hl hf rfl
  exact ⟨xs, cs.toList, by simp, ⟨h1, h2⟩, h3⟩
theorem short_in {ts : List TypeId} {ds : List (DataW H)} (h : (DataW.weightsEach P ts ds).all (· ≤ reachBytes) = true) {j : Nat} {t : TypeId} {dd : DataW H} {x : List Fv} (ht : ts[j]? = some t) (hd : ds[j]? = some dd) (hw : Weigh x (dd.weights P t)) : Short x := by
  intro s hs
  rcases hw s hs with h0 | ⟨n, hn, h1⟩
  · omega
  · have := List.all_eq_true.1 h _ (DataW.weights_mem_each ht hd n hn)
    have this := of_decide_eq_true this
    simp only [reachBytes] at this
    omega
end
end Go.Proofs.YtoeobicpdeklaaaGreat
