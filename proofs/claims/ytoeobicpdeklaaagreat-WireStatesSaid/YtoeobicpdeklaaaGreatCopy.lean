/-
  Copies: lists built anew.
-/
import Derived.Test.YtoeobicpdeklaaaGreatBig
import Derived.Test.YtoeobicpdeklaaaGreatLst
namespace Go.Proofs.YtoeobicpdeklaaaGreat
open Go Go.RowKit
theorem fp_any {w : World} {ok ok' : Nat → Prop} {f : Fv} {v : Value} (hf : f.kd ≠ .bytes) (h : FP w ok f v) : FP w ok' f v := by
  cases f <;> first | exact h | exact absurd rfl hf
/-- A flat thing without bytes holds no block. -/
theorem flat_any {w : World} {ok ok' : Nat → Prop} {ks : List Kd} {x : List Fv} {vs : List Value} (hk : ∀ k ∈ ks, k ≠ .bytes) (h : (Th.flat ks).M w ok x vs) : (Th.flat ks).M w ok' x vs :=
  ⟨h.1, h.2.len, fun i hi => by
    obtain ⟨v, h1, h2⟩ := h.2.each i hi
    refine ⟨v, h1, fp_any (hk _ ?_) h2⟩
    rw [← h.1]
    exact List.mem_map.2 ⟨_, List.getElem_mem hi, rfl⟩⟩
theorem many_copy_new {A : Th} {tw' : Bool} {w0 w : World} {es : List Ent} {x : List A.X} {g : Option Nat} {T : TypeId} {cap i : Nat} {cells sp : List Value} (hsz : 0 < A.sz) (hl : x.length ≤ 140737488351232) (hcl : cells.length = x.length * A.sz)
    (hel : ∀ i (h : i < x.length), A.M w (fun p => w0.heap.size ≤ p) x[i] ((cells.drop (i * A.sz)).take A.sz)) (H : Hp w0 w [] es) (he : es[i]? = some (g, T, cells ++ sp)) : (Th.many A tw').M w (fun p => w0.heap.size ≤ p) x [.slice (hd g) x.length cap] :=
  ⟨hd g, cap, cells, rfl, ⟨hl, fun _ => hsz⟩, H.rd he hcl hsz, fun _ p hp => by
    cases g with
    | none => cases hp
    | some k =>
      cases hp
      rcases H.place he with h | h
      · cases h
      · exact h, fun _ _ p hp => H.tw he p hp, hel⟩
theorem bl_first {a : Ent} {es : List Ent} {p : Nat} (h : p ∈ bl [a]) : p ∈ bl (a :: es) := by
  rw [show a :: es = [a] ++ es from rfl, bl_append]
  exact List.mem_append_left _ h
theorem chunk_old {uc us : List Value} {q z j : Nat} (hu : uc.length = q * z) (hj : j < q) : ((uc ++ us).drop (j * z)).take z = (uc.drop (j * z)).take z := by
  have h1 : (j + 1) * z ≤ q * z := Nat.mul_le_mul_right _ hj
  rw [Nat.succ_mul] at h1
  rw [List.drop_append_of_le_length (by omega), List.take_append_of_le_length (by rw [List.length_drop]; omega)]
theorem chunk_new {uc us : List Value} {q z : Nat} (hu : uc.length = q * z) (hz : us.length = z) : ((uc ++ us).drop (q * z)).take z = us := by
  rw [← hu, List.drop_left, List.take_of_length_le (by omega)]
theorem rd_weak5 {A m B C D E : Th} {b : List UInt8} {w w' : World} {r : Value} (h : RdRes (Th.pair (Th.pair (Th.pair (Th.pair (Th.pair A (Th.many m true)) B) C) D) E) b w w' r) : RdRes (Th.pair (Th.pair (Th.pair (Th.pair (Th.pair A (Th.many m false)) B) C) D) E) b w w' r := by
  obtain ⟨cells, h1, h2, h3⟩ := h
  obtain ⟨r5, s5, rfl, q5, h5⟩ := Th.split h2
  obtain ⟨r4, s4, rfl, q4, h4⟩ := Th.split q5
  obtain ⟨r3, s3, rfl, q3, hh3⟩ := Th.split q4
  obtain ⟨r2, s2, rfl, q2, hh2⟩ := Th.split q3
  obtain ⟨s0, s1, rfl, h0, hh1⟩ := Th.split q2
  exact ⟨_, h1, pair_app (pair_app (pair_app (pair_app (pair_app h0 (many_free hh1)) hh2) hh3) h4) h5, h3⟩
end Go.Proofs.YtoeobicpdeklaaaGreat
