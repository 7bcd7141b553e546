/-
  Rows as what a vault has; closures that tell of votes, entries, marks, rights.
-/
import Derived.Test.YtbninklfoogmdaaVp
namespace Go.Proofs.Ytbninklfoogmdaa
open Go Go.RowKit

def up (ok : Nat → Prop) (n : Nat) : Nat → Prop := fun b => ok b ∨ n ≤ b
@[reducible] def rz (p b : Bal) : Bal := if p.lt b then b else p
theorem raise_eq (s : Sv) (b : Bal) : s.raise b = { s with p := rz s.p b } := by
  unfold Sv.raise rz
  split <;> rfl
theorem cell_at {w : World} {g o : Nat} {cs : List Value} {T : TypeId} {v : Value} (h : w.heap[g]? = some (.cells cs.toArray T (0, 0))) (hv : cs[o]? = some v) : w.cell? ⟨g, o, none⟩ = some v := by
  simp [World.cell?, h, hv]
theorem store_elem {ps : List (List Value)} {sp vs : List Value} {i sz : Nat} (hp : Pl sz ps) (hi : i < ps.length) (hv : vs.length = sz) : putAt (ps.flatten ++ sp) (0 + i * sz) vs = (ps.set i vs).flatten ++ sp := by
  have : (i + 1) * sz ≤ ps.length * sz := Nat.mul_le_mul_right _ hi
  rw [Nat.add_mul, Nat.one_mul] at this
  rw [Nat.zero_add, putAt_left (by rw [hp.len, hv]; exact this), hp.set_ hi hv]
section
variable {w0 w w' : World} {S : List Nat} {es : List Ent} {ok ok' : Nat → Prop} {i : Nat} {g : Option Nat} {T : TypeId} {sp : List Value}
theorem Sl.row {X : Type} {R : List Value → X → Prop} {sz : Nat} {ps : List (List Value)} {xs : List X} (H : Hp w0 w S es) (he : es[i]? = some (g, T, ps.flatten ++ sp)) (hp : Pl sz ps) (hz : 0 < sz) (h2 : All2 R ps xs) (ha : ∀ b, g = some b → ok b) : Sl R sz w ok (hd g) xs := by
  have hl := h2.len
  refine ⟨ps, hp, ?_, fun _ p hq => ?_, h2⟩
  · rw [← hl]; exact H.rd he hp.len hz
  · cases g with
    | none => cases hq
    | some b => cases hq; exact ha b rfl
theorem Bs.row {b : Blk} (H : Hp w0 w S es) (he : es[i]? = some (g, T, u8s b ++ sp)) (hb : b.length ≤ 140737488351232) (ha : ∀ x, g = some x → ok x) : Bs w ok (hd g) b := by
  refine ⟨H.rd he (u8s_length1 b) (by decide), fun _ p hq => ?_, hb⟩
  cases g with
  | none => cases hq
  | some x => cases hq; exact ha x rfl
/-- A row that the call made. -/
theorem row_new (H : Hp w0 w S es) (he : es[i]? = some (g, T, sp)) (hS : ∀ b ∈ S, g ≠ some b) : ∀ b, g = some b → up ok w0.heap.size b := fun b hb => by
  subst hb
  rcases H.place he with h | h
  · exact absurd rfl (hS b h)
  · exact .inr h
theorem up_k {n : Nat} (h : ∀ x, ok x → x ∉ S) : ∀ x, ok x → x < n → x ∉ S ∧ up ok n x := fun x hx _ => ⟨h x hx, .inl hx⟩
theorem up_k0 {n m : Nat} : ∀ x, ok x → x < n → x ∉ ([] : List Nat) ∧ up ok m x := fun x hx _ => ⟨by simp, .inl hx⟩
end
/-- Votes up to a slot. -/
def vtLe (n : Int) (p : List Value) : Bool := match p with
  | .int _ s :: _ => decide (s ≤ n)
  | _ => false
theorem vtLe_eq {w : World} {ok : Nat → Prop} {n : Int} {p : List Value} {x : Vt} (h : VtR w ok p x) : vtLe n p = decide (x.slot ≤ n) := by obtain ⟨_, _, rfl, _⟩ := h; rfl
theorem enLe_eq {w : World} {ok : Nat → Prop} {n : Int} {p : List Value} {x : En} (h : EnR w ok p x) : vtLe n p = decide (x.slot ≤ n) := by obtain ⟨_, _, rfl, _⟩ := h; rfl
def mkIs (n : Int) (p : List Value) : Bool := match p with
  | .int _ s :: _ => decide (s = n)
  | _ => false
theorem mkIs_eq {n : Int} {p : List Value} {x : Mk} (h : MkR p x) : mkIs n p = decide (x.client = n) := by rw [h]; rfl
def rtCf (r : Rt) (p : List Value) : Int := match p with
  | [.int _ g, .string s, _, _] => ordR ⟨g, s.data.toList, 0, 0⟩ r
  | _ => 0
theorem rtCf_eq {r : Rt} {p : List Value} {x : Rt} (h : RtR p x) : rtCf r p = ordR x r := by rw [h]; simp [rtCf, rtC, strV, ordR]
theorem behind_eq (l : List Vt) (n : Int) : (l.filter fun x => !decide (x.slot ≤ n)) = behind l n := by
  unfold behind
  exact List.filter_congr fun x _ => by
    by_cases h : x.slot ≤ n
    · rw [decide_eq_true h, decide_eq_false (by omega)]; rfl
    · rw [decide_eq_false h, decide_eq_true (by omega)]; rfl
end Go.Proofs.Ytbninklfoogmdaa
