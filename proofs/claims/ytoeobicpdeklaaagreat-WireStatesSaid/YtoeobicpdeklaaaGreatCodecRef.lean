/-
  The document's reader: where it stands; small laws of its arithmetic.
-/
import Derived.Test.YtoeobicpdeklaaaGreatCodecLaw
namespace Go.Proofs.YtoeobicpdeklaaaGreat
open Go Go.RowKit

/-- The document's reader stands there. -/
structure Rdw (w : World) (gr : Nat) (A : Option Addr) (c : Nat) (b : List UInt8) (i e : Nat) : Prop where
  row : w.heap[gr]? = some (.cells (rc A b c i e).toArray 125 (0, 0))
  rd : Rd w A b.length 1 (u8s b)
  apart : ∀ a, A = some a → a.block ≠ gr
  le : i ≤ b.length
  cap : b.length ≤ c
  len : b.length ≤ 211106232532900
section rdw
variable {w w' : World} {gr : Nat} {A : Option Addr} {c : Nat} {b : List UInt8} {i e : Nat}
theorem Rdw.to (h : Rdw w gr A c b i e) {es : List Ent} {S : List Nat} (H : Hp w w' S es) (h1 : gr ∉ S) (h2 : ∀ a, A = some a → a.block ∉ S) : Rdw w' gr A c b i e :=
  ⟨H.keep h.row h1, h.rd.to H h2, h.apart, h.le, h.cap, h.len⟩
theorem Rdw.to0 (h : Rdw w gr A c b i e) {es : List Ent} (H : Hp w w' [] es) : Rdw w' gr A c b i e := h.to H (by simp) (by simp)
theorem Rdw.next {w2 : World} {j f : Nat} (h : Rdw w gr A c b i e) {es : List Ent} (H : Hp w w2 [gr] ((some gr, 125, rc A b c j f) :: es)) (hj : j ≤ b.length) : Rdw w2 gr A c b j f :=
  ⟨H.at (i := 0) rfl, h.rd.to H (by intro a ha; simp; exact h.apart a ha), h.apart, hj, h.cap, h.len⟩
theorem Rdw.past {g' : Nat} {es : List Ent} (h : Rdw w gr A c b i e) (H : Hp w w' [g'] es) (h1 : gr ≠ g') (h2 : ∀ a, A = some a → a.block ≠ g') : Rdw w' gr A c b i e :=
  h.to H (by simpa using h1) (by simpa using h2)
theorem Rdw.rd_in (h : Rdw w gr A c b i e) {es : List Ent} (H : Hp w w' [gr] es) : Rd w' A b.length 1 (u8s b) := h.rd.to H (by intro a ha; simp; exact h.apart a ha)
end rdw
/-- A reader of its own, new. -/
def NewRw (w0 w' : World) (r : Value) (b : List UInt8) : Prop :=
  ∃ gr g cap sp, r = .pointer (some ⟨gr, 0, none⟩) ∧ b.length ≤ cap ∧ cap * 1 ≤ (u8s b ++ sp).length ∧ (g = none → cap = 0) ∧ Hp w0 w' [] [(some gr, 125, rc (hd g) b cap 0 0), (g, 5, u8s b ++ sp)]
theorem rdw_of {w0 w : World} {S : List Nat} {es : List Ent} {j k gr c i e : Nat} {g : Option Nat} {b : List UInt8} {sp : List Value} (H : Hp w0 w S es) (h1 : es[j]? = some (some gr, 125, rc (hd g) b c i e)) (h2 : es[k]? = some (g, 5, u8s b ++ sp)) (hjk : j ≠ k)
    (hc : b.length ≤ c) (hb : b.length ≤ 211106232532900) (hi : i ≤ b.length) : Rdw w gr (hd g) c b i e := by
  refine ⟨H.at h1, H.rd h2 (u8s_length1 b) (by decide), ?_, hi, hc, hb⟩
  intro a ha
  cases g with
  | none => simp [hd] at ha
  | some x =>
    simp only [hd, Option.map_some, Option.some.injEq] at ha
    subst ha
    intro h
    simp only at h
    subst h
    exact hjk (H.apart j k _ _ x h1 h2 rfl rfl)
theorem ops_newW {P : Program} {ds : List Deferred} {Q : Post} {K : List Value → World → Prop} {all os : List Oper} {l : List Value} {w : World} {op : Op} {ty : TypeId} {pos : String} {af : Array Edge} {d : Tmp}
    {f : FuncId} {args : Array Value} {b : List UInt8} (hx : Ex P l op ty w (.enter f args) w) (hc : Does P f args w fun r w' => NewRw w w' r b)
    (h : ∀ w' gr g cap sp, b.length ≤ cap → cap * 1 ≤ (u8s b ++ sp).length → (g = none → cap = 0) → Hp w w' [] [(some gr, 125, rc (hd g) b cap 0 0), (g, 5, u8s b ++ sp)] → Ops P ds all K Q os (l.set d (.pointer (some ⟨gr, 0, none⟩))) w') :
    Ops P ds all K Q (⟨some d, op, ty, pos, af, none⟩ :: os) l w :=
  ops_call hx hc fun r w' ⟨gr, g, cap, sp, h1, h2, h3, h4, h5⟩ => by rw [h1]; exact h w' gr g cap sp h2 h3 h4 h5
theorem tmodN (a b : Nat) : ((a : Int)).tmod (b : Int) = ((a % b : Nat) : Int) := rfl
theorem tdivN (k : IntKind) (a b : Nat) (h : k.wrap ((a / b : Nat) : Int) = ((a / b : Nat) : Int)) : k.wrap (((a : Int)).tdiv (b : Int)) = ((a / b : Nat) : Int) := h
theorem add_place {v c i : Nat} (hi : i ≤ 9) (hc : c < 128) (h9 : i = 9 → c ≤ 1) (hv : v < 2 ^ (7 * i)) : IntKind.u64.wrap ((v : Int) + ((c * 2 ^ (7 * i) : Nat) : Int)) = ((v + c * 2 ^ (7 * i) : Nat) : Int) := by
  have hp := place_lt hi hc h9
  rw [← Int.natCast_add, u64w, Nat.mod_eq_of_lt (by omega)]
/-! What Count and Text do, by cases. -/
theorem countStep_bad {b : List UInt8} {most : Int} {i e : Nat} (he : e ≠ 0) : countStep b most i e = (0, i, e) := by unfold countStep; rw [if_neg he]
theorem countStep_f {b : List UInt8} {most : Int} {i : Nat} (h : (numOf (b.drop i)).2.2 ≠ 0) : countStep b most i 0 = (0, i, (numOf (b.drop i)).2.2) := by unfold countStep; rw [if_pos rfl, countedOf_f h]; rfl
theorem countStep_l {b : List UInt8} {most : Int} {i : Nat} (h : (numOf (b.drop i)).2.2 = 0) (h2 : max most 0 < ((numOf (b.drop i)).1 : Int)) : countStep b most i 0 = (0, i, 22) := by unfold countStep; rw [if_pos rfl, countedOf_l h h2]; rfl
theorem countStep_t {b : List UInt8} {most : Int} {i : Nat} (h : (numOf (b.drop i)).2.2 = 0) (h2 : ¬ max most 0 < ((numOf (b.drop i)).1 : Int)) : countStep b most i 0 = ((numOf (b.drop i)).1, i + (numOf (b.drop i)).2.1, 0) := by unfold countStep; rw [if_pos rfl, countedOf_t h h2]
theorem textStep_count (b : List UInt8) (most : Int) (i e : Nat) : textStep b most i e =
    if (countStep b most i e).2.2 ≠ 0 then ([], i, (countStep b most i e).2.2)
    else if b.length < (countStep b most i e).2.1 + (countStep b most i e).1 then ([], i, 20)
    else ((b.drop (countStep b most i e).2.1).take (countStep b most i e).1, (countStep b most i e).2.1 + (countStep b most i e).1, 0) := by
  have hbd := countedOf_bd (b.drop i) most
  unfold textStep countStep textOf
  by_cases he : e = 0
  · simp only [he, if_true]
    by_cases h1 : (countedOf (b.drop i) most).2.2 = 0
    · simp only [h1, ne_eq, not_true, if_false, List.length_drop, List.drop_drop]
      by_cases h2 : b.length - i < (countedOf (b.drop i) most).2.1 + (countedOf (b.drop i) most).1
      · by_cases h3 : b.length < i + (countedOf (b.drop i) most).2.1 + (countedOf (b.drop i) most).1
        · rw [if_pos h2, if_pos h3]; rfl
        · rw [if_pos h2, if_neg h3]
          exfalso; omega
      · by_cases h3 : b.length < i + (countedOf (b.drop i) most).2.1 + (countedOf (b.drop i) most).1
        · by_cases hi : i ≤ b.length
          · exfalso; omega
          · have := hbd.2.1
            rw [List.length_drop] at this
            have a1 : (countedOf (b.drop i) most).2.1 = 0 := by omega
            have a2 : (countedOf (b.drop i) most).1 = 0 := by omega
            have hd : b.drop i = [] := List.drop_eq_nil_of_le (by omega)
            have hnil : (countedOf ([] : List UInt8) most).2.2 ≠ 0 := by
              have : (numOf []).2.2 ≠ 0 := by rw [numOf_eq]; simp [numGo]
              rw [countedOf_f this]; exact this
            rw [hd] at h1
            exact absurd h1 hnil
        · rw [if_neg h2, if_neg h3, Nat.add_assoc]
    · simp [h1]
  · simp [he]
end Go.Proofs.YtoeobicpdeklaaaGreat
