/-
  A list that grows by append, in a row of its own.
-/
import Derived.Test.YtbninklfoogmdaaVu
namespace Go.Proofs.Ytbninklfoogmdaa
open Go Go.RowKit

def Gw (sz : Nat) (g : Option Nat) (cap : Nat) (qs : List (List Value)) (sp : List Value) : Prop := cap * sz ≤ (qs.flatten ++ sp).length ∧ qs.length ≤ cap ∧ (g = none → cap = 0) ∧ Pl sz qs
theorem Gw.nil (sz : Nat) : Gw sz none 0 [] [] := ⟨by simp, Nat.le_refl _, fun _ => rfl, Pl.nil _⟩
section
variable {P : Program} {ds : List Deferred} {Q : Post} {K : List Value → World → Prop} {all os : List Oper} {l : List Value} {w0 w w' : World} {S S' : List Nat} {es es' : List Ent} {ty t : TypeId} {pos : String} {af : Array Edge} {d : Tmp} {v : Value} {op : Op}
theorem ops_grow {e : TypeId} {x y : Operand} {zs : List Value} {sz bytes : Nat} {agg : Bool} (ht : P.underlying t = some (.slice e)) (he : TyOk P e zs sz bytes agg) (hsz : 0 < sz) (H : Hp w0 w S es) (i : Nat) {g : Option Nat} {cap : Nat} {qs : List (List Value)} {sp : List Value} (G : Gw sz g cap qs sp)
    (hx : ev l x = some (.slice (hd g) qs.length cap)) (hi : es[i]? = some (g, e, qs.flatten ++ sp)) {A : Option Addr} {m c : Nat} {rs : List (List Value)} (hm : rs.length = m) (hy : ev l y = some (.slice A m c)) (hr : Rd w A m sz rs.flatten) (hp2 : Pl sz rs) (h1 : ∀ p ∈ rs, p.all (·.oneCell') = true)
    (hb : (qs.length + m) * bytes ≤ 211106232532992) (h63 : qs.length + m ≤ 9223372036854775807) (hb2 : bytes ≤ 1048576)
    (k : ∀ w' g' cap' sp', Hp w0 w' S (es.set i (g', e, (qs ++ rs).flatten ++ sp')) → Gw sz g' cap' (qs ++ rs) sp' → Ops P ds all K Q os (l.set d (.slice (hd g') (qs ++ rs).length cap')) w') :
    Ops P ds all K Q (⟨some d, .call { callee := .builtin .append, args := #[x, y], argTypes := #[t, t] }, ty, pos, af, none⟩ :: os) l w := by
  refine ops_append ht he hsz H i hx hi G.2.2.2.len G.1 G.2.1 G.2.2.1 hy hr (ones_flatten h1) h63 hb hb2 fun w' g' cap' sp' H' h2 h3 h4 => ?_
  have := k w' g' cap' sp' (by rw [List.flatten_append]; exact H') ⟨by rw [List.flatten_append]; exact h2, by rw [List.length_append, hm]; exact h3, h4, G.2.2.2.app hp2⟩
  rw [List.length_append, hm] at this
  exact this
end
section
variable {α : Type} {f : α → Bool} {ps : List α} {i : Nat} {p : α}
theorem tf_t (h : ps[i]? = some p) (hf : f p = true) : (ps.take (i + 1)).filter f = (ps.take i).filter f ++ [p] := by
  rw [List.take_add_one, h, List.filter_append]; simp [hf]
theorem tf_f (h : ps[i]? = some p) (hf : f p = false) : (ps.take (i + 1)).filter f = (ps.take i).filter f := by
  rw [List.take_add_one, h, List.filter_append]; simp [hf]
theorem tf_len : ((ps.take i).filter f).length ≤ i := Nat.le_trans (List.length_filter_le _ _) (by rw [List.length_take]; omega)
theorem tf_mem {q : α} (h : q ∈ (ps.take i).filter f) : q ∈ ps := List.mem_of_mem_take (List.mem_filter.1 h).1
end
def vtLt (n : Int) (p : List Value) : Bool := match p with
  | .int _ s :: _ => decide (s < n)
  | _ => false
end Go.Proofs.Ytbninklfoogmdaa
