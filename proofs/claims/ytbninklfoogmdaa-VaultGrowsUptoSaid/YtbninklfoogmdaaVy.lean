/-
  Rows of rights and marks, sifted; a table with one mark more, client by client.
-/
import Derived.Test.YtbninklfoogmdaaVx
namespace Go.Proofs.Ytbninklfoogmdaa
open Go Go.RowKit

theorem rt_rows : ∀ l : List Rt, All2 RtR (l.map rtC) l
  | [] => trivial
  | _ :: l => ⟨rfl, rt_rows l⟩
theorem mk_rows : ∀ l : List Mk, All2 MkR (l.map mkC) l
  | [] => trivial
  | _ :: l => ⟨rfl, mk_rows l⟩
theorem rt_pl (l : List Rt) : Pl 4 (l.map rtC) := fun p hp => by
  obtain ⟨x, _, rfl⟩ := List.mem_map.1 hp
  rfl
theorem mk_pl (l : List Mk) : Pl 7 (l.map mkC) := fun p hp => by
  obtain ⟨x, _, rfl⟩ := List.mem_map.1 hp
  rfl
theorem rt_ones (l : List Rt) : ∀ p ∈ l.map rtC, p.all (·.oneCell') = true := fun p hp => by
  obtain ⟨x, _, rfl⟩ := List.mem_map.1 hp
  rfl
theorem putRt_rows (l : List Rt) (r : Rt) : (l.filter (fun x => ltR x r)).map rtC ++ [rtC r] ++ (l.filter (fun x => ltR r x)).map rtC = (putRt l r).map rtC := by
  unfold putRt
  rw [List.map_append, List.map_cons, List.append_assoc]; rfl
theorem find_at {l : List Mk} {c : Int} {i : Nat} {x : Mk} (hx : l[i]? = some x) (hc : x.client = c) (hno : ∀ y ∈ l.take i, y.client ≠ c) : findMk l c = some x := by
  obtain ⟨hl, he⟩ := List.getElem?_eq_some_iff.1 hx
  unfold findMk
  rw [List.find?_eq_some_iff_getElem]
  refine ⟨by simpa using hc, i, hl, he, fun j hj => ?_⟩
  have := hno l[j] (by
    have h2 : (l.take i)[j]? = some l[j] := by rw [List.getElem?_take, if_pos hj]; exact List.getElem?_eq_getElem (by omega)
    exact List.mem_of_getElem? h2)
  simpa using this
theorem find_end {l : List Mk} {c : Int} (hno : ∀ y ∈ l.take l.length, y.client ≠ c) : findMk l c = none := by
  rw [List.take_length] at hno
  unfold findMk
  rw [List.find?_eq_none]
  intro x hx
  simpa using hno x hx
theorem mks_gt : ∀ {l : List Mk} {n : Int}, mksOk n l → ∀ x ∈ l, n < x.client
  | [], _, _, _, h => by cases h
  | m :: l, n, h, x, hx => by
    rcases List.mem_cons.1 hx with rfl | hx
    · exact h.1
    · have := mks_gt h.2.2.2.2 x hx
      have := h.1
      omega
theorem step_mk : ∀ {l : List Mk} {n c : Int}, mksOk n l → l.filter (fun x => decide (x.client < c + 1)) = l.filter (fun x => decide (x.client < c)) ++ (findMk l c).toList
  | [], _, _, _ => rfl
  | m :: l, n, c, h => by
    have hl := h.2.2.2.2
    have hgt := mks_gt hl
    unfold findMk
    rw [List.find?_cons]
    by_cases h1 : m.client < c
    · rw [List.filter_cons, List.filter_cons, if_pos (by simp; omega), if_pos (by simpa using h1), step_mk hl, show decide (m.client = c) = false from decide_eq_false (by omega)]
      rfl
    · have hn : l.filter (fun x => decide (x.client < c)) = [] := filter_no fun x hx => decide_eq_false (by have := hgt x hx; omega)
      by_cases h2 : m.client = c
      · have hn2 : l.filter (fun x => decide (x.client < c + 1)) = [] := filter_no fun x hx => decide_eq_false (by have := hgt x hx; omega)
        rw [List.filter_cons, List.filter_cons, if_pos (by simp; omega), if_neg (by simpa using h1), hn, hn2, show decide (m.client = c) = true from decide_eq_true h2]
        rfl
      · rw [List.filter_cons, List.filter_cons, if_neg (by simp; omega), if_neg (by simpa using h1), step_mk hl, show decide (m.client = c) = false from decide_eq_false h2]
        rfl
theorem find_in (c : Int) (f : Mk → Bool) (hf : ∀ x : Mk, x.client = c → f x = true) : ∀ l : List Mk, findMk (l.filter f) c = findMk l c
  | [] => rfl
  | a :: l => by
    have IH := find_in c f hf l
    unfold findMk at IH ⊢
    rw [List.filter_cons, List.find?_cons]
    by_cases hx : a.client = c
    · rw [if_pos (hf a hx), List.find?_cons, show decide (a.client = c) = true from decide_eq_true hx]
    · rw [show decide (a.client = c) = false from decide_eq_false hx]
      split
      · rw [List.find?_cons, show decide (a.client = c) = false from decide_eq_false hx]; exact IH
      · exact IH
theorem find_out (c : Int) (f : Mk → Bool) (hf : ∀ x : Mk, x.client = c → f x = false) (l : List Mk) : findMk (l.filter f) c = none := by
  unfold findMk
  rw [List.find?_eq_none]
  intro x hx
  have := (List.mem_filter.1 hx).2
  by_cases hc : x.client = c
  · rw [hf x hc] at this; cases this
  · simpa using hc
theorem find_put (l : List Mk) (m : Mk) (c : Int) : findMk (putMk l m) c = if c = m.client then some m else findMk l c := by
  have h : findMk (putMk l m) c = (findMk (l.filter (fun x => decide (x.client < m.client))) c).or (if m.client = c then some m else findMk (l.filter (fun x => decide (m.client < x.client))) c) := by
    unfold findMk putMk
    rw [List.find?_append, List.find?_cons]
    by_cases hm : m.client = c
    · rw [if_pos hm, show decide (m.client = c) = true from decide_eq_true hm]
    · rw [if_neg hm, show decide (m.client = c) = false from decide_eq_false hm]
  rw [h]
  by_cases hc : c = m.client
  · rw [if_pos hc, if_pos hc.symm, find_out c _ (fun x hx => decide_eq_false (by omega))]; rfl
  · rw [if_neg hc, if_neg fun h => hc h.symm]
    by_cases hlt : c < m.client
    · rw [find_in c _ (fun x hx => decide_eq_true (by omega)), find_out c _ (fun x hx => decide_eq_false (by omega))]
      cases findMk l c <;> rfl
    · rw [find_out c _ (fun x hx => decide_eq_false (by omega)), find_in c _ (fun x hx => decide_eq_true (by omega))]; rfl
theorem all_put {l : List Mk} {m : Mk} (h : mksOk 0 (putMk l m)) : (putMk l m).filter (fun x => decide (x.client < 9)) = putMk l m :=
  filter_all fun x hx => decide_eq_true (by have := (mks_rise h).1 x hx; omega)
theorem none_put {l : List Mk} {m : Mk} (h : mksOk 0 (putMk l m)) : (putMk l m).filter (fun x => decide (x.client < 1)) = [] :=
  filter_no fun x hx => decide_eq_false (by have := (mks_rise h).1 x hx; omega)
end Go.Proofs.Ytbninklfoogmdaa
