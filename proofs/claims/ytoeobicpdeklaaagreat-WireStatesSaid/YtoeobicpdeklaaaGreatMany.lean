/-
  Rows of whatever number; texts and bytes turned into each other.
-/
import Derived.Test.YtoeobicpdeklaaaGreatCodecG
import Derived.Test.YtoeobicpdeklaaaGreatMid
import Derived.Laws.IdiomStrings
import Derived.Laws.StructEq
namespace Go.Proofs.YtoeobicpdeklaaaGreat
open Go Go.RowKit
def bl (es : List Ent) : List Nat := es.filterMap (·.1)
theorem Hp.here {w0 w : World} {S : List Nat} {es : List Ent} (H : Hp w0 w S es) : Hp w w (bl es) es := by
  refine ⟨rfl, rfl, rfl, Nat.le_refl _, fun _ _ _ => rfl, ?_, H.apart⟩
  intro i e he
  have h := H.ent i e he
  unfold EntOk at h ⊢
  split
  · rename_i hn; rw [hn] at h; exact h
  · rename_i g hg
    rw [hg] at h
    exact ⟨h.1, .inl (List.mem_filterMap.2 ⟨e, List.mem_of_getElem? he, hg⟩)⟩
theorem bl_at {es es' : List Ent} {is : List Nat} (h : es' = is.map fun i => es.getD i (none, 0, [])) : ∀ b ∈ bl es', ∃ i ∈ is, ∃ T cs, es[i]? = some (some b, T, cs) := by
  intro b hb
  subst h
  obtain ⟨e, he, hg⟩ := List.mem_filterMap.1 hb
  obtain ⟨i, hi, rfl⟩ := List.mem_map.1 he
  refine ⟨i, hi, ?_⟩
  cases h : es[i]? with
  | none => rw [List.getD_eq_getElem?_getD, h] at hg; simp at hg
  | some x =>
    rw [List.getD_eq_getElem?_getD, h] at hg
    obtain ⟨a, T, cs⟩ := x
    simp at hg
    exact ⟨T, cs, by rw [hg]⟩
theorem apt_to {w w' : World} {es es' : List Ent} {B : Option Addr} {n : Nat} {xs : List Value} (hr : Rd w B n 1 xs) (hn : 0 < n) (ha : ∀ p, B = some p → p.block ∉ bl es) (H : Hp w w' (bl es) es') : ∀ p, B = some p → p.block ∉ bl es' := by
  intro p hp hb
  obtain ⟨e, he, hg⟩ := List.mem_filterMap.1 hb
  obtain ⟨i, hi⟩ := List.getElem?_of_mem he
  obtain ⟨g, T, cs⟩ := e
  simp only at hg
  subst hg
  have h1 := H.place hi
  have h2 : 0 < xs.length := by rw [hr.len]; omega
  have h3 := World.block_lt_of_cell? w _ (hr.cells p hp 0 _ (List.getElem?_eq_getElem h2))
  rw [Addr.add_zero'] at h3
  rcases h1 with h1 | h1
  · exact ha p hp h1
  · omega
theorem fresh_at {w0 w : World} {S : List Nat} {es : List Ent} (H : Hp w0 w S es) (i : Nat) {g : Option Nat} {T : TypeId} {cs : List Value} (he : es[i]? = some (g, T, cs)) (ha : ∀ p, hd g = some p → p.block ∉ S) : ∀ p, hd g = some p → w0.heap.size ≤ p.block := by
  intro p hp
  cases g with
  | none => simp [hd] at hp
  | some x =>
    have h2 := ha p hp
    simp only [hd, Option.map_some, Option.some.injEq] at hp
    subst hp
    rcases H.place he with h | h
    · exact absurd h h2
    · exact h
/-- Rows that stood before these blocks were made. -/
theorem addn (b o n : Nat) : (⟨b, o, none⟩ : Addr).add n = ⟨b, o + n, none⟩ := by
  unfold Addr.add
  split
  · rename_i h; rw [h]; rfl
  · rfl
theorem kill_length : ∀ (is : List Nat) (es : List Ent), (kill es is).length = es.length
  | [], _ => rfl
  | i :: is, es => by simp [kill, kill_length is es]
theorem kill_not : ∀ (is : List Nat) (es : List Ent) (j : Nat), j ∉ is → (kill es is)[j]? = es[j]?
  | [], _, _, _ => rfl
  | i :: is, es, j, h => by
    simp only [kill]
    rw [List.getElem?_set_ne (fun e => h (by simp [e])), kill_not is es j (fun hh => h (List.mem_cons_of_mem _ hh))]
theorem bl_append (a b : List Ent) : bl (a ++ b) = bl a ++ bl b := by simp [bl]
section
variable {w0 w w' : World} {S : List Nat} {es es' es1 es2 R : List Ent}
theorem Hp.sub (H : Hp w0 w S es) (φ : Nat → Nat) (h : ∀ i e, es'[i]? = some e → es[φ i]? = some e ∨ (e.1 = none ∧ e.2.2 = [])) (hinj : ∀ i j, i < es'.length → j < es'.length → φ i = φ j → i = j) : Hp w0 w S es' := by
  refine ⟨H.os, H.tape, H.output, H.size, H.frame, ?_, ?_⟩
  · intro i e he
    rcases h i e he with h1 | ⟨h1, h2⟩
    · exact H.ent _ e h1
    · unfold EntOk; rw [h1]; exact h2
  · intro i j e f g hi hj he hf
    rcases h i e hi with h1 | ⟨h1, _⟩
    · rcases h j f hj with h2 | ⟨h2, _⟩
      · exact hinj i j (lt_of_get hi) (lt_of_get hj) (H.apart _ _ e f g h1 h2 he hf)
      · rw [h2] at hf; cases hf
    · rw [h1] at he; cases he
theorem Hp.less (H : Hp w0 w S (es ++ R)) : Hp w0 w S es :=
  H.sub id (fun i e he => .inl (by rw [id, List.getElem?_append_left (lt_of_get he)]; exact he)) (fun _ _ _ _ h => h)
theorem Hp.nils (H : Hp w0 w S es) (T : TypeId) (n : Nat) : Hp w0 w S (es ++ List.replicate n (none, T, [])) := by
  refine H.sub id (fun i e he => ?_) (fun _ _ _ _ h => h)
  rcases Nat.lt_or_ge i es.length with hi | hi
  · rw [List.getElem?_append_left hi] at he; exact .inl he
  · rw [List.getElem?_append_right hi] at he
    have := List.eq_of_mem_replicate (List.mem_of_getElem? he)
    subst this
    exact .inr ⟨rfl, rfl⟩
/-- A call that turns the first rows. -/
theorem Hp.front (H : Hp w0 w S (es1 ++ R)) (H' : Hp w w' (bl es1) es2) : Hp w0 w' S (es2 ++ R) := by
  have hS : ∀ b ∈ bl es1, ∃ i ∈ List.range es1.length, ∃ T cs, (es1 ++ R)[i]? = some (some b, T, cs) := by
    intro b hb
    obtain ⟨⟨g, T, cs⟩, he, hg⟩ := List.mem_filterMap.1 hb
    obtain ⟨i, hi⟩ := List.getElem?_of_mem he
    have hlt := lt_of_get hi
    simp only at hg
    subst hg
    exact ⟨i, List.mem_range.2 hlt, T, cs, by rw [List.getElem?_append_left hlt]; exact hi⟩
  have hC := H.call H' (List.range es1.length) hS
  have hlen : (kill (es1 ++ R) (List.range es1.length)).length = es1.length + R.length := by rw [kill_length]; simp
  refine hC.sub (fun i => if i < es2.length then es1.length + R.length + i else es1.length + (i - es2.length)) ?_ ?_
  · intro i e he
    split
    · rename_i h
      left
      rw [List.getElem?_append_right (by omega), hlen, Nat.add_sub_cancel_left]
      rwa [List.getElem?_append_left h] at he
    · rename_i h
      left
      rw [List.getElem?_append_right (by omega)] at he
      have := lt_of_get he
      rw [List.getElem?_append_left (by omega), kill_not _ _ _ (by simp), List.getElem?_append_right (by omega), Nat.add_sub_cancel_left]
      exact he
  · intro i j hi hj h
    simp only [List.length_append] at hi hj
    split at h <;> split at h <;> omega
theorem Hp.all (HB : Hp w0 w S es) (H : Hp w w' (bl es) es') : Hp w0 w' S es' := by
  have := Hp.front (R := []) (by simpa using HB) H
  simpa using this
/-- What a call made anew lies apart from all that was told of. -/
theorem apart_new (H : Hp w0 w S es) (H' : Hp w w' [] es2) {i : Nat} {g : Option Nat} {T : TypeId} {cs : List Value} (he : es2[i]? = some (g, T, cs)) : ∀ p, hd g = some p → p.block ∉ bl es := by
  intro p hp hb
  have h1 := fresh_at H' i he (by simp) p hp
  obtain ⟨⟨g2, T2, cs2⟩, hm, hg⟩ := List.mem_filterMap.1 hb
  obtain ⟨j, hj⟩ := List.getElem?_of_mem hm
  simp only at hg
  subst hg
  have := H.lt hj
  omega
theorem bl_left {b : Nat} (hb : b ∈ bl es1) : b ∈ bl (es1 ++ R) := by rw [bl_append]; exact List.mem_append_left _ hb

theorem Hp.allocAny (H : Hp w0 w S es) (o : Obj) : Hp w0 (w.alloc o) S es := by
  refine ⟨H.os, H.tape, H.output, ?_, ?_, ?_, H.apart⟩
  · have := H.size; simp; omega
  · intro k hk hS
    rw [heap_alloc_old w _ (by have := H.size; omega)]
    exact H.frame k hk hS
  · intro i e he
    have h := H.ent i e he
    unfold EntOk at h ⊢
    split
    · rename_i hn; rw [hn] at h; exact h
    · rename_i g hg
      rw [hg] at h
      exact ⟨by rw [heap_alloc_old w _ (H.ent_lt he hg)]; exact h.1, h.2⟩
theorem row_apart (H : Hp w0 w S (es1 ++ R)) {i : Nat} {g : Option Nat} {T : TypeId} {cs : List Value} (he : R[i]? = some (g, T, cs)) : ∀ p, hd g = some p → p.block ∉ bl es1 := by
  intro p hp hb
  obtain ⟨⟨g2, T2, cs2⟩, hm, hg⟩ := List.mem_filterMap.1 hb
  obtain ⟨j, hj⟩ := List.getElem?_of_mem hm
  simp only at hg
  subst hg
  cases g with
  | none => simp [hd] at hp
  | some x =>
    simp only [hd, Option.map_some, Option.some.injEq] at hp
    subst hp
    have hjl := lt_of_get hj
    have := H.apart j (es1.length + i) _ _ x (by rw [List.getElem?_append_left hjl]; exact hj) (by rw [List.getElem?_append_right (by omega), Nat.add_sub_cancel_left]; exact he) rfl rfl
    omega
end
section
variable {P : Program} {l : List Value} {w : World} {ty t : TypeId} {x y : Operand} {zs : List Value} {sz bytes : Nat} {agg : Bool}
theorem ex_idxN {e : TypeId} {k : IntKind} {n : Int} (ht : P.underlying t = some (.slice e)) (he : TyOk P e zs sz bytes agg) {b o len c i : Nat} (hx : ev l x = some (.slice (some ⟨b, o, none⟩) len c)) (hy : ev l y = some (.int k n)) (hn : n = (i : Int)) (hi : i < len) :
    Ex P l (.indexAddr t x y) ty w (.value (.pointer (some ⟨b, o + i * sz, none⟩))) w := by
  have h := ex_idx (ty := ty) (w := w) ht he hx hy hn hi rfl
  rwa [addn] at h
end
section
variable {P : Program} {ds : List Deferred} {Q : Post} {K : List Value → World → Prop} {all os : List Oper} {l : List Value} {w0 w w' : World} {S : List Nat} {es : List Ent} {ty src dst e : TypeId} {pos : String} {af : Array Edge} {d : Tmp} {x : Operand}
/-- A text's bytes, in memory of their own. -/
theorem ops_strBytes (hs : P.underlying src = some .string) (hd : P.underlying dst = some (.slice e)) (he : P.underlying e = some (.int .u8)) (H : Hp w0 w S es) {s : List UInt8} (hx : ev l x = some (.string ⟨s.toArray⟩))
    (k : ∀ w' g c, Hp w0 w' S es → Rd w' (some ⟨g, 0, none⟩) s.length 1 (u8s s) → g = w.heap.size → w'.heap.size = w.heap.size + 1 → Ops P ds all K Q os (l.set d (.slice (some ⟨g, 0, none⟩) s.length c)) w') : Ops P ds all K Q (⟨some d, .convert src dst x, ty, pos, af, none⟩ :: os) l w := by
  have hr := run_bytes_of_string (P := P) w src dst e ⟨s.toArray⟩ hs hd he
  have hsz : (ByteArray.mk s.toArray).size = s.length := by show s.toArray.size = _; simp
  rw [hsz] at hr
  refine ops_val (w' := w.drew.alloc (.cells (bytesRow ⟨s.toArray⟩ (grownCap w s.length 0 e)) e ((bytesRow ⟨s.toArray⟩ (grownCap w s.length 0 e)).size, (bytesRow ⟨s.toArray⟩ (grownCap w s.length 0 e)).size + 1))) ?_ (k _ w.heap.size (grownCap w s.length 0 e) (H.drew.allocAny _) ⟨u8s_length1 _, ?_, fun h => by cases h⟩ rfl ?_)
  · intro _ _ _ _
    simp [execOp, rho_of hx, hr]
  · intro a ha j u hu
    cases ha
    have hj : j < s.length := by have := lt_of_get hu; simpa [u8s] using this
    rw [addn, Nat.zero_add]
    refine (World.cell?_alloc_mark w.drew _ e _ j).trans ?_
    rw [bytesRow_at _ _ j (by simpa using hj), ← hu]
    simp [u8s, hj]
  · simp
/-- Bytes as a text. -/
theorem ex_bytesStr (hs : P.underlying src = some (.slice e)) (he : P.underlying e = some (.int .u8)) (hd : P.underlying dst = some .string) {A : Option Addr} {c : Nat} {s : List UInt8} (hx : ev l x = some (.slice A s.length c)) (hr : Rd w A s.length 1 (u8s s)) :
    Ex P l (.convert src dst x) ty w (.value (.string ⟨s.toArray⟩)) w := fun _ _ _ _ => by
  have h : (convert src dst (.slice A s.length c)).run P w = .ok (.string ⟨s.toArray⟩) w := by
    cases A with
    | none =>
      have h0 := hr.nil rfl
      have : s = [] := List.eq_nil_of_length_eq_zero h0
      subst this
      rw [run_convert_bytes_string w src dst e none _ c hs he hd]
      simp [Conv.bytesToString]
      rfl
    | some a => exact run_convert_bytes_back w src dst e a c s hs he hd fun j hj => hr.cells a rfl j _ (u8s_get hj)
  simp [execOp, rho_of hx, h]
end
end Go.Proofs.YtoeobicpdeklaaaGreat
