/-
  Lists of lists of blocks in memory; what a fall leaves, byte by byte.
-/
import Derived.Test.YtnlajgeehlpdaaaFork
namespace Go.Proofs.Ytnlajgeehlpdaaa
open Go Go.RowKit

/-! ### Rows of whatever number -/
theorem kill_length : ∀ (is : List Nat) (es : List Ent), (kill es is).length = es.length
  | [], _ => rfl
  | i :: is, es => by simp [kill, kill_length is es]
theorem kill_not : ∀ (is : List Nat) (es : List Ent) (j : Nat), j ∉ is → (kill es is)[j]? = es[j]?
  | [], _, _, _ => rfl
  | i :: is, es, j, h => by
    simp only [kill]
    rw [List.getElem?_set_ne (fun e => h (by simp [e])), kill_not is es j (fun hh => h (List.mem_cons_of_mem _ hh))]
theorem bl_append (a b : List Ent) : bl (a ++ b) = bl a ++ bl b := by simp [bl]
section
variable {w0 w w' : World} {S : List Nat} {es es' es1 es2 R : List Ent} {xs ys : List Value} {bs cs : List Blk}
theorem Hp.sub (H : Hp w0 w S es) (φ : Nat → Nat) (h : ∀ i e, es'[i]? = some e → es[φ i]? = some e ∨ (e.1 = none ∧ e.2.2 = [])) (hinj : ∀ i j, i < es'.length → j < es'.length → φ i = φ j → i = j) : Hp w0 w S es' := by
  refine ⟨H.os, H.tape, H.output, H.size, H.frame, ?_, ?_⟩
  · intro i e he
    rcases h i e he with h1 | ⟨h1, h2⟩
    · exact H.ent _ e h1
    · unfold EntOk; rw [h1]; exact h2
  · intro i j e f g hi hj he hf
    rcases h i e hi with h1 | ⟨h1, _⟩
    · rcases h j f hj with h2 | ⟨h2, _⟩
      · exact hinj i j (lt_of_get hi) (lt_of_get hj) (H.apart _ _ e f g h1 h2 he hf)
      · rw [h2] at hf; cases hf
    · rw [h1] at he; cases he
theorem Hp.less (H : Hp w0 w S (es ++ R)) : Hp w0 w S es :=
  H.sub id (fun i e he => .inl (by rw [id, List.getElem?_append_left (lt_of_get he)]; exact he)) (fun _ _ _ _ h => h)
theorem Hp.nils (H : Hp w0 w S es) (T : TypeId) (n : Nat) : Hp w0 w S (es ++ List.replicate n (none, T, [])) := by
  refine H.sub id (fun i e he => ?_) (fun _ _ _ _ h => h)
  rcases Nat.lt_or_ge i es.length with hi | hi
  · rw [List.getElem?_append_left hi] at he; exact .inl he
  · rw [List.getElem?_append_right hi] at he
    have := List.eq_of_mem_replicate (List.mem_of_getElem? he)
    subst this
    exact .inr ⟨rfl, rfl⟩
/-- A call that turns the first rows. -/
theorem Hp.front (H : Hp w0 w S (es1 ++ R)) (H' : Hp w w' (bl es1) es2) : Hp w0 w' S (es2 ++ R) := by
  have hS : ∀ b ∈ bl es1, ∃ i ∈ List.range es1.length, ∃ T cs, (es1 ++ R)[i]? = some (some b, T, cs) := by
    intro b hb
    obtain ⟨⟨g, T, cs⟩, he, hg⟩ := List.mem_filterMap.1 hb
    obtain ⟨i, hi⟩ := List.getElem?_of_mem he
    have hlt := lt_of_get hi
    simp only at hg
    subst hg
    exact ⟨i, List.mem_range.2 hlt, T, cs, by rw [List.getElem?_append_left hlt]; exact hi⟩
  have hC := H.call H' (List.range es1.length) hS
  have hlen : (kill (es1 ++ R) (List.range es1.length)).length = es1.length + R.length := by rw [kill_length]; simp
  refine hC.sub (fun i => if i < es2.length then es1.length + R.length + i else es1.length + (i - es2.length)) ?_ ?_
  · intro i e he
    split
    · rename_i h
      left
      rw [List.getElem?_append_right (by omega), hlen, Nat.add_sub_cancel_left]
      rwa [List.getElem?_append_left h] at he
    · rename_i h
      left
      rw [List.getElem?_append_right (by omega)] at he
      have := lt_of_get he
      rw [List.getElem?_append_left (by omega), kill_not _ _ _ (by simp), List.getElem?_append_right (by omega), Nat.add_sub_cancel_left]
      exact he
  · intro i j hi hj h
    simp only [List.length_append] at hi hj
    split at h <;> split at h <;> omega
theorem Hp.all (HB : Hp w0 w S es) (H : Hp w w' (bl es) es') : Hp w0 w' S es' := by
  have := Hp.front (R := []) (by simpa using HB) H
  simpa using this
theorem Lst.front (h : Lst w (es1 ++ R) xs bs) (H' : Hp w w' (bl es1) es2) : Lst w' (es2 ++ R) xs bs := by
  refine ⟨h.1, fun i hi => ?_⟩
  obtain ⟨h0, B, c, h1, h2, h3⟩ := h.2 i hi
  have ha : ∀ p, B = some p → p.block ∉ bl es1 := fun p hp hb => h3 p hp (by rw [bl_append]; exact List.mem_append_left _ hb)
  refine ⟨h0, B, c, h1, h2.to H' ha, fun p hp hb => ?_⟩
  rw [bl_append] at hb
  rcases List.mem_append.1 hb with hb | hb
  · exact apt_to h2 h0 ha H' p hp hb
  · exact h3 p hp (by rw [bl_append]; exact List.mem_append_right _ hb)
theorem Lst.app (h : Lst w es xs bs) (h2 : Lst w es ys cs) : Lst w es (xs ++ ys) (bs ++ cs) := by
  refine ⟨by simp [h.1, h2.1], fun i hi => ?_⟩
  by_cases hin : i < bs.length
  · rw [List.getElem_append_left hin]
    obtain ⟨h1, B, c, q1, q2, q3⟩ := h.2 i hin
    exact ⟨h1, B, c, by rw [List.getElem?_append_left (by rw [h.1]; exact hin)]; exact q1, q2, q3⟩
  · rw [List.getElem_append_right (by omega)]
    have hi2 : i - bs.length < cs.length := by simp only [List.length_append] at hi; omega
    obtain ⟨h1, B, c, q1, q2, q3⟩ := h2.2 _ hi2
    exact ⟨h1, B, c, by rw [List.getElem?_append_right (by rw [h.1]; omega), h.1]; exact q1, q2, q3⟩
theorem Lst.one {B : Option Addr} {b : Blk} {c : Nat} (h0 : 0 < b.length) (hr : Rd w B b.length 1 (u8s b)) (ha : ∀ p, B = some p → p.block ∉ bl es) : Lst w es [.slice B b.length c] [b] := by
  have := (Lst.nil w es).snoc (c := c) h0 hr ha
  simpa using this
/-- What a call made anew lies apart from all that was told of. -/
theorem apart_new (H : Hp w0 w S es) (H' : Hp w w' [] es2) {i : Nat} {g : Option Nat} {T : TypeId} {cs : List Value} (he : es2[i]? = some (g, T, cs)) : ∀ p, hd g = some p → p.block ∉ bl es := by
  intro p hp hb
  have h1 := fresh_at H' i he (by simp) p hp
  obtain ⟨⟨g2, T2, cs2⟩, hm, hg⟩ := List.mem_filterMap.1 hb
  obtain ⟨j, hj⟩ := List.getElem?_of_mem hm
  simp only at hg
  subst hg
  have := H.lt hj
  omega
theorem bl_left {b : Nat} (hb : b ∈ bl es1) : b ∈ bl (es1 ++ R) := by rw [bl_append]; exact List.mem_append_left _ hb

/-! ### For each place a list of blocks -/
structure Wr (w : World) (es : List Ent) (n : Nat) (wv : List Value) (R : List Ent) (W : Nat → List Blk) : Prop where
  lc : wv.length = n
  lr : R.length = n
  each : ∀ i, i < n → ∃ (g : Option Nat) (c : Nat) (xs sp : List Value), R[i]? = some (g, 33, xs ++ sp) ∧ wv[i]? = some (.slice (hd g) (W i).length c) ∧ (W i).length ≤ c ∧ c ≤ (xs ++ sp).length ∧ (g = none → c = 0) ∧ Lst w es xs (W i)
theorem Wr.move {n : Nat} {wv : List Value} {W : Nat → List Blk} (h : Wr w es n wv R W) (f : ∀ xs bs, Lst w es xs bs → Lst w' es' xs bs) : Wr w' es' n wv R W := by
  refine ⟨h.lc, h.lr, fun i hi => ?_⟩
  obtain ⟨g, c, xs, sp, h1, h2, h3, h4, h5, h6⟩ := h.each i hi
  exact ⟨g, c, xs, sp, h1, h2, h3, h4, h5, f _ _ h6⟩
theorem Wr.put {n : Nat} {wv : List Value} {W W' : Nat → List Blk} (h : Wr w es n wv R W) (f : ∀ xs bs, Lst w es xs bs → Lst w' es' xs bs) {i : Nat} (hi : i < n) {g3 : Option Nat} {c3 : Nat} {s3 xs : List Value} {v : Value} {b : Blk} (hL : Lst w' es' (xs ++ [v]) (W i ++ [b]))
    (hc : (W i).length + 1 ≤ c3) (hs : c3 ≤ ((xs ++ [v]) ++ s3).length) (hg : g3 = none → c3 = 0) (e1 : W' i = W i ++ [b]) (e2 : ∀ k, k ≠ i → W' k = W k) :
    Wr w' es' n (wv.set i (.slice (hd g3) ((W i).length + 1) c3)) (R.set i (g3, 33, (xs ++ [v]) ++ s3)) W' := by
  refine ⟨by simp [h.lc], by simp [h.lr], fun k hk => ?_⟩
  by_cases hki : k = i
  · subst hki
    refine ⟨g3, c3, xs ++ [v], s3, List.getElem?_set_self (by rw [h.lr]; exact hk), ?_, ?_, hs, hg, ?_⟩
    · rw [List.getElem?_set_self (by rw [h.lc]; exact hk), e1]; simp
    · rw [e1]; simpa using hc
    · rw [e1]; exact hL
  · obtain ⟨g, c, xs, sp, h1, h2, h3, h4, h5, h6⟩ := h.each k hk
    rw [e2 k hki]
    exact ⟨g, c, xs, sp, by rw [List.getElem?_set_ne (Ne.symm hki)]; exact h1, by rw [List.getElem?_set_ne (Ne.symm hki)]; exact h2, h3, h4, h5, f _ _ h6⟩
theorem Wr.none_ (w : World) (es : List Ent) (n : Nat) (W : Nat → List Blk) (hW : ∀ i, W i = []) : Wr w es n (initL [.slice none 0 0] n) (List.replicate n (none, 33, [])) W := by
  refine ⟨by rw [initL_length]; simp, by simp, fun i hi => ⟨none, 0, [], [], by simp [hi], ?_, by rw [hW]; exact Nat.le_refl _, Nat.zero_le _, fun _ => rfl, by rw [hW]; exact Lst.nil _ _⟩⟩
  rw [initL_get _ _ _ (by simpa using hi), hW]
  simp [Nat.mod_one, hd]
end
/-- What was written to a place. -/
def Wof (ws : List (Nat × Blk)) (i : Nat) : List Blk := (ws.filter fun p => p.1 == i).map (·.2)
theorem Wof_self (ws : List (Nat × Blk)) (i : Nat) (b : Blk) : Wof (ws ++ [(i, b)]) i = Wof ws i ++ [b] := by simp [Wof]
theorem Wof_other (ws : List (Nat × Blk)) (i : Nat) (b : Blk) (k : Nat) (h : k ≠ i) : Wof (ws ++ [(i, b)]) k = Wof ws k := by
  have : (i == k) = false := by simp [Ne.symm h]
  simp [Wof, List.filter_append, this]
theorem Wof_64 {ws : List (Nat × Blk)} (h : ∀ p ∈ ws, p.2.length = 64) (i : Nat) : ∀ b ∈ Wof ws i, b.length = 64 := by
  intro b hb
  obtain ⟨p, hp, rfl⟩ := List.mem_map.1 hb
  exact h p (List.mem_filter.1 hp).1
theorem Wof_most (ws : List (Nat × Blk)) (i : Nat) : (Wof ws i).length ≤ ws.length := by
  unfold Wof
  rw [List.length_map]
  exact List.length_filter_le _ _
theorem write_done {D : Dk} {a : Int} {b : Blk} (hd : D.down = false) (h : D.armed = 0) (hr : (D.write a b).2 = 0) : ∃ n : Nat, a = (n : Int) ∧ n < D.kept.length ∧ b.length = 64 ∧ (D.write a b).1 = D.put n b := by
  by_cases h1 : a < 0 ∨ (D.kept.length : Int) ≤ a
  · unfold Dk.write at hr
    rw [if_neg (by rw [hd]; exact Bool.false_ne_true), if_pos h1] at hr
    cases hr
  · by_cases h2 : b.length ≠ 64
    · unfold Dk.write at hr
      rw [if_neg (by rw [hd]; exact Bool.false_ne_true), if_neg h1, if_pos h2] at hr
      cases hr
    · have h3 : b.length = 64 := by omega
      obtain ⟨n, rfl⟩ := Int.eq_ofNat_of_zero_le (show 0 ≤ a by omega)
      exact ⟨n, rfl, by omega, h3, by rw [write_free hd h (by omega) (by omega) h3]; rfl⟩
theorem write_not {D : Dk} {a : Int} {b : Blk} (hd : D.down = false) (h : D.armed = 0) (hr : (D.write a b).2 ≠ 0) : (D.write a b).1 = D := by
  by_cases h1 : a < 0 ∨ (D.kept.length : Int) ≤ a
  · unfold Dk.write
    rw [if_neg (by rw [hd]; exact Bool.false_ne_true), if_pos h1]
  · by_cases h2 : b.length ≠ 64
    · unfold Dk.write
      rw [if_neg (by rw [hd]; exact Bool.false_ne_true), if_neg h1, if_pos h2]
    · rw [write_free hd h (by omega) (by omega) (by omega)] at hr
      exact absurd rfl hr

/-! ### Byte by byte -/
theorem u8s_getD {b : Blk} {k : Nat} (h : b.length = 64) (hk : k < 64) : (u8s b)[k]? = some (.int .u8 ((b.getD k 0).toNat : Int)) := by
  have hk2 : k < b.length := by omega
  simp [u8s, List.getElem?_map, List.getD_eq_getElem?_getD, List.getElem?_eq_getElem hk2]
def okU (a b0 : UInt8) (l : List Blk) (k x : Nat) : Bool := decide ((a.toNat : Int) = (b0.toNat : Int)) || (l.take x).any fun b => decide ((a.toNat : Int) = ((b.getD k 0).toNat : Int))
theorem okU_zero (a b0 : UInt8) (l : List Blk) (k : Nat) : okU a b0 l k 0 = decide ((a.toNat : Int) = (b0.toNat : Int)) := by simp [okU]
theorem okU_succ {a b0 : UInt8} {l : List Blk} {k x : Nat} (h : x < l.length) : okU a b0 l k (x + 1) = (okU a b0 l k x || decide ((a.toNat : Int) = ((l[x].getD k 0).toNat : Int))) := by
  unfold okU
  rw [List.take_add_one, List.getElem?_eq_getElem h, List.any_append, Option.toList_some, List.any_cons, List.any_nil, Bool.or_false, Bool.or_assoc]
theorem okU_all {a b0 : UInt8} {l : List Blk} {k : Nat} (h : a = b0 ∨ ∃ b ∈ l, a = b.getD k 0) : okU a b0 l k l.length = true := by
  unfold okU
  rw [List.take_length]
  rcases h with rfl | ⟨b, hb, rfl⟩
  · simp
  · rw [Bool.or_eq_true]
    exact .inr (List.any_eq_true.2 ⟨b, hb, by simp⟩)
theorem tears_byte {ks : List Blk} {ws : List (Nat × Blk)} {keep : List Int} (h64 : ∀ b ∈ ks, b.length = 64) (hw : ∀ p ∈ ws, p.2.length = 64 ∧ p.1 < ks.length) (i k : Nat) : ∀ q, ((tears ks ws keep q).getD i []).getD k 0 = (ks.getD i []).getD k 0 ∨ ∃ p ∈ ws, p.1 = i ∧ ((tears ks ws keep q).getD i []).getD k 0 = p.2.getD k 0
  | 0 => .inl rfl
  | q + 1 => by
    have ih := tears_byte (keep := keep) h64 hw i k q
    simp only [tears]
    split
    · rename_i p hp
      have hm := List.mem_of_getElem? hp
      have hpw := hw p hm
      have hlt : p.1 < (tears ks ws keep q).length := by rw [tears_length]; exact hpw.2
      by_cases hi : p.1 = i
      · subst hi
        have hc := clampK_le keep q
        rw [List.getD_eq_getElem?_getD (l := (tears ks ws keep q).set _ _), List.getElem?_set_self hlt, Option.getD_some]
        by_cases hk : k < clampK keep q
        · refine .inr ⟨p, hm, rfl, ?_⟩
          rw [List.getD_eq_getElem?_getD, List.getElem?_append_left (by rw [List.length_take]; omega), List.getElem?_take_of_lt hk, ← List.getD_eq_getElem?_getD]
        · have e : (p.2.take (clampK keep q) ++ ((tears ks ws keep q).getD p.1 []).drop (clampK keep q)).getD k 0 = ((tears ks ws keep q).getD p.1 []).getD k 0 := by
            have hl : (p.2.take (clampK keep q)).length = clampK keep q := by rw [List.length_take]; omega
            rw [List.getD_eq_getElem?_getD, List.getElem?_append_right (by omega), hl, List.getElem?_drop, List.getD_eq_getElem?_getD]
            congr 2
            omega
          rw [e]
          exact ih
      · rw [List.getD_eq_getElem?_getD (l := (tears ks ws keep q).set _ _), List.getElem?_set_ne hi, ← List.getD_eq_getElem?_getD]
        exact ih
    · exact ih
theorem keeps_law {E0 D6 : Dk} {ws : List (Nat × Blk)} {keep : List Int} (h64 : ∀ b ∈ E0.kept, b.length = 64) (hw : ∀ p ∈ ws, p.2.length = 64 ∧ p.1 < E0.kept.length) (hk : D6.kept = tears E0.kept ws keep ws.length) (hw6 : D6.wait = []) (hw0 : E0.wait = []) (i k : Nat) :
    okU ((D6.show i).getD k 0) ((E0.show i).getD k 0) (Wof ws i) k (Wof ws i).length = true := by
  refine okU_all ?_
  unfold Dk.show
  rw [hw6, hw0, hk]
  show ((tears E0.kept ws keep ws.length).getD i []).getD k 0 = (E0.kept.getD i []).getD k 0 ∨ ∃ b ∈ Wof ws i, ((tears E0.kept ws keep ws.length).getD i []).getD k 0 = b.getD k 0
  rcases tears_byte (keep := keep) h64 hw i k ws.length with h | ⟨p, hp, hpi, h⟩
  · exact .inl h
  · exact .inr ⟨p.2, List.mem_map.2 ⟨p, List.mem_filter.2 ⟨hp, by simp [hpi]⟩, rfl⟩, h⟩

/-! ### What is read at last -/
structure KR (w : World) (n : Nat) (A B C : Option Addr) (aft bef : Nat → Blk) (W : Nat → List Blk) : Prop where
  a : ∃ xs, Rd w A n 1 xs ∧ ∀ i, i < n → ∃ p k, xs[i]? = some (.slice (some p) 64 k) ∧ Rd w (some p) 64 1 (u8s (aft i)) ∧ (aft i).length = 64
  b : ∃ xs, Rd w B n 1 xs ∧ ∀ i, i < n → ∃ p k, xs[i]? = some (.slice (some p) 64 k) ∧ Rd w (some p) 64 1 (u8s (bef i)) ∧ (bef i).length = 64
  c : ∃ xs, Rd w C n 1 xs ∧ ∀ i, i < n → ∃ G k ys, xs[i]? = some (.slice G (W i).length k) ∧ Rd w G (W i).length 1 ys ∧ ∀ x (h : x < (W i).length), ∃ p k, ys[x]? = some (.slice (some p) 64 k) ∧ Rd w (some p) 64 1 (u8s (W i)[x]) ∧ (W i)[x].length = 64
theorem Lst.at {w : World} {es : List Ent} {xs : List Value} {bs : List Blk} (h : Lst w es xs bs) (h64 : ∀ b ∈ bs, b.length = 64) {i : Nat} (hi : i < bs.length) : ∃ p k, xs[i]? = some (.slice (some p) 64 k) ∧ Rd w (some p) 64 1 (u8s bs[i]) ∧ bs[i].length = 64 := by
  have hl := h64 bs[i] (List.getElem_mem hi)
  obtain ⟨h0, B, c, h1, h2, _⟩ := h.2 i hi
  obtain ⟨p, rfl⟩ := h2.some_ h0
  rw [hl] at h1 h2
  exact ⟨p, c, h1, h2, hl⟩
theorem shown_at (D : Dk) {i n : Nat} (h : i < n) : ∃ h', (D.shown n)[i]'h' = D.show i := ⟨by simpa [Dk.shown] using h, by simp [Dk.shown]⟩
theorem Lst.shown {w : World} {es : List Ent} {xs : List Value} {D : Dk} {n : Nat} (h : Lst w es xs (D.shown n)) (h64 : ∀ i, i < n → (D.show i).length = 64) {i : Nat} (hi : i < n) : ∃ p k, xs[i]? = some (.slice (some p) 64 k) ∧ Rd w (some p) 64 1 (u8s (D.show i)) ∧ (D.show i).length = 64 := by
  obtain ⟨h', e⟩ := shown_at D hi
  have := h.at (fun b hb => by obtain ⟨j, hj, rfl⟩ := List.mem_map.1 hb; exact h64 j (List.mem_range.1 hj)) h'
  rwa [e] at this
theorem some_of {w : World} {g : Option Nat} {n : Nat} {xs : List Value} (h : Rd w (hd g) n 1 xs) (hn : 0 < n) : ∃ x, g = some x := by
  cases g with
  | none => have := h.nil rfl; omega
  | some x => exact ⟨x, rfl⟩
end Go.Proofs.Ytnlajgeehlpdaaa
