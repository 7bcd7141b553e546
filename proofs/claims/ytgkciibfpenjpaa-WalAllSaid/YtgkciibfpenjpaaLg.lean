/-
  What a log is on its disk: its records lie behind one another in the ring, and the better heading names them; what an Append, a Sync, a Cut and an opening do to that.
-/
import Derived.Test.YtgkciibfpenjpaaWalN
namespace Go.Proofs.Ytgkciibfpenjpaa
open Go Go.RowKit
def nbs (rs : List Blk) : Nat := (rs.map fun r => nbk r.length).sum
theorem nbs_append (a b : List Blk) : nbs (a ++ b) = nbs a + nbs b := by simp [nbs]
theorem nbs_one (r : Blk) : nbs [r] = nbk r.length := by simp [nbs]
theorem nbs_le (rs : List Blk) : nbs rs + rs.length ≤ used rs := by
  induction rs with
  | nil => simp [nbs, used]
  | cons r rs ih =>
    have h : nbk r.length + 1 ≤ wgt r.length := by unfold wgt nbk; omega
    simp only [nbs, used, List.map_cons, List.sum_cons, List.length_cons] at ih ⊢; omega
theorem nbs_take_drop (rs : List Blk) (k : Nat) : nbs (rs.take k) + nbs (rs.drop k) = nbs rs := by rw [← nbs_append, List.take_append_drop]
theorem nbs_take_succ {rs : List Blk} {k : Nat} (h : k < rs.length) : nbs (rs.take (k + 1)) = nbs (rs.take k) + nbk rs[k].length := by
  rw [List.take_add_one, List.getElem?_eq_getElem h, nbs_append]
  show _ + nbs [rs[k]] = _
  rw [nbs_one]
theorem nbs_at {rs : List Blk} {k : Nat} (h : k < rs.length) : nbs (rs.take k) + nbk rs[k].length ≤ nbs rs := by
  rw [← nbs_take_succ h]
  have := nbs_take_drop rs (k + 1)
  omega
theorem mod_inj {s R x y : Nat} (hx : x < R) (hy : y < R) (h : (s + x) % R = (s + y) % R) : x = y := by
  have h1 := Nat.div_add_mod (s + x) R
  have h2 := Nat.div_add_mod (s + y) R
  rw [h] at h1
  rcases Nat.lt_trichotomy ((s + x) / R) ((s + y) / R) with h3 | h3 | h3
  · have h4 := Nat.mul_le_mul_left R h3
    rw [Nat.succ_eq_add_one, Nat.mul_add, Nat.mul_one] at h4
    omega
  · rw [h3] at h1; omega
  · have h4 := Nat.mul_le_mul_left R h3
    rw [Nat.succ_eq_add_one, Nat.mul_add, Nat.mul_one] at h4
    omega
@[reducible] def hcells (t f n s : Nat) : List Value := [.int .u64 (t : Int), .int .i64 (f : Int), .int .i64 (n : Int), .int .i64 (s : Int)]
structure Lg (V : Nat → Blk) (n : Nat) (W : Wl) (s : Nat) : Prop where
  size : 64 ≤ n
  sl : s < n - 2
  places : ∀ k, k ≤ W.recs.length → W.places.getD k W.fin = (s + nbs (W.recs.take k)) % (n - 2)
  len : W.places.length = W.recs.length
  laid : ∀ k (h : k < W.recs.length) j, j < nbk W.recs[k].length → V (2 + (s + nbs (W.recs.take k) + j) % (n - 2)) = chk (frm W.recs[k]) j
  room : used W.recs + 16 ≤ n / 2
  told : W.told ≤ W.recs.length
  long : ∀ r ∈ W.recs, r.length ≤ 16384
  best : better (better (0, hzero) (V 0)) (V 1) = (W.turn, hcells W.turn W.first (W.first + W.told) s)
  old : rd8 (V (W.turn % 2)) = W.turn
theorem Lg.fin {V : Nat → Blk} {n : Nat} {W : Wl} {s : Nat} (h : Lg V n W s) : W.fin = (s + nbs W.recs) % (n - 2) := by
  have h1 := h.places W.recs.length (Nat.le_refl _)
  rw [List.take_of_length_le (Nat.le_refl _), List.getD_eq_getElem?_getD, List.getElem?_eq_none (by rw [h.len]; exact Nat.le_refl _)] at h1
  exact h1
/-- Where the blocks that matter are the same, so is the log. -/
theorem Lg.same {V V' : Nat → Blk} {n : Nat} {W : Wl} {s : Nat} (h : Lg V n W s) (h0 : V' 0 = V 0) (h1 : V' 1 = V 1) (h2 : ∀ y, y < nbs W.recs → V' (2 + (s + y) % (n - 2)) = V (2 + (s + y) % (n - 2))) : Lg V' n W s := by
  refine { h with laid := fun k hk j hj => ?_, best := by rw [h0, h1]; exact h.best, old := ?_ }
  · rw [← h.laid k hk j hj, Nat.add_assoc]
    exact h2 _ (by have := nbs_at hk; omega)
  · rcases Nat.mod_two_eq_zero_or_one W.turn with hz | hz
    · have := h.old; rw [hz] at this ⊢; rw [h0]; exact this
    · have := h.old; rw [hz] at this ⊢; rw [h1]; exact this
/-! ### Writes -/
def putl (R fin : Nat) (b : Blk) (k : Nat) : List (Nat × Blk) := (List.range k).map fun j => (2 + (fin + j) % R, chk b j)
theorem putl_succ (R fin : Nat) (b : Blk) (k : Nat) : putl R fin b (k + 1) = putl R fin b k ++ [(2 + (fin + k) % R, chk b k)] := by simp [putl, List.range_succ]
theorem hit_down (E : Dk) : E.hit.1.down = E.down := by unfold Dk.hit; split <;> rfl
theorem hit_armed0 {E : Dk} (h : E.armed = 0) : E.hit.1.armed = 0 ∧ E.hit.2 = false := by unfold Dk.hit; rw [if_pos (by omega)]; exact ⟨h, rfl⟩
theorem write_live {D : Dk} {a : Nat} {b : Blk} (hd : D.down = false) (ha : a < D.kept.length) (hb : b.length = 64) : (D.write (a : Int) b).1.kept = D.kept ∧ (D.write (a : Int) b).1.wait = D.wait ++ [(a, b)] ∧ (((D.write (a : Int) b).2 = 0 ∧ (D.write (a : Int) b).1.down = false ∧ (D.armed = 0 → (D.write (a : Int) b).1.armed = 0)) ∨ ((D.write (a : Int) b).2 = 40 ∧ 0 < D.armed ∧ (D.write (a : Int) b).1.down = true)) := by
  unfold Dk.write
  rw [if_neg (by rw [hd]; exact Bool.false_ne_true), if_neg (by omega), if_neg (by omega)]
  split
  · rename_i hh
    refine ⟨hit_kept _, hit_wait _, .inr ⟨rfl, ?_, rfl⟩⟩
    by_cases h0 : D.armed = 0
    · rw [(hit_armed0 (E := D.put (a : Int).toNat b) h0).2] at hh; cases hh
    · omega
  · exact ⟨hit_kept _, hit_wait _, .inl ⟨rfl, (hit_down _).trans hd, fun h0 => (hit_armed0 (E := D.put (a : Int).toNat b) h0).1⟩⟩
theorem puts_live {D : Dk} (R fin : Nat) (b : Blk) (hd : D.down = false) (hR : R + 2 = D.kept.length) (hR0 : 0 < R) : ∀ k, 64 * k ≤ b.length → okN R fin b D k → (putsN R fin b D k).kept = D.kept ∧ (putsN R fin b D k).wait = D.wait ++ putl R fin b k ∧ (putsN R fin b D k).down = false ∧ (D.armed = 0 → (putsN R fin b D k).armed = 0)
  | 0, _, _ => ⟨rfl, by simp [putsN, putl], hd, fun h => h⟩
  | k + 1, hb, hok => by
    obtain ⟨h1, h2, h3, h4⟩ := puts_live R fin b hd hR hR0 k (by omega) (fun j hj => hok j (by omega))
    have hlt := Nat.mod_lt (fin + k) hR0
    have hw := write_live (D := putsN R fin b D k) (a := 2 + (fin + k) % R) (b := chk b k) h3 (by rw [h1]; omega) (chk_len (by omega))
    have h0 := hok k (by omega)
    refine ⟨hw.1.trans h1, ?_, ?_, ?_⟩
    · refine hw.2.1.trans ?_
      rw [h2, putl_succ, List.append_assoc]
    · rcases hw.2.2 with hw | hw
      · exact hw.2.1
      · omega
    · rcases hw.2.2 with hw | hw
      · exact fun ha => hw.2.2 (h4 ha)
      · omega
theorem show_eq {D D' : Dk} {xs : List (Nat × Blk)} (hk : D'.kept = D.kept) (hw : D'.wait = D.wait ++ xs) (i : Nat) : D'.show i = (flush (flush D.kept D.wait) xs).getD i [] := by
  unfold Dk.show
  rw [hk, hw, flush_append]
theorem show_ext {D D' : Dk} {xs : List (Nat × Blk)} (hk : D'.kept = D.kept) (hw : D'.wait = D.wait ++ xs) {i : Nat} (h : ∀ p ∈ xs, p.1 ≠ i) : D'.show i = D.show i := by
  rw [show_eq hk hw, List.getD_eq_getElem?_getD, flush_none h]
  rfl
theorem putl_get {R fin : Nat} {b : Blk} {k q : Nat} (h : q < (putl R fin b k).length) : (putl R fin b k)[q] = (2 + (fin + q) % R, chk b q) := by simp [putl]
theorem putl_len (R fin : Nat) (b : Blk) (k : Nat) : (putl R fin b k).length = k := by simp [putl]
theorem show_new {D D' : Dk} {R fin : Nat} {b : Blk} {k : Nat} (hk : D'.kept = D.kept) (hw : D'.wait = D.wait ++ putl R fin b k) (hR : R + 2 = D.kept.length) (hkR : k ≤ R) {j : Nat} (hj : j < k) : D'.show (2 + (fin + j) % R) = chk b j := by
  have hjl : j < (putl R fin b k).length := by rw [putl_len]; exact hj
  rw [show_eq hk hw, List.getD_eq_getElem?_getD, flush_last (q := j) hjl (by rw [flush_length]; have := Nat.mod_lt (fin + j) (show 0 < R by omega); omega) (by rw [putl_get hjl]) ?_, putl_get hjl]
  · rfl
  · intro p hp he
    obtain ⟨i, hi⟩ := List.getElem?_of_mem hp
    rw [List.getElem?_drop] at hi
    have hil : j + 1 + i < (putl R fin b k).length := (List.getElem?_eq_some_iff.1 hi).1
    rw [List.getElem?_eq_getElem hil, putl_get hil] at hi
    simp only [Option.some.injEq] at hi
    rw [← hi] at he
    rw [putl_len] at hil
    simp only at he
    have := mod_inj (s := fin) (R := R) (x := j + 1 + i) (y := j) (by omega) (by omega) (by omega)
    omega
theorem took_recs (W : Wl) (D : Dk) (b : Blk) : (W.took D b).recs = W.recs ++ [b] := rfl
theorem getD_app {l : List Nat} {x d e : Nat} {k : Nat} : (l ++ [x]).getD k d = if k < l.length then l.getD k e else if k = l.length then x else d := by
  simp only [List.getD_eq_getElem?_getD]
  split
  · rename_i h; rw [List.getElem?_append_left h, List.getElem?_eq_getElem h]; rfl
  · rename_i h
    split
    · rename_i h2; rw [List.getElem?_append_right (by omega), h2, Nat.sub_self]; rfl
    · rename_i h2; rw [List.getElem?_eq_none (by simp; omega)]; rfl
/-- What waits behind an Append: blocks of the ring that no record has. -/
def Fresh1 (n s a : Nat) (xs : List (Nat × Blk)) : Prop := ∀ p ∈ xs, ∃ y, a ≤ y ∧ y < n - 2 ∧ p.1 = 2 + (s + y) % (n - 2)
theorem fresh_putl {n s a fin : Nat} {b : Blk} {k : Nat} (hf : fin = (s + a) % (n - 2)) (hk : a + k ≤ n - 2) : Fresh1 n s a (putl (n - 2) fin b k) := by
  intro p hp
  obtain ⟨j, hj, rfl⟩ := List.mem_map.1 hp
  have hj2 := List.mem_range.1 hj
  refine ⟨a + j, by omega, by omega, ?_⟩
  rw [hf, Nat.mod_add_mod, Nat.add_assoc]
theorem Lg.took {D D' : Dk} {W : Wl} {b : Blk} {s : Nat} (h : Lg D.show D.kept.length W s) (hb : b.length ≤ 16384) (hr : used W.recs + wgt b.length + 16 ≤ D.kept.length / 2) (hk : D'.kept = D.kept) (hw : D'.wait = D.wait ++ putl (D.kept.length - 2) W.fin (frm b) (nbk b.length)) : Lg D'.show D.kept.length (W.took D b) s := by
  have hn := nbs_le W.recs
  have hbw : nbk b.length + 1 ≤ wgt b.length := by unfold wgt nbk; omega
  have hsz := h.size
  have hF := fresh_putl (b := frm b) (k := nbk b.length) h.fin (by omega)
  have hl : (W.took D b).recs.length = W.recs.length + 1 := by simp [took_recs]
  refine ⟨h.size, h.sl, fun k hk2 => ?_, ?_, fun k hk2 j hj => ?_, ?_, ?_, ?_, ?_, ?_⟩
  · show (W.places ++ [W.fin]).getD k ((W.fin + nbk b.length) % (D.kept.length - 2)) = _
    rw [getD_app (e := W.fin), took_recs, h.len]
    split
    · rename_i h1; rw [List.take_append_of_le_length (by omega)]; exact h.places k (by omega)
    · split
      · rename_i h1 h2; rw [h2, List.take_left' rfl]; exact h.fin
      · rename_i h1 h2
        have h3 : k = W.recs.length + 1 := by omega
        rw [h3, List.take_of_length_le (by simp), nbs_append, nbs_one, h.fin, Nat.mod_add_mod, Nat.add_assoc]
  · show (W.places ++ [W.fin]).length = _
    rw [hl, List.length_append, h.len]; rfl
  · by_cases h1 : k < W.recs.length
    · have e : (W.took D b).recs[k] = W.recs[k] := List.getElem_append_left h1
      have e2 : (W.took D b).recs.take k = W.recs.take k := by rw [took_recs, List.take_append_of_le_length (by omega)]
      rw [e] at hj ⊢
      rw [e2, show_ext hk hw, h.laid k h1 j hj]
      intro p hp he
      obtain ⟨y, hy1, hy2, hy3⟩ := hF p hp
      have h4 := nbs_at h1
      have := mod_inj (s := s) (R := D.kept.length - 2) (x := y) (y := nbs (W.recs.take k) + j) (by omega) (by omega) (by rw [← Nat.add_assoc]; omega)
      omega
    · have h2 : k = W.recs.length := by omega
      subst h2
      have e : (W.took D b).recs[W.recs.length] = b := by simp [took_recs]
      have e2 : (W.took D b).recs.take W.recs.length = W.recs := by rw [took_recs, List.take_left' rfl]
      rw [e] at hj ⊢
      rw [e2]
      have h3 := show_new (D := D) (D' := D') (R := D.kept.length - 2) hk hw (by omega) (by omega) hj
      rw [h.fin, Nat.mod_add_mod] at h3
      exact h3
  · rw [took_recs, used_append, used_one]; omega
  · show W.told ≤ _
    have := h.told
    omega
  · intro r hr2
    rcases List.mem_append.1 hr2 with h1 | h1
    · exact h.long r h1
    · rw [List.mem_singleton.1 h1]; exact hb
  · show better (better (0, hzero) (D'.show 0)) (D'.show 1) = (W.turn, hcells W.turn W.first (W.first + W.told) s)
    rw [show_ext hk hw (i := 0) (fun p hp he => by obtain ⟨y, _, _, h3⟩ := hF p hp; omega), show_ext hk hw (i := 1) (fun p hp he => by obtain ⟨y, _, _, h3⟩ := hF p hp; omega)]
    exact h.best
  · show rd8 (D'.show (W.turn % 2)) = W.turn
    rw [show_ext hk hw (i := W.turn % 2) (fun p hp he => by obtain ⟨y, _, _, h3⟩ := hF p hp; omega)]
    exact h.old
/-- How an Append ends, over a disk that is up. -/
def AppL (D : Dk) (W : Wl) (s : Nat) (b : Blk) (x : Int) (D' : Dk) (W' : Wl) : Prop :=
  (16384 < b.length ∧ x = 22 ∧ D' = D ∧ W' = W) ∨ (b.length ≤ 16384 ∧ D.kept.length / 2 < used W.recs + wgt b.length + 16 ∧ x = 3 ∧ D' = D ∧ W' = W) ∨
  (b.length ≤ 16384 ∧ used W.recs + wgt b.length + 16 ≤ D.kept.length / 2 ∧ D'.kept = D.kept ∧ (∃ xs, D'.wait = D.wait ++ xs ∧ xs.length ≤ 300 ∧ Fresh1 D.kept.length s (nbs W.recs) xs) ∧
    ((x = 0 ∧ Lg D'.show D.kept.length W' s ∧ D'.down = false ∧ (D.armed = 0 → D'.armed = 0) ∧ W' = W.took D b) ∨ (x = 40 ∧ 0 < D.armed ∧ D'.down = true ∧ W' = { W with dead := true })))
theorem app_law {D : Dk} {W : Wl} {b : Blk} {x : Int} {D' : Dk} {W' : Wl} {s : Nat} (h : Lg D.show D.kept.length W s) (hd : D.down = false) (hdead : W.dead = false) (hr : AppRes D W b x D' W') : AppL D W s b x D' W' := by
  have hdd : (W.dead || D.down) = false := by rw [hd, hdead]; rfl
  have hsz := h.size
  have hn := nbs_le W.recs
  have hbw : nbk b.length + 1 ≤ wgt b.length := by unfold wgt nbk; omega
  rcases hr with ⟨h1, h2, h3, h4⟩ | ⟨_, h2, _⟩ | ⟨h1, _, h2, h3, h4, h5⟩ | ⟨h1, _, h2, h3⟩
  · exact .inl ⟨h1, h2, h3, h4⟩
  · rw [hdd] at h2; cases h2
  · exact .inr (.inl ⟨h1, h2, h3, h4, h5⟩)
  · refine .inr (.inr ⟨h1, h2, ?_⟩)
    have hnk := nbk_le h1
    have hfl := frm_len b
    rcases h3 with ⟨hok, hx, hD, hW⟩ | ⟨hx, k, hk, hok, hne, hD, hW⟩
    · obtain ⟨e1, e2, e3, e4⟩ := puts_live (D.kept.length - 2) W.fin (frm b) hd (by omega) (by omega) (nbk b.length) (by omega) hok
      rw [← hD] at e1 e2 e3 e4
      exact ⟨e1, ⟨_, e2, by rw [putl_len]; exact hnk, fresh_putl h.fin (by omega)⟩, .inl ⟨hx, hW ▸ h.took h1 h2 e1 e2, e3, e4, hW⟩⟩
    · obtain ⟨e1, e2, e3, e4⟩ := puts_live (D.kept.length - 2) W.fin (frm b) hd (by omega) (by omega) k (by omega) hok
      have hlt := Nat.mod_lt (W.fin + k) (show 0 < D.kept.length - 2 by omega)
      have hw := write_live (D := putsN (D.kept.length - 2) W.fin (frm b) D k) (a := 2 + (W.fin + k) % (D.kept.length - 2)) (b := chk (frm b) k) e3 (by rw [e1]; omega) (chk_len (by omega))
      have hE : D' = ((putsN (D.kept.length - 2) W.fin (frm b) D k).write ((2 + (W.fin + k) % (D.kept.length - 2) : Nat) : Int) (chk (frm b) k)).1 := hD
      rw [← hE] at hw
      refine ⟨hw.1.trans e1, ⟨putl (D.kept.length - 2) W.fin (frm b) (k + 1), ?_, by rw [putl_len]; omega, fresh_putl h.fin (by omega)⟩, .inr ?_⟩
      · rw [hw.2.1, e2, putl_succ, List.append_assoc]
      · rcases hw.2.2 with hw3 | hw3
        · exact absurd hw3.1 hne
        · refine ⟨hx, ?_, hw3.2.2, hW⟩
          by_cases h0 : D.armed = 0
          · have := e4 h0; omega
          · omega
/-! ### Headings -/
theorem i64w {n : Nat} (h : n ≤ 2 ^ 60) : IntKind.i64.wrap (n : Int) = (n : Int) := IntWalk.i64_in _ (by omega)
theorem hdr_rd (t f n s : Nat) (ht : t ≤ 2 ^ 60) (hf : f ≤ 2 ^ 60) (hn : n ≤ 2 ^ 60) (hs : s ≤ 2 ^ 60) : rd8 (hdr t f n s) = t ∧ rd8 ((hdr t f n s).drop 56) = t ∧ headV (hdr t f n s) = hcells t f n s := by
  have e0 : hdr t f n s = be8 t ++ (be8 f ++ (be8 n ++ (be8 s ++ (List.replicate 24 0 ++ be8 t)))) := by simp [hdr]
  have e1 : (hdr t f n s).drop 8 = be8 f ++ (be8 n ++ (be8 s ++ (List.replicate 24 0 ++ be8 t))) := by rw [e0]; exact List.drop_left' (be8_len t)
  have e2 : (hdr t f n s).drop 16 = be8 n ++ (be8 s ++ (List.replicate 24 0 ++ be8 t)) := by rw [show 16 = 8 + 8 by rfl, ← List.drop_drop, e1]; exact List.drop_left' (be8_len f)
  have e3 : (hdr t f n s).drop 24 = be8 s ++ (List.replicate 24 0 ++ be8 t) := by rw [show 24 = 16 + 8 by rfl, ← List.drop_drop, e2]; exact List.drop_left' (be8_len n)
  have e4 : (hdr t f n s).drop 56 = be8 t ++ [] := by rw [show 56 = 24 + 8 + 24 by rfl, ← List.drop_drop, ← List.drop_drop, e3, List.drop_left' (be8_len s), List.drop_left' (by simp), List.append_nil]
  have r1 : rd8 (hdr t f n s) = t := by rw [e0]; exact rd8_be8 (by omega) _
  refine ⟨r1, by rw [e4]; exact rd8_be8 (by omega) _, ?_⟩
  unfold headV
  rw [r1, e1, e2, e3, rd8_be8 (by omega), rd8_be8 (by omega), rd8_be8 (by omega), i64w hf, i64w hn, i64w hs]
theorem better_yes {p : Nat × List Value} {t f n s : Nat} (ht : t ≤ 2 ^ 60) (hf : f ≤ 2 ^ 60) (hn : n ≤ 2 ^ 60) (hs : s ≤ 2 ^ 60) (h : p.1 < t) : better p (hdr t f n s) = (t, hcells t f n s) := by
  obtain ⟨h1, h2, h3⟩ := hdr_rd t f n s ht hf hn hs
  unfold better
  rw [h1, h2, h3, if_pos ⟨rfl, h⟩]
theorem better_no {p : Nat × List Value} {b : Blk} (h : rd8 b ≤ p.1) : better p b = p := by
  unfold better
  rw [if_neg (by omega)]
theorem better_lt {p : Nat × List Value} {b : Blk} {t : Nat} (h : rd8 b < t) (hp : p.1 < t) : (better p b).1 < t := by
  unfold better
  split
  · exact h
  · exact hp
/-- A heading that was just told is the better one. -/
theorem best_told {V V' : Nat → Blk} {t f n s : Nat} (ho : rd8 (V (t % 2)) = t) (h1 : V' ((t + 1) % 2) = hdr (t + 1) f n s) (h2 : V' (t % 2) = V (t % 2)) (ht : t + 1 ≤ 2 ^ 60) (hf : f ≤ 2 ^ 60) (hn : n ≤ 2 ^ 60) (hs : s ≤ 2 ^ 60) : better (better (0, hzero) (V' 0)) (V' 1) = (t + 1, hcells (t + 1) f n s) ∧ rd8 (V' ((t + 1) % 2)) = t + 1 := by
  refine ⟨?_, by rw [h1]; exact (hdr_rd _ _ _ _ ht hf hn hs).1⟩
  rcases Nat.mod_two_eq_zero_or_one t with hz | hz
  · rw [hz] at h2 ho
    rw [show (t + 1) % 2 = 1 by omega] at h1
    rw [h1]
    refine better_yes ht hf hn hs ?_
    rw [h2]
    exact better_lt (by omega) (by show 0 < t + 1; omega)
  · rw [hz] at h2 ho
    rw [show (t + 1) % 2 = 0 by omega] at h1
    rw [h1, better_yes ht hf hn hs (by show 0 < t + 1; omega), better_no]
    rw [h2]
    show _ ≤ t + 1
    omega
theorem drop_getD (l : List Nat) (a k d : Nat) : (l.drop a).getD k d = l.getD (a + k) d := by simp [List.getD_eq_getElem?_getD]
theorem nbs_drop_take (rs : List Blk) (a k : Nat) : nbs (rs.take a) + nbs ((rs.drop a).take k) = nbs (rs.take (a + k)) := by
  rw [← nbs_append, List.take_add]
theorem Lg.tell {V V' : Nat → Blk} {n : Nat} {W : Wl} {s gone : Nat} (h : Lg V n W s) (hg : gone ≤ W.recs.length) (ht : W.turn ≤ 2 ^ 50) (hf : W.first ≤ 2 ^ 50) (hn : n ≤ 16384) (h1 : V' ((W.turn + 1) % 2) = W.head gone) (h2 : ∀ i, i ≠ (W.turn + 1) % 2 → V' i = V i) : Lg V' n (W.tell gone) ((s + nbs (W.recs.take gone)) % (n - 2)) := by
  have hsz := h.size
  have hst : W.start gone = (s + nbs (W.recs.take gone)) % (n - 2) := h.places gone hg
  have hlt := Nat.mod_lt (s + nbs (W.recs.take gone)) (show 0 < n - 2 by omega)
  have hrl : W.recs.length ≤ 16384 := by have := nbs_le W.recs; have := h.room; omega
  have hud := used_drop W.recs gone
  have hb := best_told (V := V) (V' := V') (t := W.turn) (f := W.first + gone) (n := W.first + W.recs.length) (s := W.start gone) h.old h1 (h2 _ (by omega)) (by omega) (by omega) (by omega) (by omega)
  have hr : (W.tell gone).recs = W.recs.drop gone := rfl
  refine ⟨h.size, hlt, fun k hk => ?_, ?_, fun k hk j hj => ?_, ?_, Nat.le_refl _, fun r hr => h.long r (List.mem_of_mem_drop hr), ?_, hb.2⟩
  · have hk2 : k ≤ W.recs.length - gone := by rw [hr, List.length_drop] at hk; exact hk
    show (W.places.drop gone).getD k W.fin = _
    rw [drop_getD, h.places (gone + k) (by omega), Nat.mod_add_mod, hr, Nat.add_assoc, nbs_drop_take]
  · show (W.places.drop gone).length = (W.recs.drop gone).length
    rw [List.length_drop, List.length_drop, h.len]
  · have hk2 : gone + k < W.recs.length := by rw [hr, List.length_drop] at hk; omega
    have e : (W.tell gone).recs[k] = W.recs[gone + k] := List.getElem_drop ..
    rw [e] at hj ⊢
    rw [Nat.add_assoc, Nat.mod_add_mod, h2 _ (by omega), hr, Nat.add_assoc, ← Nat.add_assoc (nbs _), nbs_drop_take, ← Nat.add_assoc]
    exact h.laid (gone + k) hk2 j hj
  · rw [hr]
    have := h.room
    omega
  · show better (better (0, hzero) (V' 0)) (V' 1) = (W.turn + 1, hcells (W.turn + 1) (W.first + gone) (W.first + gone + (W.recs.drop gone).length) _)
    rw [hb.1, hst, List.length_drop, show W.first + gone + (W.recs.length - gone) = W.first + W.recs.length by omega]
theorem sync_up {D : Dk} (hd : D.down = false) (ha : D.armed = 0) : D.sync.2 = 0 ∧ D.sync.1.kept = flush D.kept D.wait ∧ D.sync.1.wait = [] ∧ D.sync.1.down = false ∧ D.sync.1.armed = 0 := by
  rw [sync_free hd ha]
  exact ⟨rfl, rfl, rfl, rfl, rfl⟩
theorem sync_show {D : Dk} (hd : D.down = false) (ha : D.armed = 0) (i : Nat) : D.sync.1.show i = D.show i := by
  rw [sync_free hd ha]
  rfl
/-- How a Sync or a Cut ends, over a disk that is up and not armed. -/
def ScL (D : Dk) (W : Wl) (gone : Nat) (x : Int) (D' : Dk) (W' : Wl) : Prop :=
  x = 0 ∧ D'.down = false ∧ D'.armed = 0 ∧ D'.wait = [] ∧ D'.kept.length = D.kept.length ∧ W'.dead = false ∧ W'.recs = W.recs.drop gone ∧ W'.first = W.first + gone ∧ W'.told = W'.recs.length ∧ W'.turn ≤ W.turn + 1 ∧ ∃ s', Lg D'.show D'.kept.length W' s'
theorem sc_law {D : Dk} {W : Wl} {gone : Nat} {x : Int} {D' : Dk} {W' : Wl} {s : Nat} (h : Lg D.show D.kept.length W s) (hd : D.down = false) (ha : D.armed = 0) (hdead : W.dead = false) (hg : gone ≤ W.recs.length) (ht : W.turn ≤ 2 ^ 50) (hf : W.first ≤ 2 ^ 50) (hn : D.kept.length ≤ 16384) (hr : ScRes D W gone x D' W') : ScL D W gone x D' W' := by
  have hdd : (W.dead || D.down) = false := by rw [hd, hdead]; rfl
  have hsz := h.size
  obtain ⟨a1, a2, a3, a4, a5⟩ := sync_up hd ha
  have hlen : D.sync.1.kept.length = D.kept.length := by rw [a2, flush_length]
  have hsh : D.sync.1.show = D.show := funext (sync_show hd ha)
  have hw := write_free (D := D.sync.1) (a := ((W.turn + 1) % 2 : Nat)) (b := W.head gone) a4 a5 (by omega) (by omega) (hdr_len _ _ _ _)
  have hE : tellW D.sync.1 W gone = (D.sync.1.put ((W.turn + 1) % 2) (W.head gone), 0) := hw
  obtain ⟨b1, b2, b3, b4, b5⟩ := sync_up (D := D.sync.1.put ((W.turn + 1) % 2) (W.head gone)) a4 a5
  have bl2 : (D.sync.1.put ((W.turn + 1) % 2) (W.head gone)).sync.1.kept.length = D.kept.length := by rw [b2, flush_length]; exact hlen
  rcases hr with ⟨h1, _⟩ | ⟨_, ⟨hx, _, ⟨hst, hD, hW⟩ | ⟨hst, ⟨t1, t2, t3⟩, hW⟩⟩ | ⟨hx, ⟨h1, _⟩ | ⟨_, hst, hb⟩, _⟩⟩
  · rw [hdd] at h1; cases h1
  · have hst2 : ¬ (0 < gone ∨ W.told < W.recs.length) := of_decide_eq_false hst
    have htl := h.told
    have hg0 : gone = 0 := by omega
    subst hg0 hW
    rw [hD]
    exact ⟨hx, a4, a5, a3, hlen, hdead, by simp, rfl, by omega, by omega, s, by rw [hsh, hlen]; exact h⟩
  · rw [hE] at t3
    subst t3 hW
    refine ⟨hx, b4, b5, b3, bl2, hdead, rfl, rfl, rfl, Nat.le_refl _, (s + nbs (W.recs.take gone)) % (D.kept.length - 2), ?_⟩
    rw [bl2]
    refine h.tell hg ht hf hn ?_ ?_
    · rw [sync_show (D := D.sync.1.put ((W.turn + 1) % 2) (W.head gone)) a4 a5]
      exact put_show (by rw [hlen]; omega)
    · intro i hi
      rw [sync_show (D := D.sync.1.put ((W.turn + 1) % 2) (W.head gone)) a4 a5, ← hsh]
      refine show_ext (D := D.sync.1) (D' := D.sync.1.put ((W.turn + 1) % 2) (W.head gone)) (xs := [((W.turn + 1) % 2, W.head gone)]) rfl rfl ?_
      intro p hp he
      rw [List.mem_singleton.1 hp] at he
      exact hi he.symm
  · exact absurd a1 h1
  · rcases hb with ⟨h1, _⟩ | ⟨_, h1, _⟩
    · rw [hE] at h1; exact absurd rfl h1
    · rw [hE] at h1; exact absurd b1 h1
/-! ### Opened anew -/
theorem tookN_fin (t f s : Nat) (D : Dk) (rs : List Blk) (hs : s < D.kept.length - 2) : ∀ k, k ≤ rs.length → ((Wl.anew t f s).tookN D rs k).fin = (s + nbs (rs.take k)) % (D.kept.length - 2)
  | 0, _ => by
    show s = _
    rw [List.take_zero, show nbs [] = 0 from rfl, Nat.add_zero, Nat.mod_eq_of_lt hs]
  | k + 1, h => by
    show (((Wl.anew t f s).tookN D rs k).fin + nbk (rs.getD k []).length) % _ = _
    rw [tookN_fin t f s D rs hs k (by omega), Nat.mod_add_mod, nbs_take_succ (by omega), Nat.add_assoc, List.getD_eq_getElem?_getD, List.getElem?_eq_getElem (by omega)]
    rfl
theorem tookN_places (t f s : Nat) (D : Dk) (rs : List Blk) (hs : s < D.kept.length - 2) : ∀ k, k ≤ rs.length → ((Wl.anew t f s).tookN D rs k).places = (List.range k).map fun i => (s + nbs (rs.take i)) % (D.kept.length - 2)
  | 0, _ => rfl
  | k + 1, h => by
    show ((Wl.anew t f s).tookN D rs k).places ++ [((Wl.anew t f s).tookN D rs k).fin] = _
    rw [tookN_places t f s D rs hs k (by omega), tookN_fin t f s D rs hs k (by omega), List.range_succ, List.map_append]
    rfl
theorem open_law {D : Dk} {W : Wl} {s : Nat} (h : Lg D.show D.kept.length W s) (ht : W.told = W.recs.length) :
    (bestH D 2).2 = hcells W.turn W.first (W.first + W.recs.length) s ∧ Laid D (Wl.anew W.turn W.first s) W.recs ∧ Lg D.show D.kept.length ((Wl.anew W.turn W.first s).found D W.recs) s ∧ ((Wl.anew W.turn W.first s).found D W.recs).recs = W.recs ∧ ((Wl.anew W.turn W.first s).found D W.recs).first = W.first ∧ ((Wl.anew W.turn W.first s).found D W.recs).turn = W.turn ∧ ((Wl.anew W.turn W.first s).found D W.recs).told = W.recs.length ∧ ((Wl.anew W.turn W.first s).found D W.recs).dead = false := by
  have hs := h.sl
  have hb : bestH D 2 = (W.turn, hcells W.turn W.first (W.first + W.told) s) := h.best
  have hsm := tookN_same (Wl.anew W.turn W.first s) D W.recs W.recs.length
  have hrc : ((Wl.anew W.turn W.first s).tookN D W.recs W.recs.length).recs = W.recs := by rw [tookN_recs _ _ _ _ (Nat.le_refl _), List.take_of_length_le (Nat.le_refl _)]; rfl
  have hfr : ((Wl.anew W.turn W.first s).found D W.recs).recs = W.recs := hrc
  have hft : ((Wl.anew W.turn W.first s).found D W.recs).told = W.recs.length := congrArg List.length hrc
  refine ⟨by rw [hb, ht], fun k hk j hj => ?_, ⟨h.size, hs, fun k hk => ?_, ?_, fun k hk j hj => ?_, ?_, ?_, ?_, ?_, ?_⟩, hfr, hsm.2.2.1, hsm.2.1, hft, hsm.1⟩
  · rw [tookN_fin _ _ _ _ _ hs k (by omega), Nat.mod_add_mod]
    exact h.laid k hk j hj
  · rw [hfr] at hk ⊢
    show ((Wl.anew W.turn W.first s).tookN D W.recs W.recs.length).places.getD k ((Wl.anew W.turn W.first s).tookN D W.recs W.recs.length).fin = _
    rw [tookN_places _ _ _ _ _ hs _ (Nat.le_refl _), tookN_fin _ _ _ _ _ hs _ (Nat.le_refl _), List.getD_eq_getElem?_getD]
    by_cases h1 : k < W.recs.length
    · rw [List.getElem?_eq_getElem (by simpa using h1)]; simp
    · rw [List.getElem?_eq_none (by simp; omega), show k = W.recs.length by omega]; rfl
  · rw [hfr]
    show ((Wl.anew W.turn W.first s).tookN D W.recs W.recs.length).places.length = _
    rw [tookN_places _ _ _ _ _ hs _ (Nat.le_refl _)]; simp
  · have hk2 : k < W.recs.length := by rw [hfr] at hk; exact hk
    have e : ((Wl.anew W.turn W.first s).found D W.recs).recs[k] = W.recs[k] := by simp only [hfr]
    rw [e] at hj ⊢
    rw [hfr]
    exact h.laid k hk2 j hj
  · rw [hfr]; exact h.room
  · rw [hft, hfr]; exact Nat.le_refl _
  · rw [hfr]; exact h.long
  · rw [hft]
    have e1 : ((Wl.anew W.turn W.first s).found D W.recs).turn = W.turn := hsm.2.1
    have e2 : ((Wl.anew W.turn W.first s).found D W.recs).first = W.first := hsm.2.2.1
    rw [e1, e2]
    have := h.best
    rw [ht] at this
    exact this
  · have e1 : ((Wl.anew W.turn W.first s).found D W.recs).turn = W.turn := hsm.2.1
    rw [e1]; exact h.old
/-- A log over an empty disk. -/
theorem rd8_zero : rd8 zero64 = 0 := by decide
theorem Lg.empty {V : Nat → Blk} {n : Nat} (h : 64 ≤ n) (h0 : V 0 = zero64) (h1 : V 1 = zero64) : Lg V n (Wl.anew 0 0 0) 0 := by
  refine ⟨h, by omega, fun k hk => ?_, rfl, fun k hk => absurd hk (by simp), by show used [] + 16 ≤ _; simp [used]; omega, Nat.le_refl _, fun r hr => (by cases hr), ?_, by show rd8 (V 0) = 0; rw [h0]; exact rd8_zero⟩
  · have : k = 0 := by simpa using hk
    subst this
    show 0 = (0 + nbs []) % _
    simp [nbs]
  · rw [h0, h1, better_no (by rw [rd8_zero]; exact Nat.le_refl _), better_no (by rw [rd8_zero]; exact Nat.le_refl _)]
    rfl
/-! ### Falls -/
theorem tears_none {n : Nat} {ks : List Blk} {ws : List (Nat × Blk)} {keep : List Int} (h : ∀ p ∈ ws, p.1 ≠ n) : ∀ q, (tears ks ws keep q)[n]? = ks[n]?
  | 0 => rfl
  | q + 1 => by
    simp only [tears]
    split
    · rename_i p hp
      rw [List.getElem?_set_ne (h p (List.mem_of_getElem? hp))]
      exact tears_none h q
    · exact tears_none h q
end Go.Proofs.Ytgkciibfpenjpaa
