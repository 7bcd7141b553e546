/-
  Single fields of a plain thing in memory; zero things; what reading bounds.
-/
import Derived.Test.YtoeobicpdeklaaaGreatLay
namespace Go.Proofs.YtoeobicpdeklaaaGreat
open Go Go.RowKit
section
variable {w w' w0 : World} {ok ok' : Nat → Prop} {x : List Fv} {vs us : List Value} {ks : List Kd} {S : List Nat} {es : List Ent}
theorem get_f (h : (Th.flat ks).M w ok x vs) (i : Nat) {k : Kd} (hk : ks[i]? = some k) : ∃ f v, x[i]? = some f ∧ vs[i]? = some v ∧ FP w ok f v ∧ f.kd = k := by
  have hlen : x.length = ks.length := by rw [← h.1]; simp
  have hi := lt_of_get hk
  obtain ⟨v, h1, h2⟩ := h.2.each i (by omega)
  refine ⟨x[i]'(by omega), v, List.getElem?_eq_getElem _, h1, h2, ?_⟩
  have := h.1
  rw [← this, List.getElem?_map, List.getElem?_eq_getElem (by omega)] at hk
  simpa using hk
theorem get_int (h : (Th.flat ks).M w ok x vs) (i : Nat) (hk : ks[i]? = some .int) : ∃ n, x[i]? = some (.int n) ∧ vs[i]? = some (.int .i64 n) ∧ -9223372036854775808 ≤ n ∧ n ≤ 9223372036854775807 := by
  obtain ⟨f, v, h1, h2, h3, h4⟩ := get_f h i hk
  cases f <;> first | cases h4 | skip
  obtain ⟨rfl, h3⟩ := h3
  exact ⟨_, h1, h2, h3⟩
theorem get_word (h : (Th.flat ks).M w ok x vs) (i : Nat) (hk : ks[i]? = some .word) : ∃ n : Nat, x[i]? = some (.word n) ∧ vs[i]? = some (.int .u32 (n : Int)) ∧ n < 4294967296 := by
  obtain ⟨f, v, h1, h2, h3, h4⟩ := get_f h i hk
  cases f <;> first | cases h4 | skip
  obtain ⟨rfl, h3⟩ := h3
  exact ⟨_, h1, h2, h3⟩
theorem get_flag (h : (Th.flat ks).M w ok x vs) (i : Nat) (hk : ks[i]? = some .flag) : ∃ n, x[i]? = some (.flag n) ∧ vs[i]? = some (.bool n) := by
  obtain ⟨f, v, h1, h2, h3, h4⟩ := get_f h i hk
  cases f <;> first | cases h4 | skip
  exact ⟨_, h1, by rw [h2, show v = _ from h3]⟩
theorem get_text (h : (Th.flat ks).M w ok x vs) (i : Nat) (hk : ks[i]? = some .text) : ∃ n, x[i]? = some (.text n) ∧ vs[i]? = some (strV n) := by
  obtain ⟨f, v, h1, h2, h3, h4⟩ := get_f h i hk
  cases f <;> first | cases h4 | skip
  exact ⟨_, h1, by rw [h2, show v = _ from h3]⟩
theorem get_bytes (h : (Th.flat ks).M w ok x vs) (i : Nat) (hk : ks[i]? = some .bytes) : ∃ s B c, x[i]? = some (.bytes s) ∧ vs[i]? = some (.slice B s.length c) ∧ Rd w B s.length 1 (u8s s) ∧ (0 < s.length → ∀ p, B = some p → ok p.block) := by
  obtain ⟨f, v, h1, h2, h3, h4⟩ := get_f h i hk
  cases f <;> first | cases h4 | skip
  obtain ⟨B, c, rfl, h5, h6⟩ := h3
  exact ⟨_, B, c, h1, h2, h5, h6⟩
theorem and_f (h : (Th.flat ks).M w ok x vs) {i : Nat} {f : Fv} (hx : x[i]? = some f) : ∃ v, vs[i]? = some v ∧ FP w ok f v := by
  have hi := lt_of_get hx
  obtain ⟨v, h1, h2⟩ := h.2.each i hi
  rw [List.getElem?_eq_getElem hi] at hx
  simp only [Option.some.injEq] at hx
  rw [hx] at h2
  exact ⟨v, h1, h2⟩
theorem and_int (h : (Th.flat ks).M w ok x vs) {i : Nat} {n : Int} (hx : x[i]? = some (.int n)) : vs[i]? = some (.int .i64 n) := by
  obtain ⟨v, h1, h2⟩ := and_f h hx
  rw [h1, h2.1]
theorem and_word (h : (Th.flat ks).M w ok x vs) {i : Nat} {n : Nat} (hx : x[i]? = some (.word n)) : vs[i]? = some (.int .u32 (n : Int)) := by
  obtain ⟨v, h1, h2⟩ := and_f h hx
  rw [h1, h2.1]
theorem and_flag (h : (Th.flat ks).M w ok x vs) {i : Nat} {n : Bool} (hx : x[i]? = some (.flag n)) : vs[i]? = some (.bool n) := by
  obtain ⟨v, h1, h2⟩ := and_f h hx
  rw [h1, show v = _ from h2]
theorem and_text (h : (Th.flat ks).M w ok x vs) {i : Nat} {n : List UInt8} (hx : x[i]? = some (.text n)) : vs[i]? = some (strV n) := by
  obtain ⟨v, h1, h2⟩ := and_f h hx
  rw [h1, show v = _ from h2]
theorem and_bytes (h : (Th.flat ks).M w ok x vs) {i : Nat} {n : List UInt8} (hx : x[i]? = some (.bytes n)) : ∃ B c, vs[i]? = some (.slice B n.length c) ∧ Rd w B n.length 1 (u8s n) ∧ (0 < n.length → ∀ p, B = some p → ok p.block) := by
  obtain ⟨v, h1, h2⟩ := and_f h hx
  obtain ⟨B, c, rfl, h5, h6⟩ := h2
  exact ⟨B, c, h1, h5, h6⟩
theorem Hp.cellsAt (H : Hp w0 w S es) {i g : Nat} {T : TypeId} {cs us : List Value} {o : Nat} (he : es[i]? = some (some g, T, cs)) (hat : At cs o us) : ∀ j u, us[j]? = some u → w.cell? ((⟨g, o, none⟩ : Addr).add j) = some u := fun j u hu => by
  rw [addn]; exact H.cell he (hat j u hu)
theorem part_len (h : (Th.flat ks).M w ok x vs) {k n : Nat} (hn : k + n ≤ ks.length) : ((vs.drop k).take n).length = n := by
  have h1 := (Th.flat ks).len h
  change vs.length = ks.length at h1
  simp only [List.length_take, List.length_drop]; omega
/-- Texts within a thing are at most so long. -/
def Short (x : List Fv) : Prop := ∀ s, Fv.bytes s ∈ x → s.length ≤ 140737488351232
theorem Short.part (h : Short x) (k n : Nat) : Short ((x.drop k).take n) := fun s hs => h s (List.mem_of_mem_drop (List.mem_of_mem_take hs))
theorem Short.get (h : Short x) {i : Nat} {s : List UInt8} (hx : x[i]? = some (.bytes s)) : s.length ≤ 140737488351232 := h s (List.mem_of_getElem? hx)
theorem rdAll_short : ∀ (ks : List Kd) {b : List UInt8} {i e : Nat}, i ≤ b.length → ∀ s, Fv.bytes s ∈ (rdAll ks b i e).1 → s.length ≤ b.length
  | [], _, _, _, _, s, hs => by cases hs
  | k :: ks, b, i, e, h, s, hs => by
    rcases List.mem_cons.1 hs with h1 | h1
    · cases k <;> first | cases h1 | skip
      exact (textStep_bd h).2
    · exact rdAll_short ks (rdF_le h) s h1
theorem got_short {b : List UInt8} (hb : b.length ≤ 140737488351232) : Short (gotR (Th.flat ks) b) := by
  intro s hs
  unfold gotR at hs
  split at hs
  · exact Nat.le_trans (rdAll_short ks (Nat.zero_le _) s hs) hb
  · obtain ⟨k, _, hk⟩ := List.mem_map.1 hs
    cases k <;> simp [zF] at hk
    subst hk
    exact Nat.zero_le _
theorem zero_enc (k : Kd) : (encF (zF k)).length = 1 ∧ tooLong (zF k) = false := by
  cases k
  · refine ⟨?_, rfl⟩; show (encInt 0).length = 1; rw [encInt_eq]; unfold zig; rw [if_neg (by decide)]; rw [enc_lt (by decide)]; rfl
  · exact ⟨rfl, rfl⟩
  · refine ⟨?_, rfl⟩; show (encText []).length = 1; rw [encText_eq, List.append_nil]; rw [show ([] : List UInt8).length = 0 from rfl, enc_lt (by decide)]; rfl
  · refine ⟨?_, rfl⟩; show (encText []).length = 1; rw [encText_eq, List.append_nil]; rw [show ([] : List UInt8).length = 0 from rfl, enc_lt (by decide)]; rfl
  · refine ⟨?_, rfl⟩; show (enc 0).length = 1; rw [enc_lt (by decide)]; rfl
  · refine ⟨?_, rfl⟩; show (enc 0).length = 1; rw [enc_lt (by decide)]; rfl
theorem zero_all : ∀ (ks : List Kd) (st : WS), st.long = false → st.out.length + ks.length ≤ 65536 → (wAll (ks.map zF) st).long = false ∧ (wAll (ks.map zF) st).out.length = st.out.length + ks.length
  | [], st, h, _ => ⟨h, rfl⟩
  | k :: ks, st, h, h2 => by
    obtain ⟨z1, z2⟩ := zero_enc k
    simp only [List.length_cons] at h2
    have h3 : wFld (zF k) st = ⟨st.out ++ encF (zF k), false⟩ := by
      rw [wFld_put h z2]
      unfold wPut
      rw [if_neg (by rw [h]; simp; omega), h]
    have ih := zero_all ks ⟨st.out ++ encF (zF k), false⟩ rfl (by simp only [List.length_append]; omega)
    show (wAll (ks.map zF) (wFld (zF k) st)).long = false ∧ (wAll (ks.map zF) (wFld (zF k) st)).out.length = _
    rw [h3]
    refine ⟨ih.1, ?_⟩
    rw [ih.2]
    simp only [List.length_append, List.length_cons]; omega
end
section
variable {P : Program} {l : List Value} {w : World} {ty t t' : TypeId} {x y : Operand} {s : List UInt8}
theorem ex_eql_strS (hx : ev l x = some (strV s)) (hy : ev l y = some (strV s)) : Ex P l (.binOp .eql t x y t') ty w (.value (.bool true)) w := fun _ _ _ _ => by
  have hr : (binOp .eql t (strV s) (strV s)).run P w = .ok (.bool true) w := by
    show (Op.stringOp .eql ⟨s.toArray⟩ ⟨s.toArray⟩).run P w = _
    simp [Op.stringOp]
  have hg : eqGuard .eql t x y (strV s) (strV s) = pure () := rfl
  simp only [execOp, rho_of hx, rho_of hy, hg]
  simp [hr]
end
end Go.Proofs.YtoeobicpdeklaaaGreat
