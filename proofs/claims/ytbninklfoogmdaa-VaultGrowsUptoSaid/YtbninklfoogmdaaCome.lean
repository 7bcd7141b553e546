/-
  Notes that come in as a law's argument.
-/
import Derived.Test.YtbninklfoogmdaaVz
import Derived.Test.YtbninklfoogmdaaShut
namespace Go.Proofs.Ytbninklfoogmdaa
open Go Go.ChangeShapes Go.WideShapes Go.ChangeAt Go.RowKit

inductive Fk
  | int
  | text
  | bytes
def Fl (w : World) : Fk → Value → Prop
  | .int, v => ∃ n : Int, v = .int .i64 n
  | .text, v => ∃ s : Blk, v = strV s
  | .bytes, v => ∃ (A : Option Addr) (b : Blk) (c : Nat), v = .slice A b.length c ∧ Bs w (fun _ => True) A b
def fkF (P : Program) (rec : TypeId → List Fk → Bool) (ks : List Fk) : Nat → List Field → Bool
  | off, [] => decide (off = ks.length)
  | off, f :: fs => match P.info? f.type with
    | some i => decide (f.offset = off) && decide (off + i.size ≤ ks.length) && rec f.type ((ks.drop off).take i.size) && fkF P rec ks (off + i.size) fs
    | none => false
/-- The type's cells are fields of these kinds. -/
def fkOf (P : Program) : Nat → TypeId → List Fk → Bool
  | 0, _, _ => false
  | d + 1, t, ks => match P.underlying t with
    | some (.int .i64) => match ks with | [.int] => true | _ => false
    | some .string => match ks with | [.text] => true | _ => false
    | some (.slice e) => match ks with
      | [.bytes] => match P.underlying e with | some (.int .u8) => decide (P.cellsOf e = 1) && decide (P.bytesOf e = 1) | _ => false
      | _ => false
    | some (.struct fs) => decide (P.cellsOf t = ks.length) && fkF P (fkOf P d) ks 0 fs.toList
    | _ => false
section
variable {H : Type} {enc : TypeId × Value → H} {P : Program} {w : World} {base : Nat} {spare : Nat → Bool} {held : Bool}
theorem fk_fields {rec : TypeId → List Fk → Bool} {ks : List Fk} {cs : List Value} (hl : cs.length = ks.length) {m : Nat}
    (ih : ∀ t k n y, rec t ((ks.drop k).take n) = true → DataW.trod enc P w base spare held m t ((cs.drop k).take n) = some y → (∀ q ∈ y.1.weights P t, q ≤ 140737488351232) → All2 (Fl w) ((ks.drop k).take n) ((cs.drop k).take n)) :
    ∀ (fs : List Field) (ys : List (DataW H × List MemPlace)) (off : Nat), off ≤ ks.length → fkF P rec ks off fs = true → fs.length = ys.length →
      (∀ (i : Nat) (f : Field), fs[i]? = some f → DataW.trod enc P w base spare held m f.type ((cs.drop f.offset).take (P.cellsOf f.type)) = ys[i]?) → (∀ q ∈ DataW.weightsEach P (fs.map (·.type)) (ys.map (·.1)), q ≤ 140737488351232) →
      All2 (Fl w) (ks.drop off) (cs.drop off)
  | [], _, off, _, h, _, _, _ => by
    unfold fkF at h
    have h0 := of_decide_eq_true h
    rw [List.drop_of_length_le (by omega), List.drop_of_length_le (by omega)]; trivial
  | f :: fs, ys, off, hoff, h, hlen, hall, hw => by
    unfold fkF at h
    split at h
    · rename_i i hi
      simp only [Bool.and_eq_true, decide_eq_true_eq] at h
      obtain ⟨⟨⟨h1, h2⟩, h3⟩, h4⟩ := h
      have hco : P.cellsOf f.type = i.size := by simp [Program.cellsOf, hi]
      match ys, hlen with
      | y :: ys, hlen =>
        have h5 := hall 0 f rfl
        rw [h1, hco] at h5
        have hw' : ∀ q ∈ y.1.weights P f.type ++ DataW.weightsEach P (fs.map (·.type)) (ys.map (·.1)), q ≤ 140737488351232 := hw
        have F1 := ih f.type off i.size y h3 h5 fun q hq => hw' q (List.mem_append_left _ hq)
        have F2 := fk_fields hl ih fs ys (off + i.size) h2 h4 (by simpa using hlen) (fun j g hg => hall (j + 1) g hg) fun q hq => hw' q (List.mem_append_right _ hq)
        have := F1.app F2
        rwa [← List.drop_drop, List.take_append_drop, ← List.drop_drop, List.take_append_drop] at this
    · cases h
/-- A plain thing that comes in lies as its fields. -/
theorem fk_in : ∀ (d : Nat) (t : TypeId) (ks : List Fk) (cs : List Value) (m : Nat) (y : DataW H × List MemPlace), fkOf P d t ks = true → DataW.trod enc P w base (fun _ => true) true m t cs = some y → (∀ q ∈ y.1.weights P t, q ≤ 140737488351232) → All2 (Fl w) ks cs
  | 0, _, _, _, _, _, h, _, _ => by cases h
  | d + 1, t, ks, cs, m, y, h, ht, hw => by
    unfold fkOf at h
    split at h
    · rename_i hu
      split at h
      · obtain ⟨n, rfl, _, _⟩ := DataW.trod_int hu ht
        exact ⟨⟨n, rfl⟩, trivial⟩
      · cases h
    · rename_i hu
      split at h
      · obtain ⟨s, rfl, _⟩ := DataW.trod_string hu ht
        exact ⟨⟨s.data.toList, by simp [strV]⟩, trivial⟩
      · cases h
    · rename_i e hu
      split at h
      · split at h
        · rename_i he
          simp only [Bool.and_eq_true, decide_eq_true_eq] at h
          rcases open_ints hu he h.1 ht with ⟨rfl, _⟩ | ⟨x, l, c, zs, rfl, _, hl, hm, hz, hdd, hcell, hwz⟩
          · exact ⟨⟨none, [], 0, rfl, Bs.none _ _⟩, trivial⟩
          · rw [if_pos rfl] at hz
            obtain ⟨b, hb⟩ := wf8s (zs := zs.take l) (fun n hn => hwz n (List.mem_of_mem_take hn))
            have hlen : b.length = l := by
              have := congrArg List.length hb
              simp at this; omega
            refine ⟨⟨some x, b, c, by rw [hlen], ⟨by simp [u8s], fun a ha j u hu => ?_, fun h => (by cases h)⟩, fun _ _ _ => trivial, ?_⟩, trivial⟩
            · cases ha
              have hj : j < b.length := by
                have := (List.getElem?_eq_some_iff.1 hu).1
                simpa [u8s] using this
              rw [hcell j (by omega)]
              have h1 : (zs.take l)[j]? = some ((b[j]'hj).toNat : Int) := by rw [hb]; simp [hj]
              have h2 : zs[j]? = some ((b[j]'hj).toNat : Int) := by rw [← h1, List.getElem?_take, if_pos (by omega)]
              have h3 : u = .int .u8 ((b[j]'hj).toNat : Int) := by
                simp [u8s, List.getElem?_map, List.getElem?_eq_getElem hj] at hu
                exact hu.symm
              rw [h3, List.getD_eq_getElem?_getD, h2]; rfl
            · refine Nat.le_trans ?_ (hw (((lits .u8 (zs.take l) : List (DataW H)).length + (lits .u8 (zs.drop l) : List (DataW H)).length) * P.bytesOf e) ?_)
              · rw [h.2]; simp [lits]; omega
              · rw [(Prod.mk.inj hdd).1]
                unfold DataW.weights
                rw [hu]
                exact List.mem_cons_self
        · cases h
      · cases h
    · rename_i fs hu
      simp only [Bool.and_eq_true, decide_eq_true_eq] at h
      obtain ⟨h1, h2⟩ := h
      obtain ⟨ys, n, rfl, rfl, hl, hlen, hall⟩ := DataW.trod_struct hu ht
      refine fk_fields (rec := fkOf P d) (cs := cs) (ks := ks) (by omega) (fun t' k n' y' h3 h4 h5 => fk_in d t' _ _ n y' h3 h4 h5) fs.toList ys 0 (Nat.zero_le _) h2 (by simp [hlen]) (fun i f hf => hall i f (by simpa using hf)) ?_
      unfold DataW.weights at hw
      rw [hu] at hw
      exact hw
    · cases h
end
def ntK : List Fk := [.int, .int, .int, .int, .int, .int, .int, .bytes, .int, .bytes, .int, .text, .int, .int, .int, .int]
theorem nt_of {w : World} {cs : List Value} (h : All2 (Fl w) ntK cs) : ∃ n : Nt, NtR w (fun _ => True) cs n := by
  have hlen : cs.length = 16 := h.len.symm
  match cs, hlen, h with
  | [c0, c1, c2, c3, c4, c5, c6, c7, c8, c9, c10, c11, c12, c13, c14, c15], _, h =>
    obtain ⟨⟨n0, rfl⟩, ⟨n1, rfl⟩, ⟨n2, rfl⟩, ⟨n3, rfl⟩, ⟨n4, rfl⟩, ⟨n5, rfl⟩, ⟨n6, rfl⟩, ⟨A, b, c, rfl, hb⟩, ⟨n8, rfl⟩, ⟨A2, b2, c2', rfl, hb2⟩, ⟨n10, rfl⟩, ⟨s, rfl⟩, ⟨n12, rfl⟩, ⟨n13, rfl⟩, ⟨n14, rfl⟩, ⟨n15, rfl⟩, _⟩ := h
    exact ⟨⟨n0, n1, ⟨n2, n3⟩, ⟨n4, ⟨n5, n6⟩, b⟩, ⟨n8, b2⟩, ⟨n10, s, n12, n13⟩, n14, n15⟩, A, c, A2, c2', rfl, hb, hb2⟩
theorem weighA_mem {H : Type} {P : Program} {t : TypeId} {l : List (DataW H)} {d : DataW H} (hd : d ∈ l) {n : Nat} (hn : n ∈ d.weights P t) : n ∈ DataW.weightsAll P t l := by
  induction l with
  | nil => cases hd
  | cons a l ih =>
    show n ∈ a.weights P t ++ DataW.weightsAll P t l
    rcases List.mem_cons.1 hd with rfl | hd
    · exact List.mem_append_left _ hn
    · exact List.mem_append_right _ (ih hd)
theorem all2_ex {α : Type} {R : List Value → α → Prop} : ∀ n (f : Nat → List Value), (∀ i, i < n → ∃ a, R (f i) a) → ∃ l : List α, l.length = n ∧ All2 R ((List.range n).map f) l
  | 0, _, _ => ⟨[], rfl, trivial⟩
  | n + 1, f, h => by
    obtain ⟨l, hl, hR⟩ := all2_ex n f fun i hi => h i (by omega)
    obtain ⟨a, ha⟩ := h n (by omega)
    refine ⟨l ++ [a], by simp [hl], ?_⟩
    rw [List.range_succ, List.map_append]
    exact hR.app ⟨ha, trivial⟩
section
variable {H : Type} {enc : TypeId × Value → H} {w : World}
set_option maxRecDepth 10000 in
theorem notes_in {r : Reach} {b0 : Nat} {v : Value} {d : DataW H} {ps : List MemPlace} (hval : Value.okWide Try.prog w r b0 22 v) (hd : DataW.Trod enc Try.prog w 0 (fun _ => true) true 22 v d ps)
    {ts : List TypeId} {ds : List (DataW H)} (hs : (DataW.weightsEach Try.prog ts ds).all (· ≤ reachBytes) = true) {j : Nat} (hts : ts[j]? = some 22) (hds : ds[j]? = some d) :
    ∃ (A : Option Addr) (l : List Nt) (c : Nat), v = .slice A l.length c ∧ Sl (NtR w (fun _ => True)) 16 w (fun _ => True) A l ∧ l.length ≤ 838000000000 ∧ l.length ≤ c ∧ (l.length = 0 ∨ ∃ x y, d = .slice x y ∧ x.length = l.length) := by
  have hw : ∀ q ∈ d.weights Try.prog 22, q ≤ 140737488351232 := fun q hq => by
    have := List.all_eq_true.1 hs _ (DataW.weights_mem_each hts hds q hq)
    have this := of_decide_eq_true this
    simp only [reachBytes] at this
    omega
  have hc16 : Try.prog.cellsOf 48 = 16 := by kernel_rfl
  have hb168 : Try.prog.bytesOf 48 = 168 := by kernel_rfl
  obtain ⟨A, len, cap, rfl⟩ := okWide_slice Try.underlying22 hval
  obtain ⟨fuel, hf⟩ := hd
  rcases DataW.trod_slice Try.underlying22 hf with ⟨hcs, _⟩ | ⟨a, l, c, elems, rest, n, _, hcs, hdd, _, hlc, _, hlen, hel, _, _⟩
  · simp [Value.cells] at hcs
    obtain ⟨rfl, rfl, rfl⟩ := hcs
    exact ⟨none, [], 0, rfl, Sl.none _ _ _ _, Nat.zero_le _, Nat.le_refl _, .inl rfl⟩
  · simp [Value.cells] at hcs
    obtain ⟨rfl, rfl, rfl⟩ := hcs
    have hdd1 := (Prod.mk.inj hdd).1
    subst hdd1
    have hbig : len * 168 ≤ 140737488351232 := by
      refine Nat.le_trans ?_ (hw (((elems.map (·.1)).length + (rest.map (·.1)).length) * Try.prog.bytesOf 48) ?_)
      · rw [hb168]; exact Nat.mul_le_mul_right _ (by simp [hlen])
      · unfold DataW.weights
        rw [Try.underlying22]
        exact List.mem_cons_self
    obtain ⟨xs, hxl, hR⟩ := all2_ex (R := fun p x => NtR w (fun _ => True) p x ∧ p.length = 16) len (fun i => (w.cells? 0 (a.add (i * 16)) 16).getD []) fun i hi => by
      have hb := hel i hi
      rw [hc16, List.getElem?_eq_getElem (by omega), Option.bind_eq_some_iff] at hb
      obtain ⟨cs', hcs, hy'⟩ := hb
      rw [hcs]
      obtain ⟨x, hx⟩ := nt_of (fk_in 4 48 ntK cs' n _ (by kernel_rfl) hy' fun q hq => hw q (by
        unfold DataW.weights
        rw [Try.underlying22]
        exact List.mem_cons_of_mem _ (List.mem_append_left _ (weighA_mem (List.mem_map.2 ⟨elems[i]'(by omega), List.getElem_mem _, rfl⟩) hq))))
      exact ⟨x, hx, hx.len⟩
    have hpl : Pl 16 ((List.range len).map fun i => (w.cells? 0 (a.add (i * 16)) 16).getD []) := fun p hp => by
      obtain ⟨k, hk⟩ := List.getElem?_of_mem hp
      obtain ⟨x, _, hx⟩ := hR.getL hk
      exact hx.2
    refine ⟨some a, xs, cap, by rw [hxl], ⟨_, hpl, ⟨by rw [hpl.len, List.length_map, List.length_range, hxl], fun a' ha k u hu => ?_, fun h => (by cases h)⟩, fun _ _ _ => trivial, hR.imp fun p x h => h.1⟩, by omega, by omega, .inr ⟨_, _, rfl, by simp; omega⟩⟩
    cases ha
    have hk := (List.getElem?_eq_some_iff.1 hu).1
    rw [hpl.len, List.length_map, List.length_range] at hk
    have hi : k / 16 < len := by omega
    have hb := hel (k / 16) hi
    rw [hc16, List.getElem?_eq_getElem (by omega), Option.bind_eq_some_iff] at hb
    obtain ⟨cs', hcs, _⟩ := hb
    have hat : ((List.range len).map fun i => (w.cells? 0 (a.add (i * 16)) 16).getD [])[k / 16]? = some cs' := by
      rw [List.getElem?_map, List.getElem?_range hi]
      simp only [Option.map_some]
      rw [hcs]; rfl
    have hq : cs'[k % 16]? = some u := by
      have hlt : k % 16 < cs'.length := by rw [hpl.at hat]; omega
      have h2 := hpl.get hat (List.getElem?_eq_getElem hlt)
      rw [show k / 16 * 16 + k % 16 = k by omega, hu] at h2
      rw [List.getElem?_eq_getElem hlt]; exact h2.symm
    have h3 := (World.cells?_some hcs).2.2 (k % 16) (by omega)
    rw [hq, add_add, show k / 16 * 16 + k % 16 = k by omega] at h3
    exact h3
end
end Go.Proofs.Ytbninklfoogmdaa
