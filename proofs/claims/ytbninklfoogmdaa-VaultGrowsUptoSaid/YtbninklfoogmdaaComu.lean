/-
  Notes that come in as a law's argument, where all of it is of little bulk.
-/
import Derived.Test.YtbninklfoogmdaaCome
namespace Go.Proofs.Ytbninklfoogmdaa
open Go Go.ChangeShapes Go.WideShapes Go.ChangeAt Go.RowKit

theorem bulk_pos {H : Type} (d : DataW H) : 1 ≤ Rows.uptoBulk d := by
  cases d with
  | lit l => cases l <;> simp [Rows.uptoBulk]
  | _ => simp [Rows.uptoBulk]
theorem bulk_len {H : Type} : ∀ l : List (DataW H), l.length ≤ Rows.uptoBulkAll l
  | [] => by simp [Rows.uptoBulkAll]
  | x :: r => by have := bulk_pos x; have := bulk_len r; simp only [Rows.uptoBulkAll, List.length_cons]; omega
theorem bulk_mem {H : Type} : ∀ {l : List (DataW H)} {d : DataW H}, d ∈ l → Rows.uptoBulk d ≤ Rows.uptoBulkAll l
  | x :: r, d, h => by
    simp only [Rows.uptoBulkAll]
    rcases List.mem_cons.1 h with rfl | h
    · omega
    · have := bulk_mem h; omega
section
variable {H : Type} {enc : TypeId × Value → H} {P : Program} {w : World} {base : Nat} {spare : Nat → Bool} {held : Bool}
theorem fk_fieldsU {rec : TypeId → List Fk → Bool} {ks : List Fk} {cs : List Value} (hl : cs.length = ks.length) {m : Nat}
    (ih : ∀ t k n y, rec t ((ks.drop k).take n) = true → DataW.trod enc P w base spare held m t ((cs.drop k).take n) = some y → Rows.uptoBulk y.1 ≤ 1048576 → All2 (Fl w) ((ks.drop k).take n) ((cs.drop k).take n)) :
    ∀ (fs : List Field) (ys : List (DataW H × List MemPlace)) (off : Nat), off ≤ ks.length → fkF P rec ks off fs = true → fs.length = ys.length →
      (∀ (i : Nat) (f : Field), fs[i]? = some f → DataW.trod enc P w base spare held m f.type ((cs.drop f.offset).take (P.cellsOf f.type)) = ys[i]?) → Rows.uptoBulkAll (ys.map (·.1)) ≤ 1048576 →
      All2 (Fl w) (ks.drop off) (cs.drop off)
  | [], _, off, _, h, _, _, _ => by
    unfold fkF at h
    have h0 := of_decide_eq_true h
    rw [List.drop_of_length_le (by omega), List.drop_of_length_le (by omega)]; trivial
  | f :: fs, ys, off, hoff, h, hlen, hall, hw => by
    unfold fkF at h
    split at h
    · rename_i i hi
      simp only [Bool.and_eq_true, decide_eq_true_eq] at h
      obtain ⟨⟨⟨h1, h2⟩, h3⟩, h4⟩ := h
      have hco : P.cellsOf f.type = i.size := by simp [Program.cellsOf, hi]
      match ys, hlen with
      | y :: ys, hlen =>
        have h5 := hall 0 f rfl
        rw [h1, hco] at h5
        have hw' : Rows.uptoBulk y.1 + Rows.uptoBulkAll (ys.map (·.1)) ≤ 1048576 := hw
        have F1 := ih f.type off i.size y h3 h5 (by omega)
        have F2 := fk_fieldsU hl ih fs ys (off + i.size) h2 h4 (by simpa using hlen) (fun j g hg => hall (j + 1) g hg) (by omega)
        have := F1.app F2
        rwa [← List.drop_drop, List.take_append_drop, ← List.drop_drop, List.take_append_drop] at this
    · cases h
/-- A plain thing that comes in lies as its fields. -/
theorem fk_inU : ∀ (d : Nat) (t : TypeId) (ks : List Fk) (cs : List Value) (m : Nat) (y : DataW H × List MemPlace), fkOf P d t ks = true → DataW.trod enc P w base (fun _ => true) true m t cs = some y → Rows.uptoBulk y.1 ≤ 1048576 → All2 (Fl w) ks cs
  | 0, _, _, _, _, _, h, _, _ => by cases h
  | d + 1, t, ks, cs, m, y, h, ht, hw => by
    unfold fkOf at h
    split at h
    · rename_i hu
      split at h
      · obtain ⟨n, rfl, _, _⟩ := DataW.trod_int hu ht
        exact ⟨⟨n, rfl⟩, trivial⟩
      · cases h
    · rename_i hu
      split at h
      · obtain ⟨s, rfl, _⟩ := DataW.trod_string hu ht
        exact ⟨⟨s.data.toList, by simp [strV]⟩, trivial⟩
      · cases h
    · rename_i e hu
      split at h
      · split at h
        · rename_i he
          simp only [Bool.and_eq_true, decide_eq_true_eq] at h
          rcases open_ints hu he h.1 ht with ⟨rfl, _⟩ | ⟨x, l, c, zs, rfl, _, hl, hm, hz, hdd, hcell, hwz⟩
          · exact ⟨⟨none, [], 0, rfl, Bs.none _ _⟩, trivial⟩
          · rw [if_pos rfl] at hz
            obtain ⟨b, hb⟩ := wf8s (zs := zs.take l) (fun n hn => hwz n (List.mem_of_mem_take hn))
            have hlen : b.length = l := by
              have := congrArg List.length hb
              simp at this; omega
            refine ⟨⟨some x, b, c, by rw [hlen], ⟨by simp [u8s], fun a ha j u hu => ?_, fun h => (by cases h)⟩, fun _ _ _ => trivial, ?_⟩, trivial⟩
            · cases ha
              have hj : j < b.length := by
                have := (List.getElem?_eq_some_iff.1 hu).1
                simpa [u8s] using this
              rw [hcell j (by omega)]
              have h1 : (zs.take l)[j]? = some ((b[j]'hj).toNat : Int) := by rw [hb]; simp [hj]
              have h2 : zs[j]? = some ((b[j]'hj).toNat : Int) := by rw [← h1, List.getElem?_take, if_pos (by omega)]
              have h3 : u = .int .u8 ((b[j]'hj).toNat : Int) := by
                simp [u8s, List.getElem?_map, List.getElem?_eq_getElem hj] at hu
                exact hu.symm
              rw [h3, List.getD_eq_getElem?_getD, h2]; rfl
            · rw [(Prod.mk.inj hdd).1] at hw
              have h1 := bulk_len (lits .u8 (zs.take l) : List (DataW H))
              simp only [Rows.uptoBulk] at hw
              have h2 : (zs.take l).length = l := by rw [List.length_take]; omega
              have h3 : (lits .u8 (zs.take l) : List (DataW H)).length = (zs.take l).length := by simp [lits]
              omega
        · cases h
      · cases h
    · rename_i fs hu
      simp only [Bool.and_eq_true, decide_eq_true_eq] at h
      obtain ⟨h1, h2⟩ := h
      obtain ⟨ys, n, rfl, rfl, hl, hlen, hall⟩ := DataW.trod_struct hu ht
      refine fk_fieldsU (rec := fkOf P d) (cs := cs) (ks := ks) (by omega) (fun t' k n' y' h3 h4 h5 => fk_inU d t' _ _ n y' h3 h4 h5) fs.toList ys 0 (Nat.zero_le _) h2 (by simp [hlen]) (fun i f hf => hall i f (by simpa using hf)) ?_
      simp only [Rows.uptoBulk] at hw
      omega
    · cases h
end
section
variable {H : Type} {enc : TypeId × Value → H} {w : World}
set_option maxRecDepth 10000 in
theorem notes_inU {r : Reach} {b0 : Nat} {v : Value} {d : DataW H} {ps : List MemPlace} (hval : Value.okWide Try.prog w r b0 22 v) (hd : DataW.Trod enc Try.prog w 0 (fun _ => true) true 22 v d ps)
    (hw : Rows.uptoBulk d ≤ 1048576) :
    ∃ (A : Option Addr) (l : List Nt) (c : Nat), v = .slice A l.length c ∧ Sl (NtR w (fun _ => True)) 16 w (fun _ => True) A l ∧ l.length ≤ 838000000000 ∧ l.length ≤ c ∧ (l.length = 0 ∨ ∃ x y, d = .slice x y ∧ x.length = l.length) := by
  have hc16 : Try.prog.cellsOf 48 = 16 := by kernel_rfl
  obtain ⟨A, len, cap, rfl⟩ := okWide_slice Try.underlying22 hval
  obtain ⟨fuel, hf⟩ := hd
  rcases DataW.trod_slice Try.underlying22 hf with ⟨hcs, _⟩ | ⟨a, l, c, elems, rest, n, _, hcs, hdd, _, hlc, _, hlen, hel, _, _⟩
  · simp [Value.cells] at hcs
    obtain ⟨rfl, rfl, rfl⟩ := hcs
    exact ⟨none, [], 0, rfl, Sl.none _ _ _ _, Nat.zero_le _, Nat.le_refl _, .inl rfl⟩
  · simp [Value.cells] at hcs
    obtain ⟨rfl, rfl, rfl⟩ := hcs
    have hdd1 := (Prod.mk.inj hdd).1
    subst hdd1
    simp only [Rows.uptoBulk] at hw
    have hbig := bulk_len (elems.map (·.1))
    rw [List.length_map, hlen] at hbig
    obtain ⟨xs, hxl, hR⟩ := all2_ex (R := fun p x => NtR w (fun _ => True) p x ∧ p.length = 16) len (fun i => (w.cells? 0 (a.add (i * 16)) 16).getD []) fun i hi => by
      have hb := hel i hi
      rw [hc16, List.getElem?_eq_getElem (by omega), Option.bind_eq_some_iff] at hb
      obtain ⟨cs', hcs, hy'⟩ := hb
      rw [hcs]
      obtain ⟨x, hx⟩ := nt_of (fk_inU 4 48 ntK cs' n _ (by kernel_rfl) hy' (by
        have := bulk_mem (List.mem_map.2 ⟨elems[i]'(by omega), List.getElem_mem _, rfl⟩ : (elems[i]'(by omega)).1 ∈ elems.map (·.1))
        omega))
      exact ⟨x, hx, hx.len⟩
    have hpl : Pl 16 ((List.range len).map fun i => (w.cells? 0 (a.add (i * 16)) 16).getD []) := fun p hp => by
      obtain ⟨k, hk⟩ := List.getElem?_of_mem hp
      obtain ⟨x, _, hx⟩ := hR.getL hk
      exact hx.2
    refine ⟨some a, xs, cap, by rw [hxl], ⟨_, hpl, ⟨by rw [hpl.len, List.length_map, List.length_range, hxl], fun a' ha k u hu => ?_, fun h => (by cases h)⟩, fun _ _ _ => trivial, hR.imp fun p x h => h.1⟩, by omega, by omega, .inr ⟨_, _, rfl, by simp; omega⟩⟩
    cases ha
    have hk := (List.getElem?_eq_some_iff.1 hu).1
    rw [hpl.len, List.length_map, List.length_range] at hk
    have hi : k / 16 < len := by omega
    have hb := hel (k / 16) hi
    rw [hc16, List.getElem?_eq_getElem (by omega), Option.bind_eq_some_iff] at hb
    obtain ⟨cs', hcs, _⟩ := hb
    have hat : ((List.range len).map fun i => (w.cells? 0 (a.add (i * 16)) 16).getD [])[k / 16]? = some cs' := by
      rw [List.getElem?_map, List.getElem?_range hi]
      simp only [Option.map_some]
      rw [hcs]; rfl
    have hq : cs'[k % 16]? = some u := by
      have hlt : k % 16 < cs'.length := by rw [hpl.at hat]; omega
      have h2 := hpl.get hat (List.getElem?_eq_getElem hlt)
      rw [show k / 16 * 16 + k % 16 = k by omega, hu] at h2
      rw [List.getElem?_eq_getElem hlt]; exact h2.symm
    have h3 := (World.cells?_some hcs).2.2 (k % 16) (by omega)
    rw [hq, add_add, show k / 16 * 16 + k % 16 = k by omega] at h3
    exact h3
end
end Go.Proofs.Ytbninklfoogmdaa
