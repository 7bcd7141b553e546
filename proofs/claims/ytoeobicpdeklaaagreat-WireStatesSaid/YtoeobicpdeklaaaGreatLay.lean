/-
  How plain things lie in a type's cells: equality of structs, and things that come in.
-/
import Derived.Test.YtoeobicpdeklaaaGreatWr
import Derived.Test.YtoeobicpdeklaaaGreatShut
namespace Go.Proofs.YtoeobicpdeklaaaGreat
open Go Go.ChangeShapes Go.WideShapes Go.ChangeAt Go.RowKit

def layF (P : Program) (rec : TypeId → List Kd → Bool) (ks : List Kd) : Nat → List Field → Bool
  | off, [] => decide (off = ks.length)
  | off, f :: fs => match P.info? f.type with
    | some i => decide (f.offset = off) && decide (off + i.size ≤ ks.length) && rec f.type ((ks.drop off).take i.size) && layF P rec ks (off + i.size) fs
    | none => false
/-- The type's cells are fields of these kinds. -/
def lay (P : Program) : Nat → TypeId → List Kd → Bool
  | 0, _, _ => false
  | d + 1, t, ks => match P.underlying t with
    | some .bool => match ks with | [.flag] => true | _ => false
    | some (.int .i64) => match ks with | [.int] => true | _ => false
    | some (.int .u32) => match ks with | [.word] => true | _ => false
    | some .string => match ks with | [.text] => true | _ => false
    | some (.slice e) => match ks with
      | [.bytes] => match P.underlying e with | some (.int .u8) => decide (P.cellsOf e = 1) && decide (P.bytesOf e = 1) | _ => false
      | _ => false
    | some (.struct fs) => !P.stoodInHeld t && decide (P.cellsOf t = ks.length) && layF P (lay P d) ks 0 fs.toList
    | _ => false
def plainK : Kd → Bool
  | .bytes => false
  | .count => false
  | _ => true
def aggT (P : Program) (t : TypeId) : Bool := match P.underlying t with
  | some (.struct _) | some (.array _ _) => true
  | _ => false
def valT (P : Program) (t : TypeId) (vs : List Value) : Value := if aggT P t = true then .agg vs.toArray else vs.headD undef
section
variable {P : Program} {w : World} {ok : Nat → Prop}
theorem lay_und {d : Nat} {t : TypeId} {ks : List Kd} (h : lay P d t ks = true) : ∃ u, P.underlying t = some u := by
  cases d with
  | zero => cases h
  | succ d =>
    unfold lay at h
    cases hu : P.underlying t with
    | none => rw [hu] at h; cases h
    | some u => exact ⟨u, rfl⟩
theorem lay_one {d : Nat} {t : TypeId} {ks : List Kd} (h : lay P d t ks = true) (ha : aggT P t = false) : ks.length = 1 := by
  cases d with
  | zero => cases h
  | succ d =>
    unfold lay at h
    unfold aggT at ha
    repeat' split at h
    all_goals first
      | rfl
      | (cases h; done)
      | (rename_i hu; rw [hu] at ha; cases ha)
theorem run_isAggT {t : TypeId} {u : TypeDesc} (hu : P.underlying t = some u) : (isAgg t).run P w = .ok (aggT P t) w := by
  simp only [isAgg, Sem.run_bind, run_underlying hu, Result.andThen_ok]
  unfold aggT
  rw [hu]
  cases u <;> rfl
theorem run_part_of {d : Nat} {t : TypeId} {ks : List Kd} {i : TypeInfo} {vs : List Value} {off : Nat} (h : lay P d t ((ks.drop off).take i.size) = true) (hi : P.info? t = some i) (hl : vs.length = ks.length) (hfit : off + i.size ≤ ks.length) :
    (part t vs.toArray off).run P w = .ok (valT P t ((vs.drop off).take i.size)) w := by
  obtain ⟨u, hu⟩ := lay_und h
  have hA : (aggT P t = true) ∨ aggT P t = false := by cases aggT P t <;> simp
  rcases hA with ha | ha
  · have hx : vs.toArray.extract off (off + i.size) = ((vs.drop off).take i.size).toArray := by
      rw [List.extract_toArray]
      simp
    simp only [part, Sem.run_bind, run_isAggT hu, Result.andThen_ok, ha, if_true, valT]
    simp [sizeOf, typeInfo, hi, hx]
  · have h1 := lay_one h ha
    have h2 : i.size = 1 := by
      simp only [List.length_take, List.length_drop] at h1
      omega
    have hv : vs[off]? = some (vs[off]'(by omega)) := List.getElem?_eq_getElem _
    have hx : (vs.drop off).take i.size = [vs[off]'(by omega)] := by
      rw [h2, List.drop_eq_getElem_cons (by omega)]; rfl
    simp only [part, Sem.run_bind, run_isAggT hu, Result.andThen_ok, ha, Bool.false_eq_true, if_false, valT, hx, List.getElem?_toArray, hv]
    rfl
theorem eqF_same {rec : TypeId → List Kd → Bool} {ks : List Kd} {vs : List Value} {D : Nat} {d : Nat} (hrec : rec = lay P d) (hl : vs.length = ks.length)
    (ih : ∀ t k n, rec t ((ks.drop k).take n) = true → ∀ w1, (Op.equalIn D t (valT P t ((vs.drop k).take n)) (valT P t ((vs.drop k).take n))).run P w1 = .ok true w1) :
    ∀ (fs : List Field) (off : Nat) (w1 : World), layF P rec ks off fs = true → (Op.eqFields D vs.toArray vs.toArray fs).run P w1 = .ok true w1
  | [], _, w1, _ => by simp [Op.eqFields]
  | f :: fs, off, w1, h => by
    unfold layF at h
    split at h
    · rename_i i hi
      simp only [Bool.and_eq_true, decide_eq_true_eq] at h
      obtain ⟨⟨⟨h1, h2⟩, h3⟩, h4⟩ := h
      have ihf := eqF_same hrec hl ih fs _ w1 h4
      have hp : (part f.type vs.toArray f.offset).run P w1 = .ok (valT P f.type ((vs.drop off).take i.size)) w1 := by
        rw [h1]
        subst hrec
        exact run_part_of h3 hi hl h2
      have he := ih f.type off i.size h3 w1
      unfold Op.eqFields
      split
      · simp only [Sem.run_bind, hp, Result.andThen_ok, he]
        simpa using ihf
      · exact ihf
    · cases h
theorem eq_same : ∀ (d : Nat) (t : TypeId) (ks : List Kd) (xs : List Fv) (vs : List Value), lay P d t ks = true → (ks.all plainK) = true → FPs w ok xs vs → xs.map Fv.kd = ks → ∀ D w1, d ≤ D →
    (Op.equalIn D t (valT P t vs) (valT P t vs)).run P w1 = .ok true w1
  | 0, _, _, _, _, h, _, _, _, _, _, _ => by cases h
  | d + 1, t, ks, xs, vs, h, hp, hF, hk, D, w1, hD => by
    obtain ⟨D, rfl⟩ : ∃ E, D = E + 1 := ⟨D - 1, by omega⟩
    unfold lay at h
    split at h
    · rename_i hu
      split at h
      · obtain ⟨x, rfl⟩ := one_flag hk
        obtain ⟨v, rfl, hv⟩ := hF.head
        obtain rfl : v = .bool x := hv
        have ha : aggT P t = false := by unfold aggT; rw [hu]
        simp [valT, ha, Op.equalIn, run_underlying hu]
      · cases h
    · rename_i hu
      split at h
      · obtain ⟨x, rfl⟩ := one_int hk
        obtain ⟨v, rfl, hv⟩ := hF.head
        obtain ⟨rfl, _⟩ := hv
        have ha : aggT P t = false := by unfold aggT; rw [hu]
        simp [valT, ha, Op.equalIn, run_underlying hu]
      · cases h
    · rename_i hu
      split at h
      · obtain ⟨x, rfl⟩ := one_word hk
        obtain ⟨v, rfl, hv⟩ := hF.head
        obtain ⟨rfl, _⟩ := hv
        have ha : aggT P t = false := by unfold aggT; rw [hu]
        simp [valT, ha, Op.equalIn, run_underlying hu]
      · cases h
    · rename_i hu
      split at h
      · obtain ⟨x, rfl⟩ := one_text hk
        obtain ⟨v, rfl, hv⟩ := hF.head
        obtain rfl : v = strV x := hv
        have ha : aggT P t = false := by unfold aggT; rw [hu]
        simp only [valT, ha, Bool.false_eq_true, if_false]
        show (Op.equalIn (D + 1) t (.string ⟨x.toArray⟩) (.string ⟨x.toArray⟩)).run P w1 = _
        rw [run_equalIn_string w1 D t _ _ hu]
        simp
      · cases h
    · split at h
      · simp [plainK] at hp
      · cases h
    · rename_i fs hu
      simp only [Bool.and_eq_true, Bool.not_eq_true', decide_eq_true_eq] at h
      obtain ⟨⟨h1, _⟩, h2⟩ := h
      have ha : aggT P t = true := by unfold aggT; rw [hu]
      have hfs : P.fieldsOf t = fs := by unfold Program.fieldsOf; rw [hu]
      simp only [valT, ha, if_true]
      rw [run_equalIn_struct _ D t _ _ (by rw [hfs]; exact hu) h1, hfs]
      refine eqF_same rfl (by rw [hF.len, ← hk]; simp) ?_ _ 0 w1 h2
      intro t' k n h3 w2
      refine eq_same d t' _ ((xs.drop k).take n) _ h3 ?_ (hF.part k n) (by rw [← hk]; simp [List.map_drop, List.map_take]) D w2 (by omega)
      rw [List.all_eq_true] at hp ⊢
      intro x hx
      exact hp x (List.mem_of_mem_drop (List.mem_of_mem_take hx))
    · cases h
variable {l : List Value} {ty t t' : TypeId} {x y : Operand} {ks : List Kd} {xs : List Fv} {vs : List Value} {w0 : World}
theorem ex_eql_same {d : Nat} (h : lay P d t ks = true) (hd : d ≤ 9999) (hp : ks.all plainK = true) (ha : aggT P t = true) (hg : P.eqGuardType P.depth t = false) (hF : (Th.flat ks).M w0 ok xs vs) (hx : ev l x = some (.agg vs.toArray)) (hy : ev l y = some (.agg vs.toArray)) :
    Ex P l (.binOp .eql t x y t') ty w (.value (.bool true)) w := fun _ _ _ _ => by
  have he := eq_same d t ks xs vs h hp hF.2 hF.1 10000 w (by omega)
  simp only [valT, ha, if_true] at he
  have hr : (binOp .eql t (.agg vs.toArray) (.agg vs.toArray)).run P w = .ok (.bool true) w := by
    rw [run_eql_struct, he]; rfl
  simp only [execOp, rho_of hx, rho_of hy, Sem.run_bind, run_eqGuard_agg w .eql t x y _ _ hg, Result.andThen_ok, hr]
  rfl
theorem ex_neq_same {d : Nat} (h : lay P d t ks = true) (hd : d ≤ 9999) (hp : ks.all plainK = true) (ha : aggT P t = true) (hg : P.eqGuardType P.depth t = false) (hF : (Th.flat ks).M w0 ok xs vs) (hx : ev l x = some (.agg vs.toArray)) (hy : ev l y = some (.agg vs.toArray)) :
    Ex P l (.binOp .neq t x y t') ty w (.value (.bool false)) w := fun _ _ _ _ => by
  have he := eq_same d t ks xs vs h hp hF.2 hF.1 10000 w (by omega)
  simp only [valT, ha, if_true] at he
  have hr : (binOp .neq t (.agg vs.toArray) (.agg vs.toArray)).run P w = .ok (.bool false) w := by
    rw [run_neq_struct, he]; rfl
  simp only [execOp, rho_of hx, rho_of hy, Sem.run_bind, run_eqGuard_agg w .neq t x y _ _ hg, Result.andThen_ok, hr]
  rfl
/-- Plain fields have one form in memory. -/
theorem plain_one {w w' : World} {ok ok' : Nat → Prop} {us : List Value} (h1 : (Th.flat ks).M w ok xs vs) (h2 : (Th.flat ks).M w' ok' xs us) (hp : ks.all plainK = true) : us = vs := by
  apply List.ext_getElem?
  intro i
  by_cases hi : i < xs.length
  · obtain ⟨v, q1, q2⟩ := h1.2.each i hi
    obtain ⟨u, q3, q4⟩ := h2.2.each i hi
    rw [q1, q3]
    have hk : plainK xs[i].kd = true := by
      rw [List.all_eq_true] at hp
      refine hp _ ?_
      rw [← h1.1]
      exact List.mem_map.2 ⟨_, List.getElem_mem hi, rfl⟩
    generalize xs[i] = f at q2 q4 hk
    cases f with
    | int n => rw [q2.1, q4.1]
    | flag n => rw [show v = .bool n from q2, show u = .bool n from q4]
    | text n => rw [show v = strV n from q2, show u = strV n from q4]
    | word n => rw [q2.1, q4.1]
    | bytes n => cases hk
    | count n => cases hk
  · rw [List.getElem?_eq_none (by rw [h2.2.len]; omega), List.getElem?_eq_none (by rw [h1.2.len]; omega)]
end
/-! ### What comes in -/
section
variable {H : Type} {enc : TypeId × Value → H} {P : Program} {w : World} {base : Nat} {spare : Nat → Bool} {held : Bool}
/-- Bytes' lengths, within what a thing weighs. -/
def Weigh (xs : List Fv) (ws : List Nat) : Prop := ∀ s, Fv.bytes s ∈ xs → s.length = 0 ∨ ∃ n ∈ ws, s.length ≤ n
theorem trod_fields {rec : TypeId → List Kd → Bool} {ks : List Kd} {cs : List Value} (hl : cs.length = ks.length) {m : Nat}
    (ih : ∀ t k n y, rec t ((ks.drop k).take n) = true → DataW.trod enc P w base spare held m t ((cs.drop k).take n) = some y → ∃ xs, xs.map Fv.kd = (ks.drop k).take n ∧ FPs w (fun _ => True) xs ((cs.drop k).take n) ∧ Weigh xs (y.1.weights P t)) :
    ∀ (fs : List Field) (ys : List (DataW H × List MemPlace)) (off : Nat), off ≤ ks.length → layF P rec ks off fs = true → fs.length = ys.length →
      (∀ (i : Nat) (f : Field), fs[i]? = some f → DataW.trod enc P w base spare held m f.type ((cs.drop f.offset).take (P.cellsOf f.type)) = ys[i]?) →
      ∃ xs, xs.map Fv.kd = ks.drop off ∧ FPs w (fun _ => True) xs (cs.drop off) ∧ Weigh xs (DataW.weightsEach P (fs.map (·.type)) (ys.map (·.1)))
  | [], _, off, _, h, _, _ => by
    unfold layF at h
    have h0 := of_decide_eq_true h
    refine ⟨[], by rw [List.drop_of_length_le (by omega)]; rfl, by rw [List.drop_of_length_le (by omega)]; exact FPs.nil, fun s hs => by cases hs⟩
  | f :: fs, ys, off, hoff, h, hlen, hall => by
    unfold layF at h
    split at h
    · rename_i i hi
      simp only [Bool.and_eq_true, decide_eq_true_eq] at h
      obtain ⟨⟨⟨h1, h2⟩, h3⟩, h4⟩ := h
      have hco : P.cellsOf f.type = i.size := by simp [Program.cellsOf, hi]
      match ys, hlen with
      | y :: ys, hlen =>
        have h5 := hall 0 f rfl
        rw [h1, hco] at h5
        obtain ⟨xs1, k1, F1, W1⟩ := ih f.type off i.size y h3 h5
        obtain ⟨xs2, k2, F2, W2⟩ := trod_fields hl ih fs ys (off + i.size) h2 h4 (by simpa using hlen) (fun j g hg => hall (j + 1) g hg)
        refine ⟨xs1 ++ xs2, ?_, ?_, ?_⟩
        · rw [List.map_append, k1, k2, ← List.drop_drop, List.take_append_drop]
        · have := F1.app F2
          rwa [← List.drop_drop, List.take_append_drop] at this
        · intro s hs
          show s.length = 0 ∨ ∃ n ∈ y.1.weights P f.type ++ DataW.weightsEach P (fs.map (·.type)) (ys.map (·.1)), s.length ≤ n
          rcases List.mem_append.1 hs with hs | hs
          · rcases W1 s hs with h | ⟨n, hn, h⟩
            · exact .inl h
            · exact .inr ⟨n, List.mem_append_left _ hn, h⟩
          · rcases W2 s hs with h | ⟨n, hn, h⟩
            · exact .inl h
            · exact .inr ⟨n, List.mem_append_right _ hn, h⟩
    · cases h
/-- A plain thing that comes in lies as its fields. -/
theorem trod_lay : ∀ (d : Nat) (t : TypeId) (ks : List Kd) (cs : List Value) (m : Nat) (y : DataW H × List MemPlace), lay P d t ks = true → DataW.trod enc P w base spare true m t cs = some y → (spare = fun _ => true) → 
    ∃ xs, xs.map Fv.kd = ks ∧ FPs w (fun _ => True) xs cs ∧ Weigh xs (y.1.weights P t)
  | 0, _, _, _, _, _, h, _, _ => by cases h
  | d + 1, t, ks, cs, m, y, h, ht, hsp => by
    unfold lay at h
    split at h
    · rename_i hu
      split at h
      · obtain ⟨x, rfl, _⟩ := DataW.trod_bool hu ht
        exact ⟨[.flag x], rfl, FPs.one rfl, fun s hs => by simp at hs⟩
      · cases h
    · rename_i hu
      split at h
      · obtain ⟨n, rfl, _, hw⟩ := DataW.trod_int hu ht
        simp only [Lit.wf, Bool.and_eq_true, decide_eq_true_eq] at hw
        exact ⟨[.int n], rfl, FPs.one ⟨rfl, hw.1, hw.2⟩, fun s hs => by simp at hs⟩
      · cases h
    · rename_i hu
      split at h
      · obtain ⟨n, rfl, _, hw⟩ := DataW.trod_int hu ht
        simp only [Lit.wf, Bool.and_eq_true, decide_eq_true_eq] at hw
        have h1 : IntKind.u32.min = 0 := rfl
        have h2 : IntKind.u32.max = 4294967295 := rfl
        refine ⟨[.word n.toNat], rfl, FPs.one ⟨?_, by omega⟩, fun s hs => by simp at hs⟩
        rw [Int.toNat_of_nonneg (by omega)]
      · cases h
    · rename_i hu
      split at h
      · obtain ⟨s, rfl, _⟩ := DataW.trod_string hu ht
        exact ⟨[.text s.data.toList], rfl, FPs.one (show _ = _ from by simp [strV]), fun s hs => by simp at hs⟩
      · cases h
    · rename_i e hu
      split at h
      · split at h
        · rename_i he
          simp only [Bool.and_eq_true, decide_eq_true_eq] at h
          rcases open_ints hu he h.1 ht with ⟨rfl, _⟩ | ⟨x, l, c, zs, rfl, _, hl, hm, hz, hdd, hcell, hwz⟩
          · exact ⟨[.bytes []], rfl, FPs.one ⟨none, 0, rfl, Rd.none_ _ _, fun h => absurd h (by simp)⟩, fun s hs => by simp at hs; subst hs; exact .inl rfl⟩
          · subst hsp
            rw [if_pos rfl] at hz
            obtain ⟨b, hb⟩ := wf8s (zs := zs.take l) (fun n hn => hwz n (List.mem_of_mem_take hn))
            have hlen : b.length = l := by
              have := congrArg List.length hb
              simp at this; omega
            refine ⟨[.bytes b], rfl, FPs.one ⟨some x, c, by rw [hlen], ⟨by simp [u8s], fun a ha j u hu => ?_, fun h => (by cases h)⟩, fun _ _ _ => trivial⟩, fun s hs => ?_⟩
            · cases ha
              have hj : j < b.length := by
                have := (List.getElem?_eq_some_iff.1 hu).1
                simpa [u8s] using this
              rw [hcell j (by omega)]
              have h1 : (zs.take l)[j]? = some ((b[j]'hj).toNat : Int) := by rw [hb]; simp [hj]
              have h2 : zs[j]? = some ((b[j]'hj).toNat : Int) := by rw [← h1, List.getElem?_take, if_pos (by omega)]
              have h3 : u = .int .u8 ((b[j]'hj).toNat : Int) := by
                simp [u8s, List.getElem?_map, List.getElem?_eq_getElem hj] at hu
                exact hu.symm
              rw [h3, List.getD_eq_getElem?_getD, h2]; rfl
            · simp only [List.mem_singleton, Fv.bytes.injEq] at hs
              subst hs
              refine .inr ⟨((lits .u8 (zs.take l) : List (DataW H)).length + (lits .u8 (zs.drop l) : List (DataW H)).length) * P.bytesOf e, ?_, ?_⟩
              · rw [(Prod.mk.inj hdd).1]
                unfold DataW.weights
                rw [hu]
                exact List.mem_cons_self
              · rw [h.2]; simp [lits]; omega
        · cases h
      · cases h
    · rename_i fs hu
      simp only [Bool.and_eq_true, Bool.not_eq_true', decide_eq_true_eq] at h
      obtain ⟨⟨_, h1⟩, h2⟩ := h
      obtain ⟨ys, n, rfl, rfl, hl, hlen, hall⟩ := DataW.trod_struct hu ht
      obtain ⟨xs, k1, F1, W1⟩ := trod_fields (rec := lay P d) (cs := cs) (ks := ks) (by omega) (fun t' k n' y' h3 h4 => trod_lay d t' _ _ n y' h3 h4 hsp) fs.toList ys 0 (Nat.zero_le _) h2 (by simp [hlen]) (fun i f hf => hall i f (by simpa using hf))
      refine ⟨xs, k1, F1, ?_⟩
      unfold DataW.weights
      rw [hu]
      exact W1
    · cases h
end
end Go.Proofs.YtoeobicpdeklaaaGreat
