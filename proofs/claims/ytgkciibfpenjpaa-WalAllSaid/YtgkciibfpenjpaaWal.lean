/-
  A log over a disk: what it is, how it lies in memory; what its operations do.
-/
import Derived.Test.YtgkciibfpenjpaaDef
import Derived.Test.YtgkciibfpenjpaaRny
import Derived.Test.YtgkciibfpenjpaaDiskD
namespace Go.Proofs.Ytgkciibfpenjpaa
open Go Go.RowKit
/-! ### Panics in plain code -/
section plain
variable {P : Program} {ds : List Deferred} {Q : Post} {K : List Value → World → Prop} {all os : List Oper} {l : List Value} {w : World} {ty : TypeId} {pos : String} {af : Array Edge} {d : Tmp} {x y : Operand}
theorem ops_panic {T : TypeId} {v : Value} (hx : ev l x = some (.iface T v)) (h : Q (.panic [{ v := .iface T v, recovered := false }]) l w) : Ops P ds all K Q (⟨none, .panic x, ty, pos, af, none⟩ :: os) l w := by
  refine wpList_plain rfl fun K' hK => ?_
  unfold Oper.wp
  have hr : (Instr.panic (.iface T v)).run P w = .halt (.panic (.iface T v)) w := rfl
  have : (execOp (rho l) ⟨none, .panic x, ty, pos, af, none⟩).run P w = .halt (.panic (.iface T v)) w := by
    simp [execOp, rho_of hx, hr]
  rw [rho_eq, this, Oper.upon_panic]
  exact ⟨rfl, h⟩
theorem ex_makeInterface {T : TypeId} {u : TypeDesc} {v : Value} (hu : P.underlying T = some u) (hn : ∀ ms, u ≠ .interface ms) (hx : ev l x = some v) : Ex P l (.makeInterface T x) ty w (.value (.iface T v)) w := fun _ _ _ _ => by
  have hm : (Instr.makeInterface T v).run P w = .ok (.iface T v) w := by
    simp only [Instr.makeInterface, Sem.run_bind, run_underlying hu, Result.andThen_ok]
    cases u <;> first | exact absurd rfl (hn _) | rfl
  simp [execOp, rho_of hx, hm]
theorem ex_typeAssert {T xt : TypeId} {u : TypeDesc} {v : Value} (hu : P.underlying T = some u) (hn : ∀ ms, u ≠ .interface ms) (hx : ev l x = some (.iface T v)) : Ex P l (.typeAssert x xt T true) ty w (.value (.tuple [v, .bool true].toArray)) w := fun _ _ _ _ => by
  have hm : (Instr.typeAssert (.iface T v) xt T true).run P w = .ok (.tuple [v, .bool true].toArray) w := by
    simp only [Instr.typeAssert, Sem.run_bind, run_underlying hu, Result.andThen_ok]
    cases u <;> first | exact absurd rfl (hn _) | simp
  simp [execOp, rho_of hx, hm]
theorem ex_neq_nilIface_some {t t' T : TypeId} {u : TypeDesc} {v : Value} (ht : P.underlying t = some u) (hi : ∃ m, u = .interface m) (hx : ev l x = some (.iface T v)) : Ex P l (.binOp .neq t x (.const .nilIface) t') ty w (.value (.bool true)) w := by
  obtain ⟨m, rfl⟩ := hi
  exact ex_neq_of (b := false) hx rfl rfl rfl fun d => by simp [Op.equalIn, run_underlying ht]
theorem ex_neq_nilIface_none {t t' : TypeId} {u : TypeDesc} (ht : P.underlying t = some u) (hi : ∃ m, u = .interface m) (hx : ev l x = some .nilIface) : Ex P l (.binOp .neq t x (.const .nilIface) t') ty w (.value (.bool false)) w := by
  obtain ⟨m, rfl⟩ := hi
  exact ex_neq_of (b := true) hx rfl (by simp [eqGuard]) rfl fun d => by simp [Op.equalIn, run_underlying ht]
variable {fn : Func} {R : Value → World → Prop} {RP : Chain → World → Prop} {v1 v2 v3 : Value} {r1 r2 r3 : Tmp}
/-- What the end of a function's code must show, where it may panic. -/
def finP (P : Program) (fn : Func) (R : Value → World → Prop) (RP : Chain → World → Prop) : Post
  | .normal, l, w => ∃ v, (results fn l.toArray).run P w = .ok v w ∧ R v w
  | .ret, l, w => ∃ v, (results fn l.toArray).run P w = .ok v w ∧ R v w
  | .panic ch, _, w => RP ch w
  | _, _, _ => False
theorem does_ofP {f : FuncId} {c : Code} {args : List Value} {n : Nat} (hf : P.funcs[f]? = some fn) (hn : fn.ntmps = n) (hb : fn.body = some c)
    (h : Run P [] [c] (finP P fn R RP) (args ++ List.replicate (n - args.length) undef) w) : DoesP P f args.toArray w R RP := by
  refine calls_of_wp hf hb ?_
  have e : (args.toArray ++ Array.replicate (fn.ntmps - args.toArray.size) undef) = (args ++ List.replicate (n - args.length) undef).toArray := by
    rw [hn]; simp
  rw [e]
  refine Go.wp_mono h ?_
  intro e a w' hq
  obtain ⟨hd, hq⟩ := hq
  have e2 : a.tmps.toList.toArray = a.tmps := by simp
  cases e with
  | normal => obtain ⟨v, h1, h2⟩ := hq; rw [e2] at h1; exact ⟨hd, v, h1, h2⟩
  | ret => obtain ⟨v, h1, h2⟩ := hq; rw [e2] at h1; exact ⟨hd, v, h1, h2⟩
  | panic ch => exact ⟨hd, hq⟩
  | exit i => exact hq.elim
  | goto t => exact hq.elim
  | outgrown => exact hq.elim
theorem finP_ret0 (hr : fn.results = #[]) (h : R (.tuple #[]) w) : finP P fn R RP .ret l w := fin_ret0 (P := P) (R := R) hr h
theorem finP_end0 (hr : fn.results = #[]) (h : R (.tuple #[]) w) : finP P fn R RP .normal l w := fin_end0 (P := P) (R := R) hr h
theorem finP_ret1 (hr : fn.results = #[.tmp r1]) (h1 : nth l r1 = some v1) (h : R v1 w) : finP P fn R RP .ret l w := fin_ret1 (P := P) (R := R) hr h1 h
theorem finP_ret2 (hr : fn.results = #[.tmp r1, .tmp r2]) (h1 : nth l r1 = some v1) (h2 : nth l r2 = some v2) (h : R (.tuple #[v1, v2]) w) : finP P fn R RP .ret l w := fin_ret2 (P := P) (R := R) hr h1 h2 h
end plain
/-! ### Append to a slice that begins within its row -/
section app
variable {P : Program} {ds : List Deferred} {Q : Post} {K : List Value → World → Prop} {all os : List Oper} {l : List Value} {w0 w : World} {S : List Nat} {es : List Ent} {ty t : TypeId} {pos : String} {af : Array Edge} {d : Tmp} {x y : Operand} {zs : List Value} {agg : Bool}
theorem ops_appO {e : TypeId} (ht : P.underlying t = some (.slice e)) (he : TyOk P e zs 1 1 agg) (H : Hp w0 w S es) (i : Nat) {g o cap : Nat} {pre sp : List Value} {L M : List UInt8} (hx : ev l x = some (.slice (some ⟨g, o, none⟩) L.length cap))
    (hi : es[i]? = some (some g, e, pre ++ (u8s L ++ sp))) (ho : pre.length = o) (hc : cap ≤ (u8s L ++ sp).length) (_ : L.length ≤ cap) {A : Option Addr} {c : Nat} (hy : ev l y = some (.slice A M.length c)) (hr : Rd w A M.length 1 (u8s M)) (hb : L.length + M.length ≤ 211106232532992)
    (k : ∀ w' g' o' pre' cap' sp', Hp w0 w' S (es.set i (some g', e, pre' ++ (u8s (L ++ M) ++ sp'))) → pre'.length = o' → (L ++ M).length ≤ cap' → cap' ≤ (u8s (L ++ M) ++ sp').length → Ops P ds all K Q os (l.set d (.slice (some ⟨g', o', none⟩) (L ++ M).length cap')) w') :
    Ops P ds all K Q (⟨some d, .call { callee := .builtin .append, args := #[x, y], argTypes := #[t, t] }, ty, pos, af, none⟩ :: os) l w := by
  obtain ⟨inf, z, dd, hinf, hz, hzs, hsz, hby, _, _⟩ := he.ex
  by_cases hroom : L.length + M.length ≤ cap
  · have hfc : (Builtin.firstCells 1 M.length (.slice A M.length c)).run P w = .ok (u8s M).toArray w := by
      cases A with
      | none =>
        have h0 := hr.nil rfl
        have hM : M = [] := List.eq_nil_of_length_eq_zero h0
        subst hM
        exact run_firstCells_none w _ _ _ _
      | some a => exact run_firstCells_some w 1 M.length a M.length c (u8s M) (by rw [u8s_length, Nat.mul_one]) (hr.cells a rfl)
    have hst := run_storeCells_at (P := P) g (o + L.length) e (u8s M) 0 (pre ++ (u8s L ++ sp)).toArray w (H.at hi) (by
      simp only [Nat.add_zero, List.size_toArray, List.length_append, u8s_length] at hc ⊢
      omega) (by simpa using u8s_one' M)
    simp only [Nat.add_zero] at hst
    have hrun : (Builtin.append_ #[t, t] ty #[.slice (some ⟨g, o, none⟩) L.length cap, .slice A M.length c]).run P w =
        .ok (.slice (some ⟨g, o, none⟩) (L ++ M).length cap) (w.setRow g (putAt (pre ++ (u8s L ++ sp)) (o + L.length) (u8s M)).toArray) := by
      simp [Builtin.append_, run_underlying ht, sizeOf, typeInfo, hinf, hsz, Builtin.lenOf, hroom, hfc, Addr.add_lit, hst, putAt]
    have hp : putAt (pre ++ (u8s L ++ sp)) (o + L.length) (u8s M) = pre ++ (u8s (L ++ M) ++ sp.drop M.length) := by
      have e1 : (pre ++ (u8s L ++ sp)).take (o + L.length) = pre ++ u8s L := by
        rw [← List.append_assoc, List.take_left' (by rw [List.length_append, u8s_length, ho])]
      have e2 : (pre ++ (u8s L ++ sp)).drop (o + L.length + M.length) = sp.drop M.length := by
        rw [← List.append_assoc, List.drop_append, List.drop_of_length_le (by rw [List.length_append, u8s_length, ho]; omega), List.nil_append]
        congr 1
        rw [List.length_append, u8s_length, ho]; omega
      rw [putAt, u8s_length, e1, e2, u8s_append]
      simp
    refine ops_val (w' := _) ?_ (k _ g o pre cap (sp.drop M.length) (by rw [← hp]; exact H.setRow hi _) ho (by simpa using hroom) ?_)
    · intro _ _ _ _
      simp [execOp, resolve, invoke, builtin, rho_of hx, rho_of hy, hrun]
    · simp only [List.length_append, u8s_length, List.length_drop] at hc hroom ⊢
      omega
  · refine ops_append_new ht he H hx (xs := u8s L) ⟨u8s_length1 L, fun a ha j u hu => ?_, by simp⟩ hy hr (by omega) (by omega) (by omega) (by decide) ?_
    · simp only [Option.some.injEq] at ha
      subst ha
      rw [Addr.add_lit]
      refine H.cell hi ?_
      rw [← ho, List.getElem?_append_right (by omega), Nat.add_sub_cancel_left, List.getElem?_append_left (lt_of_get hu)]
      exact hu
    · intro w' g' cap' sp' H' h1 h2
      rw [← List.length_append] at h2 ⊢
      have hlt := lt_of_get hi
      have hpick : (((List.range es.length).set i es.length).map fun j => (es ++ [(some g', e, (u8s L ++ u8s M) ++ sp')]).getD j (none, 0, [])) = es.set i (some g', e, (u8s L ++ u8s M) ++ sp') := by
        apply List.ext_getElem?
        intro j
        rw [List.getElem?_map, List.getElem?_set, List.getElem?_set]
        by_cases hij : i = j
        · subst hij
          simp [hlt]
        · simp only [hij, if_false]
          rcases Nat.lt_or_ge j es.length with hj | hj
          · rw [List.getElem?_range hj, Option.map_some, List.getD_eq_getElem?_getD, List.getElem?_append_left hj, List.getElem?_eq_getElem hj]
            rfl
          · rw [List.getElem?_eq_none (by simpa using hj), List.getElem?_eq_none hj]
            rfl
      have H2 := H'.pick ((List.range es.length).set i es.length) (by
        rw [List.nodup_iff_pairwise_ne, List.pairwise_iff_getElem]
        intro a b ha hb hab
        simp only [List.length_set, List.length_range] at ha hb
        rw [List.getElem_set, List.getElem_set]
        split <;> split <;> simp <;> omega)
      rw [hpick] at H2
      refine k w' g' 0 [] cap' sp' (by simpa [u8s_append] using H2) rfl h2 (by rw [Nat.mul_one] at h1; simpa [u8s_append] using h1)
end app
end Go.Proofs.Ytgkciibfpenjpaa
