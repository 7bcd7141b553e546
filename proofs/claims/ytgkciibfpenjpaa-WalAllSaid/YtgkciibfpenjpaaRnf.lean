/-
  A round of a range over a function, and the statement: what the iterator owes, what the body owes; a panic in a round goes through.
-/
import Derived.Test.YtgkciibfpenjpaaRng
namespace Go.Proofs.Ytgkciibfpenjpaa
open Go Go.RowKit
section round
variable {P : Program} {f : FuncId} {w : World}
/-- What is asked at a round's end. -/
def rndPost (P : Program) (L : Nat) (R : Ending → World → Prop) : Exit → Act → World → Prop
  | .normal, _, w => ∃ v w', (Instr.endRound L none).run P w = .ok v w' ∧ R (.returned v) w'
  | .ret, _, w => ∃ v w', (Instr.endRound L (some .ret)).run P w = .ok v w' ∧ R (.returned v) w'
  | .exit id, _, w => ∃ v w', (Instr.endRound L (some (.exit id))).run P w = .ok v w' ∧ R (.returned v) w'
  | .panic ch, a, w => a.defers = [] ∧ R (.panicked ch) w
  | _, _, _ => False
theorem roundIn_of {L : Nat} {tmps : Array Value} {assign body : Code} {R : Ending → World → Prop} {fn : Func} (hf : P.funcs[f]? = some fn)
    (h : wpF f (some L) P assign (Exit.then (fun a₁ w₁ => ∃ w₂, (Instr.beginRound L).run P w₁ = .ok () w₂ ∧ wpF f (some L) P body (rndPost P L R) a₁ w₂) (fun _ _ _ => False)) { tmps := tmps, defers := [] } w) :
    RoundIn (FR none) 0 P L f tmps assign body w R := by
  refine ⟨trivial, fun c cs _ => ?_⟩
  show ∃ e w', R e w' ∧ ComesIn (Machine.fenced P Fence.wide) P _ _ e
  have hw : ∀ m, Machine.fenced P Fence.wide m := fenced_wide P
  let b : Frame := { (default : Frame) with fn := f, kind := .normal, roundOf := some L }
  have hb0 : Frame.round L f tmps assign body .normal = b.atR { tmps := tmps, defers := [] } [.code assign, .beginRound, .code body] := by
    simp [Frame.round, Frame.atR, b]
  obtain ⟨e, a₁, w₁, hq, harr⟩ := h b [.beginRound, .code body] (c :: cs) rfl rfl
  rw [← hb0] at harr
  cases e with
  | normal =>
    obtain ⟨w₂, hbr, hbody⟩ := hq
    have s1 : StepsIn (Machine.fenced P Fence.wide) P (lone (b.atR a₁ [.beginRound, .code body]) (c :: cs) w₁) (lone (b.atR a₁ [.code body]) (c :: cs) w₂) :=
      .one (hw _) (stepR_beginRound rfl hbr)
    obtain ⟨e₂, a₂, w₃, hq₂, harr₂⟩ := hbody b [] (c :: cs) rfl rfl
    cases e₂ with
    | normal =>
      obtain ⟨v, w₄, hend, hR⟩ := hq₂
      exact ⟨.returned v, w₄, hR, (StepsIn.trans harr s1).trans (StepsIn.trans harr₂ (.one (hw _) (stepR_round_end rfl rfl hend)))⟩
    | ret =>
      obtain ⟨v, w₄, hend, hR⟩ := hq₂
      obtain ⟨k₁, hs⟩ := harr₂.2 rfl
      exact ⟨.returned v, w₄, hR, (StepsIn.trans harr s1).trans (StepsIn.trans hs (.one (hw _) (stepR_round_ret rfl rfl hend)))⟩
    | exit id =>
      obtain ⟨v, w₄, hend, hR⟩ := hq₂
      obtain ⟨k₁, hk, hs⟩ := harr₂.2 rfl rfl
      exact ⟨.returned v, w₄, hR, (StepsIn.trans harr s1).trans (StepsIn.trans hs (.one (hw _) (stepR_round_exit rfl rfl hk hend)))⟩
    | panic ch =>
      obtain ⟨hd, hR⟩ := hq₂
      obtain ⟨todo, hs⟩ := harr₂
      refine ⟨.panicked ch, w₃, hR, (StepsIn.trans harr s1).trans (StepsIn.trans hs (.one (hw _) ?_))⟩
      exact step_leave_panicked ⟨rfl, hd, fn, hf⟩
    | goto t => exact hq₂.elim
    | outgrown => exact hq₂.elim
  | exit id => exact hq.elim
  | goto t => exact hq.elim
  | ret => exact hq.elim
  | panic chain => exact hq.elim
  | outgrown => exact hq.elim
/-- What is asked when the function that was ranged over has ended. -/
def rngPost (f : FuncId) (P : Program) (l : Nat) (Q : Exit → Act → World → Prop) (a' : Act) : Ending → World → Prop
  | .returned _, w₃ => ∃ jump w₄, (Instr.endLoop l).run P w₃ = .ok jump w₄ ∧
      (match jump with
       | none => Q .normal a' w₄
       | some c => wpF f none P c Q a' w₄)
  | .panicked chain, w₃ => Q (.panic chain) a' w₃
  | .outgrown, _ => False
theorem wpF_rangeFunc {g : Operand} {ps : Array Tmp} {assign body : Code} {Q : Exit → Act → World → Prop} {a : Act}
    (h : ∃ (l : Nat) (mark : List Deferred) (w₁ : World) (d : Deferred) (w₁' : World) (g' : FuncId) (args : Array Value) (w₂ : World),
      (Instr.enterLoop f a.tmps ps assign body none).run P w = .ok (l, mark) w₁ ∧
      (resolve a.eval (rangeCall g l) 0).run P w₁ = .ok d w₁' ∧
      (invoke d.target d.args).run P w₁' = .ok (.enter g' args) w₂ ∧
      Calls P g' args w₂ (rngPost f P l Q { a with defers := mark ++ a.defers })) :
    wpF f none P (.rangeFunc g ps assign body) Q a w := by
  intro b k cs hro hb
  have hw : ∀ m, Machine.fenced P Fence.wide m := fenced_wide P
  obtain ⟨l, mark, w₁, d, w₁', g', args, w₂, he, hres, hinv, hcall⟩ := h
  rw [← hro, ← hb] at he
  have henter := stepR_rangeFunc (P := P) (b := b) (a := a) (k := k) (cs := cs) (w := w) he hres hinv
  obtain ⟨e, w₃, fr, hR, hsteps, hfn, hleave⟩ := ((callsIn_wide (n := 0)).2 hcall).2 (b.atR { a with defers := mark ++ a.defers } (.inRangeFunc l :: k) :: cs) (room_wide _)
  cases e with
  | outgrown => exact hR.elim
  | returned v =>
    obtain ⟨jump, w₄, hend, hj⟩ := hR
    have sback : StepsIn (Machine.fenced P Fence.wide) P (lone (b.atR a (.code (.rangeFunc g ps assign body) :: k)) cs w) (lone (b.atR { a with defers := mark ++ a.defers } ((jump.map Item.code).toList ++ k)) cs w₄) := by
      refine .head (hw _) henter (StepsIn.trans hsteps (.head (hw _) ?_ (.one (hw _) (stepR_endRangeFunc hend))))
      rw [← finish_atR_inRangeFunc l v]; exact step_leave_returned hleave
    cases jump with
    | none => exact ⟨.normal, _, w₄, hj, sback⟩
    | some c =>
      obtain ⟨e', a'', w₅, hq, harr⟩ := hj b k cs hro hb
      exact ⟨e', a'', w₅, hq, .of_steps sback harr⟩
  | panicked chain =>
    refine ⟨.panic chain, _, w₃, hR, .inRangeFunc l :: k, .head (hw _) henter (StepsIn.trans hsteps (.one (hw _) ?_))⟩
    rw [← Frame.raise_atR]; exact step_leave_panicked hleave
end round

/-! ### A call of yield -/
def YieldP (P : Program) (L : Nat) (args : Array Value) (W : World) (R : Value → World → Prop) (RP : Chain → World → Prop) : Prop :=
  ∃ fn tmps assign body, (Instr.yield L args).run P W = .ok (.round L fn tmps assign body) W ∧
    RoundIn (FR none) 0 P L fn tmps assign body W fun e W' => match e with | .returned v => R v W' | .panicked ch => RP ch W' | .outgrown => False
theorem YieldP.mono {P : Program} {L : Nat} {args : Array Value} {W : World} {R R' : Value → World → Prop} {RP RP' : Chain → World → Prop} (h : YieldP P L args W R RP) (hr : ∀ v w, R v w → R' v w) (hp : ∀ c w, RP c w → RP' c w) : YieldP P L args W R' RP' := by
  obtain ⟨fn, t, a, b, h1, h2⟩ := h
  refine ⟨fn, t, a, b, h1, RoundIn.mono h2 fun e w he => ?_⟩
  cases e with
  | returned v => exact hr _ _ he
  | panicked c => exact hp _ _ he
  | outgrown => exact he
/-- What an iterator owes: so many rounds, each of such arguments; what it leans on lies in the blocks B and in its own. -/
def Iter (P : Program) (gf : FuncId) (lb : List Value) (N : Nat) (B : List Nat) (It : Nat → World → List Value → List Nat → Prop) (w1 : World) : Prop :=
  ∀ (L : Nat) (J : Nat → World → List Nat → Prop) (X : World → Prop) (XP : Chain → World → Prop) (O0 : List Nat),
    (∀ b ∈ O0, b ∉ B) → (∀ k W O, J k W O → ∀ b ∈ O, b < W.heap.size) → (∀ k W O W', J k W O → Hp W W' [] [] → J k W' O) → (∀ W W', X W → Hp W W' [] [] → X W') →
    (∀ k W O args G, k < N → J k W O → It k W args G → (∀ b ∈ G, b ∉ O) → YieldP P L args.toArray W (fun v W' => ∃ O', Hp W W' (O ++ G) [] ∧ (∀ b ∈ O', b ∈ O ++ G ∨ W.heap.size ≤ b) ∧ ((v = .bool true ∧ J (k + 1) W' O') ∨ (v = .bool false ∧ X W'))) XP) →
    J 0 w1 O0 → DoesP P gf ((.func (.yield L) #[] #[]) :: lb).toArray w1 (fun _ W' => (∃ O, J N W' O) ∨ X W') XP
theorem Hp.putL {W : World} {L : Nat} {r : Loop} (o : Obj) (_ : W.heap[L]? = some (.loop r)) : Hp W (W.putObj L o) [L] [] :=
  ⟨rfl, rfl, rfl, by simp, fun k _ hk => World.putObj_heap_other (fun e => hk (by simp [e])), by simp, by simp⟩
theorem Hp.allocO (W : World) (o : Obj) : Hp W (W.alloc o) [] [] :=
  ⟨rfl, rfl, rfl, by simp, fun k hk _ => heap_alloc_old W _ hk, by simp, by simp⟩
/-- The record of a loop turns. -/
theorem Hp.loop {w0 W W' : World} {S : List Nat} {es : List Ent} {L : Nat} (H : Hp w0 W S es) (H' : Hp W W' [L] []) (hL : ∀ arr T z, W.heap[L]? ≠ some (.cells arr T z)) (hS : w0.heap.size ≤ L) : Hp w0 W' S es := by
  refine ⟨H'.os.trans H.os, H'.tape.trans H.tape, H'.output.trans H.output, Nat.le_trans H.size H'.size, ?_, ?_, H.apart⟩
  · intro k hk hkS
    rw [H'.frame k (by have := H.size; omega) (by simp; omega)]
    exact H.frame k hk hkS
  · intro i e he
    have h := H.ent i e he
    unfold EntOk at h ⊢
    split
    · rename_i hn; rw [hn] at h; exact h
    · rename_i g hg
      rw [hg] at h
      have hne : g ≠ L := by rintro rfl; exact hL _ _ _ h.1
      exact ⟨by rw [H'.frame g (Array.getElem?_eq_some_iff.1 h.1).1 (by simp [hne])]; exact h.1, h.2⟩
namespace Rn
section code
variable {f : FuncId} {P : Program} {ds : List Deferred} {Q : PostD} {l : List Value} {w : World} {cs : List Code}
/-- How a round's body may be left. -/
def bodyQ (J : World → List Nat → Prop) (X : Code → World → Prop) (XP : Chain → World → Prop) (W : World) (O G : List Nat) : PostD
  | .normal, ds, _, W' => ds = [] ∧ Hp W W' (O ++ G) [] ∧ ∃ O', (∀ b ∈ O', b ∈ O ++ G ∨ W.heap.size ≤ b) ∧ J W' O'
  | .ret, ds, _, W' => ds = [] ∧ Hp W W' (O ++ G) [] ∧ X .ret W'
  | .exit n, ds, _, W' => ds = [] ∧ Hp W W' (O ++ G) [] ∧ X (.exit n) W'
  | .panic ch, ds, _, W' => ds = [] ∧ Hp W W' (O ++ G) [] ∧ XP ch W'
  | _, _, _, _ => False
def putAll (l : List Value) : List Tmp → List Value → List Value
  | p :: ps, v :: vs => putAll (l.set p v) ps vs
  | _, _ => l
theorem putAll_l : ∀ (ps : List Tmp) (vs l : List Value), (ps.zip vs).foldl (fun (t : Array Value) (x : Tmp × Value) => t.setIfInBounds x.1 x.2) l.toArray = (putAll l ps vs).toArray
  | [], _, _ => by simp [putAll]
  | _ :: _, [], _ => by simp [putAll]
  | p :: ps, v :: vs, l => by
    have := putAll_l ps vs (l.set p v)
    simp only [putAll, ← this, List.zip_cons_cons, List.foldl_cons, List.setIfInBounds_toArray]
theorem putAll_eq (ps : List Tmp) (vs l : List Value) : (ps.toArray.zip vs.toArray).foldl (fun (t : Array Value) (x : Tmp × Value) => t.setIfInBounds x.1 x.2) l.toArray = (putAll l ps vs).toArray := by
  rw [← putAll_l, ← Array.foldl_toList]
  simp
abbrev markOf (D : Nat) : Deferred := { target := .collected D, args := #[] }
theorem run_range {g : Operand} {ps : List Tmp} {assign body : Code} {gf : FuncId} {lb : List Value} {fn : Func} (hf : P.funcs[f]? = some fn) (hg : ev l g = some (.func (.func gf) #[] lb.toArray)) (hgo : goFn P gf = true)
    {N : Nat} {B : List Nat} {It : Nat → World → List Value → List Nat → Prop} (hit : ∀ w1, Hp w w1 [] [] → Iter P gf lb N B It w1) (hB : ∀ b ∈ B, b < w.heap.size)
    (J : Nat → World → List Nat → Prop) (X : Code → World → Prop) (XP : Chain → World → Prop) (O0 : List Nat) (hO : ∀ b ∈ O0, b ∉ B) (l1 : List Value → List Value → List Value)
    (hJO : ∀ k W O, J k W O → ∀ b ∈ O, ∃ arr T z, W.heap[b]? = some (.cells arr T z))
    (hJs : ∀ k W O W' L, J k W O → w.heap.size ≤ L → Hp W W' [L] [] → (∀ arr T z, W.heap[L]? ≠ some (.cells arr T z)) → J k W' O)
    (hXs : ∀ c W W' L, X c W → w.heap.size ≤ L → Hp W W' [L] [] → (∀ arr T z, W.heap[L]? ≠ some (.cells arr T z)) → X c W')
    (hIt : ∀ k W args G, It k W args G → args.length = ps.length ∧ (∀ b ∈ G, ∃ arr T z, W.heap[b]? = some (.cells arr T z)) ∧ (∀ W' L, Hp W W' [L] [] → w.heap.size ≤ L → (∀ arr T z, W.heap[L]? ≠ some (.cells arr T z)) → It k W' args G))
    (h0 : J 0 w O0)
    (hasg : ∀ k W args G L, It k W args G → Run (f := f) (ro := some L) P [] [assign] (fun e ds l' W1 => e = .normal ∧ ds = [] ∧ l' = l1 l args ∧ W1 = W) (putAll l ps args) W)
    (hbody : ∀ k W O args G L, k < N → J k W O → It k W args G → (∀ b ∈ G, b ∉ O) → Run (f := f) (ro := some L) P [] [body] (bodyQ (J (k + 1)) X XP W O G) (l1 l args) W)
    (hdone : ∀ D W O, J N W O → W.heap[D]? = some (.deferred (some [])) → w.heap.size ≤ D → Run (f := f) (ro := none) P (markOf D :: ds) cs Q l W)
    (hjump : ∀ D c W, X c W → W.heap[D]? = some (.deferred (some [])) → w.heap.size ≤ D → Run (f := f) (ro := none) P (markOf D :: ds) (c :: cs) Q l W)
    (hpan : ∀ D ch W, XP ch W → W.heap[D]? = some (.deferred (some [])) → w.heap.size ≤ D → Q (.panic ch) (markOf D :: ds) l W) :
    Run (f := f) (ro := none) P ds (.rangeFunc g ps.toArray assign body :: cs) Q l w := by
  obtain ⟨rec, hrec⟩ : ∃ rec : LoopState → Option Code → Loop, rec = fun st pe => { state := st, pending := pe, fn := f, tmps := l.toArray, params := ps.toArray, assign, body, defers := w.heap.size } := ⟨_, rfl⟩
  obtain ⟨W1, hW1⟩ : ∃ W1, (w.alloc (.deferred (some []))).alloc (.loop (rec .ready none)) = W1 := ⟨_, rfl⟩
  have H1 : Hp w W1 [] [] := by
    rw [← hW1]
    have := (Hp.allocO w (.deferred (some []))).call0 (Hp.allocO (w.alloc (.deferred (some []))) (.loop (rec .ready none)))
    exact this
  have hL1 : W1.heap[w.heap.size + 1]? = some (.loop (rec .ready none)) := by
    rw [← hW1]; have := World.alloc_heap_new (w.alloc (.deferred (some []))) (.loop (rec .ready none)); rwa [World.size_alloc] at this
  have hD1 : W1.heap[w.heap.size]? = some (.deferred (some [])) := by
    rw [← hW1]; exact (Below.heap_alloc _ _ _ (by simp)).trans (World.alloc_heap_new w _)
  have nl : ∀ {W : World} {r : Loop}, W.heap[w.heap.size + 1]? = some (.loop r) → ∀ arr T z, W.heap[w.heap.size + 1]? ≠ some (.cells arr T z) := fun h arr T z h2 => by rw [h] at h2; cases h2
  have nn : ∀ {W : World} {L : Nat}, W.heap.size ≤ L → ∀ arr T z, W.heap[L]? ≠ some (.cells arr T z) := fun h arr T z h2 => by have := (Array.getElem?_eq_some_iff.1 h2).1; omega
  have wide : ∀ {W W' : World} (L : Nat), Hp W W' [] [] → Hp W W' [L] [] := fun L h => ⟨h.os, h.tape, h.output, h.size, fun k hk _ => h.frame k hk (by simp), by simp, by simp⟩
  refine wpF_rangeFunc ⟨w.heap.size + 1, [markOf w.heap.size], W1, { target := .fn (.func gf) lb.toArray, args := #[.func (.yield (w.heap.size + 1)) #[] #[]] }, W1, gf,
    ((.func (.yield (w.heap.size + 1)) #[] #[]) :: lb).toArray, W1, ?_, ?_, ?_, ?_⟩
  · rw [← hW1, hrec]; exact run_enterLoop_outer _ _ _ _ _
  · simp [resolve, eval_of hg, Deferred.ofValue]
    rfl
  · simp [invoke, run_goFn hgo]
  · have hcall := hit W1 H1 (w.heap.size + 1)
      (fun k W O => ∃ O1, O = (w.heap.size + 1) :: O1 ∧ J k W O1 ∧ W.heap[w.heap.size + 1]? = some (.loop (rec .ready none)) ∧ W.heap[w.heap.size]? = some (.deferred (some [])))
      (fun W => ∃ c, X c W ∧ W.heap[w.heap.size + 1]? = some (.loop (rec .done (some c))) ∧ W.heap[w.heap.size]? = some (.deferred (some [])))
      (fun ch W => XP ch W ∧ W.heap[w.heap.size]? = some (.deferred (some [])))
      ((w.heap.size + 1) :: O0) ?_ ?_ ?_ ?_ ?_ ⟨O0, rfl, hJs 0 w O0 W1 w.heap.size h0 (Nat.le_refl _) (wide _ H1) (nn (Nat.le_refl _)), hL1, hD1⟩
    · refine Calls.mono hcall ?_
      intro e W hR
      cases e with
      | outgrown => exact hR
      | panicked ch => exact hpan _ _ _ hR.1 hR.2 (Nat.le_refl _)
      | returned v =>
        rcases hR with ⟨O, O1, rfl, hJ, hL, hD⟩ | ⟨c, hX, hL, hD⟩
        · refine ⟨none, W.putObj (w.heap.size + 1) (.loop (rec .exhausted none)), ?_, hdone w.heap.size _ O1 (hJs _ _ _ _ (w.heap.size + 1) hJ (by omega) (Hp.putL _ hL) (nl hL)) ((World.putObj_heap_other (by omega)).trans hD) (Nat.le_refl _)⟩
          have := run_endLoop (P := P) hL (by rw [hrec]; simp)
          rw [hrec] at this ⊢
          exact this
        · refine ⟨some c, W.putObj (w.heap.size + 1) (.loop (rec .exhausted (some c))), ?_, hjump w.heap.size c _ (hXs _ _ _ (w.heap.size + 1) hX (by omega) (Hp.putL _ hL) (nl hL)) ((World.putObj_heap_other (by omega)).trans hD) (Nat.le_refl _)⟩
          have := run_endLoop (P := P) hL (by rw [hrec]; simp)
          rw [hrec] at this ⊢
          exact this
    · intro b hb
      rcases List.mem_cons.1 hb with rfl | h
      · intro hb2; have := hB _ hb2; omega
      · exact hO b h
    · rintro k W O ⟨O1, rfl, hJ, hL, hD⟩ b hb
      rcases List.mem_cons.1 hb with rfl | h
      · exact (Array.getElem?_eq_some_iff.1 hL).1
      · obtain ⟨arr, T, z, h2⟩ := hJO k W O1 hJ b h
        exact (Array.getElem?_eq_some_iff.1 h2).1
    · rintro k W O W' ⟨O1, rfl, hJ, hL, hD⟩ H
      exact ⟨O1, rfl, hJs k W O1 W' (w.heap.size + 1) hJ (by omega) (wide _ H) (nl hL), (H.frame _ (Array.getElem?_eq_some_iff.1 hL).1 (by simp)).trans hL, (H.frame _ (Array.getElem?_eq_some_iff.1 hD).1 (by simp)).trans hD⟩
    · rintro W W' ⟨c, hX, hL, hD⟩ H
      exact ⟨c, hXs c W W' (w.heap.size + 1) hX (by omega) (wide _ H) (nl hL), (H.frame _ (Array.getElem?_eq_some_iff.1 hL).1 (by simp)).trans hL, (H.frame _ (Array.getElem?_eq_some_iff.1 hD).1 (by simp)).trans hD⟩
    · rintro k W O args G hk ⟨O1, rfl, hJ, hL, hD⟩ hI hG
      obtain ⟨hlen, hGc, hIs⟩ := hIt k W args G hI
      have hlt : w.heap.size + 1 < W.heap.size := (Array.getElem?_eq_some_iff.1 hL).1
      have hy := run_yield (P := P) (args := args.toArray) hL (by rw [hrec]; simp [hlen])
      rw [hrec] at hy
      simp only [putAll_eq] at hy
      refine ⟨f, _, assign, body, hy, ?_⟩
      refine roundIn_of hf (wpF_mono (hasg k W args G (w.heap.size + 1) hI) ?_)
      rintro e ⟨t, d⟩ W2 h2
      cases e with
      | normal =>
        obtain ⟨_, hd, hl, hw⟩ := h2
        simp only at hd hl
        subst hd hw
        have hl' : t = (l1 l args).toArray := by rw [← hl]
        subst hl'
        refine ⟨_, run_beginRound hL (by rw [hrec]), ?_⟩
        have hP := Hp.putL (.loop { rec .ready none with state := .busy }) hL
        have hL2 : (W2.putObj (w.heap.size + 1) (.loop { rec .ready none with state := .busy })).heap[w.heap.size + 1]? = some (.loop { rec .ready none with state := .busy }) := World.putObj_heap_same hlt
        have hD2 : (W2.putObj (w.heap.size + 1) (.loop { rec .ready none with state := .busy })).heap[w.heap.size]? = some (.deferred (some [])) := (World.putObj_heap_other (by omega)).trans hD
        have hJ2 := hJs k W2 O1 _ (w.heap.size + 1) hJ (by omega) hP (nl hL)
        have hI2 := hIs _ (w.heap.size + 1) hP (by omega) (nl hL)
        have hsz : (W2.putObj (w.heap.size + 1) (.loop { rec .ready none with state := .busy })).heap.size = W2.heap.size := by simp
        generalize W2.putObj (w.heap.size + 1) (.loop { rec .ready none with state := .busy }) = W3 at hP hL2 hD2 hJ2 hI2 hsz ⊢
        have hGO : ∀ b ∈ G, b ∉ O1 := fun b hb hb2 => hG b hb (List.mem_cons_of_mem _ hb2)
        have hnot : ∀ b ∈ O1 ++ G, b ≠ w.heap.size ∧ b ≠ w.heap.size + 1 := by
          intro b hb
          have hc : ∃ arr T z, W3.heap[b]? = some (.cells arr T z) := by
            rcases List.mem_append.1 hb with h | h
            · exact hJO k W3 O1 hJ2 b h
            · exact (hIt k W3 args G hI2).2.1 b h
          obtain ⟨arr, T, z, h⟩ := hc
          exact ⟨(by rintro rfl; rw [hD2] at h; cases h), (by rintro rfl; rw [hL2] at h; cases h)⟩
        refine wpF_mono (hbody k W3 O1 args G (w.heap.size + 1) hk hJ2 hI2 hGO) ?_
        have keep : ∀ {W4 : World}, Hp W3 W4 (O1 ++ G) [] → W4.heap[w.heap.size + 1]? = some (.loop { rec .ready none with state := .busy }) ∧ W4.heap[w.heap.size]? = some (.deferred (some [])) := by
          intro W4 h
          exact ⟨(h.frame _ (Array.getElem?_eq_some_iff.1 hL2).1 (fun hb => (hnot _ hb).2 rfl)).trans hL2, (h.frame _ (Array.getElem?_eq_some_iff.1 hD2).1 (fun hb => (hnot _ hb).1 rfl)).trans hD2⟩
        have big : ∀ {W4 W5 : World}, Hp W3 W4 (O1 ++ G) [] → Hp W4 W5 [w.heap.size + 1] [] → Hp W2 W5 ((w.heap.size + 1) :: O1 ++ G) [] := by
          intro W4 W5 h4 h5
          refine ⟨h5.os.trans (h4.os.trans hP.os), h5.tape.trans (h4.tape.trans hP.tape), h5.output.trans (h4.output.trans hP.output), Nat.le_trans hP.size (Nat.le_trans h4.size h5.size), ?_, by simp, by simp⟩
          intro x hx hxn
          simp only [List.cons_append, List.mem_cons, List.mem_append, not_or] at hxn
          rw [h5.frame x (by have := h4.size; have := hP.size; omega) (by simp; exact hxn.1), h4.frame x (by have := hP.size; omega) (by simp; exact ⟨hxn.2.1, hxn.2.2⟩)]
          exact hP.frame x hx (by simp; exact hxn.1)
        rintro e ⟨t4, d4⟩ W4 h4
        cases e with
        | normal =>
          obtain ⟨_, hH, O', hO', hJ'⟩ := h4
          obtain ⟨k1, k2⟩ := keep hH
          have hq := Hp.putL (.loop (rec .ready none)) k1
          refine ⟨.bool true, W4.putObj (w.heap.size + 1) (.loop (rec .ready none)), ?_, (w.heap.size + 1) :: O', big hH hq, ?_, .inl ⟨rfl, O', rfl, ?_, ?_, ?_⟩⟩
          · have := run_endRound (P := P) none k1
            rw [hrec] at this ⊢
            exact this
          · intro b hb
            rcases List.mem_cons.1 hb with rfl | h
            · exact .inl (by simp)
            · rcases hO' b h with h | h
              · exact .inl (by simp only [List.cons_append, List.mem_cons]; exact .inr h)
              · exact .inr (by omega)
          · exact hJs _ _ _ _ (w.heap.size + 1) hJ' (by omega) hq (nl k1)
          · exact World.putObj_heap_same (Array.getElem?_eq_some_iff.1 k1).1
          · exact (World.putObj_heap_other (by omega)).trans k2
        | ret =>
          obtain ⟨_, hH, hX⟩ := h4
          obtain ⟨k1, k2⟩ := keep hH
          have hq := Hp.putL (.loop (rec .done (some .ret))) k1
          refine ⟨.bool false, W4.putObj (w.heap.size + 1) (.loop (rec .done (some .ret))), ?_, [], big hH hq, by simp, .inr ⟨rfl, .ret, ?_, ?_, ?_⟩⟩
          · have := run_endRound (P := P) (some .ret) k1
            rw [hrec] at this ⊢
            exact this
          · exact hXs _ _ _ (w.heap.size + 1) hX (by omega) hq (nl k1)
          · exact World.putObj_heap_same (Array.getElem?_eq_some_iff.1 k1).1
          · exact (World.putObj_heap_other (by omega)).trans k2
        | exit id =>
          obtain ⟨_, hH, hX⟩ := h4
          obtain ⟨k1, k2⟩ := keep hH
          have hq := Hp.putL (.loop (rec .done (some (.exit id)))) k1
          refine ⟨.bool false, W4.putObj (w.heap.size + 1) (.loop (rec .done (some (.exit id)))), ?_, [], big hH hq, by simp, .inr ⟨rfl, .exit id, ?_, ?_, ?_⟩⟩
          · have := run_endRound (P := P) (some (.exit id)) k1
            rw [hrec] at this ⊢
            exact this
          · exact hXs _ _ _ (w.heap.size + 1) hX (by omega) hq (nl k1)
          · exact World.putObj_heap_same (Array.getElem?_eq_some_iff.1 k1).1
          · exact (World.putObj_heap_other (by omega)).trans k2
        | panic ch =>
          obtain ⟨hd, hH, hX⟩ := h4
          exact ⟨hd, hX, (keep hH).2⟩
        | goto t => exact h4.elim
        | outgrown => exact h4.elim
      | exit id => exact absurd h2.1 (by simp)
      | goto t => exact absurd h2.1 (by simp)
      | ret => exact absurd h2.1 (by simp)
      | panic chain => exact absurd h2.1 (by simp)
      | outgrown => exact absurd h2.1 (by simp)
end code
end Rn
end Go.Proofs.Ytgkciibfpenjpaa
