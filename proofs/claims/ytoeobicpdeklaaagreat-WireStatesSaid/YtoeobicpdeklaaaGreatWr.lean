/-
  What writing and reading a thing answers.
-/
import Derived.Test.YtoeobicpdeklaaaGreatSt
import Derived.Laws.ResultCell
namespace Go.Proofs.YtoeobicpdeklaaaGreat
open Go Go.RowKit

def outOf (st : WS) : List UInt8 := if st.long = true then [] else st.out
def errOf (st : WS) : Nat := if st.long = true then 22 else 0
@[reducible] def W0 : WS := ⟨[], false⟩
/-- Bytes of its own, and an error. -/
def WrRes (w0 w' : World) (r : Value) (st : WS) : Prop :=
  ∃ g cap sp, r = .tuple #[.slice (hd g) (outOf st).length cap, .int .i64 (errOf st : Int)] ∧ (outOf st).length ≤ cap ∧ cap * 1 ≤ (u8s (outOf st) ++ sp).length ∧ (g = none → cap = 0) ∧ (outOf st).length ≤ 65536 ∧ Hp w0 w' [] [(g, 5, u8s (outOf st) ++ sp)]
def errR (A : Th) (b : List UInt8) : Nat := if 65536 < b.length then 22 else if (A.rd b 0 0).2.2 ≠ 0 then (A.rd b 0 0).2.2 else if (A.rd b 0 0).2.1 < b.length then 24 else 0
/-- What was read. -/
def gotR (A : Th) (b : List UInt8) : A.X := if errR A b = 0 then (A.rd b 0 0).1 else A.z
def RdRes (A : Th) (b : List UInt8) (w0 w' : World) (r : Value) : Prop :=
  ∃ cells, r = .tuple #[.agg cells.toArray, .int .i64 (errR A b : Int)] ∧ A.M w' (fun p => w0.heap.size ≤ p ∧ Tw w' p) (gotR A b) cells ∧ Hp w0 w' [] []
section
variable {P : Program} {fn : Func} {l : List Value} {w w0 : World} {R : Value → World → Prop} {zs : List Value} {sz bytes : Nat}
theorem fin_cell {r1 : Tmp} {ty : TypeId} (hr : fn.results = #[.cell r1 ty]) (ht : TyOk P ty zs sz bytes true) {g : Nat} {cs : List Value} (h1 : nth l r1 = some (.pointer (some ⟨g, 0, none⟩))) (hl : cs.length = sz) (hc : ∀ j u, cs[j]? = some u → w.cell? ((⟨g, 0, none⟩ : Addr).add j) = some u) (h : R (.agg cs.toArray) w) : fin P fn R .ret l w := by
  refine ⟨.agg cs.toArray, ?_, h⟩
  have hl2 := run_loadVarN (P := P) (w := w) ht hl hc
  have hp : l[r1]? = some (.pointer (some ⟨g, 0, none⟩)) := by rw [← nth_eq]; exact h1
  simp [results, hr, hp, asAddr, hl2]
theorem fin_cell_tmp {r1 r2 : Tmp} {ty : TypeId} (hr : fn.results = #[.cell r1 ty, .tmp r2]) (ht : TyOk P ty zs sz bytes true) {g : Nat} {cs : List Value} {v2 : Value} (h1 : nth l r1 = some (.pointer (some ⟨g, 0, none⟩))) (h2 : nth l r2 = some v2) (hl : cs.length = sz) (hc : ∀ j u, cs[j]? = some u → w.cell? ((⟨g, 0, none⟩ : Addr).add j) = some u)
    (h : R (.tuple #[.agg cs.toArray, v2]) w) : fin P fn R .ret l w := by
  refine ⟨.tuple #[.agg cs.toArray, v2], ?_, h⟩
  have hl2 := run_loadVarN (P := P) (w := w) ht hl hc
  have hp : l[r1]? = some (.pointer (some ⟨g, 0, none⟩)) := by rw [← nth_eq]; exact h1
  rw [results_cell_tmp hr]
  rw [getD_of h1, getD_of h2]
  simp [asAddr, hl2]
theorem Hp.cells {S : List Nat} {es : List Ent} (H : Hp w0 w S es) {i g : Nat} {T : TypeId} {cs : List Value} (he : es[i]? = some (some g, T, cs)) : ∀ j u, cs[j]? = some u → w.cell? ((⟨g, 0, none⟩ : Addr).add j) = some u := fun j u hu => by
  rw [addn, Nat.zero_add]; exact H.cell he hu
end
theorem alike_out {a st : WS} (h : Alike a st) : (st.long = true ∨ 65536 < st.out.length → a.long = true) ∧ (¬ (st.long = true ∨ 65536 < st.out.length) → a.long = false ∧ a.out = st.out) := by
  rcases h with ⟨h1, h2⟩ | ⟨h1, h2, h3, h4⟩
  · exact ⟨fun _ => h1, fun h => absurd h2 h⟩
  · refine ⟨fun h => ?_, fun _ => ⟨h1, h3⟩⟩
    rcases h with h | h
    · rw [h2] at h; cases h
    · rw [← h3] at h; omega
theorem errOf_long {st : WS} (h : st.long = true) : outOf st = [] ∧ errOf st = 22 := ⟨if_pos h, if_pos h⟩
theorem errOf_ok {st : WS} (h : st.long = false) : outOf st = st.out ∧ errOf st = 0 := ⟨if_neg (by simp [h]), if_neg (by simp [h])⟩
theorem gotR_ok {A : Th} {b : List UInt8} (h : errR A b = 0) : gotR A b = (A.rd b 0 0).1 ∧ ¬ 65536 < b.length ∧ (A.rd b 0 0).2.2 = 0 ∧ ¬ (A.rd b 0 0).2.1 < b.length := by
  refine ⟨if_pos h, ?_⟩
  unfold errR at h
  split at h
  · cases h
  · split at h
    · omega
    · split at h
      · cases h
      · rename_i h1 h2 h3; exact ⟨h1, by omega, h3⟩
theorem gotR_bad {A : Th} {b : List UInt8} (h : errR A b ≠ 0) : gotR A b = A.z := if_neg h
theorem errR_long {A : Th} {b : List UInt8} (h : 65536 < b.length) : errR A b = 22 := if_pos h
theorem errR_eq {A : Th} {b : List UInt8} {x : A.X} {i e : Nat} (h : b.length ≤ 65536) (hx : A.rd b 0 0 = (x, i, e)) : errR A b = if e = 0 ∧ i < b.length then 24 else e := by
  unfold errR
  rw [if_neg (by omega), hx]
  simp only
  split
  · rw [if_neg (by omega)]
  · split
    · rw [if_pos ⟨by omega, by assumption⟩]
    · rw [if_neg (by omega)]; omega
theorem putAt_all {cs us : List Value} (h : us.length = cs.length) : putAt cs 0 us = us := by
  unfold putAt
  rw [List.drop_of_length_le (by omega)]
  simp
theorem bl_lt {w0 w : World} {S : List Nat} {es : List Ent} (H : Hp w0 w S es) {b : Nat} (hb : b ∈ bl es) : b < w.heap.size := by
  obtain ⟨⟨g, T, cs⟩, he, hg⟩ := List.mem_filterMap.1 hb
  obtain ⟨i, hi⟩ := List.getElem?_of_mem he
  simp only at hg
  subst hg
  exact H.lt hi
/-- What was made by a call, seen beside the rows that stood before it. -/
theorem rebase {A : Th} {w0 w w1 : World} {S : List Nat} {es : List Ent} {x : A.X} {cs : List Value} (H : Hp w0 w S es) (hM : A.M w1 (fun p => w.heap.size ≤ p ∧ Tw w1 p) x cs) : A.M w1 (Fr w1 w.heap.size es) x cs :=
  A.mono hM fun p hp => ⟨hp.1, fun hq => by have := bl_lt H hq; omega, hp.2⟩
/-- A call that hands back bytes of its own and an error. -/
theorem ops_call_wr {P : Program} {ds : List Deferred} {Q : Post} {K : List Value → World → Prop} {all os : List Oper} {l : List Value} {w : World} {op : Op} {ty : TypeId} {pos : String} {af : Array Edge} {d : Tmp}
    {f : FuncId} {args : Array Value} {st : WS} (hx : Ex P l op ty w (.enter f args) w) (hc : Does P f args w fun r w' => WrRes w w' r st)
    (h : ∀ w' g cap sp, (outOf st).length ≤ cap → cap * 1 ≤ (u8s (outOf st) ++ sp).length → (g = none → cap = 0) → (outOf st).length ≤ 65536 → Hp w w' [] [(g, 5, u8s (outOf st) ++ sp)] → Ops P ds all K Q os (l.set d (.tuple #[.slice (hd g) (outOf st).length cap, .int .i64 (errOf st : Int)])) w') :
    Ops P ds all K Q (⟨some d, op, ty, pos, af, none⟩ :: os) l w :=
  ops_call hx hc fun r w' ⟨g, cap, sp, h1, h2, h3, h4, h5, h6⟩ => by rw [h1]; exact h w' g cap sp h2 h3 h4 h5 h6
theorem ops_call_rd {P : Program} {ds : List Deferred} {Q : Post} {K : List Value → World → Prop} {all os : List Oper} {l : List Value} {w : World} {op : Op} {ty : TypeId} {pos : String} {af : Array Edge} {d : Tmp}
    {f : FuncId} {args : Array Value} {A : Th} {b : List UInt8} (hx : Ex P l op ty w (.enter f args) w) (hc : Does P f args w fun r w' => RdRes A b w w' r)
    (h : ∀ w' cells, A.M w' (fun p => w.heap.size ≤ p ∧ Tw w' p) (gotR A b) cells → Hp w w' [] [] → Ops P ds all K Q os (l.set d (.tuple #[.agg cells.toArray, .int .i64 (errR A b : Int)])) w') :
    Ops P ds all K Q (⟨some d, op, ty, pos, af, none⟩ :: os) l w :=
  ops_call hx hc fun r w' ⟨cells, h1, h2, h3⟩ => by rw [h1]; exact h w' cells h2 h3
theorem RdOut.get {R : RRows} {A : Th} {go o : Nat} {T : TypeId} {cs : List Value} {b : List UInt8} {i e n : Nat} {w0 w' : World} {S : List Nat} (h : RdOut R A go o T cs b i e n w0 S w') {x : A.X} {i1 e1 : Nat} (hx : A.rd b i e = (x, i1, e1)) :
    ∃ us, us.length = A.sz ∧ us.all (·.oneCell') = true ∧ Hp w0 w' S (R i1 e1 ++ [(some go, T, putAt cs o us)]) ∧ (e1 = 0 → A.M w' (Fr w' n (R i1 e1 ++ [(some go, T, putAt cs o us)])) x us) := by
  unfold RdOut at h
  rw [hx] at h
  exact h
end Go.Proofs.YtoeobicpdeklaaaGreat
