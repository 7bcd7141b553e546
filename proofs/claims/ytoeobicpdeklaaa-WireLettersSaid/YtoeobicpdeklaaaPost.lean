/-
  A letter and the group that it is for.
-/
import Derived.Test.YtoeobicpdeklaaaWireP1
import Derived.Test.YtoeobicpdeklaaaWireP0
import Derived.Test.YtoeobicpdeklaaaBig
import Derived.Test.YtoeobicpdeklaaaGet
namespace Go.Proofs.Ytoeobicpdeklaaa
open Go Go.RowKit
/-- A letter for a group. -/
@[reducible] def post (n : Int) (x : thletter.X) : thposted.X := (((Fv.int n :: x.1.1.1, x.1.1.2), x.1.2), x.2)
theorem post_fl (n : Int) (x : thletter.X) : thposted.fl (post n x) = .int n :: thletter.fl x := rfl
theorem post_M {w : World} {ok : Nat → Prop} {n : Int} {x : thletter.X} {us : List Value} (hn : -9223372036854775808 ≤ n ∧ n ≤ 9223372036854775807) (h : thletter.M w ok x us) : thposted.M w ok (post n x) (.int .i64 n :: us) := by
  obtain ⟨r3, s3, rfl, q3, h3⟩ := Th.split h
  obtain ⟨r2, s2, rfl, q2, h2⟩ := Th.split q3
  obtain ⟨s0, s1, rfl, h0, h1⟩ := Th.split q2
  refine pair_app (u1 := ((.int .i64 n :: s0) ++ s1) ++ s2) (pair_app (u1 := (.int .i64 n :: s0) ++ s1) (pair_app (u1 := .int .i64 n :: s0) ?_ h1) h2) h3
  refine ⟨by rw [List.map_cons, h0.1]; rfl, ?_⟩
  have := (FPs.one (w := w) (ok := ok) (f := .int n) ⟨rfl, hn⟩).app h0.2
  exact this
theorem post_rd4 (ks : List Kd) (B C D : Th) {b : List UInt8} {i e : Nat} {n : Int} {i1 e1 : Nat} {x : (Th.pair (Th.pair (Th.pair (Th.flat ks) B) C) D).X} {i2 e2 : Nat} (h1 : rdF .int b i e = (.int n, i1, e1)) (h2 : (Th.pair (Th.pair (Th.pair (Th.flat ks) B) C) D).rd b i1 e1 = (x, i2, e2)) : (Th.pair (Th.pair (Th.pair (Th.flat (.int :: ks)) B) C) D).rd b i e = (((((Fv.int n :: x.1.1.1, x.1.1.2), x.1.2), x.2) : (Th.pair (Th.pair (Th.pair (Th.flat (.int :: ks)) B) C) D).X), i2, e2) := by
  have h0 : (Th.flat (.int :: ks)).rd b i e = (.int n :: ((Th.flat ks).rd b i1 e1).1, ((Th.flat ks).rd b i1 e1).2) := by
    show ((rdF .int b i e).1 :: (rdAll ks b (rdF .int b i e).2.1 (rdF .int b i e).2.2).1, (rdAll ks b (rdF .int b i e).2.1 (rdF .int b i e).2.2).2) = _
    rw [h1]
  obtain ⟨⟨f, j, g⟩, hf⟩ : ∃ s, (Th.flat ks).rd b i1 e1 = s := ⟨_, rfl⟩
  rw [hf] at h0
  have h3 : ((((( (Th.flat ks).rd b i1 e1).1, (B.rd b ((Th.flat ks).rd b i1 e1).2.1 ((Th.flat ks).rd b i1 e1).2.2).1), (C.rd b (B.rd b ((Th.flat ks).rd b i1 e1).2.1 ((Th.flat ks).rd b i1 e1).2.2).2.1 (B.rd b ((Th.flat ks).rd b i1 e1).2.1 ((Th.flat ks).rd b i1 e1).2.2).2.2).1), (D.rd b (C.rd b (B.rd b ((Th.flat ks).rd b i1 e1).2.1 ((Th.flat ks).rd b i1 e1).2.2).2.1 (B.rd b ((Th.flat ks).rd b i1 e1).2.1 ((Th.flat ks).rd b i1 e1).2.2).2.2).2.1 (C.rd b (B.rd b ((Th.flat ks).rd b i1 e1).2.1 ((Th.flat ks).rd b i1 e1).2.2).2.1 (B.rd b ((Th.flat ks).rd b i1 e1).2.1 ((Th.flat ks).rd b i1 e1).2.2).2.2).2.2).1), (D.rd b (C.rd b (B.rd b ((Th.flat ks).rd b i1 e1).2.1 ((Th.flat ks).rd b i1 e1).2.2).2.1 (B.rd b ((Th.flat ks).rd b i1 e1).2.1 ((Th.flat ks).rd b i1 e1).2.2).2.2).2.1 (C.rd b (B.rd b ((Th.flat ks).rd b i1 e1).2.1 ((Th.flat ks).rd b i1 e1).2.2).2.1 (B.rd b ((Th.flat ks).rd b i1 e1).2.1 ((Th.flat ks).rd b i1 e1).2.2).2.2).2.2).2) = (x, i2, e2) := h2
  show ((((( (Th.flat (.int :: ks)).rd b i e).1, (B.rd b ((Th.flat (.int :: ks)).rd b i e).2.1 ((Th.flat (.int :: ks)).rd b i e).2.2).1), (C.rd b (B.rd b ((Th.flat (.int :: ks)).rd b i e).2.1 ((Th.flat (.int :: ks)).rd b i e).2.2).2.1 (B.rd b ((Th.flat (.int :: ks)).rd b i e).2.1 ((Th.flat (.int :: ks)).rd b i e).2.2).2.2).1), (D.rd b (C.rd b (B.rd b ((Th.flat (.int :: ks)).rd b i e).2.1 ((Th.flat (.int :: ks)).rd b i e).2.2).2.1 (B.rd b ((Th.flat (.int :: ks)).rd b i e).2.1 ((Th.flat (.int :: ks)).rd b i e).2.2).2.2).2.1 (C.rd b (B.rd b ((Th.flat (.int :: ks)).rd b i e).2.1 ((Th.flat (.int :: ks)).rd b i e).2.2).2.1 (B.rd b ((Th.flat (.int :: ks)).rd b i e).2.1 ((Th.flat (.int :: ks)).rd b i e).2.2).2.2).2.2).1), (D.rd b (C.rd b (B.rd b ((Th.flat (.int :: ks)).rd b i e).2.1 ((Th.flat (.int :: ks)).rd b i e).2.2).2.1 (B.rd b ((Th.flat (.int :: ks)).rd b i e).2.1 ((Th.flat (.int :: ks)).rd b i e).2.2).2.2).2.1 (C.rd b (B.rd b ((Th.flat (.int :: ks)).rd b i e).2.1 ((Th.flat (.int :: ks)).rd b i e).2.2).2.1 (B.rd b ((Th.flat (.int :: ks)).rd b i e).2.1 ((Th.flat (.int :: ks)).rd b i e).2.2).2.2).2.2).2) = _
  rw [h0]
  rw [hf] at h3
  have hx := congrArg (·.1) h3
  have hi := congrArg (·.2) h3
  simp only at hx hi
  rw [← hx, ← hi]
theorem post_rd {b : List UInt8} {i e : Nat} {n : Int} {i1 e1 : Nat} {x : thletter.X} {i2 e2 : Nat} (h1 : rdF .int b i e = (.int n, i1, e1)) (h2 : thletter.rd b i1 e1 = (x, i2, e2)) : thposted.rd b i e = (post n x, i2, e2) := post_rd4 _ _ _ _ h1 h2
/-- A letter out of what was posted. -/
theorem post_out {w : World} {ok : Nat → Prop} {y : thposted.X} {cs : List Value} (h : thposted.M w ok y cs) : ∃ n x us, y = post n x ∧ cs = .int .i64 n :: us ∧ thletter.M w ok x us ∧ -9223372036854775808 ≤ n ∧ n ≤ 9223372036854775807 := by
  obtain ⟨⟨⟨y0, y1⟩, y2⟩, y3⟩ := y
  obtain ⟨r3, s3, rfl, q3, h3⟩ := Th.split h
  obtain ⟨r2, s2, rfl, q2, h2⟩ := Th.split q3
  obtain ⟨s0, s1, rfl, h0, h1⟩ := Th.split q2
  simp only at h0 h1 h2 h3
  obtain ⟨hk, hF⟩ := h0
  match y0, s0, hk, hF with
  | f :: fs, v :: vs, hk, hF =>
    have hf : f.kd = .int := by simp only [List.map_cons, List.cons.injEq] at hk; exact hk.1
    obtain ⟨u, hu, hv⟩ := hF.each 0 (by simp)
    simp only [List.getElem?_cons_zero, Option.some.injEq, List.getElem_cons_zero] at hu hv
    subst hu
    cases f <;> first | cases hf | skip
    rename_i n
    obtain ⟨rfl, hn⟩ := hv
    refine ⟨n, (((fs, y1), y2), y3), ((vs ++ s1) ++ s2) ++ s3, rfl, rfl, pair_app (pair_app (pair_app ⟨?_, ?_⟩ h1) h2) h3, hn⟩
    · simp only [List.map_cons, List.cons.injEq] at hk; exact hk.2
    · have h5 := hF.part 1 fs.length
      have hl := hF.len
      simp only [List.length_cons] at hl
      simpa [List.take_of_length_le (show vs.length ≤ fs.length by omega)] using h5
  | [], _, hk, _ => simp at hk
  | _ :: _, [], _, hF => have := hF.len; simp at this
theorem post_inj {n m : Int} {x y : thletter.X} (h : post n x = post m y) : n = m ∧ x = y := by
  obtain ⟨⟨⟨x0, x1⟩, x2⟩, x3⟩ := x
  obtain ⟨⟨⟨y0, y1⟩, y2⟩, y3⟩ := y
  simp only [post, Prod.mk.injEq, List.cons.injEq, Fv.int.injEq] at h
  obtain ⟨⟨⟨⟨rfl, rfl⟩, rfl⟩, rfl⟩, rfl⟩ := h
  exact ⟨rfl, rfl⟩
theorem post_in {w : World} {ok : Nat → Prop} {n : Int} {x : thletter.X} {cs : List Value} (h : thposted.M w ok (post n x) cs) : ∃ us, cs = .int .i64 n :: us ∧ thletter.M w ok x us := by
  obtain ⟨m, y, us, he, rfl, hM, _⟩ := post_out h
  obtain ⟨rfl, rfl⟩ := post_inj he
  exact ⟨us, rfl, hM⟩
theorem at_one (v : Value) (us : List Value) : At (v :: us) 1 us := fun j u hu => by rw [Nat.add_comm]; exact hu
/-- A pen that reads: its reader's fault and its own. -/
@[reducible] def prX (gp gr : Nat) (g : Option Nat) (c : Nat) (sp : List Value) (b : List UInt8) (j p q : Nat) : List Ent := [(some gp, 138, [.pointer (some ⟨gr, 0, none⟩), .slice none 0 0, .bool false, .int .i64 (q : Int)]), (some gr, 220, rc (hd g) b c j p), (g, 5, u8s b ++ sp)]
theorem outB_x {gp gr : Nat} {gb : Option Nat} {cb : Nat} {sb : List Value} {b : List UInt8} {A : Th} {go o : Nat} {T : TypeId} {cs : List Value} {i e n : Nat} {w0 w' : World} {S : List Nat} (h : RdOutB gp gr gb cb sb b A go o T cs i e n w0 S w') {x : A.X} {i2 e2 : Nat} (hx : A.rd b i e = (x, i2, e2)) (hi : i2 ≤ b.length) :
    ∃ us j p q, us.length = A.sz ∧ j ≤ b.length ∧ Hp w0 w' S (prX gp gr gb cb sb b j p q ++ [(some go, T, putAt cs o us)]) ∧ ((q = 0 ∧ j = i2 ∧ p = e2) ∨ (q = e2 ∧ q ≠ 0)) ∧ (e2 = 0 → us.all (·.oneCell') = true ∧ A.M w' (Fr w' n (prX gp gr gb cb sb b j p q ++ [(some go, T, putAt cs o us)])) x us) := by
  rcases h with ⟨us, h1, h2, h3, h4⟩ | ⟨h1, j, us, h2, h3, h4⟩
  · rw [hx] at h3 h4
    exact ⟨us, i2, e2, 0, h1, hi, h3, .inl ⟨rfl, rfl, rfl⟩, fun h0 => ⟨h2, h4 h0⟩⟩
  · rw [hx] at h1 h4
    exact ⟨us, j, 0, e2, h3, h2, h4, .inr ⟨rfl, h1⟩, fun h0 => absurd h0 h1⟩
/-- A letter read by a pen. -/
def RdX (gp gr : Nat) (gb : Option Nat) (cb : Nat) (sb : List Value) (b : List UInt8) (gl gi : Nat) (n : Nat) (w0 : World) (S : List Nat) (w' : World) : Prop :=
  ∃ us v j p q, us.length = thletter.sz ∧ j ≤ b.length ∧ Hp w0 w' S (prX gp gr gb cb sb b j p q ++ [(some gl, 72, us), (some gi, 3, [v])]) ∧
    ((q = 0 ∧ j = (thposted.rd b 0 0).2.1 ∧ p = (thposted.rd b 0 0).2.2) ∨ (q = (thposted.rd b 0 0).2.2 ∧ q ≠ 0)) ∧
    ((thposted.rd b 0 0).2.2 = 0 → us.all (·.oneCell') = true ∧ ∃ m x, (thposted.rd b 0 0).1 = post m x ∧ v = .int .i64 m ∧ (-9223372036854775808 ≤ m ∧ m ≤ 9223372036854775807) ∧ thletter.M w' (Fr w' n (prX gp gr gb cb sb b j p q ++ [(some gl, 72, us), (some gi, 3, [v])])) x us)
section
variable {P : Program} {fn : Func} {l : List Value} {w w0 : World} {R : Value → World → Prop} {zs : List Value} {sz bytes : Nat}
theorem fin_tmp_cell_tmp {r1 r2 r3 : Tmp} {ty : TypeId} (hr : fn.results = #[.tmp r1, .cell r2 ty, .tmp r3]) (ht : TyOk P ty zs sz bytes true) {g : Nat} {cs : List Value} {v1 v3 : Value} (h0 : nth l r1 = some v1) (h1 : nth l r2 = some (.pointer (some ⟨g, 0, none⟩))) (h2 : nth l r3 = some v3) (hl : cs.length = sz) (hc : ∀ j u, cs[j]? = some u → w.cell? ((⟨g, 0, none⟩ : Addr).add j) = some u) (h : R (.tuple #[v1, .agg cs.toArray, v3]) w) : fin P fn R .ret l w := by
  refine ⟨.tuple #[v1, .agg cs.toArray, v3], ?_, h⟩
  have hl2 := run_loadVarN (P := P) (w := w) ht hl hc
  rw [nth_eq] at h0 h1 h2
  simp [results, hr, h0, h1, h2, asAddr, hl2]
end
/-- What a pen's read of a letter answers. -/
def RdLet (b : List UInt8) (w0 w' : World) (r : Value) : Prop :=
  ∃ (n : Int) (x : thletter.X) (cells : List Value), gotR thposted b = post n x ∧ (-9223372036854775808 ≤ n ∧ n ≤ 9223372036854775807) ∧ r = .tuple #[.int .i64 n, .agg cells.toArray, .int .i64 (errR thposted b : Int)] ∧ thletter.M w' (fun p => w0.heap.size ≤ p ∧ Tw w' p) x cells ∧ Hp w0 w' [] []
theorem wf64 {n : Int} (h : (Lit.int .i64 n).wf = true) : -9223372036854775808 ≤ n ∧ n ≤ 9223372036854775807 := by
  simp only [Lit.wf, Bool.and_eq_true, decide_eq_true_eq] at h
  exact h
end Go.Proofs.Ytoeobicpdeklaaa
