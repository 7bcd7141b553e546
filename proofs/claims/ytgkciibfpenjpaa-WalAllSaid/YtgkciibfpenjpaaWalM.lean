/- Walks of layer 2, printed by wip/gen/codec.py. -/
import Derived.Test.YtgkciibfpenjpaaNrm
import Derived.Test.YtgkciibfpenjpaaWalL
namespace Go.Proofs.Ytgkciibfpenjpaa
open Go Go.RowKit
set_option linter.unusedVariables false
attribute [local irreducible] Still Ops Does Cd
theorem Hp.wide {w0 w : World} {S S' : List Nat} {es : List Ent} (H : Hp w0 w S es) (h : ∀ b ∈ S, b ∈ S') : Hp w0 w S' es := by
  refine ⟨H.os, H.tape, H.output, H.size, fun k hk hn => H.frame k hk (fun hx => hn (h _ hx)), fun i e he => ?_, H.apart⟩
  have h1 := H.ent i e he
  unfold EntOk at h1 ⊢
  split
  · rename_i hn; rw [hn] at h1; exact h1
  · rename_i g hg
    rw [hg] at h1
    exact ⟨h1.1, h1.2.elim (fun hx => .inl (h _ hx)) .inr⟩
/-- What another did since, to other blocks. -/
theorem Hp.past {w0 W W' : World} {S T : List Nat} {es : List Ent} (H : Hp w0 W S es) (H' : Hp W W' T []) (hT : ∀ b ∈ T, b ∈ S ∨ w0.heap.size ≤ b) (hne : ∀ b ∈ bl es, b ∉ T) : Hp w0 W' S es := by
  refine ⟨H'.os.trans H.os, H'.tape.trans H.tape, H'.output.trans H.output, Nat.le_trans H.size H'.size, ?_, ?_, H.apart⟩
  · intro k hk hkS
    rw [H'.frame k (by have := H.size; omega) (fun hx => by rcases hT k hx with h1 | h1; exact hkS h1; omega)]
    exact H.frame k hk hkS
  · intro i e he
    have h := H.ent i e he
    unfold EntOk at h ⊢
    split
    · rename_i hn; rw [hn] at h; exact h
    · rename_i g hg
      rw [hg] at h
      have hb : g ∈ bl es := List.mem_filterMap.2 ⟨e, List.mem_of_getElem? he, hg⟩
      exact ⟨by rw [H'.frame g (Array.getElem?_eq_some_iff.1 h.1).1 (hne g hb)]; exact h.1, h.2⟩
def recB : Value → Option Nat
  | .slice (some p) (_ + 1) _ => some p.block
  | _ => none
/-- Where the records lie that are not empty. -/
def recBs (xs : List Value) : List Nat := xs.filterMap recB
theorem mem_recBs {xs : List Value} {i n c : Nat} {p : Addr} (h : xs[i]? = some (.slice (some p) n c)) (h0 : 0 < n) : p.block ∈ recBs xs := by
  cases n with
  | zero => omega
  | succ n => exact List.mem_filterMap.2 ⟨_, List.mem_of_getElem? h, rfl⟩
theorem recBs_lt {w : World} {es : List Ent} {xs : List Value} {bs : List Blk} (h : Lsw w es xs bs) : ∀ b ∈ recBs xs, b < w.heap.size := by
  intro b hb
  obtain ⟨v, hv, hr⟩ := List.mem_filterMap.1 hb
  obtain ⟨i, hi⟩ := List.getElem?_of_mem hv
  have hlt : i < bs.length := by rw [← h.1]; exact lt_of_get hi
  obtain ⟨B, c, h1, h2, _⟩ := h.2 i hlt
  rw [hi] at h1
  simp only [Option.some.injEq] at h1
  subst h1
  cases B with
  | none => simp [recB] at hr
  | some p =>
    cases hn : bs[i] with
    | nil => rw [hn] at hr; simp [recB] at hr
    | cons x l =>
      rw [hn] at hr
      simp only [List.length_cons, recB, Option.some.injEq] at hr
      rw [← hr]
      exact rd_lt h2 (by rw [hn]; simp) rfl
/-- What the k-th round is given: a number, a record of its own. -/
def AllIt (z : Nat) (W : Wl) (k : Nat) (w : World) (args : List Value) (G : List Nat) : Prop :=
  ∃ (b : Blk) (g : Option Nat) (cap : Nat) (sp : List Value), W.recs[k]? = some b ∧ args = [.int .i64 ((W.first + k : Nat) : Int), .slice (hd g) b.length cap] ∧ b.length ≤ cap ∧ cap ≤ (u8s b ++ sp).length ∧ (g = none → cap = 0) ∧ G = bl [(g, 5, u8s b ++ sp)] ∧ Hp w w G [(g, 5, u8s b ++ sp)] ∧ ∀ x ∈ G, z ≤ x
set_option maxRecDepth 100000 in
set_option maxHeartbeats 4000000 in
theorem all_any (v : Value) (w0 : World) (hv : v.cells = [v].toArray) :
    Does Try.prog 20 #[v] w0 (fun r w' => ∃ gb, r = .func (.func 53) #[] [.pointer (some ⟨gb, 0, none⟩)].toArray ∧ Hp w0 w' [] [(some gb, 28, [v])]) := by
  refine does_of Try.func20 Try.ntmps20 rfl ?_
  change Run _ _ _ _ [v, undef, undef, undef] _
  have H := Hp.refl w0
  refine run_seq ?_
  refine run_region ?_
  refine ops_box rfl hv H ?_
  intro w1 gb H1 hgb
  refine ops_val (ex_assign rfl) ?_
  refine ops_nil ?_
  change Run _ _ _ _ [_, _, _, _] _
  refine run_seq ?_
  refine run_region ?_
  refine ops_val (ex_makeFunc rfl rfl) ?_
  refine ops_val (ex_assign rfl) ?_
  refine ops_nil ?_
  change Run _ _ _ _ [_, _, _, _] _
  refine run_ret ?_
  refine fin_ret1 rfl rfl ?_
  exact ⟨gb, rfl, H1⟩
namespace Rn
attribute [local irreducible] Cd
set_option maxRecDepth 100000 in
set_option maxHeartbeats 4000000 in
theorem all_iter_nil (gb : Nat) (w1 : World) (It : Nat → World → List Value → List Nat → Prop) (hb : w1.cell? ⟨gb, 0, none⟩ = some (.pointer none)) : Iter Try.prog 53 [.pointer (some ⟨gb, 0, none⟩)] 0 [gb] It w1 := by
  intro L J X XP O0 hO hJO hJs hXs hY h0
  refine does_of Try.func53 Try.ntmps53 rfl ?_
  change Run _ _ _ _ [.func (.yield L) #[] #[], .pointer (some ⟨gb, 0, none⟩), undef, undef, undef, undef, undef, undef, undef, undef, undef, undef, undef, undef, undef, undef, undef, undef, undef, undef, undef, undef, undef, undef, undef, undef, undef, undef, undef, undef] _
  refine run_seq ?_
  refine run_seq ?_
  refine run_region rfl (fun _ _ h => h) ?_
  refine ops_val (ex_load ty28 rfl (hb)) ?_
  refine ops_true (ex_eql_nil_ptr Try.underlying28 rfl) (rfl) ?_
  refine ops_nil ?_
  change Run _ _ _ _ [_, _, _, _, _, _, _, _, _, _, _, _, _, _, _, _, _, _, _, _, _, _, _, _, _, _, _, _, _, _] _
  refine run_cond_true rfl ?_
  refine run_ret ?_
  exact ⟨_, results0 rfl _ _, .inl ⟨O0, h0⟩⟩
set_option maxRecDepth 100000 in
set_option maxHeartbeats 4000000 in
theorem all_iter (gb : Nat) (m : Mw) (D : Dk) (W : Wl) (wA : World) (HA : Hp wA wA (bl (wRows m D W)) (wRows m D W)) (h : WOk wA m D W) (hb : wA.cell? ⟨gb, 0, none⟩ = some (.pointer (some ⟨m.gv, 0, none⟩))) (z : Nat) (hz : z ≤ wA.heap.size) :
    Iter Try.prog 53 [.pointer (some ⟨gb, 0, none⟩)] W.recs.length (gb :: m.gv :: recBs m.xs) (AllIt z W) wA := by
  intro L J X XP O0 hO hJO hJs hXs hY h0
  refine does_of Try.func53 Try.ntmps53 rfl ?_
  change Run _ _ _ _ [.func (.yield L) #[] #[], .pointer (some ⟨gb, 0, none⟩), undef, undef, undef, undef, undef, undef, undef, undef, undef, undef, undef, undef, undef, undef, undef, undef, undef, undef, undef, undef, undef, undef, undef, undef, undef, undef, undef, undef] _
  have hmost := h.most
  have hfirst := h.first
  have hlr : Rd wA (hd m.gr) W.recs.length 1 m.xs := HA.rd (i := 4) (xs := m.xs) (sp := m.sr) rfl (by rw [h.lst.1, Nat.mul_one]) (by decide)
  refine run_seq ?_
  refine run_seq ?_
  refine run_region rfl (fun _ _ h => h) ?_
  refine ops_val (ex_load ty28 rfl (hb)) ?_
  refine ops_false (ex_eql_nil_ptr Try.underlying28 rfl) (by simp) ?_
  refine ops_nil ?_
  change Run _ _ _ _ [_, _, _, _, _, _, _, _, _, _, _, _, _, _, _, _, _, _, _, _, _, _, _, _, _, _, _, _, _, _] _
  refine run_cond_false rfl ?_
  refine run_skip ?_
  refine run_seq ?_
  refine run_region rfl (fun _ _ h => h) ?_
  refine ops_val (ex_load ty28 rfl (hb)) ?_
  refine ops_val (ex_nilCheck rfl) ?_
  refine ops_val (ex_fieldAddr fl58_4 rfl) ?_
  refine ops_val (ex_load ty29 rfl (HA.cell (i := 3) rfl rfl)) ?_
  refine nO30 ?_
  refine ops_call (ex_call gf54 rfl) (cloneBS_any (hd m.gr) W.recs.length m.cr m.xs wA hlr h.lst.ones (by omega)) ?_
  rintro r w1 ⟨gl, cl, sl, hr, hc1, hc2, hc3, Hc⟩
  rw [hr]
  have H1 := Hp.wide Hc (S' := O0) (by simp)
  have hJ0 : J 0 w1 O0 := hJs 0 wA O0 w1 h0 Hc.noRows
  have hO0 : ∀ b ∈ O0, (b ∈ O0 ∨ wA.heap.size ≤ b) ∧ b ∉ bl [((gl, 34, m.xs ++ sl) : Ent)] := fun b hx => ⟨.inl hx, fun hx2 => by
    have h1 := hJO 0 wA O0 h0 b hx
    rcases bl_place Hc b hx2 with h2 | h2
    · cases h2
    · omega⟩
  refine ops_val (ex_len_slice Try.underlying29 rfl) ?_
  refine ops_val (ex_move rfl) ?_
  refine ops_nil ?_
  change Run _ _ _ _ [_, _, _, _, _, _, _, _, _, _, _, _, _, _, _, _, _, _, _, _, _, _, _, _, _, _, _, _, _, _] _
  refine run_block ?_
  refine run_loop (fun n l w => ∃ (k : Nat) (y : Int) (O : List Nat), W.recs.length - k = n ∧ Fits [some (.func (.yield L) #[] #[]), some (.pointer (some ⟨gb, 0, none⟩)), none, none, none, none, none, none, none, none, none, some (.slice (hd gl) W.recs.length cl), some (.int .i64 (W.recs.length : Int)), some (.int .i64 y), none, none, none, none, none, none, none, none, none, none, none, none, none, none, none, none] l ∧ y = (k : Int) ∧ k ≤ W.recs.length ∧ J k w O ∧ (∀ b ∈ O, (b ∈ O0 ∨ wA.heap.size ≤ b) ∧ b ∉ bl [((gl, 34, m.xs ++ sl) : Ent)]) ∧ Hp wA w O0 [(gl, 34, m.xs ++ sl)]) (W.recs.length) ?_ ?_
  · exact ⟨0, _, O0, rfl, (fs (fs (fn (fn (fn (fn (fn (fn (fn (fn (fn (fs (fs (fs (fn (fn (fn (fn (fn (fn (fn (fn (fn (fn (fn (fn (fn (fn (fn (fn f0)))))))))))))))))))))))))))))), rfl, Nat.zero_le _, hJ0, hO0, H1⟩
  · rintro n l w2 ⟨k, y, O, rfl, hfit, rfl, hk, hJ, hOk, H2⟩
    obtain ⟨j, rfl⟩ := hfit.open
    change Run _ _ _ _ [_, _, _, _, _, _, _, _, _, _, _, _, _, _, _, _, _, _, _, _, _, _, _, _, _, _, _, _, _, _] _
    clear hfit
    have HR := H2
    have H2 := Hp.refl w2
    refine run_seq ?_
    refine run_region rfl (fun _ _ h => h) ?_
    refine ops_test (ex_lss rfl rfl) (fun hp14 => ?_) (fun hp14 => ?_)
    · have hkl : k < W.recs.length := by omega
      obtain ⟨Bk, ck, hxk, hrk, hak⟩ := h.lst.2 k hkl
      have hlk := h.long _ (List.getElem_mem hkl)
      obtain ⟨gx, hgx⟩ : ∃ x, gl = some x := by
        cases hx : gl with
        | none => have := hc3 hx; omega
        | some x => exact ⟨x, rfl⟩
      have hbk : w2.cell? ⟨gb, 0, none⟩ = some (.pointer (some ⟨m.gv, 0, none⟩)) := cell_toW hb HR (fun hx => hO _ hx (by simp))
      have hfk : w2.cell? ⟨m.gv, 3, none⟩ = some (.int .i64 (W.first : Int)) := cell_toW (HA.cell (i := 3) (o := 3) rfl rfl) HR (fun hx => hO _ hx (by simp))
      have hlx : w2.cell? ⟨gx, k, none⟩ = some (.slice Bk W.recs[k].length ck) := HR.cell (i := 0) (g := gx) (T := 34) (cs := m.xs ++ sl) (o := k) (by rw [← hgx]; rfl) (by rw [List.getElem?_append_left (lt_of_get hxk)]; exact hxk)
      have hrd : Rd w2 Bk W.recs[k].length 1 (u8s W.recs[k]) := Rd.fcw hrk HR (fun h0 p hp hx => by subst hp; exact hO _ hx (by simp only [List.mem_cons]; exact .inr (.inr (mem_recBs hxk h0))))
      have hJOk := hJO k w2 O hJ
      have hHRs := HR.size
      have hgle : ∀ b ∈ bl [((gl, 34, m.xs ++ sl) : Ent)], b < w2.heap.size := fun b hx => by
        obtain ⟨arr, T, z, hz⟩ := bl_cells HR b hx
        exact (Array.getElem?_eq_some_iff.1 hz).1
      refine ops_nil ?_
      change Run _ _ _ _ [_, _, _, _, _, _, _, _, _, _, _, _, _, _, _, _, _, _, _, _, _, _, _, _, _, _, _, _, _, _] _
      refine run_seq ?_
      refine run_cond_true rfl ?_
      refine run_skip ?_
      refine run_seq ?_
      refine run_block ?_
      refine run_seq ?_
      refine run_region rfl (fun _ _ h => h) ?_
      refine ops_val (ex_move rfl) ?_
      refine ops_val (ex_idx Try.underlying29 ty34 (a := ⟨gx, 0, none⟩) (congrArg (fun A => some (Value.slice A W.recs.length cl)) (show hd gl = some ⟨gx, 0, none⟩ by rw [hgx]; rfl)) rfl rfl hkl (Nat.mul_one _)) ?_
      rw [addz]
      refine ops_val (ex_load ty34 rfl (hlx)) ?_
      refine ops_val (ex_assign rfl) ?_
      refine nO30 ?_
      refine ops_val (ex_assign rfl) ?_
      refine ops_nil ?_
      change Run _ _ _ _ [_, _, _, _, _, _, _, _, _, _, _, _, _, _, _, _, _, _, _, _, _, _, _, _, _, _, _, _, _, _] _
      refine run_seq ?_
      refine run_head 9 [(true, 0), (true, 1), (true, 2), (true, 3), (true, 4), (true, 5), (true, 6), (true, 7), (false, 8)] H2 [] mixed (by decide) (by kernel_rfl) rfl (fun _ _ h => h) ?_
      rintro w3 hw3
      have H3 := Hp.drew H2; rw [← hw3] at H3
      refine mix_p rfl ?_
      refine mix1_val (fun wz hz => ex_move rfl) ?_
      refine mix_p rfl ?_
      refine mix1_val (fun wz hz => ex_load ty28 rfl (cell_toW hbk hz (by simp))) ?_
      refine mix_p rfl ?_
      refine mix1_val (fun wz hz => ex_nilCheck rfl) ?_
      refine mix_p rfl ?_
      refine mix1_val (fun wz hz => ex_fieldAddr fl58_3 rfl) ?_
      refine nM30 ?_
      refine mix_p rfl ?_
      refine mix1_val (fun wz hz => ex_load ty3 rfl (cell_toW hfk hz (by simp))) ?_
      refine mix_p rfl ?_
      refine mix1_val (fun wz hz => ex_move rfl) ?_
      refine mix_p rfl ?_
      refine mix1_val (fun wz hz => ex_add rfl rfl ((IntWalk.i64_in _ (by omega)).trans (show ((W.first : Int) + (k : Int)) = ((W.first + k : Nat) : Int) by omega))) ?_
      refine mix_p rfl ?_
      refine mix1_val (fun wz hz => ex_move rfl) ?_
      refine nM30 ?_
      refine mix_o rfl ?_
      refine ops_call_own (ex_call gf40 rfl) (clone_any Bk W.recs[k] ck _ (Rd.fcw hrd H3 (by simp)) (by omega)) ?_
      intro w4 g11 c11 s11 hm11 hc11 hg11 Hc11
      have H4 := H3.call0 Hc11
      refine ops_nil ?_
      refine ⟨H4.pick [] (by decide), ?_⟩
      refine nM30 ?_
      refine mix_nil ?_
      have hJ2 : J k w4 O := hJs k _ O w4 hJ H4.noRows
      have hpl := bl_place (H4.pick [0] (by decide))
      have hown := (H4.pick [0] (by decide)).here
      have hGO : ∀ b ∈ bl [((g11, 5, u8s W.recs[k] ++ s11) : Ent)], b ∉ O := fun b hx hx2 => by
        have h1 := hJOk b hx2
        rcases hpl b hx with h2 | h2
        · cases h2
        · omega
      have hHs := H4.size
      have HM := HR.past H4.noRows (fun b hx => by cases hx) (fun b _ hx => by cases hx)
      have hHd := hJO k w4 O hJ2
      refine ⟨27, _, _, _, _, _, _, L, _, _, _, rfl, rfl, rfl, hY k w4 O [.int .i64 ((W.first + k : Nat) : Int), .slice (hd g11) W.recs[k].length c11] (bl [((g11, 5, u8s W.recs[k] ++ s11) : Ent)]) hkl hJ2 ⟨W.recs[k], g11, c11, s11, List.getElem?_eq_getElem hkl, rfl, hm11, (by rw [← Nat.mul_one c11]; exact hc11), hg11, rfl, hown, fun x hx => by
        rcases hpl x hx with h2 | h2
        · cases h2
        · omega⟩ hGO, ?_, fun ch wz hz => hz⟩
      rintro v wy ⟨O', hHy, hOy, hcase⟩
      have HRy := HM.past hHy (fun b hx => by
        rcases List.mem_append.1 hx with h1 | h1
        · exact (hOk b h1).1
        · rcases hpl b h1 with h2 | h2
          · cases h2
          · exact .inr (by omega)) (fun b hx hx2 => by
        rcases List.mem_append.1 hx2 with h1 | h1
        · exact (hOk b h1).2 hx
        · have h3 := hgle b hx
          rcases hpl b h1 with h2 | h2
          · cases h2
          · omega)
      have hOy2 : ∀ b ∈ O', (b ∈ O0 ∨ wA.heap.size ≤ b) ∧ b ∉ bl [((gl, 34, m.xs ++ sl) : Ent)] := by
        intro b hx
        rcases hOy b hx with h1 | h1
        · rcases List.mem_append.1 h1 with h1 | h1
          · exact hOk b h1
          · rcases hpl b h1 with h2 | h2
            · cases h2
            · exact ⟨.inr (by omega), fun h3 => by have := hgle b h3; omega⟩
        · exact ⟨.inr (by omega), fun h3 => by have := hgle b h3; omega⟩
      rcases hcase with ⟨rfl, hJy⟩ | ⟨rfl, hXy⟩
      · skip
        refine ops_val (ex_not rfl) ?_
        refine ops_nil ?_
        change Run _ _ _ _ [_, _, _, _, _, _, _, _, _, _, _, _, _, _, _, _, _, _, _, _, _, _, _, _, _, _, _, _, _, _] _
        refine run_cond_false rfl ?_
        refine run_skip ?_
        refine run_nil (blk_normal ?_)
        refine run_region rfl (fun _ _ h => h) ?_
        refine ops_val (ex_add rfl rfl (IntWalk.i64_in _ (by omega))) ?_
        refine ops_val (ex_move rfl) ?_
        refine ops_nil ?_
        change Run _ _ _ _ [_, _, _, _, _, _, _, _, _, _, _, _, _, _, _, _, _, _, _, _, _, _, _, _, _, _, _, _, _, _] _
        refine run_nil (rnd_normal ?_)
        refine ⟨rfl, ?_⟩
        exact ⟨W.recs.length - (k + 1), by omega, k + 1, _, O', rfl, (fs (fs (fn (fn (fn (fn (fn (fn (fn (fn (fn (fs (fs (fs (fn (fn (fn (fn (fn (fn (fn (fn (fn (fn (fn (fn (fn (fn (fn (fn f0)))))))))))))))))))))))))))))), by omega, by omega, hJy, hOy2, HRy⟩
      · skip
        refine ops_val (ex_not rfl) ?_
        refine ops_nil ?_
        change Run _ _ _ _ [_, _, _, _, _, _, _, _, _, _, _, _, _, _, _, _, _, _, _, _, _, _, _, _, _, _, _, _, _, _] _
        refine run_cond_true rfl ?_
        refine run_ret ?_
        refine blk_ret ?_
        refine rnd_ret ?_
        refine blk_ret ?_
        exact ⟨_, results0 rfl _ _, .inr hXy⟩
    · have hkN : k = W.recs.length := by omega
      subst hkN
      refine ops_nil ?_
      change Run _ _ _ _ [_, _, _, _, _, _, _, _, _, _, _, _, _, _, _, _, _, _, _, _, _, _, _, _, _, _, _, _, _, _] _
      refine run_seq ?_
      refine run_cond_false rfl ?_
      refine run_exit ?_
      refine rnd_exit ?_
      refine blk_exit ?_
      refine run_nil ?_
      exact ⟨_, results0 rfl _ _, .inl ⟨O, hJ⟩⟩
end Rn
end Go.Proofs.Ytgkciibfpenjpaa
