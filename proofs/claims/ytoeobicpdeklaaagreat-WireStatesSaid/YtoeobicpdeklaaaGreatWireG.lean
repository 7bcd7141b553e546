/- Walks of layer 2, printed by wip/gen/codec.py. -/
import Derived.Test.YtoeobicpdeklaaaGreatNrm
import Derived.Test.YtoeobicpdeklaaaGreatWr
namespace Go.Proofs.YtoeobicpdeklaaaGreat
open Go Go.RowKit
set_option linter.unusedVariables false
attribute [local irreducible] Still Ops Does Cd
theorem pl80 : placesOf Tryz.prog 80 = some [(0, 1), (1, 1), (2, 1), (3, 1)] := by kernel_rfl
theorem pl51 : placesOf Tryz.prog 51 = some [(0, 1), (1, 1), (2, 1)] := by kernel_rfl
theorem pl62 : placesOf Tryz.prog 62 = some [(0, 1), (1, 1), (2, 1), (3, 1), (4, 1), (5, 1), (6, 1), (7, 1), (8, 1), (9, 1), (10, 1), (11, 6), (17, 7), (24, 1)] := by kernel_rfl
set_option maxRecDepth 100000 in
set_option maxHeartbeats 4000000 in
theorem written_any (fl : List Fv) (fc : FuncId) (capt : List Value) (w0 : World) (hg : goFn Tryz.prog fc = true) (hfc : ∀ gp w1, Hp w0 w1 [] (pw gp none 0 [] W0) → Does Tryz.prog fc (Ptr0 gp :: capt).toArray w1 (fun _ w' => PwOut gp (wAll fl W0) w1 (bl (pw gp none 0 [] W0)) w')) :
    Does Tryz.prog 12 #[.func (.func fc) #[] capt.toArray] w0 (fun r w' => WrRes w0 w' r (wAll fl W0)) := by
  refine does_of Tryz.func12 Tryz.ntmps12 rfl ?_
  refine nR18 ?_
  have H := Hp.refl w0
  refine run_seq ?_
  refine run_region ?_
  refine ops_val (ex_assign rfl) ?_
  refine ops_val (ex_assign rfl) ?_
  refine ops_nil ?_
  refine nR18 ?_
  refine run_seq ?_
  refine run_region ?_
  refine ops_val (ex_build ty80 pl80 rfl rfl) ?_
  refine ops_box rfl rfl H ?_
  intro w1 g1 H1 hg1
  refine ops_val (ex_assign rfl) ?_
  refine ops_nil ?_
  refine nR18 ?_
  refine run_seq ?_
  refine run_region ?_
  refine ops_val (ex_move rfl) ?_
  refine ops_val (ex_move rfl) ?_
  have HP : Hp w0 w1 [] (pw g1 none 0 [] W0) := Hp.nil H1 5
  refine ops_call (ex_call_val hg rfl rfl) (hfc _ _ HP) ?_
  rintro _ w2 ⟨g, cap, sp, hP, Hd⟩
  obtain ⟨st, hst⟩ : ∃ st, wAll fl W0 = st := ⟨_, rfl⟩
  rw [hst] at hP Hd
  have H2 := HP.all Hd
  refine ops_nil ?_
  refine nR18 ?_
  refine run_seq ?_
  refine run_seq ?_
  refine run_region ?_
  refine ops_val (ex_move rfl) ?_
  refine ops_val (ex_nilCheck rfl) ?_
  refine ops_val (ex_fieldAddr fl80_2 rfl) ?_
  refine ops_val (ex_load ty4 rfl (H2.cell (i := 0) rfl rfl)) ?_
  refine ops_nil ?_
  refine nR18 ?_
  refine run_cond rfl (fun hb13 => ?_) (fun hb13 => ?_)
  · obtain ⟨q1, q2⟩ := errOf_long hb13
    refine run_seq ?_
    refine run_region ?_
    refine ops_val (ex_assign rfl) ?_
    refine ops_val (ex_assign rfl) ?_
    refine ops_nil ?_
    refine nR18 ?_
    refine run_ret ?_
    refine fin_ret2 rfl rfl rfl ?_
    rw [hst]
    exact ⟨none, 0, [], by rw [q1, q2]; rfl, by rw [q1]; exact Nat.le_refl 0, Nat.zero_le _, fun _ => rfl, by rw [q1]; decide, by rw [q1]; exact Hp.nil (H2.pick [] (by decide)) 5⟩
  · obtain ⟨q1, q2⟩ := errOf_ok hb13
    refine run_skip ?_
    refine run_seq ?_
    refine run_region ?_
    refine ops_val (ex_move rfl) ?_
    refine ops_val (ex_nilCheck rfl) ?_
    refine ops_val (ex_fieldAddr fl80_1 rfl) ?_
    refine ops_val (ex_load ty29 rfl (H2.cell (i := 0) rfl rfl)) ?_
    refine nO18 ?_
    refine ops_val (ex_assign rfl) ?_
    refine ops_val (ex_assign rfl) ?_
    refine ops_nil ?_
    refine nR18 ?_
    refine run_ret ?_
    refine fin_ret2 rfl rfl rfl ?_
    rw [hst]
    exact ⟨g, cap, sp, by rw [q1, q2]; rfl, by rw [q1]; exact hP.le, by rw [q1]; exact hP.room, hP.nil, by rw [q1]; exact hP.most, by rw [q1]; exact H2.pick [1] (by decide)⟩
set_option maxRecDepth 100000 in
set_option maxHeartbeats 4000000 in
theorem read_any (A : Th) (AA : Option Addr) (b : List UInt8) (c : Nat) (go : Nat) (U : TypeId) (cs : List Value) (fc : FuncId) (capt : List Value) (w0 : World) (H0 : Hp w0 w0 [go] [(some go, U, cs)]) (hcs : cs.length = A.sz) (hr : Rd w0 AA b.length 1 (u8s b)) (hra : 0 < b.length → ∀ a, AA = some a → a.block ∉ [go]) (hg : goFn Tryz.prog fc = true) (hfc : ∀ gp gr gb cb sb w1, b.length ≤ cb → b.length ≤ 65536 → Hp w0 w1 [go] (pr gp gr gb cb sb b 0 0 ++ [(some go, U, cs)]) → Does Tryz.prog fc (Ptr0 gp :: capt).toArray w1 (fun _ w' => RdOut (pr gp gr gb cb sb b) A go 0 U cs b 0 0 w1.heap.size w1 (bl (pr gp gr gb cb sb b 0 0 ++ [(some go, U, cs)])) w')) :
    Does Tryz.prog 18 #[.slice AA b.length c, .func (.func fc) #[] capt.toArray] w0 (fun r w' => r = .int .i64 (errR A b : Int) ∧ ∃ cs', cs'.length = A.sz ∧ Hp w0 w' [go] [(some go, U, cs')] ∧ (errR A b = 0 → A.M w' (fun p => w0.heap.size ≤ p ∧ p ∉ [go] ∧ Tw w' p) (A.rd b 0 0).1 cs')) := by
  refine does_of Tryz.func18 Tryz.ntmps18 rfl ?_
  refine nR30 ?_
  have H := H0
  refine run_seq ?_
  refine run_region ?_
  refine ops_val (ex_assign rfl) ?_
  refine ops_nil ?_
  refine nR30 ?_
  refine run_seq ?_
  refine run_seq ?_
  refine run_region ?_
  refine ops_val (ex_move rfl) ?_
  refine ops_val (ex_len_slice Tryz.underlying29 rfl) ?_
  refine ops_test (ex_gtr rfl rfl) (fun hp8 => ?_) (fun hp8 => ?_)
  · have he : errR A b = 22 := if_pos (by omega)
    refine ops_nil ?_
    refine nR30 ?_
    refine run_cond_true rfl ?_
    refine run_seq ?_
    refine run_region ?_
    refine ops_val (ex_assign rfl) ?_
    refine ops_nil ?_
    refine nR30 ?_
    refine run_ret ?_
    refine fin_ret1 rfl rfl ?_
    exact ⟨by rw [he]; rfl, cs, hcs, H, fun h => by rw [he] at h; cases h⟩
  · have hbl : b.length ≤ 65536 := by omega
    refine ops_nil ?_
    refine nR30 ?_
    refine run_cond_false rfl ?_
    refine run_skip ?_
    refine run_seq ?_
    refine run_region ?_
    refine ops_val (ex_move rfl) ?_
    refine ops_new (ex_call gf56 rfl) (new_any AA b c _ (hr.fc H hra) (by omega)) ?_
    intro w1 gr g cap sp hcb hroom hnil Hd
    have H1 := H.call0 Hd
    refine ops_val (ex_build ty80 pl80 rfl rfl) ?_
    refine ops_box rfl rfl H1 ?_
    intro w2 g2 H2 hg2
    refine nO30 ?_
    obtain ⟨gpn, hgpn⟩ : ∃ x, x = g2 := ⟨_, rfl⟩
    subst hgpn
    refine ops_val (ex_assign rfl) ?_
    refine ops_nil ?_
    refine nR30 ?_
    refine run_seq ?_
    refine run_region ?_
    refine ops_val (ex_move rfl) ?_
    refine ops_val (ex_move rfl) ?_
    have HX : Hp w0 w2 [go] (pr gpn gr g cap sp b 0 0 ++ [(some go, U, cs)]) := H2.pick [3, 1, 2, 0] (by decide)
    refine ops_call (ex_call_val hg rfl rfl) (hfc gpn gr g cap sp _ hcb hbl HX) ?_
    rintro _ w3 ⟨us, hul, hone, Hd, hM⟩
    obtain ⟨⟨x, i, e⟩, hx⟩ : ∃ y, A.rd b 0 0 = y := ⟨_, rfl⟩
    rw [hx] at Hd hM
    simp only at Hd hM
    have hil : i ≤ b.length := by have := A.le (b := b) (i := 0) (e := 0) (Nat.zero_le _); rw [hx] at this; exact this
    have hpu : putAt cs 0 us = us := by
      unfold putAt
      rw [List.drop_of_length_le (by omega)]
      simp
    rw [hpu] at Hd hM
    have hsz := HX.size
    have H3 := HX.all Hd
    refine ops_nil ?_
    refine nR30 ?_
    refine run_seq ?_
    refine run_seq ?_
    refine run_region ?_
    refine ops_val (ex_move rfl) ?_
    refine ops_val (ex_nilCheck rfl) ?_
    refine ops_val (ex_fieldAddr fl80_3 rfl) ?_
    refine ops_val (ex_load ty32 rfl (H3.cell (i := 0) rfl rfl)) ?_
    refine nO30 ?_
    refine ops_false (ex_neq rfl rfl) (by simp) ?_
    refine ops_nil ?_
    refine nR30 ?_
    refine run_cond_false rfl ?_
    refine run_skip ?_
    refine run_seq ?_
    refine run_region ?_
    refine ops_val (ex_move rfl) ?_
    refine ops_val (ex_nilCheck rfl) ?_
    refine ops_val (ex_fieldAddr fl80_0 rfl) ?_
    refine ops_val (ex_load ty78 rfl (H3.cell (i := 0) rfl rfl)) ?_
    refine nO30 ?_
    refine ops_call_val (ex_call gf57 rfl) (end_rd gr (hd g) cap b i e _ (rdr_of H3 (j := 1) (k := 2) rfl rfl (by decide) hcb (by omega) hil)) ?_
    intro w4 He
    have hMe := fun h0 => Fr.to (hM h0) (H3.here.call0 He)
    have H4 := H3.call0 He
    refine ops_val (ex_assign rfl) ?_
    refine ops_nil ?_
    refine nR30 ?_
    refine run_ret ?_
    refine fin_ret1 rfl rfl ?_
    have he : errR A b = if e = 0 ∧ i < b.length then 24 else e := by
      unfold errR
      rw [if_neg (by omega), hx]
      simp only
      split
      · rw [if_neg (by omega)]
      · split
        · rw [if_pos ⟨by omega, by assumption⟩]
        · rw [if_neg (by omega)]; omega
    refine ⟨by rw [he], us, hul, H4.pick [3] (by decide), fun h0 => ?_⟩
    rw [he] at h0
    have he0 : e = 0 := by split at h0 <;> omega
    have h2 := hMe he0
    rw [hx]
    exact A.mono h2 fun p hp => ⟨by have := hp.1; omega, fun hq => hp.2.1 (by simp only [List.mem_singleton] at hq; subst hq; simp [bl]), hp.2.2⟩
end Go.Proofs.YtoeobicpdeklaaaGreat
