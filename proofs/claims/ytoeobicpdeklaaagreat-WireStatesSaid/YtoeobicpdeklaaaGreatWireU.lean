/- Walks of layer 2, printed by wip/gen/codec.py. -/
import Derived.Test.YtoeobicpdeklaaaGreatNrm
import Derived.Test.YtoeobicpdeklaaaGreatGet
import Derived.Test.YtoeobicpdeklaaaGreatWireH
namespace Go.Proofs.YtoeobicpdeklaaaGreat
open Go Go.RowKit
set_option linter.unusedVariables false
attribute [local irreducible] Still Ops Does Cd
theorem set_bytes {w : World} {x : List Fv} {vs : List Value} {i : Nat} {s : List UInt8} {B : Option Addr} {c : Nat} (h : FPs w (fun _ => True) x vs) (hx : x[i]? = some (.bytes s)) (hr : Rd w B s.length 1 (u8s s)) : FPs w (fun _ => True) x (vs.set i (.slice B s.length c)) := by
  refine ⟨by rw [List.length_set, h.len], fun j hj => ?_⟩
  obtain ⟨v, h1, h2⟩ := h.each j hj
  rw [List.getElem?_set]
  by_cases hij : i = j
  · subst hij
    rw [if_pos rfl, if_pos (by rw [h.len]; exact hj)]
    refine ⟨_, rfl, ?_⟩
    rw [List.getElem?_eq_getElem hj] at hx
    simp only [Option.some.injEq] at hx
    rw [hx]
    exact ⟨B, c, rfl, hr, fun _ _ _ => trivial⟩
  · rw [if_neg hij]
    exact ⟨v, h1, h2⟩
@[reducible] def thcommand_ks : List Kd := [.int, .int, .int, .int, .int, .int, .text, .int, .int, .int, .flag, .int, .text, .text, .int, .int, .int, .int, .int, .int, .text, .text, .int, .int, .bytes]
set_option maxRecDepth 100000 in
set_option maxHeartbeats 4000000 in
theorem awake3_any (w0 : World) :
    Does Tryz.prog 9 #[] w0 (fun r w' => r = .bool true ∧ Hp w0 w' [] []) := by
  refine does_of Tryz.func9 Tryz.ntmps9 rfl ?_
  refine nR15 ?_
  have H := Hp.refl w0
  obtain ⟨hz1, hz2⟩ := zero_all thcommand_ks W0 rfl (by decide)
  change (wAll (thcommand.fl thcommand.z) W0).long = false at hz1
  change (wAll (thcommand.fl thcommand.z) W0).out.length = 25 at hz2
  obtain ⟨he1, he2⟩ := errOf_ok hz1
  refine run_seq ?_
  refine run_region ?_
  refine ops_val (ex_assign rfl) ?_
  refine ops_nil ?_
  refine nR15 ?_
  refine run_seq ?_
  refine run_region ?_
  refine ops_val (ex_build ty62 pl62 rfl rfl) ?_
  refine ops_call_wr (ex_call gf22 rfl) (command_wr thcommand.z thcommand.zs _ (thcommand.zM _ _)) ?_
  intro w1 g cap sp q1 q2 q3 q4 Hd
  rw [he1, he2] at *
  rw [hz2] at *
  have H1 := H.call0 Hd
  refine ops_val (ex_move rfl) ?_
  refine ops_val (ex_extract rfl rfl) ?_
  refine nO15 ?_
  refine ops_val (ex_extract rfl rfl) ?_
  refine ops_val (ex_assign rfl) ?_
  refine ops_val (ex_assign rfl) ?_
  refine ops_nil ?_
  refine nR15 ?_
  refine run_seq ?_
  refine run_region ?_
  refine ops_val (ex_move rfl) ?_
  refine ops_true (ex_eql rfl rfl) (rfl) ?_
  refine ops_val (ex_move rfl) ?_
  refine nO15 ?_
  refine ops_yes rfl ?_
  refine ops_val (ex_move rfl) ?_
  refine ops_yes rfl ?_
  refine ops_val (ex_len_slice Tryz.underlying29 rfl) ?_
  refine nO15 ?_
  refine ops_yes rfl ?_
  refine ops_true (ex_eql rfl rfl) (rfl) ?_
  refine ops_val (ex_pick_t rfl rfl) ?_
  refine ops_val (ex_assign rfl) ?_
  refine ops_nil ?_
  refine nR15 ?_
  refine run_ret ?_
  refine fin_ret1 rfl rfl ?_
  exact ⟨rfl, H1.pick [] (by decide)⟩
end Go.Proofs.YtoeobicpdeklaaaGreat
