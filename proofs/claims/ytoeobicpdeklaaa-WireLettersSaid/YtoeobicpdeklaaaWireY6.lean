/- Walks of layer 2, printed by wip/gen/codec.py. -/
import Derived.Test.YtoeobicpdeklaaaBig
import Derived.Test.YtoeobicpdeklaaaWireT
namespace Go.Proofs.Ytoeobicpdeklaaa
open Go Go.RowKit
set_option linter.unusedVariables false
attribute [local irreducible] Still Ops Does Cd
def X_letter (x : thletter.X) : Prop := x.1.1.2.length * 48 ≤ 140737488351232 ∧ x.1.2.length * 32 ≤ 140737488351232
set_option maxRecDepth 100000 in
theorem comes_letter : Comes Try.prog 72 thletter X_letter := ⟨by kernel_rfl, fun {H enc w base} m cs y hy hw => by
  obtain ⟨ys, n, _, rfl, hl, hlen, hall⟩ := DataW.trod_struct Try.underlying72 hy
  have hcl : cs.length = 13 := hl.trans (by kernel_rfl)
  have hw2 : ∀ (i : Nat) t d, (([3, 3, 3, 42, 3, 3, 66, 67, 70] : List TypeId))[i]? = some t → (ys.map (·.1))[i]? = some d → ∀ k ∈ d.weights Try.prog t, k ≤ 140737488351232 := fun i t d ht hd k hk => hw k (by
    unfold DataW.weights
    rw [Try.underlying72]
    exact DataW.weights_mem_each ht hd k hk)
  obtain ⟨y0, y1, y2, y3, y4, y5, y6, y7, y8, rfl⟩ : ∃ y0 y1 y2 y3 y4 y5 y6 y7 y8, ys = [y0, y1, y2, y3, y4, y5, y6, y7, y8] := by
    match ys, hlen with
    | [y0, y1, y2, y3, y4, y5, y6, y7, y8], _ => exact ⟨_, _, _, _, _, _, _, _, _, rfl⟩
  have b0 := hall 0 _ rfl
  change DataW.trod enc Try.prog w base (fun _ => true) true n 3 ((cs.drop 0).take (Try.prog.cellsOf 3)) = _ at b0
  have c0 := (comes_flat (P := Try.prog) (t := 3) (d := 6) (ks := [.int]) (by kernel_rfl) (by kernel_rfl))
  rw [c0.size] at b0
  obtain ⟨x0, m0, s0, q0⟩ := c0.comes _ _ _ b0 (hw2 0 _ _ rfl rfl)
  rw [List.drop_zero] at m0
  have p0 := m0
  have h0 := s0
  have b1 := hall 1 _ rfl
  change DataW.trod enc Try.prog w base (fun _ => true) true n 3 ((cs.drop 1).take (Try.prog.cellsOf 3)) = _ at b1
  have c1 := (comes_flat (P := Try.prog) (t := 3) (d := 6) (ks := [.int]) (by kernel_rfl) (by kernel_rfl))
  rw [c1.size] at b1
  obtain ⟨x1, m1, s1, q1⟩ := c1.comes _ _ _ b1 (hw2 1 _ _ rfl rfl)
  have p1 := pre_step (cs := cs) p0 (B := Th.flat [.int]) (y := x1) (show (Th.flat [.int]).M w (fun _ => True) x1 ((cs.drop 1).take 1) from m1) (by rw [hcl]; decide)
  have h1 := Short.and h0 s1
  replace p1 := pre_join1 p1
  have b2 := hall 2 _ rfl
  change DataW.trod enc Try.prog w base (fun _ => true) true n 3 ((cs.drop 2).take (Try.prog.cellsOf 3)) = _ at b2
  have c2 := (comes_flat (P := Try.prog) (t := 3) (d := 6) (ks := [.int]) (by kernel_rfl) (by kernel_rfl))
  rw [c2.size] at b2
  obtain ⟨x2, m2, s2, q2⟩ := c2.comes _ _ _ b2 (hw2 2 _ _ rfl rfl)
  have p2 := pre_step (cs := cs) p1 (B := Th.flat [.int]) (y := x2) (show (Th.flat [.int]).M w (fun _ => True) x2 ((cs.drop 2).take 1) from m2) (by rw [hcl]; decide)
  have h2 := Short.and h1 s2
  replace p2 := pre_join1 p2
  have b3 := hall 3 _ rfl
  change DataW.trod enc Try.prog w base (fun _ => true) true n 42 ((cs.drop 3).take (Try.prog.cellsOf 42)) = _ at b3
  have c3 := (comes_flat (P := Try.prog) (t := 42) (d := 6) (ks := [.int, .int]) (by kernel_rfl) (by kernel_rfl))
  rw [c3.size] at b3
  obtain ⟨x3, m3, s3, q3⟩ := c3.comes _ _ _ b3 (hw2 3 _ _ rfl rfl)
  have p3 := pre_step (cs := cs) p2 (B := Th.flat [.int, .int]) (y := x3) (show (Th.flat [.int, .int]).M w (fun _ => True) x3 ((cs.drop 3).take 2) from m3) (by rw [hcl]; decide)
  have h3 := Short.and h2 s3
  replace p3 := pre_join1 p3
  have b4 := hall 4 _ rfl
  change DataW.trod enc Try.prog w base (fun _ => true) true n 3 ((cs.drop 5).take (Try.prog.cellsOf 3)) = _ at b4
  have c4 := (comes_flat (P := Try.prog) (t := 3) (d := 6) (ks := [.int]) (by kernel_rfl) (by kernel_rfl))
  rw [c4.size] at b4
  obtain ⟨x4, m4, s4, q4⟩ := c4.comes _ _ _ b4 (hw2 4 _ _ rfl rfl)
  have p4 := pre_step (cs := cs) p3 (B := Th.flat [.int]) (y := x4) (show (Th.flat [.int]).M w (fun _ => True) x4 ((cs.drop 5).take 1) from m4) (by rw [hcl]; decide)
  have h4 := Short.and h3 s4
  replace p4 := pre_join1 p4
  have b5 := hall 5 _ rfl
  change DataW.trod enc Try.prog w base (fun _ => true) true n 3 ((cs.drop 6).take (Try.prog.cellsOf 3)) = _ at b5
  have c5 := (comes_flat (P := Try.prog) (t := 3) (d := 6) (ks := [.int]) (by kernel_rfl) (by kernel_rfl))
  rw [c5.size] at b5
  obtain ⟨x5, m5, s5, q5⟩ := c5.comes _ _ _ b5 (hw2 5 _ _ rfl rfl)
  have p5 := pre_step (cs := cs) p4 (B := Th.flat [.int]) (y := x5) (show (Th.flat [.int]).M w (fun _ => True) x5 ((cs.drop 6).take 1) from m5) (by rw [hcl]; decide)
  have h5 := Short.and h4 s5
  replace p5 := pre_join1 p5
  have b6 := hall 6 _ rfl
  change DataW.trod enc Try.prog w base (fun _ => true) true n 66 ((cs.drop 7).take (Try.prog.cellsOf 66)) = _ at b6
  have c6 := (comes_many Try.underlying66 (comes_flat (P := Try.prog) (t := 44) (d := 6) (ks := [.int, .int, .int, .bytes]) (by kernel_rfl) (by kernel_rfl)) (by decide) (by kernel_rfl) (by_ := 48) (by kernel_rfl) (by decide))
  rw [c6.size] at b6
  obtain ⟨x6, m6, s6, q6⟩ := c6.comes _ _ _ b6 (hw2 6 _ _ rfl rfl)
  have p6 := pre_step (cs := cs) p5 (B := Th.many thvote false) (y := x6) (show (Th.many thvote false).M w (fun _ => True) x6 ((cs.drop 7).take 1) from m6) (by rw [hcl]; decide)
  have h6 := Short.and h5 s6
  have b7 := hall 7 _ rfl
  change DataW.trod enc Try.prog w base (fun _ => true) true n 67 ((cs.drop 8).take (Try.prog.cellsOf 67)) = _ at b7
  have c7 := (comes_many Try.underlying67 (comes_flat (P := Try.prog) (t := 46) (d := 6) (ks := [.int, .bytes]) (by kernel_rfl) (by kernel_rfl)) (by decide) (by kernel_rfl) (by_ := 32) (by kernel_rfl) (by decide))
  rw [c7.size] at b7
  obtain ⟨x7, m7, s7, q7⟩ := c7.comes _ _ _ b7 (hw2 7 _ _ rfl rfl)
  have p7 := pre_step (cs := cs) p6 (B := Th.many thentry false) (y := x7) (show (Th.many thentry false).M w (fun _ => True) x7 ((cs.drop 8).take 1) from m7) (by rw [hcl]; decide)
  have h7 := Short.and h6 s7
  have b8 := hall 8 _ rfl
  change DataW.trod enc Try.prog w base (fun _ => true) true n 70 ((cs.drop 9).take (Try.prog.cellsOf 70)) = _ at b8
  have c8 := (comes_flat (P := Try.prog) (t := 70) (d := 6) (ks := [.int, .int, .word, .bytes]) (by kernel_rfl) (by kernel_rfl))
  rw [c8.size] at b8
  obtain ⟨x8, m8, s8, q8⟩ := c8.comes _ _ _ b8 (hw2 8 _ _ rfl rfl)
  have p8 := pre_step (cs := cs) p7 (B := Th.flat [.int, .int, .word, .bytes]) (y := x8) (show (Th.flat [.int, .int, .word, .bytes]).M w (fun _ => True) x8 ((cs.drop 9).take 4) from m8) (by rw [hcl]; decide)
  have h8 := Short.and h7 s8
  rw [show List.take _ cs = cs from List.take_of_length_le (by rw [hcl]; decide)] at p8
  refine ⟨((((fapp (fapp (fapp (fapp (fapp x0 x1) x2) x3) x4) x5), x6), x7), x8), p8, ?_, q6.1, q7.1⟩
  intro s hs
  refine h8 s ?_
  simpa only [fapp, List.append_assoc] using hs⟩
end Go.Proofs.Ytoeobicpdeklaaa
