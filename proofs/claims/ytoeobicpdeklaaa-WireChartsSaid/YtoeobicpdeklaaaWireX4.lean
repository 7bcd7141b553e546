/- Walks of layer 2, printed by wip/gen/codec.py. -/
import Derived.Test.YtoeobicpdeklaaaBig
import Derived.Test.YtoeobicpdeklaaaWireQ3
namespace Go.Proofs.Ytoeobicpdeklaaa
open Go Go.RowKit
set_option linter.unusedVariables false
attribute [local irreducible] Still Ops Does Cd
def X_chartF (x : thchartF.X) : Prop := x.1.1.2.length * 32 ≤ 140737488351232 ∧ x.2.length * 56 ≤ 140737488351232
set_option maxRecDepth 100000 in
theorem comes_chartF : Comes Try.prog 59 thchartF X_chartF := ⟨by kernel_rfl, fun {H enc w base} m cs y hy hw => by
  obtain ⟨ys, n, _, rfl, hl, hlen, hall⟩ := DataW.trod_struct Try.underlying59 hy
  have hcl : cs.length = 12 := hl.trans (by kernel_rfl)
  have hw2 : ∀ (i : Nat) t d, (([3, 56, 3, 3, 25, 57] : List TypeId))[i]? = some t → (ys.map (·.1))[i]? = some d → ∀ k ∈ d.weights Try.prog t, k ≤ 140737488351232 := fun i t d ht hd k hk => hw k (by
    unfold DataW.weights
    rw [Try.underlying59]
    exact DataW.weights_mem_each ht hd k hk)
  obtain ⟨y0, y1, y2, y3, y4, y5, rfl⟩ : ∃ y0 y1 y2 y3 y4 y5, ys = [y0, y1, y2, y3, y4, y5] := by
    match ys, hlen with
    | [y0, y1, y2, y3, y4, y5], _ => exact ⟨_, _, _, _, _, _, rfl⟩
  have b0 := hall 0 _ rfl
  change DataW.trod enc Try.prog w base (fun _ => true) true n 3 ((cs.drop 0).take (Try.prog.cellsOf 3)) = _ at b0
  have c0 := (comes_flat (P := Try.prog) (t := 3) (d := 6) (ks := [.int]) (by kernel_rfl) (by kernel_rfl))
  rw [c0.size] at b0
  obtain ⟨x0, m0, s0, q0⟩ := c0.comes _ _ _ b0 (hw2 0 _ _ rfl rfl)
  rw [List.drop_zero] at m0
  have p0 := m0
  have h0 := s0
  have b1 := hall 1 _ rfl
  change DataW.trod enc Try.prog w base (fun _ => true) true n 56 ((cs.drop 1).take (Try.prog.cellsOf 56)) = _ at b1
  have c1 := (comes_many Try.underlying56 (comes_flat (P := Try.prog) (t := 119) (d := 6) (ks := [.int, .text, .int]) (by kernel_rfl) (by kernel_rfl)) (by decide) (by kernel_rfl) (by_ := 32) (by kernel_rfl) (by decide))
  rw [c1.size] at b1
  obtain ⟨x1, m1, s1, q1⟩ := c1.comes _ _ _ b1 (hw2 1 _ _ rfl rfl)
  have p1 := pre_step (cs := cs) p0 (B := Th.many thplace false) (y := x1) (show (Th.many thplace false).M w (fun _ => True) x1 ((cs.drop 1).take 1) from m1) (by rw [hcl]; decide)
  have h1 := Short.and h0 s1
  have b2 := hall 2 _ rfl
  change DataW.trod enc Try.prog w base (fun _ => true) true n 3 ((cs.drop 2).take (Try.prog.cellsOf 3)) = _ at b2
  have c2 := (comes_flat (P := Try.prog) (t := 3) (d := 6) (ks := [.int]) (by kernel_rfl) (by kernel_rfl))
  rw [c2.size] at b2
  obtain ⟨x2, m2, s2, q2⟩ := c2.comes _ _ _ b2 (hw2 2 _ _ rfl rfl)
  have p2 := pre_step (cs := cs) p1 (B := Th.flat [.int]) (y := x2) (show (Th.flat [.int]).M w (fun _ => True) x2 ((cs.drop 2).take 1) from m2) (by rw [hcl]; decide)
  have h2 := Short.and h1 s2
  have b3 := hall 3 _ rfl
  change DataW.trod enc Try.prog w base (fun _ => true) true n 3 ((cs.drop 3).take (Try.prog.cellsOf 3)) = _ at b3
  have c3 := (comes_flat (P := Try.prog) (t := 3) (d := 6) (ks := [.int]) (by kernel_rfl) (by kernel_rfl))
  rw [c3.size] at b3
  obtain ⟨x3, m3, s3, q3⟩ := c3.comes _ _ _ b3 (hw2 3 _ _ rfl rfl)
  have p3 := pre_step (cs := cs) p2 (B := Th.flat [.int]) (y := x3) (show (Th.flat [.int]).M w (fun _ => True) x3 ((cs.drop 3).take 1) from m3) (by rw [hcl]; decide)
  have h3 := Short.and h2 s3
  replace p3 := pre_join p3
  have b4 := hall 4 _ rfl
  change DataW.trod enc Try.prog w base (fun _ => true) true n 25 ((cs.drop 4).take (Try.prog.cellsOf 25)) = _ at b4
  have c4 := (comes_flat (P := Try.prog) (t := 25) (d := 6) (ks := [.int, .int, .int, .text, .text, .int, .int]) (by kernel_rfl) (by kernel_rfl))
  rw [c4.size] at b4
  obtain ⟨x4, m4, s4, q4⟩ := c4.comes _ _ _ b4 (hw2 4 _ _ rfl rfl)
  have p4 := pre_step (cs := cs) p3 (B := Th.flat [.int, .int, .int, .text, .text, .int, .int]) (y := x4) (show (Th.flat [.int, .int, .int, .text, .text, .int, .int]).M w (fun _ => True) x4 ((cs.drop 4).take 7) from m4) (by rw [hcl]; decide)
  have h4 := Short.and h3 s4
  replace p4 := pre_join p4
  have b5 := hall 5 _ rfl
  change DataW.trod enc Try.prog w base (fun _ => true) true n 57 ((cs.drop 11).take (Try.prog.cellsOf 57)) = _ at b5
  have c5 := (comes_many Try.underlying57 (comes_flat (P := Try.prog) (t := 124) (d := 6) (ks := [.int, .int, .flag, .int, .int, .int, .int]) (by kernel_rfl) (by kernel_rfl)) (by decide) (by kernel_rfl) (by_ := 56) (by kernel_rfl) (by decide))
  rw [c5.size] at b5
  obtain ⟨x5, m5, s5, q5⟩ := c5.comes _ _ _ b5 (hw2 5 _ _ rfl rfl)
  have p5 := pre_step (cs := cs) p4 (B := Th.many thmark false) (y := x5) (show (Th.many thmark false).M w (fun _ => True) x5 ((cs.drop 11).take 1) from m5) (by rw [hcl]; decide)
  have h5 := Short.and h4 s5
  rw [show List.take _ cs = cs from List.take_of_length_le (by rw [hcl]; decide)] at p5
  refine ⟨(((x0, x1), (fapp (fapp x2 x3) x4)), x5), p5, ?_, q1.1, q5.1⟩
  intro s hs
  refine h5 s ?_
  simpa only [fapp, List.append_assoc] using hs⟩
end Go.Proofs.Ytoeobicpdeklaaa
