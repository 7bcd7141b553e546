/- Walks of layer 2, printed by wip/gen/codec.py. -/
import Derived.Test.YtoeobicpdeklaaaGreatBig
import Derived.Test.YtoeobicpdeklaaaGreatWireV1
namespace Go.Proofs.YtoeobicpdeklaaaGreat
open Go Go.RowKit
set_option linter.unusedVariables false
attribute [local irreducible] Still Ops Does Cd
def X_account (x : thaccount.X) : Prop := x.1.2.length * 32 ≤ 140737488351232
set_option maxRecDepth 100000 in
theorem comes_account : Comes Tryz.prog 94 thaccount X_account := ⟨by kernel_rfl, fun {H enc w base} m cs y hy hw => by
  obtain ⟨ys, n, _, rfl, hl, hlen, hall⟩ := DataW.trod_struct Tryz.underlying94 hy
  have hcl : cs.length = 10 := hl.trans (by kernel_rfl)
  have hw2 : ∀ (i : Nat) t d, (([9, 89, 3, 3, 90, 92] : List TypeId))[i]? = some t → (ys.map (·.1))[i]? = some d → ∀ k ∈ d.weights Tryz.prog t, k ≤ 140737488351232 := fun i t d ht hd k hk => hw k (by
    unfold DataW.weights
    rw [Tryz.underlying94]
    exact DataW.weights_mem_each ht hd k hk)
  obtain ⟨y0, y1, y2, y3, y4, y5, rfl⟩ : ∃ y0 y1 y2 y3 y4 y5, ys = [y0, y1, y2, y3, y4, y5] := by
    match ys, hlen with
    | [y0, y1, y2, y3, y4, y5], _ => exact ⟨_, _, _, _, _, _, rfl⟩
  have b0 := hall 0 _ rfl
  change DataW.trod enc Tryz.prog w base (fun _ => true) true n 9 ((cs.drop 0).take (Tryz.prog.cellsOf 9)) = _ at b0
  have c0 := (comes_flat (P := Tryz.prog) (t := 9) (d := 6) (ks := [.text]) (by kernel_rfl) (by kernel_rfl))
  rw [c0.size] at b0
  obtain ⟨x0, m0, s0, q0⟩ := c0.comes _ _ _ b0 (hw2 0 _ _ rfl rfl)
  rw [List.drop_zero] at m0
  have p0 := m0
  have h0 := s0
  have b1 := hall 1 _ rfl
  change DataW.trod enc Tryz.prog w base (fun _ => true) true n 89 ((cs.drop 1).take (Tryz.prog.cellsOf 89)) = _ at b1
  have c1 := (comes_flat (P := Tryz.prog) (t := 89) (d := 6) (ks := [.int, .int]) (by kernel_rfl) (by kernel_rfl))
  rw [c1.size] at b1
  obtain ⟨x1, m1, s1, q1⟩ := c1.comes _ _ _ b1 (hw2 1 _ _ rfl rfl)
  have p1 := pre_step (cs := cs) p0 (B := Th.flat [.int, .int]) (y := x1) (show (Th.flat [.int, .int]).M w (fun _ => True) x1 ((cs.drop 1).take 2) from m1) (by rw [hcl]; decide)
  have h1 := Short.and h0 s1
  replace p1 := pre_join1 p1
  have b2 := hall 2 _ rfl
  change DataW.trod enc Tryz.prog w base (fun _ => true) true n 3 ((cs.drop 3).take (Tryz.prog.cellsOf 3)) = _ at b2
  have c2 := (comes_flat (P := Tryz.prog) (t := 3) (d := 6) (ks := [.int]) (by kernel_rfl) (by kernel_rfl))
  rw [c2.size] at b2
  obtain ⟨x2, m2, s2, q2⟩ := c2.comes _ _ _ b2 (hw2 2 _ _ rfl rfl)
  have p2 := pre_step (cs := cs) p1 (B := Th.flat [.int]) (y := x2) (show (Th.flat [.int]).M w (fun _ => True) x2 ((cs.drop 3).take 1) from m2) (by rw [hcl]; decide)
  have h2 := Short.and h1 s2
  replace p2 := pre_join1 p2
  have b3 := hall 3 _ rfl
  change DataW.trod enc Tryz.prog w base (fun _ => true) true n 3 ((cs.drop 4).take (Tryz.prog.cellsOf 3)) = _ at b3
  have c3 := (comes_flat (P := Tryz.prog) (t := 3) (d := 6) (ks := [.int]) (by kernel_rfl) (by kernel_rfl))
  rw [c3.size] at b3
  obtain ⟨x3, m3, s3, q3⟩ := c3.comes _ _ _ b3 (hw2 3 _ _ rfl rfl)
  have p3 := pre_step (cs := cs) p2 (B := Th.flat [.int]) (y := x3) (show (Th.flat [.int]).M w (fun _ => True) x3 ((cs.drop 4).take 1) from m3) (by rw [hcl]; decide)
  have h3 := Short.and h2 s3
  replace p3 := pre_join1 p3
  have b4 := hall 4 _ rfl
  change DataW.trod enc Tryz.prog w base (fun _ => true) true n 90 ((cs.drop 5).take (Tryz.prog.cellsOf 90)) = _ at b4
  have c4 := (comes_many Tryz.underlying90 (comes_flat (P := Tryz.prog) (t := 141) (d := 6) (ks := [.int, .int, .int, .int]) (by kernel_rfl) (by kernel_rfl)) (by decide) (by kernel_rfl) (by_ := 32) (by kernel_rfl) (by decide))
  rw [c4.size] at b4
  obtain ⟨x4, m4, s4, q4⟩ := c4.comes _ _ _ b4 (hw2 4 _ _ rfl rfl)
  have p4 := pre_step (cs := cs) p3 (B := Th.many thholder false) (y := x4) (show (Th.many thholder false).M w (fun _ => True) x4 ((cs.drop 5).take 1) from m4) (by rw [hcl]; decide)
  have h4 := Short.and h3 s4
  have b5 := hall 5 _ rfl
  change DataW.trod enc Tryz.prog w base (fun _ => true) true n 92 ((cs.drop 6).take (Tryz.prog.cellsOf 92)) = _ at b5
  have c5 := (comes_flat (P := Tryz.prog) (t := 92) (d := 6) (ks := [.int, .int, .int, .int]) (by kernel_rfl) (by kernel_rfl))
  rw [c5.size] at b5
  obtain ⟨x5, m5, s5, q5⟩ := c5.comes _ _ _ b5 (hw2 5 _ _ rfl rfl)
  have p5 := pre_step (cs := cs) p4 (B := Th.flat [.int, .int, .int, .int]) (y := x5) (show (Th.flat [.int, .int, .int, .int]).M w (fun _ => True) x5 ((cs.drop 6).take 4) from m5) (by rw [hcl]; decide)
  have h5 := Short.and h4 s5
  rw [show List.take _ cs = cs from List.take_of_length_le (by rw [hcl]; decide)] at p5
  refine ⟨(((fapp (fapp (fapp x0 x1) x2) x3), x4), x5), p5, ?_, q4.1⟩
  intro s hs
  refine h5 s ?_
  simpa only [fapp, List.append_assoc] using hs⟩
def X_stateF (x : thstateF.X) : Prop := x.1.1.1.1.1.2.length * 104 ≤ 140737488351232 ∧ (∀ y ∈ x.1.1.1.1.1.2, X_account y) ∧ x.1.1.1.1.2.length * 56 ≤ 140737488351232 ∧ x.1.1.1.2.length * 104 ≤ 140737488351232 ∧ x.1.1.2.length * 80 ≤ 140737488351232 ∧ x.1.2.length * 16 ≤ 140737488351232
set_option maxRecDepth 100000 in
theorem comes_stateF : Comes Tryz.prog 31 thstateF X_stateF := ⟨by kernel_rfl, fun {H enc w base} m cs y hy hw => by
  obtain ⟨ys, n, _, rfl, hl, hlen, hall⟩ := DataW.trod_struct Tryz.underlying31 hy
  have hcl : cs.length = 29 := hl.trans (by kernel_rfl)
  have hw2 : ∀ (i : Nat) t d, (([3, 3, 4, 9, 9, 3, 22, 23, 24, 25, 26, 28, 28, 29, 3, 3, 3] : List TypeId))[i]? = some t → (ys.map (·.1))[i]? = some d → ∀ k ∈ d.weights Tryz.prog t, k ≤ 140737488351232 := fun i t d ht hd k hk => hw k (by
    unfold DataW.weights
    rw [Tryz.underlying31]
    exact DataW.weights_mem_each ht hd k hk)
  obtain ⟨y0, y1, y2, y3, y4, y5, y6, y7, y8, y9, y10, y11, y12, y13, y14, y15, y16, rfl⟩ : ∃ y0 y1 y2 y3 y4 y5 y6 y7 y8 y9 y10 y11 y12 y13 y14 y15 y16, ys = [y0, y1, y2, y3, y4, y5, y6, y7, y8, y9, y10, y11, y12, y13, y14, y15, y16] := by
    match ys, hlen with
    | [y0, y1, y2, y3, y4, y5, y6, y7, y8, y9, y10, y11, y12, y13, y14, y15, y16], _ => exact ⟨_, _, _, _, _, _, _, _, _, _, _, _, _, _, _, _, _, rfl⟩
  have b0 := hall 0 _ rfl
  change DataW.trod enc Tryz.prog w base (fun _ => true) true n 3 ((cs.drop 0).take (Tryz.prog.cellsOf 3)) = _ at b0
  have c0 := (comes_flat (P := Tryz.prog) (t := 3) (d := 6) (ks := [.int]) (by kernel_rfl) (by kernel_rfl))
  rw [c0.size] at b0
  obtain ⟨x0, m0, s0, q0⟩ := c0.comes _ _ _ b0 (hw2 0 _ _ rfl rfl)
  rw [List.drop_zero] at m0
  have p0 := m0
  have h0 := s0
  have b1 := hall 1 _ rfl
  change DataW.trod enc Tryz.prog w base (fun _ => true) true n 3 ((cs.drop 1).take (Tryz.prog.cellsOf 3)) = _ at b1
  have c1 := (comes_flat (P := Tryz.prog) (t := 3) (d := 6) (ks := [.int]) (by kernel_rfl) (by kernel_rfl))
  rw [c1.size] at b1
  obtain ⟨x1, m1, s1, q1⟩ := c1.comes _ _ _ b1 (hw2 1 _ _ rfl rfl)
  have p1 := pre_step (cs := cs) p0 (B := Th.flat [.int]) (y := x1) (show (Th.flat [.int]).M w (fun _ => True) x1 ((cs.drop 1).take 1) from m1) (by rw [hcl]; decide)
  have h1 := Short.and h0 s1
  replace p1 := pre_join1 p1
  have b2 := hall 2 _ rfl
  change DataW.trod enc Tryz.prog w base (fun _ => true) true n 4 ((cs.drop 2).take (Tryz.prog.cellsOf 4)) = _ at b2
  have c2 := (comes_flat (P := Tryz.prog) (t := 4) (d := 6) (ks := [.flag]) (by kernel_rfl) (by kernel_rfl))
  rw [c2.size] at b2
  obtain ⟨x2, m2, s2, q2⟩ := c2.comes _ _ _ b2 (hw2 2 _ _ rfl rfl)
  have p2 := pre_step (cs := cs) p1 (B := Th.flat [.flag]) (y := x2) (show (Th.flat [.flag]).M w (fun _ => True) x2 ((cs.drop 2).take 1) from m2) (by rw [hcl]; decide)
  have h2 := Short.and h1 s2
  replace p2 := pre_join1 p2
  have b3 := hall 3 _ rfl
  change DataW.trod enc Tryz.prog w base (fun _ => true) true n 9 ((cs.drop 3).take (Tryz.prog.cellsOf 9)) = _ at b3
  have c3 := (comes_flat (P := Tryz.prog) (t := 9) (d := 6) (ks := [.text]) (by kernel_rfl) (by kernel_rfl))
  rw [c3.size] at b3
  obtain ⟨x3, m3, s3, q3⟩ := c3.comes _ _ _ b3 (hw2 3 _ _ rfl rfl)
  have p3 := pre_step (cs := cs) p2 (B := Th.flat [.text]) (y := x3) (show (Th.flat [.text]).M w (fun _ => True) x3 ((cs.drop 3).take 1) from m3) (by rw [hcl]; decide)
  have h3 := Short.and h2 s3
  replace p3 := pre_join1 p3
  have b4 := hall 4 _ rfl
  change DataW.trod enc Tryz.prog w base (fun _ => true) true n 9 ((cs.drop 4).take (Tryz.prog.cellsOf 9)) = _ at b4
  have c4 := (comes_flat (P := Tryz.prog) (t := 9) (d := 6) (ks := [.text]) (by kernel_rfl) (by kernel_rfl))
  rw [c4.size] at b4
  obtain ⟨x4, m4, s4, q4⟩ := c4.comes _ _ _ b4 (hw2 4 _ _ rfl rfl)
  have p4 := pre_step (cs := cs) p3 (B := Th.flat [.text]) (y := x4) (show (Th.flat [.text]).M w (fun _ => True) x4 ((cs.drop 4).take 1) from m4) (by rw [hcl]; decide)
  have h4 := Short.and h3 s4
  replace p4 := pre_join1 p4
  have b5 := hall 5 _ rfl
  change DataW.trod enc Tryz.prog w base (fun _ => true) true n 3 ((cs.drop 5).take (Tryz.prog.cellsOf 3)) = _ at b5
  have c5 := (comes_flat (P := Tryz.prog) (t := 3) (d := 6) (ks := [.int]) (by kernel_rfl) (by kernel_rfl))
  rw [c5.size] at b5
  obtain ⟨x5, m5, s5, q5⟩ := c5.comes _ _ _ b5 (hw2 5 _ _ rfl rfl)
  have p5 := pre_step (cs := cs) p4 (B := Th.flat [.int]) (y := x5) (show (Th.flat [.int]).M w (fun _ => True) x5 ((cs.drop 5).take 1) from m5) (by rw [hcl]; decide)
  have h5 := Short.and h4 s5
  replace p5 := pre_join1 p5
  have b6 := hall 6 _ rfl
  change DataW.trod enc Tryz.prog w base (fun _ => true) true n 22 ((cs.drop 6).take (Tryz.prog.cellsOf 22)) = _ at b6
  have c6 := (comes_many Tryz.underlying22 comes_account (by decide) (by kernel_rfl) (by_ := 104) (by kernel_rfl) (by decide))
  rw [c6.size] at b6
  obtain ⟨x6, m6, s6, q6⟩ := c6.comes _ _ _ b6 (hw2 6 _ _ rfl rfl)
  have p6 := pre_step (cs := cs) p5 (B := Th.many thaccount false) (y := x6) (show (Th.many thaccount false).M w (fun _ => True) x6 ((cs.drop 6).take 1) from m6) (by rw [hcl]; decide)
  have h6 := Short.and h5 s6
  have b7 := hall 7 _ rfl
  change DataW.trod enc Tryz.prog w base (fun _ => true) true n 23 ((cs.drop 7).take (Tryz.prog.cellsOf 23)) = _ at b7
  have c7 := (comes_many Tryz.underlying23 (comes_flat (P := Tryz.prog) (t := 68) (d := 6) (ks := [.int, .int, .flag, .int, .int, .int, .int]) (by kernel_rfl) (by kernel_rfl)) (by decide) (by kernel_rfl) (by_ := 56) (by kernel_rfl) (by decide))
  rw [c7.size] at b7
  obtain ⟨x7, m7, s7, q7⟩ := c7.comes _ _ _ b7 (hw2 7 _ _ rfl rfl)
  have p7 := pre_step (cs := cs) p6 (B := Th.many thmark false) (y := x7) (show (Th.many thmark false).M w (fun _ => True) x7 ((cs.drop 7).take 1) from m7) (by rw [hcl]; decide)
  have h7 := Short.and h6 s7
  have b8 := hall 8 _ rfl
  change DataW.trod enc Tryz.prog w base (fun _ => true) true n 24 ((cs.drop 8).take (Tryz.prog.cellsOf 24)) = _ at b8
  have c8 := (comes_many Tryz.underlying24 (comes_flat (P := Tryz.prog) (t := 71) (d := 6) (ks := [.int, .int, .int, .int, .int, .int, .text, .text, .int, .int, .int]) (by kernel_rfl) (by kernel_rfl)) (by decide) (by kernel_rfl) (by_ := 104) (by kernel_rfl) (by decide))
  rw [c8.size] at b8
  obtain ⟨x8, m8, s8, q8⟩ := c8.comes _ _ _ b8 (hw2 8 _ _ rfl rfl)
  have p8 := pre_step (cs := cs) p7 (B := Th.many thwait false) (y := x8) (show (Th.many thwait false).M w (fun _ => True) x8 ((cs.drop 8).take 1) from m8) (by rw [hcl]; decide)
  have h8 := Short.and h7 s8
  have b9 := hall 9 _ rfl
  change DataW.trod enc Tryz.prog w base (fun _ => true) true n 25 ((cs.drop 9).take (Tryz.prog.cellsOf 25)) = _ at b9
  have c9 := (comes_many Tryz.underlying25 (comes_flat (P := Tryz.prog) (t := 74) (d := 6) (ks := [.int, .int, .text, .text, .int, .int, .int, .int]) (by kernel_rfl) (by kernel_rfl)) (by decide) (by kernel_rfl) (by_ := 80) (by kernel_rfl) (by decide))
  rw [c9.size] at b9
  obtain ⟨x9, m9, s9, q9⟩ := c9.comes _ _ _ b9 (hw2 9 _ _ rfl rfl)
  have p9 := pre_step (cs := cs) p8 (B := Th.many thdeal false) (y := x9) (show (Th.many thdeal false).M w (fun _ => True) x9 ((cs.drop 9).take 1) from m9) (by rw [hcl]; decide)
  have h9 := Short.and h8 s9
  have b10 := hall 10 _ rfl
  change DataW.trod enc Tryz.prog w base (fun _ => true) true n 26 ((cs.drop 10).take (Tryz.prog.cellsOf 26)) = _ at b10
  have c10 := (comes_many Tryz.underlying26 (comes_flat (P := Tryz.prog) (t := 77) (d := 6) (ks := [.int, .int]) (by kernel_rfl) (by kernel_rfl)) (by decide) (by kernel_rfl) (by_ := 16) (by kernel_rfl) (by decide))
  rw [c10.size] at b10
  obtain ⟨x10, m10, s10, q10⟩ := c10.comes _ _ _ b10 (hw2 10 _ _ rfl rfl)
  have p10 := pre_step (cs := cs) p9 (B := Th.many thend false) (y := x10) (show (Th.many thend false).M w (fun _ => True) x10 ((cs.drop 10).take 1) from m10) (by rw [hcl]; decide)
  have h10 := Short.and h9 s10
  have b11 := hall 11 _ rfl
  change DataW.trod enc Tryz.prog w base (fun _ => true) true n 28 ((cs.drop 11).take (Tryz.prog.cellsOf 28)) = _ at b11
  have c11 := (comes_flat (P := Tryz.prog) (t := 28) (d := 6) (ks := [.int, .int, .int, .text, .text, .int, .int]) (by kernel_rfl) (by kernel_rfl))
  rw [c11.size] at b11
  obtain ⟨x11, m11, s11, q11⟩ := c11.comes _ _ _ b11 (hw2 11 _ _ rfl rfl)
  have p11 := pre_step (cs := cs) p10 (B := Th.flat [.int, .int, .int, .text, .text, .int, .int]) (y := x11) (show (Th.flat [.int, .int, .int, .text, .text, .int, .int]).M w (fun _ => True) x11 ((cs.drop 11).take 7) from m11) (by rw [hcl]; decide)
  have h11 := Short.and h10 s11
  have b12 := hall 12 _ rfl
  change DataW.trod enc Tryz.prog w base (fun _ => true) true n 28 ((cs.drop 18).take (Tryz.prog.cellsOf 28)) = _ at b12
  have c12 := (comes_flat (P := Tryz.prog) (t := 28) (d := 6) (ks := [.int, .int, .int, .text, .text, .int, .int]) (by kernel_rfl) (by kernel_rfl))
  rw [c12.size] at b12
  obtain ⟨x12, m12, s12, q12⟩ := c12.comes _ _ _ b12 (hw2 12 _ _ rfl rfl)
  have p12 := pre_step (cs := cs) p11 (B := Th.flat [.int, .int, .int, .text, .text, .int, .int]) (y := x12) (show (Th.flat [.int, .int, .int, .text, .text, .int, .int]).M w (fun _ => True) x12 ((cs.drop 18).take 7) from m12) (by rw [hcl]; decide)
  have h12 := Short.and h11 s12
  replace p12 := pre_join p12
  have b13 := hall 13 _ rfl
  change DataW.trod enc Tryz.prog w base (fun _ => true) true n 29 ((cs.drop 25).take (Tryz.prog.cellsOf 29)) = _ at b13
  have c13 := (comes_flat (P := Tryz.prog) (t := 29) (d := 6) (ks := [.bytes]) (by kernel_rfl) (by kernel_rfl))
  rw [c13.size] at b13
  obtain ⟨x13, m13, s13, q13⟩ := c13.comes _ _ _ b13 (hw2 13 _ _ rfl rfl)
  have p13 := pre_step (cs := cs) p12 (B := Th.flat [.bytes]) (y := x13) (show (Th.flat [.bytes]).M w (fun _ => True) x13 ((cs.drop 25).take 1) from m13) (by rw [hcl]; decide)
  have h13 := Short.and h12 s13
  replace p13 := pre_join p13
  have b14 := hall 14 _ rfl
  change DataW.trod enc Tryz.prog w base (fun _ => true) true n 3 ((cs.drop 26).take (Tryz.prog.cellsOf 3)) = _ at b14
  have c14 := (comes_flat (P := Tryz.prog) (t := 3) (d := 6) (ks := [.int]) (by kernel_rfl) (by kernel_rfl))
  rw [c14.size] at b14
  obtain ⟨x14, m14, s14, q14⟩ := c14.comes _ _ _ b14 (hw2 14 _ _ rfl rfl)
  have p14 := pre_step (cs := cs) p13 (B := Th.flat [.int]) (y := x14) (show (Th.flat [.int]).M w (fun _ => True) x14 ((cs.drop 26).take 1) from m14) (by rw [hcl]; decide)
  have h14 := Short.and h13 s14
  replace p14 := pre_join p14
  have b15 := hall 15 _ rfl
  change DataW.trod enc Tryz.prog w base (fun _ => true) true n 3 ((cs.drop 27).take (Tryz.prog.cellsOf 3)) = _ at b15
  have c15 := (comes_flat (P := Tryz.prog) (t := 3) (d := 6) (ks := [.int]) (by kernel_rfl) (by kernel_rfl))
  rw [c15.size] at b15
  obtain ⟨x15, m15, s15, q15⟩ := c15.comes _ _ _ b15 (hw2 15 _ _ rfl rfl)
  have p15 := pre_step (cs := cs) p14 (B := Th.flat [.int]) (y := x15) (show (Th.flat [.int]).M w (fun _ => True) x15 ((cs.drop 27).take 1) from m15) (by rw [hcl]; decide)
  have h15 := Short.and h14 s15
  replace p15 := pre_join p15
  have b16 := hall 16 _ rfl
  change DataW.trod enc Tryz.prog w base (fun _ => true) true n 3 ((cs.drop 28).take (Tryz.prog.cellsOf 3)) = _ at b16
  have c16 := (comes_flat (P := Tryz.prog) (t := 3) (d := 6) (ks := [.int]) (by kernel_rfl) (by kernel_rfl))
  rw [c16.size] at b16
  obtain ⟨x16, m16, s16, q16⟩ := c16.comes _ _ _ b16 (hw2 16 _ _ rfl rfl)
  have p16 := pre_step (cs := cs) p15 (B := Th.flat [.int]) (y := x16) (show (Th.flat [.int]).M w (fun _ => True) x16 ((cs.drop 28).take 1) from m16) (by rw [hcl]; decide)
  have h16 := Short.and h15 s16
  replace p16 := pre_join p16
  rw [show List.take _ cs = cs from List.take_of_length_le (by rw [hcl]; decide)] at p16
  refine ⟨(((((((fapp (fapp (fapp (fapp (fapp x0 x1) x2) x3) x4) x5), x6), x7), x8), x9), x10), (fapp (fapp (fapp (fapp (fapp x11 x12) x13) x14) x15) x16)), p16, ?_, q6.1, q6.2, q7.1, q8.1, q9.1, q10.1⟩
  intro s hs
  refine h16 s ?_
  simpa only [fapp, List.append_assoc] using hs⟩
end Go.Proofs.YtoeobicpdeklaaaGreat
