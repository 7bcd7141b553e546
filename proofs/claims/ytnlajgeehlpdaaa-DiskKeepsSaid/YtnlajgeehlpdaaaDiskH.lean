/- Walks of layer 2, printed by wip/gen/codec.py. -/
import Derived.Test.YtnlajgeehlpdaaaDiskG
namespace Go.Proofs.Ytnlajgeehlpdaaa
open Go Go.RowKit
set_option linter.unusedVariables false
attribute [local irreducible] Still Ops Does Cd
set_option maxRecDepth 100000 in
set_option maxHeartbeats 4000000 in
theorem syncs_any (bk at_ : Int) (x : UInt8) (B : Option Addr) (keep : List Int) (kc_ : Nat) (A : Option Addr) (s : List OpV) (sc : Nat) (w0 : World) (hkp : Rd w0 B keep.length 1 (i64s keep)) (hs : ScOk w0 A s) :
    Does Try.prog 3 #[.int .i64 bk, .slice A s.length sc, .int .i64 at_, .int .u8 (x.toNat : Int), .slice B keep.length kc_] w0 (fun r w' => r = .bool true ∧ Hp w0 w' [] []) := by
  refine does_of Try.func3 Try.ntmps3 rfl ?_
  change Run _ _ _ _ [.int .i64 bk, .slice A s.length sc, .int .i64 at_, .int .u8 (x.toNat : Int), .slice B keep.length kc_, undef, undef, undef, undef, undef, undef, undef, undef, undef, undef, undef, undef, undef, undef, undef, undef, undef, undef, undef, undef, undef, undef, undef, undef, undef, undef, undef, undef, undef, undef, undef, undef, undef, undef, undef, undef, undef, undef, undef, undef, undef, undef, undef, undef, undef, undef, undef, undef, undef, undef, undef, undef, undef, undef, undef, undef, undef, undef, undef, undef, undef, undef, undef, undef, undef, undef, undef, undef, undef, undef, undef, undef, undef, undef, undef, undef, undef, undef, undef, undef, undef, undef, undef, undef, undef, undef, undef] _
  have H := Hp.refl w0
  refine run_seq ?_
  refine run_region ?_
  refine ops_val (ex_assign rfl) ?_
  refine ops_nil ?_
  change Run _ _ _ _ [_, _, _, _, _, _, _, _, _, _, _, _, _, _, _, _, _, _, _, _, _, _, _, _, _, _, _, _, _, _, _, _, _, _, _, _, _, _, _, _, _, _, _, _, _, _, _, _, _, _, _, _, _, _, _, _, _, _, _, _, _, _, _, _, _, _, _, _, _, _, _, _, _, _, _, _, _, _, _, _, _, _, _, _, _, _, _, _, _, _, _, _] _
  refine run_seq ?_
  refine run_region ?_
  refine ops_val (ex_move rfl) ?_
  refine ops_val (ex_move rfl) ?_
  refine ops_call (ex_call gf8 rfl) (ran_any bk A s sc _ ⟨hs.rd.to0 H, hs.most, fun o ho => ⟨(hs.each o ho).1, (hs.each o ho).2.1, (hs.each o ho).2.2.to0 H⟩⟩) ?_
  rintro _ w1 ⟨gd, gk, gw, cw, sp, D0, rfl, hO, hk40, hw0, Hd⟩
  have H1 := (H.call0 Hd).pick [0, 1, 2] (by decide)
  have hsm := hs.most
  have hkpos := hO.pos
  refine ops_val (ex_assign rfl) ?_
  refine ops_nil ?_
  change Run _ _ _ _ [_, _, _, _, _, _, _, _, _, _, _, _, _, _, _, _, _, _, _, _, _, _, _, _, _, _, _, _, _, _, _, _, _, _, _, _, _, _, _, _, _, _, _, _, _, _, _, _, _, _, _, _, _, _, _, _, _, _, _, _, _, _, _, _, _, _, _, _, _, _, _, _, _, _, _, _, _, _, _, _, _, _, _, _, _, _, _, _, _, _, _, _] _
  refine run_seq ?_
  refine run_seq ?_
  refine run_region ?_
  refine ops_call_val (ex_call gf9 rfl) (awake_any _) ?_
  intro w2 Hd
  have H2 := H1.call0 Hd
  refine ops_val (ex_not rfl) ?_
  refine ops_val (ex_move rfl) ?_
  change Ops _ _ _ _ _ _ [_, _, _, _, _, _, _, _, _, _, _, _, _, _, _, _, _, _, _, _, _, _, _, _, _, _, _, _, _, _, _, _, _, _, _, _, _, _, _, _, _, _, _, _, _, _, _, _, _, _, _, _, _, _, _, _, _, _, _, _, _, _, _, _, _, _, _, _, _, _, _, _, _, _, _, _, _, _, _, _, _, _, _, _, _, _, _, _, _, _, _, _] _
  refine ops_yes rfl ?_
  refine ops_val (ex_move rfl) ?_
  refine ops_yes rfl ?_
  refine ops_false (ex_eql_nil_ptr Try.underlying24 rfl) (by simp) ?_
  refine ops_val (ex_pick_f rfl rfl) ?_
  refine ops_nil ?_
  change Run _ _ _ _ [_, _, _, _, _, _, _, _, _, _, _, _, _, _, _, _, _, _, _, _, _, _, _, _, _, _, _, _, _, _, _, _, _, _, _, _, _, _, _, _, _, _, _, _, _, _, _, _, _, _, _, _, _, _, _, _, _, _, _, _, _, _, _, _, _, _, _, _, _, _, _, _, _, _, _, _, _, _, _, _, _, _, _, _, _, _, _, _, _, _, _, _] _
  refine run_cond_false rfl ?_
  refine run_skip ?_
  refine run_seq ?_
  refine run_region ?_
  refine ops_val (ex_move rfl) ?_
  have hk := (start_any gd gk gw cw sp (D0) _ (H2.pick [0, 1, 2] (by decide)).here hO)
  refine ops_call_val (ex_call gf10 rfl) hk ?_
  intro w3 ⟨gw, cw, sp, hO, Hd⟩
  have H3 := (H2.callr [0, 1, 2] rfl Hd).pick [3, 4, 5] (by decide)
  have hup := start_up D0
  obtain ⟨hb1, hb2⟩ := start_bd D0
  generalize D0.start = D1 at *
  refine ops_nil ?_
  change Run _ _ _ _ [_, _, _, _, _, _, _, _, _, _, _, _, _, _, _, _, _, _, _, _, _, _, _, _, _, _, _, _, _, _, _, _, _, _, _, _, _, _, _, _, _, _, _, _, _, _, _, _, _, _, _, _, _, _, _, _, _, _, _, _, _, _, _, _, _, _, _, _, _, _, _, _, _, _, _, _, _, _, _, _, _, _, _, _, _, _, _, _, _, _, _, _] _
  refine run_seq ?_
  refine run_region ?_
  refine ops_val (ex_move rfl) ?_
  have hk := (arm_any gd gk gw cw sp (D1) _ (H3.pick [0, 1, 2] (by decide)).here hO 0 (by decide) (by decide))
  rw [arm_ok hup] at hk
  dsimp only at hk
  refine ops_call_val (ex_call gf11 rfl) hk ?_
  intro w4 ⟨gw, cw, sp, hO, Hd⟩
  have H4 := (H3.callr [0, 1, 2] rfl Hd).pick [3, 4, 5] (by decide)
  obtain ⟨D2, hEQ⟩ : ∃ D, ({ D1 with armed := (max (0 : Int) 0).toNat } : Dk) = D := ⟨_, rfl⟩
  rw [hEQ] at H4 hO
  have hd1 : D2.down = false := by rw [← hEQ]; exact hup
  have hd2 : D2.armed = 0 := by rw [← hEQ]; rfl
  have hd3 : D2.wait.length ≤ s.length := by rw [← hEQ]; show D1.wait.length ≤ _; omega
  have hd4 : D2.kept.length = D0.kept.length := by rw [← hEQ]; exact hb2
  clear hEQ
  refine ops_nil ?_
  change Run _ _ _ _ [_, _, _, _, _, _, _, _, _, _, _, _, _, _, _, _, _, _, _, _, _, _, _, _, _, _, _, _, _, _, _, _, _, _, _, _, _, _, _, _, _, _, _, _, _, _, _, _, _, _, _, _, _, _, _, _, _, _, _, _, _, _, _, _, _, _, _, _, _, _, _, _, _, _, _, _, _, _, _, _, _, _, _, _, _, _, _, _, _, _, _, _] _
  refine run_seq ?_
  refine run_region ?_
  refine ops_val (ex_move rfl) ?_
  obtain ⟨u, hu⟩ := u64_nat at_
  refine ops_val (ex_conv Try.underlying30 Try.underlying3 rfl hu) ?_
  refine ops_val (ex_move rfl) ?_
  have hk := (size_any gd gk gw cw sp (D2) _ (H4.pick [0, 1, 2] (by decide)).here hO)
  refine ops_call_val (ex_call gf12 rfl) hk ?_
  intro w5 Hd
  have H5 := (H4.callr [0, 1, 2] rfl Hd).pick [3, 4, 5] (by decide)
  change Ops _ _ _ _ _ _ [_, _, _, _, _, _, _, _, _, _, _, _, _, _, _, _, _, _, _, _, _, _, _, _, _, _, _, _, _, _, _, _, _, _, _, _, _, _, _, _, _, _, _, _, _, _, _, _, _, _, _, _, _, _, _, _, _, _, _, _, _, _, _, _, _, _, _, _, _, _, _, _, _, _, _, _, _, _, _, _, _, _, _, _, _, _, _, _, _, _, _, _] _
  refine ops_val (ex_conv Try.underlying30 Try.underlying3 rfl (IntWalk.u64_in _ (by omega))) ?_
  refine ops_val (ex_rem rfl rfl (by omega) (tmodN u D2.kept.length)) ?_
  have hnb : u % D2.kept.length < D2.kept.length := Nat.mod_lt _ (by omega)
  generalize u % D2.kept.length = nb at hnb
  refine ops_val (ex_conv Try.underlying3 Try.underlying30 rfl (IntWalk.i64_in _ (by omega))) ?_
  refine ops_val (ex_assign rfl) ?_
  refine ops_nil ?_
  change Run _ _ _ _ [_, _, _, _, _, _, _, _, _, _, _, _, _, _, _, _, _, _, _, _, _, _, _, _, _, _, _, _, _, _, _, _, _, _, _, _, _, _, _, _, _, _, _, _, _, _, _, _, _, _, _, _, _, _, _, _, _, _, _, _, _, _, _, _, _, _, _, _, _, _, _, _, _, _, _, _, _, _, _, _, _, _, _, _, _, _, _, _, _, _, _, _] _
  refine run_seq ?_
  refine run_region ?_
  refine ops_val (ex_move rfl) ?_
  refine ops_val (ex_move rfl) ?_
  refine ops_val (ex_move rfl) ?_
  refine ops_call_own (ex_call gf14 rfl) (block_any (x) _) ?_
  intro w6 gb cb sb hmb hcb hgb Hd
  have H6 := H5.call0 Hd
  change Ops _ _ _ _ _ _ [_, _, _, _, _, _, _, _, _, _, _, _, _, _, _, _, _, _, _, _, _, _, _, _, _, _, _, _, _, _, _, _, _, _, _, _, _, _, _, _, _, _, _, _, _, _, _, _, _, _, _, _, _, _, _, _, _, _, _, _, _, _, _, _, _, _, _, _, _, _, _, _, _, _, _, _, _, _, _, _, _, _, _, _, _, _, _, _, _, _, _, _] _
  have hk := (write_any gd gk gw cw sp (D2) _ (H6.pick [0, 1, 2] (by decide)).here hO ((nb : Int)) (hd gb) (blockOf x) cb (H6.rd (i := 3) (o := gb) (xs := u8s (blockOf x)) (sp := sb) rfl (u8s_length1 _) (by decide)) (sep_of H6 3 [0, 1, 2] rfl rfl (by decide)) (by omega))
  rw [write_free (D := D2) (a := (nb : Int)) (b := blockOf x) hd1 hd2 (by omega) (by omega) (blockOf_length _)] at hk
  dsimp only at hk
  refine ops_call_val (ex_call gf13 rfl) hk ?_
  intro w7 ⟨gw, cw, sp, hO, Hd⟩
  have H7 := (H6.callr [0, 1, 2] rfl Hd).pick [4, 5, 6, 3] (by decide)
  replace H7 := H7.pick [0, 1, 2] (by decide)
  rw [show ((nb : Int)).toNat = nb from rfl] at H7 hO
  have hsh := put_show (D := D2) (b := blockOf x) hnb
  obtain ⟨D3, hEQ⟩ : ∃ D, D2.put nb (blockOf x) = D := ⟨_, rfl⟩
  rw [hEQ] at H7 hO hsh
  have he1 : D3.down = false := by rw [← hEQ]; exact hd1
  have he2 : D3.armed = 0 := by rw [← hEQ]; exact hd2
  have he3 : D3.wait.length ≤ s.length + 1 := by rw [← hEQ]; simp [Dk.put]; omega
  have he4 : D3.kept.length = D0.kept.length := by rw [← hEQ]; exact hd4
  clear hEQ
  refine ops_val (ex_assign rfl) ?_
  refine ops_nil ?_
  change Run _ _ _ _ [_, _, _, _, _, _, _, _, _, _, _, _, _, _, _, _, _, _, _, _, _, _, _, _, _, _, _, _, _, _, _, _, _, _, _, _, _, _, _, _, _, _, _, _, _, _, _, _, _, _, _, _, _, _, _, _, _, _, _, _, _, _, _, _, _, _, _, _, _, _, _, _, _, _, _, _, _, _, _, _, _, _, _, _, _, _, _, _, _, _, _, _] _
  refine run_seq ?_
  refine run_region ?_
  refine ops_val (ex_move rfl) ?_
  refine ops_val (ex_move rfl) ?_
  have hk := read_any gd gk gw cw sp D3 _ (H7.pick [0, 1, 2] (by decide)).here hO (nb : Int) (by omega)
  rw [read_ok he1 (by omega), hsh] at hk
  dsimp only at hk
  refine ops_call_rd (ex_call gf15 rfl) hk ?_
  intro w8 g9 c9 s9 ⟨hm9, hc9, hg9, Hd⟩
  have H8 := (H7.callr [0, 1, 2] rfl Hd).pick [3, 4, 5, 6] (by decide)
  refine ops_val (ex_move rfl) ?_
  change Ops _ _ _ _ _ _ [_, _, _, _, _, _, _, _, _, _, _, _, _, _, _, _, _, _, _, _, _, _, _, _, _, _, _, _, _, _, _, _, _, _, _, _, _, _, _, _, _, _, _, _, _, _, _, _, _, _, _, _, _, _, _, _, _, _, _, _, _, _, _, _, _, _, _, _, _, _, _, _, _, _, _, _, _, _, _, _, _, _, _, _, _, _, _, _, _, _, _, _] _
  refine ops_val (ex_extract rfl rfl) ?_
  refine ops_val (ex_extract rfl rfl) ?_
  refine ops_val (ex_assign rfl) ?_
  refine ops_val (ex_assign rfl) ?_
  refine ops_nil ?_
  change Run _ _ _ _ [_, _, _, _, _, _, _, _, _, _, _, _, _, _, _, _, _, _, _, _, _, _, _, _, _, _, _, _, _, _, _, _, _, _, _, _, _, _, _, _, _, _, _, _, _, _, _, _, _, _, _, _, _, _, _, _, _, _, _, _, _, _, _, _, _, _, _, _, _, _, _, _, _, _, _, _, _, _, _, _, _, _, _, _, _, _, _, _, _, _, _, _] _
  refine run_seq ?_
  refine run_seq ?_
  refine run_region ?_
  refine ops_val (ex_move rfl) ?_
  refine ops_false (ex_neq rfl rfl) (by simp) ?_
  refine ops_val (ex_move rfl) ?_
  change Ops _ _ _ _ _ _ [_, _, _, _, _, _, _, _, _, _, _, _, _, _, _, _, _, _, _, _, _, _, _, _, _, _, _, _, _, _, _, _, _, _, _, _, _, _, _, _, _, _, _, _, _, _, _, _, _, _, _, _, _, _, _, _, _, _, _, _, _, _, _, _, _, _, _, _, _, _, _, _, _, _, _, _, _, _, _, _, _, _, _, _, _, _, _, _, _, _, _, _] _
  refine ops_yes rfl ?_
  refine ops_val (ex_move rfl) ?_
  refine ops_yes rfl ?_
  refine ops_false (ex_neq rfl rfl) (by simp) ?_
  refine ops_val (ex_pick_f rfl rfl) ?_
  refine ops_val (ex_move rfl) ?_
  change Ops _ _ _ _ _ _ [_, _, _, _, _, _, _, _, _, _, _, _, _, _, _, _, _, _, _, _, _, _, _, _, _, _, _, _, _, _, _, _, _, _, _, _, _, _, _, _, _, _, _, _, _, _, _, _, _, _, _, _, _, _, _, _, _, _, _, _, _, _, _, _, _, _, _, _, _, _, _, _, _, _, _, _, _, _, _, _, _, _, _, _, _, _, _, _, _, _, _, _] _
  refine ops_yes rfl ?_
  refine ops_val (ex_move rfl) ?_
  refine ops_yes rfl ?_
  refine ops_val (ex_move rfl) ?_
  change Ops _ _ _ _ _ _ [_, _, _, _, _, _, _, _, _, _, _, _, _, _, _, _, _, _, _, _, _, _, _, _, _, _, _, _, _, _, _, _, _, _, _, _, _, _, _, _, _, _, _, _, _, _, _, _, _, _, _, _, _, _, _, _, _, _, _, _, _, _, _, _, _, _, _, _, _, _, _, _, _, _, _, _, _, _, _, _, _, _, _, _, _, _, _, _, _, _, _, _] _
  refine ops_yes rfl ?_
  refine ops_call_own (ex_call gf14 rfl) (block_any (x) _) ?_
  intro w9 gb cb sb hmb hcb hgb Hd
  have H9 := H8.call0 Hd
  refine ops_yes rfl ?_
  have hk := bytes_any (hd g9) (hd gb) (blockOf x) (blockOf x) c9 cb _ (H9.rd (i := 3) (o := g9) (xs := u8s (blockOf x)) (sp := s9) rfl (u8s_length1 _) (by decide)) (H9.rd (i := 4) (o := gb) (xs := u8s (blockOf x)) (sp := sb) rfl (u8s_length1 _) (by decide)) (by rw [blockOf_length]; decide) (by rw [blockOf_length]; decide)
  rw [decide_eq_true rfl] at hk
  refine ops_call_val (ex_call gf16 rfl) hk ?_
  intro w10 Hd
  have H10 := (H9.call0 Hd).pick [0, 1, 2] (by decide)
  change Ops _ _ _ _ _ _ [_, _, _, _, _, _, _, _, _, _, _, _, _, _, _, _, _, _, _, _, _, _, _, _, _, _, _, _, _, _, _, _, _, _, _, _, _, _, _, _, _, _, _, _, _, _, _, _, _, _, _, _, _, _, _, _, _, _, _, _, _, _, _, _, _, _, _, _, _, _, _, _, _, _, _, _, _, _, _, _, _, _, _, _, _, _, _, _, _, _, _, _] _
  refine ops_yes rfl ?_
  refine ops_val (ex_not rfl) ?_
  refine ops_val (ex_pick_f rfl rfl) ?_
  refine ops_val (ex_move rfl) ?_
  change Ops _ _ _ _ _ _ [_, _, _, _, _, _, _, _, _, _, _, _, _, _, _, _, _, _, _, _, _, _, _, _, _, _, _, _, _, _, _, _, _, _, _, _, _, _, _, _, _, _, _, _, _, _, _, _, _, _, _, _, _, _, _, _, _, _, _, _, _, _, _, _, _, _, _, _, _, _, _, _, _, _, _, _, _, _, _, _, _, _, _, _, _, _, _, _, _, _, _, _] _
  refine ops_yes rfl ?_
  refine ops_val (ex_move rfl) ?_
  refine ops_yes rfl ?_
  have hk := (sync_any gd gk gw cw sp (D3) _ (H10.pick [0, 1, 2] (by decide)).here hO (by omega))
  rw [sync_free he1 he2] at hk
  dsimp only at hk
  refine ops_call_val (ex_call gf17 rfl) hk ?_
  intro w11 ⟨gw, cw, sp, hO, Hd⟩
  have H11 := (H10.callr [0, 1, 2] rfl Hd).pick [3, 4, 5] (by decide)
  obtain ⟨D4, hEQ⟩ : ∃ D, ({ D3 with kept := flush D3.kept D3.wait, wait := [], down := false, armed := 0 } : Dk) = D := ⟨_, rfl⟩
  rw [hEQ] at H11 hO
  have hdn1 : D4.down = false := by rw [← hEQ]
  have hf2 : D4.wait = [] := by rw [← hEQ]
  have hf3 : D4.wait.length = 0 := by rw [hf2]; rfl
  have hf4 : D4.kept.length = D0.kept.length := by rw [← hEQ]; show (flush _ _).length = _; rw [flush_length]; exact he4
  have hf5 : D4.armed = 0 := by rw [← hEQ]
  clear hEQ
  change Ops _ _ _ _ _ _ [_, _, _, _, _, _, _, _, _, _, _, _, _, _, _, _, _, _, _, _, _, _, _, _, _, _, _, _, _, _, _, _, _, _, _, _, _, _, _, _, _, _, _, _, _, _, _, _, _, _, _, _, _, _, _, _, _, _, _, _, _, _, _, _, _, _, _, _, _, _, _, _, _, _, _, _, _, _, _, _, _, _, _, _, _, _, _, _, _, _, _, _] _
  refine ops_yes rfl ?_
  refine ops_false (ex_neq rfl rfl) (by simp) ?_
  refine ops_val (ex_pick_f rfl rfl) ?_
  refine ops_val (ex_move rfl) ?_
  change Ops _ _ _ _ _ _ [_, _, _, _, _, _, _, _, _, _, _, _, _, _, _, _, _, _, _, _, _, _, _, _, _, _, _, _, _, _, _, _, _, _, _, _, _, _, _, _, _, _, _, _, _, _, _, _, _, _, _, _, _, _, _, _, _, _, _, _, _, _, _, _, _, _, _, _, _, _, _, _, _, _, _, _, _, _, _, _, _, _, _, _, _, _, _, _, _, _, _, _] _
  refine ops_yes rfl ?_
  refine ops_val (ex_move rfl) ?_
  refine ops_yes rfl ?_
  have hk := (waiting_any gd gk gw cw sp (D4) _ (H11.pick [0, 1, 2] (by decide)).here hO)
  refine ops_call_val (ex_call gf18 rfl) hk ?_
  intro w12 Hd
  have H12 := (H11.callr [0, 1, 2] rfl Hd).pick [3, 4, 5] (by decide)
  change Ops _ _ _ _ _ _ [_, _, _, _, _, _, _, _, _, _, _, _, _, _, _, _, _, _, _, _, _, _, _, _, _, _, _, _, _, _, _, _, _, _, _, _, _, _, _, _, _, _, _, _, _, _, _, _, _, _, _, _, _, _, _, _, _, _, _, _, _, _, _, _, _, _, _, _, _, _, _, _, _, _, _, _, _, _, _, _, _, _, _, _, _, _, _, _, _, _, _, _] _
  refine ops_yes rfl ?_
  refine ops_false (ex_neq rfl rfl) (by omega) ?_
  refine ops_val (ex_pick_f rfl rfl) ?_
  refine ops_nil ?_
  change Run _ _ _ _ [_, _, _, _, _, _, _, _, _, _, _, _, _, _, _, _, _, _, _, _, _, _, _, _, _, _, _, _, _, _, _, _, _, _, _, _, _, _, _, _, _, _, _, _, _, _, _, _, _, _, _, _, _, _, _, _, _, _, _, _, _, _, _, _, _, _, _, _, _, _, _, _, _, _, _, _, _, _, _, _, _, _, _, _, _, _, _, _, _, _, _, _] _
  refine run_cond_false rfl ?_
  refine run_skip ?_
  refine run_seq ?_
  refine run_region ?_
  refine ops_val (ex_move rfl) ?_
  have hk := all_any gd gk gw cw sp D4 _ (H12.pick [0, 1, 2] (by decide)).here hO hdn1 (by omega)
  refine ops_call (ex_call gf19 rfl) hk ?_
  rintro _ w13 ⟨gl1, cl1, sl1, xs1, rfl, hc1, hcc1, hL1, hFr1, Hd⟩
  have H13 := (H12.callr [0, 1, 2] rfl Hd).pick [3, 4, 5, 6] (by decide)
  have hL := hL1.less (es' := dRows gd gk gw cw sp D4) (fun b hb => by simp only [bl, List.filterMap_append, List.mem_append] at hb ⊢; exact .inl hb)
  refine ops_val (ex_assign rfl) ?_
  refine ops_nil ?_
  change Run _ _ _ _ [_, _, _, _, _, _, _, _, _, _, _, _, _, _, _, _, _, _, _, _, _, _, _, _, _, _, _, _, _, _, _, _, _, _, _, _, _, _, _, _, _, _, _, _, _, _, _, _, _, _, _, _, _, _, _, _, _, _, _, _, _, _, _, _, _, _, _, _, _, _, _, _, _, _, _, _, _, _, _, _, _, _, _, _, _, _, _, _, _, _, _, _] _
  refine run_seq ?_
  refine run_seq ?_
  refine run_region ?_
  refine ops_val (ex_move rfl) ?_
  refine ops_val (ex_move rfl) ?_
  have hk := crash_any gd gk gw cw sp D4 _ (H13.pick [0, 1, 2] (by decide)).here hO B keep kc_ (hkp.to0 H13) (fun hk => sep_old (H13.pick [0, 1, 2] (by decide)) hkp hk) (by omega)
  refine ops_call_val (ex_call gf20 rfl) hk ?_
  intro w14 ⟨gw, cw, sp, hO, Hd⟩
  have H14 := (H13.callr [0, 1, 2] rfl Hd).pick [4, 5, 6, 3] (by decide)
  have hL2 := hL.to Hd
  have hg1 : (D4.crash keep).kept = D4.kept := by show tears D4.kept D4.wait keep D4.wait.length = _; rw [hf3]; rfl
  have hg2 : (D4.crash keep).wait = [] := rfl
  have hg3 : (D4.crash keep).down = true := rfl
  generalize D4.crash keep = D5 at *
  refine ops_false (ex_neq rfl rfl) (by simp) ?_
  change Ops _ _ _ _ _ _ [_, _, _, _, _, _, _, _, _, _, _, _, _, _, _, _, _, _, _, _, _, _, _, _, _, _, _, _, _, _, _, _, _, _, _, _, _, _, _, _, _, _, _, _, _, _, _, _, _, _, _, _, _, _, _, _, _, _, _, _, _, _, _, _, _, _, _, _, _, _, _, _, _, _, _, _, _, _, _, _, _, _, _, _, _, _, _, _, _, _, _, _] _
  refine ops_val (ex_move rfl) ?_
  refine ops_yes rfl ?_
  refine ops_val (ex_move rfl) ?_
  change Ops _ _ _ _ _ _ [_, _, _, _, _, _, _, _, _, _, _, _, _, _, _, _, _, _, _, _, _, _, _, _, _, _, _, _, _, _, _, _, _, _, _, _, _, _, _, _, _, _, _, _, _, _, _, _, _, _, _, _, _, _, _, _, _, _, _, _, _, _, _, _, _, _, _, _, _, _, _, _, _, _, _, _, _, _, _, _, _, _, _, _, _, _, _, _, _, _, _, _] _
  refine ops_yes rfl ?_
  have hk := (start_any gd gk gw cw sp (D5) _ (H14.pick [0, 1, 2] (by decide)).here hO)
  refine ops_call_val (ex_call gf10 rfl) hk ?_
  intro w15 ⟨gw, cw, sp, hO, Hd⟩
  have H15 := (H14.callr [0, 1, 2] rfl Hd).pick [4, 5, 6, 3] (by decide)
  have hL3 := hL2.to Hd
  have hdn2 := start_up D5
  have hi1 : D5.start.kept = D4.kept := by unfold Dk.start; rw [if_pos hg3]; exact hg1
  have hi2 : D5.start.wait = [] := by unfold Dk.start; rw [if_pos hg3]
  have hi3 : D5.start.wait.length = 0 := by rw [hi2]; rfl
  have hsw : ∀ q, D5.start.shown q = D4.shown q := fun q => by unfold Dk.shown Dk.show; rw [hi1, hi2, hf2]
  have hi4 : D5.start.kept.length = D4.kept.length := by rw [hi1]
  generalize D5.start = D6 at *
  refine ops_yes rfl ?_
  refine ops_false (ex_neq rfl rfl) (by simp) ?_
  refine ops_val (ex_pick_f rfl rfl) ?_
  refine ops_nil ?_
  change Run _ _ _ _ [_, _, _, _, _, _, _, _, _, _, _, _, _, _, _, _, _, _, _, _, _, _, _, _, _, _, _, _, _, _, _, _, _, _, _, _, _, _, _, _, _, _, _, _, _, _, _, _, _, _, _, _, _, _, _, _, _, _, _, _, _, _, _, _, _, _, _, _, _, _, _, _, _, _, _, _, _, _, _, _, _, _, _, _, _, _, _, _, _, _, _, _] _
  refine run_cond_false rfl ?_
  refine run_skip ?_
  refine run_seq ?_
  refine run_region ?_
  refine ops_val (ex_move rfl) ?_
  have hk := all_any gd gk gw cw sp D6 _ (H15.pick [0, 1, 2] (by decide)).here hO hdn2 (by omega)
  refine ops_call (ex_call gf19 rfl) hk ?_
  rintro _ w16 ⟨gl2, cl2, sl2, xs2, rfl, hc2, hcc2, hL2, hFr2, Hd⟩
  have H16 := (H15.callr [0, 1, 2] rfl Hd).pick [4, 5, 6, 3, 7] (by decide)
  have hL4 := hL3.to Hd
  refine ops_val (ex_move rfl) ?_
  rw [hi4] at hL2
  rw [hsw] at hL2
  have hlen : (D4.shown D4.kept.length).length = D4.kept.length := by simp [Dk.shown]
  have h64s : ∀ b ∈ D4.shown D4.kept.length, b.length = 64 := fun b hb => by
    rw [← hsw] at hb
    obtain ⟨i, hi, rfl⟩ := List.mem_map.1 hb
    exact show_len hO (by rw [hi4]; exact List.mem_range.1 hi)
  have hA := H16.rd (i := 4) (o := gl2) (xs := xs2) (sp := sl2) (n := D4.kept.length) (sz := 1) rfl (by rw [hL2.1, hlen, Nat.mul_one]) (by decide)
  have hB := H16.rd (i := 3) (o := gl1) (xs := xs1) (sp := sl1) (n := D4.kept.length) (sz := 1) rfl (by rw [hL4.1, hlen, Nat.mul_one]) (by decide)
  have hk := lists_any (hd gl2) (hd gl1) (D4.shown D4.kept.length) cl2 cl1 xs2 xs1 _ (by rw [hlen]; exact hA) (by rw [hlen]; exact hB) (fun i h => (hL2.2 i h).2.imp fun C hC => hC.imp fun k hk => ⟨hk.1, hk.2.1⟩) (fun i h => (hL4.2 i h).2.imp fun C hC => hC.imp fun k hk => ⟨hk.1, hk.2.1⟩) (by rw [hlen]; omega) h64s
  rw [hlen] at hk
  rw [hi4]
  refine ops_call_val (ex_call gf21 rfl) hk ?_
  intro w17 Hd
  have H17 := (H16.call0 Hd).pick [0, 1, 2] (by decide)
  change Ops _ _ _ _ _ _ [_, _, _, _, _, _, _, _, _, _, _, _, _, _, _, _, _, _, _, _, _, _, _, _, _, _, _, _, _, _, _, _, _, _, _, _, _, _, _, _, _, _, _, _, _, _, _, _, _, _, _, _, _, _, _, _, _, _, _, _, _, _, _, _, _, _, _, _, _, _, _, _, _, _, _, _, _, _, _, _, _, _, _, _, _, _, _, _, _, _, _, _] _
  refine ops_val (ex_move rfl) ?_
  refine ops_yes rfl ?_
  refine ops_val (ex_move rfl) ?_
  change Ops _ _ _ _ _ _ [_, _, _, _, _, _, _, _, _, _, _, _, _, _, _, _, _, _, _, _, _, _, _, _, _, _, _, _, _, _, _, _, _, _, _, _, _, _, _, _, _, _, _, _, _, _, _, _, _, _, _, _, _, _, _, _, _, _, _, _, _, _, _, _, _, _, _, _, _, _, _, _, _, _, _, _, _, _, _, _, _, _, _, _, _, _, _, _, _, _, _, _] _
  refine ops_yes rfl ?_
  refine ops_val (ex_len_slice Try.underlying38 rfl) ?_
  refine ops_yes rfl ?_
  refine ops_val (ex_move rfl) ?_
  change Ops _ _ _ _ _ _ [_, _, _, _, _, _, _, _, _, _, _, _, _, _, _, _, _, _, _, _, _, _, _, _, _, _, _, _, _, _, _, _, _, _, _, _, _, _, _, _, _, _, _, _, _, _, _, _, _, _, _, _, _, _, _, _, _, _, _, _, _, _, _, _, _, _, _, _, _, _, _, _, _, _, _, _, _, _, _, _, _, _, _, _, _, _, _, _, _, _, _, _] _
  refine ops_yes rfl ?_
  have hk := (size_any gd gk gw cw sp (D6) _ (H17.pick [0, 1, 2] (by decide)).here hO)
  refine ops_call_val (ex_call gf12 rfl) hk ?_
  intro w18 Hd
  have H18 := (H17.callr [0, 1, 2] rfl Hd).pick [3, 4, 5] (by decide)
  refine ops_yes rfl ?_
  refine ops_true (ex_eql rfl rfl) (by omega) ?_
  refine ops_val (ex_pick_t rfl rfl) ?_
  refine ops_val (ex_assign rfl) ?_
  refine ops_nil ?_
  change Run _ _ _ _ [_, _, _, _, _, _, _, _, _, _, _, _, _, _, _, _, _, _, _, _, _, _, _, _, _, _, _, _, _, _, _, _, _, _, _, _, _, _, _, _, _, _, _, _, _, _, _, _, _, _, _, _, _, _, _, _, _, _, _, _, _, _, _, _, _, _, _, _, _, _, _, _, _, _, _, _, _, _, _, _, _, _, _, _, _, _, _, _, _, _, _, _] _
  refine run_ret ?_
  refine fin_ret1 rfl rfl ?_
  exact ⟨rfl, H18.pick [] (by decide)⟩
end Go.Proofs.Ytnlajgeehlpdaaa
