/- Walks of layer 2, printed by wip/gen/codec.py. -/
import Derived.Test.YtlglenbmpikhmaaCodecD
import Derived.Test.YtlglenbmpikhmaaCodecLaw
namespace Go.Proofs.Ytlglenbmpikhmaa
open Go Go.RowKit
set_option linter.unusedVariables false
attribute [local irreducible] Still Ops Does Cd
/- what stands behind the bytes -/
set_option maxRecDepth 100000 in
set_option maxHeartbeats 4000000 in
theorem codecBack_t (v : Nat) (n : Int) (A : Option Addr) (b : List UInt8) (c : Nat) (w0 : World) (hv : v < 2 ^ 64) (hlo : -9223372036854775808 ≤ n) (hhi : n ≤ 9223372036854775807) (hr : Rd w0 A b.length 1 (u8s b)) (hb : b.length ≤ 140737488355328) :
    Does Try.prog 4 #[.int .u64 v, .int .i64 n, .slice A b.length c, .bool true] w0 (fun r w' => r = .bool true ∧ Hp w0 w' [] []) := by
  refine does_of Try.func4 Try.ntmps4 rfl ?_
  change Run _ _ _ _ [.int .u64 v, .int .i64 n, .slice A b.length c, .bool true, undef, undef, undef, undef, undef, undef, undef, undef, undef, undef, undef, undef, undef, undef, undef, undef, undef, undef, undef, undef, undef, undef, undef, undef, undef, undef, undef, undef, undef, undef, undef, undef, undef, undef, undef, undef, undef, undef, undef, undef, undef, undef, undef, undef, undef, undef, undef, undef, undef, undef, undef, undef, undef, undef, undef, undef, undef, undef, undef, undef, undef, undef, undef, undef, undef, undef, undef] _
  have H := (Hp.refl w0).nil 5
  have hl1 := enc_len64 hv
  have hl2 := enc_len64 (zig_lt n hlo hhi)
  have hl3 := enc_len64 (v := b.length) (by omega)
  rw [← encInt_eq] at hl2
  have hl4 : (encText b).length = (enc b.length).length + b.length := by rw [encText_eq, List.length_append]
  refine run_seq ?_
  refine run_region ?_
  refine ops_val (ex_assign rfl) ?_
  refine ops_nil ?_
  change Run _ _ _ _ [_, _, _, _, _, _, _, _, _, _, _, _, _, _, _, _, _, _, _, _, _, _, _, _, _, _, _, _, _, _, _, _, _, _, _, _, _, _, _, _, _, _, _, _, _, _, _, _, _, _, _, _, _, _, _, _, _, _, _, _, _, _, _, _, _, _, _, _, _, _, _] _
  refine run_seq ?_
  refine run_region ?_
  refine ops_val (ex_assign rfl) ?_
  refine ops_nil ?_
  change Run _ _ _ _ [_, _, _, _, _, _, _, _, _, _, _, _, _, _, _, _, _, _, _, _, _, _, _, _, _, _, _, _, _, _, _, _, _, _, _, _, _, _, _, _, _, _, _, _, _, _, _, _, _, _, _, _, _, _, _, _, _, _, _, _, _, _, _, _, _, _, _, _, _, _, _] _
  refine run_seq ?_
  refine run_region ?_
  refine ops_val (ex_move rfl) ?_
  refine ops_val (ex_move rfl) ?_
  refine ops_call_own (ex_call gf16 rfl) (num_any v _ hv) ?_
  intro w1 go1 co1 so1 hmo1 hco1 hgo1 Hd
  have H1 := H.call0 Hd
  refine ops_app8 Try.underlying22 ty5 H1 0 (L := []) (M := enc v) (g := none) (cap := 0) (sp := []) rfl rfl (by simp) (Nat.le_refl _) (fun _ => rfl) rfl (H1.rd (i := 1) (o := go1) (xs := u8s (enc v)) (sp := so1) rfl (u8s_length1 _) (by decide)) (by simp; omega) ?_
  intro w2 ga1 ca1 sa1 H2 hma1 hca1 hga1
  replace H2 := H2.pick [0] (by decide)
  change Ops _ _ _ _ _ _ [_, _, _, _, _, _, _, _, _, _, _, _, _, _, _, _, _, _, _, _, _, _, _, _, _, _, _, _, _, _, _, _, _, _, _, _, _, _, _, _, _, _, _, _, _, _, _, _, _, _, _, _, _, _, _, _, _, _, _, _, _, _, _, _, _, _, _, _, _, _, _] _
  refine ops_val (ex_assign rfl) ?_
  refine ops_nil ?_
  change Run _ _ _ _ [_, _, _, _, _, _, _, _, _, _, _, _, _, _, _, _, _, _, _, _, _, _, _, _, _, _, _, _, _, _, _, _, _, _, _, _, _, _, _, _, _, _, _, _, _, _, _, _, _, _, _, _, _, _, _, _, _, _, _, _, _, _, _, _, _, _, _, _, _, _, _] _
  refine run_seq ?_
  refine run_region ?_
  refine ops_val (ex_move rfl) ?_
  refine ops_val (ex_move rfl) ?_
  refine ops_call_own (ex_call gf17 rfl) (int_any n _ hlo hhi) ?_
  intro w3 go2 co2 so2 hmo2 hco2 hgo2 Hd
  have H3 := H2.call0 Hd
  refine ops_app8 Try.underlying22 ty5 H3 0 (L := [] ++ enc v) (M := encInt n) (g := ga1) (cap := ca1) (sp := sa1) rfl rfl hca1 hma1 hga1 rfl (H3.rd (i := 1) (o := go2) (xs := u8s (encInt n)) (sp := so2) rfl (u8s_length1 _) (by decide)) (by simp; omega) ?_
  intro w4 ga2 ca2 sa2 H4 hma2 hca2 hga2
  replace H4 := H4.pick [0] (by decide)
  change Ops _ _ _ _ _ _ [_, _, _, _, _, _, _, _, _, _, _, _, _, _, _, _, _, _, _, _, _, _, _, _, _, _, _, _, _, _, _, _, _, _, _, _, _, _, _, _, _, _, _, _, _, _, _, _, _, _, _, _, _, _, _, _, _, _, _, _, _, _, _, _, _, _, _, _, _, _, _] _
  refine ops_val (ex_assign rfl) ?_
  refine ops_nil ?_
  change Run _ _ _ _ [_, _, _, _, _, _, _, _, _, _, _, _, _, _, _, _, _, _, _, _, _, _, _, _, _, _, _, _, _, _, _, _, _, _, _, _, _, _, _, _, _, _, _, _, _, _, _, _, _, _, _, _, _, _, _, _, _, _, _, _, _, _, _, _, _, _, _, _, _, _, _] _
  refine run_seq ?_
  refine run_region ?_
  refine ops_val (ex_move rfl) ?_
  refine ops_val (ex_move rfl) ?_
  refine ops_call_own (ex_call gf18 rfl) (text_any A b c _ (hr.to0 H4) (by omega)) ?_
  intro w5 go3 co3 so3 hmo3 hco3 hgo3 Hd
  have H5 := H4.call0 Hd
  refine ops_app8 Try.underlying22 ty5 H5 0 (L := ([] ++ enc v) ++ encInt n) (M := encText b) (g := ga2) (cap := ca2) (sp := sa2) rfl rfl hca2 hma2 hga2 rfl (H5.rd (i := 1) (o := go3) (xs := u8s (encText b)) (sp := so3) rfl (u8s_length1 _) (by decide)) (by simp; omega) ?_
  intro w6 ga3 ca3 sa3 H6 hma3 hca3 hga3
  replace H6 := H6.pick [0] (by decide)
  change Ops _ _ _ _ _ _ [_, _, _, _, _, _, _, _, _, _, _, _, _, _, _, _, _, _, _, _, _, _, _, _, _, _, _, _, _, _, _, _, _, _, _, _, _, _, _, _, _, _, _, _, _, _, _, _, _, _, _, _, _, _, _, _, _, _, _, _, _, _, _, _, _, _, _, _, _, _, _] _
  refine ops_val (ex_assign rfl) ?_
  refine ops_nil ?_
  change Run _ _ _ _ [_, _, _, _, _, _, _, _, _, _, _, _, _, _, _, _, _, _, _, _, _, _, _, _, _, _, _, _, _, _, _, _, _, _, _, _, _, _, _, _, _, _, _, _, _, _, _, _, _, _, _, _, _, _, _, _, _, _, _, _, _, _, _, _, _, _, _, _, _, _, _] _
  refine run_seq ?_
  refine run_region ?_
  refine ops_val (ex_assign rfl) ?_
  refine ops_nil ?_
  change Run _ _ _ _ [_, _, _, _, _, _, _, _, _, _, _, _, _, _, _, _, _, _, _, _, _, _, _, _, _, _, _, _, _, _, _, _, _, _, _, _, _, _, _, _, _, _, _, _, _, _, _, _, _, _, _, _, _, _, _, _, _, _, _, _, _, _, _, _, _, _, _, _, _, _, _] _
  refine run_seq ?_
  refine run_seq ?_
  refine run_region ?_
  refine ops_val (ex_move rfl) ?_
  refine ops_nil ?_
  change Run _ _ _ _ [_, _, _, _, _, _, _, _, _, _, _, _, _, _, _, _, _, _, _, _, _, _, _, _, _, _, _, _, _, _, _, _, _, _, _, _, _, _, _, _, _, _, _, _, _, _, _, _, _, _, _, _, _, _, _, _, _, _, _, _, _, _, _, _, _, _, _, _, _, _, _] _
  refine run_cond_true rfl ?_
  refine run_region ?_
  refine ops_val (ex_assign rfl) ?_
  refine ops_nil ?_
  change Run _ _ _ _ [_, _, _, _, _, _, _, _, _, _, _, _, _, _, _, _, _, _, _, _, _, _, _, _, _, _, _, _, _, _, _, _, _, _, _, _, _, _, _, _, _, _, _, _, _, _, _, _, _, _, _, _, _, _, _, _, _, _, _, _, _, _, _, _, _, _, _, _, _, _, _] _
  refine run_seq ?_
  refine run_region ?_
  refine ops_val (ex_move rfl) ?_
  refine ops_val (ex_move rfl) ?_
  refine ops_buildSlice Try.underlying22 ty5 H6 (cs := u8s [1]) rfl (by decide) rfl ?_
  intro w7 gb H7 hgb
  refine ops_app8 Try.underlying22 ty5 H7 0 (L := (([] ++ enc v) ++ encInt n) ++ encText b) (M := [1]) (g := ga3) (cap := ca3) (sp := sa3) rfl rfl hca3 hma3 hga3 rfl (H7.rd (i := 1) (o := some gb) (xs := u8s ([1])) (sp := []) rfl (u8s_length1 _) (by decide)) (by simp; omega) ?_
  intro w8 ga4 ca4 sa4 H8 hma4 hca4 hga4
  replace H8 := H8.pick [0] (by decide)
  change Ops _ _ _ _ _ _ [_, _, _, _, _, _, _, _, _, _, _, _, _, _, _, _, _, _, _, _, _, _, _, _, _, _, _, _, _, _, _, _, _, _, _, _, _, _, _, _, _, _, _, _, _, _, _, _, _, _, _, _, _, _, _, _, _, _, _, _, _, _, _, _, _, _, _, _, _, _, _] _
  refine ops_val (ex_assign rfl) ?_
  refine ops_nil ?_
  change Run _ _ _ _ [_, _, _, _, _, _, _, _, _, _, _, _, _, _, _, _, _, _, _, _, _, _, _, _, _, _, _, _, _, _, _, _, _, _, _, _, _, _, _, _, _, _, _, _, _, _, _, _, _, _, _, _, _, _, _, _, _, _, _, _, _, _, _, _, _, _, _, _, _, _, _] _
  refine run_seq ?_
  refine run_region ?_
  refine ops_val (ex_move rfl) ?_
  refine ops_new (ex_call gf8 rfl) (new_any _ ((([] ++ enc v) ++ encInt n) ++ encText b ++ [1]) _ _ (H8.rd (i := 0) (o := ga4) (xs := u8s ((([] ++ enc v) ++ encInt n) ++ encText b ++ [1])) (sp := sa4) rfl (u8s_length1 _) (by decide)) (by simp; omega)) ?_
  intro w9 gr g cp sp hn1 hn2 hn3 Hc
  have H9 := (H8.call0 Hc).pick [1, 2] (by decide)
  obtain ⟨i1, i2, i3, q1, q2, q3, q4, q5, q6, q7⟩ := back_plain v n b 1 hv hlo hhi (by omega) (by decide)
  have hLl : ((([] ++ enc v) ++ encInt n) ++ encText b ++ [1]).length ≤ 211106232532900 := by simp; omega
  generalize (([] ++ enc v) ++ encInt n) ++ encText b ++ [1] = L at H9 q1 q2 q3 q4 q5 hLl hn1 hn2
  have hR := rdr_of H9 (j := 0) (k := 1) rfl rfl (by decide) hn1 hLl (Nat.zero_le _)
  refine ops_val (ex_assign rfl) ?_
  refine ops_nil ?_
  change Run _ _ _ _ [_, _, _, _, _, _, _, _, _, _, _, _, _, _, _, _, _, _, _, _, _, _, _, _, _, _, _, _, _, _, _, _, _, _, _, _, _, _, _, _, _, _, _, _, _, _, _, _, _, _, _, _, _, _, _, _, _, _, _, _, _, _, _, _, _, _, _, _, _, _, _] _
  refine run_seq ?_
  refine run_seq ?_
  refine run_region ?_
  refine ops_call_val (ex_call gf9 rfl) (awake_any _) ?_
  intro w10 Hd
  have H10 := H9.call0 Hd
  replace hR := hR.to0 Hd
  refine ops_val (ex_not rfl) ?_
  refine ops_val (ex_move rfl) ?_
  change Ops _ _ _ _ _ _ [_, _, _, _, _, _, _, _, _, _, _, _, _, _, _, _, _, _, _, _, _, _, _, _, _, _, _, _, _, _, _, _, _, _, _, _, _, _, _, _, _, _, _, _, _, _, _, _, _, _, _, _, _, _, _, _, _, _, _, _, _, _, _, _, _, _, _, _, _, _, _] _
  refine ops_yes rfl ?_
  refine ops_val (ex_move rfl) ?_
  refine ops_yes rfl ?_
  refine ops_false (ex_eql_nil_ptr Try.underlying23 rfl) (by simp) ?_
  refine ops_val (ex_pick_f rfl rfl) ?_
  refine ops_nil ?_
  change Run _ _ _ _ [_, _, _, _, _, _, _, _, _, _, _, _, _, _, _, _, _, _, _, _, _, _, _, _, _, _, _, _, _, _, _, _, _, _, _, _, _, _, _, _, _, _, _, _, _, _, _, _, _, _, _, _, _, _, _, _, _, _, _, _, _, _, _, _, _, _, _, _, _, _, _] _
  refine run_cond_false rfl ?_
  refine run_skip ?_
  refine run_seq ?_
  refine run_region ?_
  refine ops_val (ex_move rfl) ?_
  have hk := num_rd gr _ _ L 0 0 _ hR
  rw [q1] at hk
  refine ops_call_val (ex_call gf10 rfl) hk ?_
  intro w11 Hd
  have H11 := (H10.call1 (i := 0) rfl Hd).pick [2, 1] (by decide)
  replace hR := hR.next Hd (by dsimp only; omega)
  refine ops_val (ex_move rfl) ?_
  refine ops_true (ex_eql rfl rfl) (rfl) ?_
  change Ops _ _ _ _ _ _ [_, _, _, _, _, _, _, _, _, _, _, _, _, _, _, _, _, _, _, _, _, _, _, _, _, _, _, _, _, _, _, _, _, _, _, _, _, _, _, _, _, _, _, _, _, _, _, _, _, _, _, _, _, _, _, _, _, _, _, _, _, _, _, _, _, _, _, _, _, _, _] _
  refine ops_val (ex_move rfl) ?_
  refine ops_yes rfl ?_
  refine ops_val (ex_move rfl) ?_
  change Ops _ _ _ _ _ _ [_, _, _, _, _, _, _, _, _, _, _, _, _, _, _, _, _, _, _, _, _, _, _, _, _, _, _, _, _, _, _, _, _, _, _, _, _, _, _, _, _, _, _, _, _, _, _, _, _, _, _, _, _, _, _, _, _, _, _, _, _, _, _, _, _, _, _, _, _, _, _] _
  refine ops_yes rfl ?_
  have hk := int_rd gr _ _ L i1 0 _ hR
  rw [q2, unz_zig] at hk
  refine ops_call_val (ex_call gf11 rfl) hk ?_
  intro w12 Hd
  have H12 := (H11.call1 (i := 0) rfl Hd).pick [2, 1] (by decide)
  replace hR := hR.next Hd (by dsimp only; omega)
  refine ops_yes rfl ?_
  refine ops_val (ex_move rfl) ?_
  change Ops _ _ _ _ _ _ [_, _, _, _, _, _, _, _, _, _, _, _, _, _, _, _, _, _, _, _, _, _, _, _, _, _, _, _, _, _, _, _, _, _, _, _, _, _, _, _, _, _, _, _, _, _, _, _, _, _, _, _, _, _, _, _, _, _, _, _, _, _, _, _, _, _, _, _, _, _, _] _
  refine ops_yes rfl ?_
  refine ops_true (ex_eql rfl rfl) (rfl) ?_
  refine ops_val (ex_pick_t rfl rfl) ?_
  refine ops_val (ex_move rfl) ?_
  change Ops _ _ _ _ _ _ [_, _, _, _, _, _, _, _, _, _, _, _, _, _, _, _, _, _, _, _, _, _, _, _, _, _, _, _, _, _, _, _, _, _, _, _, _, _, _, _, _, _, _, _, _, _, _, _, _, _, _, _, _, _, _, _, _, _, _, _, _, _, _, _, _, _, _, _, _, _, _] _
  refine ops_yes rfl ?_
  refine ops_val (ex_move rfl) ?_
  refine ops_yes rfl ?_
  refine ops_val (ex_move rfl) ?_
  change Ops _ _ _ _ _ _ [_, _, _, _, _, _, _, _, _, _, _, _, _, _, _, _, _, _, _, _, _, _, _, _, _, _, _, _, _, _, _, _, _, _, _, _, _, _, _, _, _, _, _, _, _, _, _, _, _, _, _, _, _, _, _, _, _, _, _, _, _, _, _, _, _, _, _, _, _, _, _] _
  refine ops_yes rfl ?_
  refine ops_val (ex_len_slice Try.underlying22 rfl) ?_
  refine ops_yes rfl ?_
  have hk := text_rd gr _ _ L i2 0 _ hR b.length (by omega) (by omega)
  rw [q3] at hk
  refine ops_call_slice (ex_call gf12 rfl) hk ?_
  intro w13 gt ct st ⟨ht1, ht2, ht3, Hd⟩
  have H13 := (H12.call1 (i := 0) rfl Hd).pick [2, 1, 3] (by decide)
  replace hR := hR.next (Hd.pick [0] (by decide)) (by dsimp only; omega)
  change Ops _ _ _ _ _ _ [_, _, _, _, _, _, _, _, _, _, _, _, _, _, _, _, _, _, _, _, _, _, _, _, _, _, _, _, _, _, _, _, _, _, _, _, _, _, _, _, _, _, _, _, _, _, _, _, _, _, _, _, _, _, _, _, _, _, _, _, _, _, _, _, _, _, _, _, _, _, _] _
  refine ops_yes rfl ?_
  refine ops_val (ex_move rfl) ?_
  refine ops_yes rfl ?_
  have hk := bytes_any _ _ b b ct c _ (H13.rd (i := 2) (o := gt) (xs := u8s b) (sp := st) rfl (u8s_length1 _) (by decide)) (hr.to0 H13) (by omega) (by omega)
  rw [decide_eq_true rfl] at hk
  refine ops_call_val (ex_call gf15 rfl) hk ?_
  intro w14 Hd
  have H14 := H13.call0 Hd
  replace hR := hR.to0 Hd
  refine ops_val (ex_pick_t rfl rfl) ?_
  refine ops_val (ex_move rfl) ?_
  change Ops _ _ _ _ _ _ [_, _, _, _, _, _, _, _, _, _, _, _, _, _, _, _, _, _, _, _, _, _, _, _, _, _, _, _, _, _, _, _, _, _, _, _, _, _, _, _, _, _, _, _, _, _, _, _, _, _, _, _, _, _, _, _, _, _, _, _, _, _, _, _, _, _, _, _, _, _, _] _
  refine ops_yes rfl ?_
  refine ops_val (ex_move rfl) ?_
  refine ops_yes rfl ?_
  have hk := flag_rd gr _ _ L i3 0 _ hR
  rw [q4] at hk
  refine ops_call_val (v := .bool true) (ex_call gf19 rfl) hk ?_
  intro w15 Hd
  have H15 := (H14.call1 (i := 0) rfl Hd).pick [3] (by decide)
  replace hR := hR.next Hd (by dsimp only; omega)
  change Ops _ _ _ _ _ _ [_, _, _, _, _, _, _, _, _, _, _, _, _, _, _, _, _, _, _, _, _, _, _, _, _, _, _, _, _, _, _, _, _, _, _, _, _, _, _, _, _, _, _, _, _, _, _, _, _, _, _, _, _, _, _, _, _, _, _, _, _, _, _, _, _, _, _, _, _, _, _] _
  refine ops_yes rfl ?_
  refine ops_val (ex_move rfl) ?_
  refine ops_yes rfl ?_
  refine ops_true (ex_eql_bool Try.underlying4 rfl rfl) (rfl) ?_
  refine ops_val (ex_pick_t rfl rfl) ?_
  refine ops_val (ex_move rfl) ?_
  change Ops _ _ _ _ _ _ [_, _, _, _, _, _, _, _, _, _, _, _, _, _, _, _, _, _, _, _, _, _, _, _, _, _, _, _, _, _, _, _, _, _, _, _, _, _, _, _, _, _, _, _, _, _, _, _, _, _, _, _, _, _, _, _, _, _, _, _, _, _, _, _, _, _, _, _, _, _, _] _
  refine ops_yes rfl ?_
  refine ops_val (ex_move rfl) ?_
  refine ops_yes rfl ?_
  have hk := left_rd gr _ _ L (i3 + 1) 0 _ hR
  rw [q5, Nat.sub_self] at hk
  refine ops_call_val (ex_call gf14 rfl) hk ?_
  intro w16 Hd
  have H16 := H15.call0 Hd
  replace hR := hR.to0 Hd
  change Ops _ _ _ _ _ _ [_, _, _, _, _, _, _, _, _, _, _, _, _, _, _, _, _, _, _, _, _, _, _, _, _, _, _, _, _, _, _, _, _, _, _, _, _, _, _, _, _, _, _, _, _, _, _, _, _, _, _, _, _, _, _, _, _, _, _, _, _, _, _, _, _, _, _, _, _, _, _] _
  refine ops_yes rfl ?_
  refine ops_true (ex_eql rfl rfl) (rfl) ?_
  refine ops_val (ex_pick_t rfl rfl) ?_
  refine ops_val (ex_move rfl) ?_
  change Ops _ _ _ _ _ _ [_, _, _, _, _, _, _, _, _, _, _, _, _, _, _, _, _, _, _, _, _, _, _, _, _, _, _, _, _, _, _, _, _, _, _, _, _, _, _, _, _, _, _, _, _, _, _, _, _, _, _, _, _, _, _, _, _, _, _, _, _, _, _, _, _, _, _, _, _, _, _] _
  refine ops_yes rfl ?_
  refine ops_val (ex_move rfl) ?_
  refine ops_yes rfl ?_
  have hk := end_rd gr _ _ L (i3 + 1) 0 _ hR
  rw [if_neg (by omega)] at hk
  refine ops_call_val (ex_call gf20 rfl) hk ?_
  intro w17 Hd
  have H17 := H16.call0 Hd
  change Ops _ _ _ _ _ _ [_, _, _, _, _, _, _, _, _, _, _, _, _, _, _, _, _, _, _, _, _, _, _, _, _, _, _, _, _, _, _, _, _, _, _, _, _, _, _, _, _, _, _, _, _, _, _, _, _, _, _, _, _, _, _, _, _, _, _, _, _, _, _, _, _, _, _, _, _, _, _] _
  refine ops_yes rfl ?_
  refine ops_true (ex_eql rfl rfl) (rfl) ?_
  refine ops_val (ex_pick_t rfl rfl) ?_
  refine ops_val (ex_assign rfl) ?_
  refine ops_nil ?_
  change Run _ _ _ _ [_, _, _, _, _, _, _, _, _, _, _, _, _, _, _, _, _, _, _, _, _, _, _, _, _, _, _, _, _, _, _, _, _, _, _, _, _, _, _, _, _, _, _, _, _, _, _, _, _, _, _, _, _, _, _, _, _, _, _, _, _, _, _, _, _, _, _, _, _, _, _] _
  refine run_ret ?_
  refine fin_ret1 rfl rfl ?_
  exact ⟨rfl, H17.pick [] (by decide)⟩
set_option maxRecDepth 100000 in
set_option maxHeartbeats 4000000 in
theorem codecBack_f (v : Nat) (n : Int) (A : Option Addr) (b : List UInt8) (c : Nat) (w0 : World) (hv : v < 2 ^ 64) (hlo : -9223372036854775808 ≤ n) (hhi : n ≤ 9223372036854775807) (hr : Rd w0 A b.length 1 (u8s b)) (hb : b.length ≤ 140737488355328) :
    Does Try.prog 4 #[.int .u64 v, .int .i64 n, .slice A b.length c, .bool false] w0 (fun r w' => r = .bool true ∧ Hp w0 w' [] []) := by
  refine does_of Try.func4 Try.ntmps4 rfl ?_
  change Run _ _ _ _ [.int .u64 v, .int .i64 n, .slice A b.length c, .bool false, undef, undef, undef, undef, undef, undef, undef, undef, undef, undef, undef, undef, undef, undef, undef, undef, undef, undef, undef, undef, undef, undef, undef, undef, undef, undef, undef, undef, undef, undef, undef, undef, undef, undef, undef, undef, undef, undef, undef, undef, undef, undef, undef, undef, undef, undef, undef, undef, undef, undef, undef, undef, undef, undef, undef, undef, undef, undef, undef, undef, undef, undef, undef, undef, undef, undef, undef] _
  have H := (Hp.refl w0).nil 5
  have hl1 := enc_len64 hv
  have hl2 := enc_len64 (zig_lt n hlo hhi)
  have hl3 := enc_len64 (v := b.length) (by omega)
  rw [← encInt_eq] at hl2
  have hl4 : (encText b).length = (enc b.length).length + b.length := by rw [encText_eq, List.length_append]
  refine run_seq ?_
  refine run_region ?_
  refine ops_val (ex_assign rfl) ?_
  refine ops_nil ?_
  change Run _ _ _ _ [_, _, _, _, _, _, _, _, _, _, _, _, _, _, _, _, _, _, _, _, _, _, _, _, _, _, _, _, _, _, _, _, _, _, _, _, _, _, _, _, _, _, _, _, _, _, _, _, _, _, _, _, _, _, _, _, _, _, _, _, _, _, _, _, _, _, _, _, _, _, _] _
  refine run_seq ?_
  refine run_region ?_
  refine ops_val (ex_assign rfl) ?_
  refine ops_nil ?_
  change Run _ _ _ _ [_, _, _, _, _, _, _, _, _, _, _, _, _, _, _, _, _, _, _, _, _, _, _, _, _, _, _, _, _, _, _, _, _, _, _, _, _, _, _, _, _, _, _, _, _, _, _, _, _, _, _, _, _, _, _, _, _, _, _, _, _, _, _, _, _, _, _, _, _, _, _] _
  refine run_seq ?_
  refine run_region ?_
  refine ops_val (ex_move rfl) ?_
  refine ops_val (ex_move rfl) ?_
  refine ops_call_own (ex_call gf16 rfl) (num_any v _ hv) ?_
  intro w1 go1 co1 so1 hmo1 hco1 hgo1 Hd
  have H1 := H.call0 Hd
  refine ops_app8 Try.underlying22 ty5 H1 0 (L := []) (M := enc v) (g := none) (cap := 0) (sp := []) rfl rfl (by simp) (Nat.le_refl _) (fun _ => rfl) rfl (H1.rd (i := 1) (o := go1) (xs := u8s (enc v)) (sp := so1) rfl (u8s_length1 _) (by decide)) (by simp; omega) ?_
  intro w2 ga1 ca1 sa1 H2 hma1 hca1 hga1
  replace H2 := H2.pick [0] (by decide)
  change Ops _ _ _ _ _ _ [_, _, _, _, _, _, _, _, _, _, _, _, _, _, _, _, _, _, _, _, _, _, _, _, _, _, _, _, _, _, _, _, _, _, _, _, _, _, _, _, _, _, _, _, _, _, _, _, _, _, _, _, _, _, _, _, _, _, _, _, _, _, _, _, _, _, _, _, _, _, _] _
  refine ops_val (ex_assign rfl) ?_
  refine ops_nil ?_
  change Run _ _ _ _ [_, _, _, _, _, _, _, _, _, _, _, _, _, _, _, _, _, _, _, _, _, _, _, _, _, _, _, _, _, _, _, _, _, _, _, _, _, _, _, _, _, _, _, _, _, _, _, _, _, _, _, _, _, _, _, _, _, _, _, _, _, _, _, _, _, _, _, _, _, _, _] _
  refine run_seq ?_
  refine run_region ?_
  refine ops_val (ex_move rfl) ?_
  refine ops_val (ex_move rfl) ?_
  refine ops_call_own (ex_call gf17 rfl) (int_any n _ hlo hhi) ?_
  intro w3 go2 co2 so2 hmo2 hco2 hgo2 Hd
  have H3 := H2.call0 Hd
  refine ops_app8 Try.underlying22 ty5 H3 0 (L := [] ++ enc v) (M := encInt n) (g := ga1) (cap := ca1) (sp := sa1) rfl rfl hca1 hma1 hga1 rfl (H3.rd (i := 1) (o := go2) (xs := u8s (encInt n)) (sp := so2) rfl (u8s_length1 _) (by decide)) (by simp; omega) ?_
  intro w4 ga2 ca2 sa2 H4 hma2 hca2 hga2
  replace H4 := H4.pick [0] (by decide)
  change Ops _ _ _ _ _ _ [_, _, _, _, _, _, _, _, _, _, _, _, _, _, _, _, _, _, _, _, _, _, _, _, _, _, _, _, _, _, _, _, _, _, _, _, _, _, _, _, _, _, _, _, _, _, _, _, _, _, _, _, _, _, _, _, _, _, _, _, _, _, _, _, _, _, _, _, _, _, _] _
  refine ops_val (ex_assign rfl) ?_
  refine ops_nil ?_
  change Run _ _ _ _ [_, _, _, _, _, _, _, _, _, _, _, _, _, _, _, _, _, _, _, _, _, _, _, _, _, _, _, _, _, _, _, _, _, _, _, _, _, _, _, _, _, _, _, _, _, _, _, _, _, _, _, _, _, _, _, _, _, _, _, _, _, _, _, _, _, _, _, _, _, _, _] _
  refine run_seq ?_
  refine run_region ?_
  refine ops_val (ex_move rfl) ?_
  refine ops_val (ex_move rfl) ?_
  refine ops_call_own (ex_call gf18 rfl) (text_any A b c _ (hr.to0 H4) (by omega)) ?_
  intro w5 go3 co3 so3 hmo3 hco3 hgo3 Hd
  have H5 := H4.call0 Hd
  refine ops_app8 Try.underlying22 ty5 H5 0 (L := ([] ++ enc v) ++ encInt n) (M := encText b) (g := ga2) (cap := ca2) (sp := sa2) rfl rfl hca2 hma2 hga2 rfl (H5.rd (i := 1) (o := go3) (xs := u8s (encText b)) (sp := so3) rfl (u8s_length1 _) (by decide)) (by simp; omega) ?_
  intro w6 ga3 ca3 sa3 H6 hma3 hca3 hga3
  replace H6 := H6.pick [0] (by decide)
  change Ops _ _ _ _ _ _ [_, _, _, _, _, _, _, _, _, _, _, _, _, _, _, _, _, _, _, _, _, _, _, _, _, _, _, _, _, _, _, _, _, _, _, _, _, _, _, _, _, _, _, _, _, _, _, _, _, _, _, _, _, _, _, _, _, _, _, _, _, _, _, _, _, _, _, _, _, _, _] _
  refine ops_val (ex_assign rfl) ?_
  refine ops_nil ?_
  change Run _ _ _ _ [_, _, _, _, _, _, _, _, _, _, _, _, _, _, _, _, _, _, _, _, _, _, _, _, _, _, _, _, _, _, _, _, _, _, _, _, _, _, _, _, _, _, _, _, _, _, _, _, _, _, _, _, _, _, _, _, _, _, _, _, _, _, _, _, _, _, _, _, _, _, _] _
  refine run_seq ?_
  refine run_region ?_
  refine ops_val (ex_assign rfl) ?_
  refine ops_nil ?_
  change Run _ _ _ _ [_, _, _, _, _, _, _, _, _, _, _, _, _, _, _, _, _, _, _, _, _, _, _, _, _, _, _, _, _, _, _, _, _, _, _, _, _, _, _, _, _, _, _, _, _, _, _, _, _, _, _, _, _, _, _, _, _, _, _, _, _, _, _, _, _, _, _, _, _, _, _] _
  refine run_seq ?_
  refine run_seq ?_
  refine run_region ?_
  refine ops_val (ex_move rfl) ?_
  refine ops_nil ?_
  change Run _ _ _ _ [_, _, _, _, _, _, _, _, _, _, _, _, _, _, _, _, _, _, _, _, _, _, _, _, _, _, _, _, _, _, _, _, _, _, _, _, _, _, _, _, _, _, _, _, _, _, _, _, _, _, _, _, _, _, _, _, _, _, _, _, _, _, _, _, _, _, _, _, _, _, _] _
  refine run_cond_false rfl ?_
  refine run_skip ?_
  refine run_seq ?_
  refine run_region ?_
  refine ops_val (ex_move rfl) ?_
  refine ops_val (ex_move rfl) ?_
  refine ops_buildSlice Try.underlying22 ty5 H6 (cs := u8s [0]) rfl (by decide) rfl ?_
  intro w7 gb H7 hgb
  refine ops_app8 Try.underlying22 ty5 H7 0 (L := (([] ++ enc v) ++ encInt n) ++ encText b) (M := [0]) (g := ga3) (cap := ca3) (sp := sa3) rfl rfl hca3 hma3 hga3 rfl (H7.rd (i := 1) (o := some gb) (xs := u8s ([0])) (sp := []) rfl (u8s_length1 _) (by decide)) (by simp; omega) ?_
  intro w8 ga4 ca4 sa4 H8 hma4 hca4 hga4
  replace H8 := H8.pick [0] (by decide)
  change Ops _ _ _ _ _ _ [_, _, _, _, _, _, _, _, _, _, _, _, _, _, _, _, _, _, _, _, _, _, _, _, _, _, _, _, _, _, _, _, _, _, _, _, _, _, _, _, _, _, _, _, _, _, _, _, _, _, _, _, _, _, _, _, _, _, _, _, _, _, _, _, _, _, _, _, _, _, _] _
  refine ops_val (ex_assign rfl) ?_
  refine ops_nil ?_
  change Run _ _ _ _ [_, _, _, _, _, _, _, _, _, _, _, _, _, _, _, _, _, _, _, _, _, _, _, _, _, _, _, _, _, _, _, _, _, _, _, _, _, _, _, _, _, _, _, _, _, _, _, _, _, _, _, _, _, _, _, _, _, _, _, _, _, _, _, _, _, _, _, _, _, _, _] _
  refine run_seq ?_
  refine run_region ?_
  refine ops_val (ex_move rfl) ?_
  refine ops_new (ex_call gf8 rfl) (new_any _ ((([] ++ enc v) ++ encInt n) ++ encText b ++ [0]) _ _ (H8.rd (i := 0) (o := ga4) (xs := u8s ((([] ++ enc v) ++ encInt n) ++ encText b ++ [0])) (sp := sa4) rfl (u8s_length1 _) (by decide)) (by simp; omega)) ?_
  intro w9 gr g cp sp hn1 hn2 hn3 Hc
  have H9 := (H8.call0 Hc).pick [1, 2] (by decide)
  obtain ⟨i1, i2, i3, q1, q2, q3, q4, q5, q6, q7⟩ := back_plain v n b 0 hv hlo hhi (by omega) (by decide)
  have hLl : ((([] ++ enc v) ++ encInt n) ++ encText b ++ [0]).length ≤ 211106232532900 := by simp; omega
  generalize (([] ++ enc v) ++ encInt n) ++ encText b ++ [0] = L at H9 q1 q2 q3 q4 q5 hLl hn1 hn2
  have hR := rdr_of H9 (j := 0) (k := 1) rfl rfl (by decide) hn1 hLl (Nat.zero_le _)
  refine ops_val (ex_assign rfl) ?_
  refine ops_nil ?_
  change Run _ _ _ _ [_, _, _, _, _, _, _, _, _, _, _, _, _, _, _, _, _, _, _, _, _, _, _, _, _, _, _, _, _, _, _, _, _, _, _, _, _, _, _, _, _, _, _, _, _, _, _, _, _, _, _, _, _, _, _, _, _, _, _, _, _, _, _, _, _, _, _, _, _, _, _] _
  refine run_seq ?_
  refine run_seq ?_
  refine run_region ?_
  refine ops_call_val (ex_call gf9 rfl) (awake_any _) ?_
  intro w10 Hd
  have H10 := H9.call0 Hd
  replace hR := hR.to0 Hd
  refine ops_val (ex_not rfl) ?_
  refine ops_val (ex_move rfl) ?_
  change Ops _ _ _ _ _ _ [_, _, _, _, _, _, _, _, _, _, _, _, _, _, _, _, _, _, _, _, _, _, _, _, _, _, _, _, _, _, _, _, _, _, _, _, _, _, _, _, _, _, _, _, _, _, _, _, _, _, _, _, _, _, _, _, _, _, _, _, _, _, _, _, _, _, _, _, _, _, _] _
  refine ops_yes rfl ?_
  refine ops_val (ex_move rfl) ?_
  refine ops_yes rfl ?_
  refine ops_false (ex_eql_nil_ptr Try.underlying23 rfl) (by simp) ?_
  refine ops_val (ex_pick_f rfl rfl) ?_
  refine ops_nil ?_
  change Run _ _ _ _ [_, _, _, _, _, _, _, _, _, _, _, _, _, _, _, _, _, _, _, _, _, _, _, _, _, _, _, _, _, _, _, _, _, _, _, _, _, _, _, _, _, _, _, _, _, _, _, _, _, _, _, _, _, _, _, _, _, _, _, _, _, _, _, _, _, _, _, _, _, _, _] _
  refine run_cond_false rfl ?_
  refine run_skip ?_
  refine run_seq ?_
  refine run_region ?_
  refine ops_val (ex_move rfl) ?_
  have hk := num_rd gr _ _ L 0 0 _ hR
  rw [q1] at hk
  refine ops_call_val (ex_call gf10 rfl) hk ?_
  intro w11 Hd
  have H11 := (H10.call1 (i := 0) rfl Hd).pick [2, 1] (by decide)
  replace hR := hR.next Hd (by dsimp only; omega)
  refine ops_val (ex_move rfl) ?_
  refine ops_true (ex_eql rfl rfl) (rfl) ?_
  change Ops _ _ _ _ _ _ [_, _, _, _, _, _, _, _, _, _, _, _, _, _, _, _, _, _, _, _, _, _, _, _, _, _, _, _, _, _, _, _, _, _, _, _, _, _, _, _, _, _, _, _, _, _, _, _, _, _, _, _, _, _, _, _, _, _, _, _, _, _, _, _, _, _, _, _, _, _, _] _
  refine ops_val (ex_move rfl) ?_
  refine ops_yes rfl ?_
  refine ops_val (ex_move rfl) ?_
  change Ops _ _ _ _ _ _ [_, _, _, _, _, _, _, _, _, _, _, _, _, _, _, _, _, _, _, _, _, _, _, _, _, _, _, _, _, _, _, _, _, _, _, _, _, _, _, _, _, _, _, _, _, _, _, _, _, _, _, _, _, _, _, _, _, _, _, _, _, _, _, _, _, _, _, _, _, _, _] _
  refine ops_yes rfl ?_
  have hk := int_rd gr _ _ L i1 0 _ hR
  rw [q2, unz_zig] at hk
  refine ops_call_val (ex_call gf11 rfl) hk ?_
  intro w12 Hd
  have H12 := (H11.call1 (i := 0) rfl Hd).pick [2, 1] (by decide)
  replace hR := hR.next Hd (by dsimp only; omega)
  refine ops_yes rfl ?_
  refine ops_val (ex_move rfl) ?_
  change Ops _ _ _ _ _ _ [_, _, _, _, _, _, _, _, _, _, _, _, _, _, _, _, _, _, _, _, _, _, _, _, _, _, _, _, _, _, _, _, _, _, _, _, _, _, _, _, _, _, _, _, _, _, _, _, _, _, _, _, _, _, _, _, _, _, _, _, _, _, _, _, _, _, _, _, _, _, _] _
  refine ops_yes rfl ?_
  refine ops_true (ex_eql rfl rfl) (rfl) ?_
  refine ops_val (ex_pick_t rfl rfl) ?_
  refine ops_val (ex_move rfl) ?_
  change Ops _ _ _ _ _ _ [_, _, _, _, _, _, _, _, _, _, _, _, _, _, _, _, _, _, _, _, _, _, _, _, _, _, _, _, _, _, _, _, _, _, _, _, _, _, _, _, _, _, _, _, _, _, _, _, _, _, _, _, _, _, _, _, _, _, _, _, _, _, _, _, _, _, _, _, _, _, _] _
  refine ops_yes rfl ?_
  refine ops_val (ex_move rfl) ?_
  refine ops_yes rfl ?_
  refine ops_val (ex_move rfl) ?_
  change Ops _ _ _ _ _ _ [_, _, _, _, _, _, _, _, _, _, _, _, _, _, _, _, _, _, _, _, _, _, _, _, _, _, _, _, _, _, _, _, _, _, _, _, _, _, _, _, _, _, _, _, _, _, _, _, _, _, _, _, _, _, _, _, _, _, _, _, _, _, _, _, _, _, _, _, _, _, _] _
  refine ops_yes rfl ?_
  refine ops_val (ex_len_slice Try.underlying22 rfl) ?_
  refine ops_yes rfl ?_
  have hk := text_rd gr _ _ L i2 0 _ hR b.length (by omega) (by omega)
  rw [q3] at hk
  refine ops_call_slice (ex_call gf12 rfl) hk ?_
  intro w13 gt ct st ⟨ht1, ht2, ht3, Hd⟩
  have H13 := (H12.call1 (i := 0) rfl Hd).pick [2, 1, 3] (by decide)
  replace hR := hR.next (Hd.pick [0] (by decide)) (by dsimp only; omega)
  change Ops _ _ _ _ _ _ [_, _, _, _, _, _, _, _, _, _, _, _, _, _, _, _, _, _, _, _, _, _, _, _, _, _, _, _, _, _, _, _, _, _, _, _, _, _, _, _, _, _, _, _, _, _, _, _, _, _, _, _, _, _, _, _, _, _, _, _, _, _, _, _, _, _, _, _, _, _, _] _
  refine ops_yes rfl ?_
  refine ops_val (ex_move rfl) ?_
  refine ops_yes rfl ?_
  have hk := bytes_any _ _ b b ct c _ (H13.rd (i := 2) (o := gt) (xs := u8s b) (sp := st) rfl (u8s_length1 _) (by decide)) (hr.to0 H13) (by omega) (by omega)
  rw [decide_eq_true rfl] at hk
  refine ops_call_val (ex_call gf15 rfl) hk ?_
  intro w14 Hd
  have H14 := H13.call0 Hd
  replace hR := hR.to0 Hd
  refine ops_val (ex_pick_t rfl rfl) ?_
  refine ops_val (ex_move rfl) ?_
  change Ops _ _ _ _ _ _ [_, _, _, _, _, _, _, _, _, _, _, _, _, _, _, _, _, _, _, _, _, _, _, _, _, _, _, _, _, _, _, _, _, _, _, _, _, _, _, _, _, _, _, _, _, _, _, _, _, _, _, _, _, _, _, _, _, _, _, _, _, _, _, _, _, _, _, _, _, _, _] _
  refine ops_yes rfl ?_
  refine ops_val (ex_move rfl) ?_
  refine ops_yes rfl ?_
  have hk := flag_rd gr _ _ L i3 0 _ hR
  rw [q4] at hk
  refine ops_call_val (v := .bool false) (ex_call gf19 rfl) hk ?_
  intro w15 Hd
  have H15 := (H14.call1 (i := 0) rfl Hd).pick [3] (by decide)
  replace hR := hR.next Hd (by dsimp only; omega)
  change Ops _ _ _ _ _ _ [_, _, _, _, _, _, _, _, _, _, _, _, _, _, _, _, _, _, _, _, _, _, _, _, _, _, _, _, _, _, _, _, _, _, _, _, _, _, _, _, _, _, _, _, _, _, _, _, _, _, _, _, _, _, _, _, _, _, _, _, _, _, _, _, _, _, _, _, _, _, _] _
  refine ops_yes rfl ?_
  refine ops_val (ex_move rfl) ?_
  refine ops_yes rfl ?_
  refine ops_true (ex_eql_bool Try.underlying4 rfl rfl) (rfl) ?_
  refine ops_val (ex_pick_t rfl rfl) ?_
  refine ops_val (ex_move rfl) ?_
  change Ops _ _ _ _ _ _ [_, _, _, _, _, _, _, _, _, _, _, _, _, _, _, _, _, _, _, _, _, _, _, _, _, _, _, _, _, _, _, _, _, _, _, _, _, _, _, _, _, _, _, _, _, _, _, _, _, _, _, _, _, _, _, _, _, _, _, _, _, _, _, _, _, _, _, _, _, _, _] _
  refine ops_yes rfl ?_
  refine ops_val (ex_move rfl) ?_
  refine ops_yes rfl ?_
  have hk := left_rd gr _ _ L (i3 + 1) 0 _ hR
  rw [q5, Nat.sub_self] at hk
  refine ops_call_val (ex_call gf14 rfl) hk ?_
  intro w16 Hd
  have H16 := H15.call0 Hd
  replace hR := hR.to0 Hd
  change Ops _ _ _ _ _ _ [_, _, _, _, _, _, _, _, _, _, _, _, _, _, _, _, _, _, _, _, _, _, _, _, _, _, _, _, _, _, _, _, _, _, _, _, _, _, _, _, _, _, _, _, _, _, _, _, _, _, _, _, _, _, _, _, _, _, _, _, _, _, _, _, _, _, _, _, _, _, _] _
  refine ops_yes rfl ?_
  refine ops_true (ex_eql rfl rfl) (rfl) ?_
  refine ops_val (ex_pick_t rfl rfl) ?_
  refine ops_val (ex_move rfl) ?_
  change Ops _ _ _ _ _ _ [_, _, _, _, _, _, _, _, _, _, _, _, _, _, _, _, _, _, _, _, _, _, _, _, _, _, _, _, _, _, _, _, _, _, _, _, _, _, _, _, _, _, _, _, _, _, _, _, _, _, _, _, _, _, _, _, _, _, _, _, _, _, _, _, _, _, _, _, _, _, _] _
  refine ops_yes rfl ?_
  refine ops_val (ex_move rfl) ?_
  refine ops_yes rfl ?_
  have hk := end_rd gr _ _ L (i3 + 1) 0 _ hR
  rw [if_neg (by omega)] at hk
  refine ops_call_val (ex_call gf20 rfl) hk ?_
  intro w17 Hd
  have H17 := H16.call0 Hd
  change Ops _ _ _ _ _ _ [_, _, _, _, _, _, _, _, _, _, _, _, _, _, _, _, _, _, _, _, _, _, _, _, _, _, _, _, _, _, _, _, _, _, _, _, _, _, _, _, _, _, _, _, _, _, _, _, _, _, _, _, _, _, _, _, _, _, _, _, _, _, _, _, _, _, _, _, _, _, _] _
  refine ops_yes rfl ?_
  refine ops_true (ex_eql rfl rfl) (rfl) ?_
  refine ops_val (ex_pick_t rfl rfl) ?_
  refine ops_val (ex_assign rfl) ?_
  refine ops_nil ?_
  change Run _ _ _ _ [_, _, _, _, _, _, _, _, _, _, _, _, _, _, _, _, _, _, _, _, _, _, _, _, _, _, _, _, _, _, _, _, _, _, _, _, _, _, _, _, _, _, _, _, _, _, _, _, _, _, _, _, _, _, _, _, _, _, _, _, _, _, _, _, _, _, _, _, _, _, _] _
  refine run_ret ?_
  refine fin_ret1 rfl rfl ?_
  exact ⟨rfl, H17.pick [] (by decide)⟩
end Go.Proofs.Ytlglenbmpikhmaa
