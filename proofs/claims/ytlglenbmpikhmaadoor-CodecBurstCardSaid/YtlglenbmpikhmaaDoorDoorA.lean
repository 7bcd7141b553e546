/- Walks of layer 2, printed by wip/gen/codec.py. -/
import Derived.Test.YtlglenbmpikhmaaDoorCodecD
import Derived.Test.YtlglenbmpikhmaaDoorDoorLaw
namespace Go.Proofs.YtlglenbmpikhmaaDoor
open Go Go.RowKit
set_option linter.unusedVariables false
attribute [local irreducible] Still Ops Does Cd
set_option maxRecDepth 100000 in
set_option maxHeartbeats 4000000 in
theorem more_any (s : BitVec 32) (A : Option Addr) (b : List UInt8) (c : Nat) (w0 : World) (hr : Rd w0 A b.length 1 (u8s b)) (hb : b.length ≤ 211106232532992) (hT : Tab w0) :
    Does Tryd.prog 24 #[.int .u32 (s.toNat : Int), .slice A b.length c] w0 (fun r w' => r = .int .u32 ((crc s b).toNat : Int) ∧ Hp w0 w' [] []) := by
  refine does_of Tryd.func24 Tryd.ntmps24 rfl ?_
  change Run _ _ _ _ [.int .u32 (s.toNat : Int), .slice A b.length c, undef, undef, undef, undef, undef, undef, undef, undef, undef, undef, undef, undef, undef, undef, undef, undef, undef, undef, undef, undef, undef, undef, undef, undef, undef, undef, undef, undef, undef, undef, undef, undef, undef, undef] _
  have H := Hp.refl w0
  refine run_seq ?_
  refine run_region ?_
  refine ops_val (ex_assign rfl) ?_
  refine ops_nil ?_
  change Run _ _ _ _ [_, _, _, _, _, _, _, _, _, _, _, _, _, _, _, _, _, _, _, _, _, _, _, _, _, _, _, _, _, _, _, _, _, _, _, _] _
  refine run_seq ?_
  refine run_seq ?_
  refine run_region ?_
  refine ops_val (ex_move rfl) ?_
  refine ops_val (ex_len_slice Tryd.underlying22 rfl) ?_
  refine ops_val (ex_move rfl) ?_
  refine ops_nil ?_
  change Run _ _ _ _ [_, _, _, _, _, _, _, _, _, _, _, _, _, _, _, _, _, _, _, _, _, _, _, _, _, _, _, _, _, _, _, _, _, _, _, _] _
  refine run_block ?_
  refine run_loop (fun n l w => ∃ (q : Nat) (x y : Int), b.length - q = n ∧ Fits [some (.int .u32 x), none, none, none, none, none, none, some (.slice A b.length c), some (.int .i64 b.length), some (.int .i64 y), none, none, none, none, none, none, none, none, none, none, none, none, none, none, none, none, none, none, none, none, none, none, none, none, none, none] l ∧ y = q ∧ q ≤ b.length ∧ x = ((crc s (b.take q)).toNat : Int) ∧ Hp w0 w [] []) (b.length) ?_ ?_
  · exact ⟨0, _, _, rfl, (fs (fn (fn (fn (fn (fn (fn (fs (fs (fs (fn (fn (fn (fn (fn (fn (fn (fn (fn (fn (fn (fn (fn (fn (fn (fn (fn (fn (fn (fn (fn (fn (fn (fn (fn (fn f0)))))))))))))))))))))))))))))))))))), rfl, Nat.zero_le _, rfl, H⟩
  · rintro n l w1 ⟨q, x, y, rfl, hfit, rfl, hq, rfl, H1⟩
    obtain ⟨j, rfl⟩ := hfit.open
    change Run _ _ _ _ [_, _, _, _, _, _, _, _, _, _, _, _, _, _, _, _, _, _, _, _, _, _, _, _, _, _, _, _, _, _, _, _, _, _, _, _] _
    clear hfit
    have hT1 := hT.to H1
    refine run_seq ?_
    refine run_region ?_
    refine ops_test (ex_lss rfl rfl) (fun hp10 => ?_) (fun hp10 => ?_)
    · have hql : q < b.length := by omega
      obtain ⟨a, rfl⟩ := hr.some_ (by omega)
      have hsn := crc_snoc (s := s) hql
      have hcb := crc_byte (crc s (b.take q)) b[q]
      rw [← hsn] at hcb
      have hlt := b[q].toNat_lt
      generalize hC : b[q] = cc at hcb hlt
      generalize crc s (b.take q) = S at hcb
      refine ops_nil ?_
      change Run _ _ _ _ [_, _, _, _, _, _, _, _, _, _, _, _, _, _, _, _, _, _, _, _, _, _, _, _, _, _, _, _, _, _, _, _, _, _, _, _] _
      refine run_seq ?_
      refine run_cond_true rfl ?_
      refine run_skip ?_
      refine run_seq ?_
      refine run_block ?_
      refine run_seq ?_
      refine run_region ?_
      refine ops_val (ex_idx Tryd.underlying22 ty5 rfl rfl rfl hql (Nat.mul_one _)) ?_
      refine ops_val (ex_load ty5 rfl ((hr.to0 H1).cells a rfl q (.int .u8 (cc.toNat : Int)) (by rw [← hC]; exact u8s_get hql))) ?_
      refine ops_val (ex_assign rfl) ?_
      refine ops_nil ?_
      change Run _ _ _ _ [_, _, _, _, _, _, _, _, _, _, _, _, _, _, _, _, _, _, _, _, _, _, _, _, _, _, _, _, _, _, _, _, _, _, _, _] _
      refine run_seq ?_
      refine run_region ?_
      refine ops_val (ex_move rfl) ?_
      refine ops_val (ex_shr rfl rfl (by omega) (shr32 S 4 (by decide))) ?_
      refine ops_val (ex_move rfl) ?_
      refine ops_val (ex_move rfl) ?_
      change Ops _ _ _ _ _ _ [_, _, _, _, _, _, _, _, _, _, _, _, _, _, _, _, _, _, _, _, _, _, _, _, _, _, _, _, _, _, _, _, _, _, _, _] _
      refine ops_val (ex_conv Tryd.underlying37 Tryd.underlying5 rfl (conv8 cc)) ?_
      refine ops_val (ex_xor rfl rfl (xor32 S (w8 cc))) ?_
      refine ops_val (ex_and rfl rfl (and32 (S ^^^ w8 cc) 15#32)) ?_
      refine ops_val (ex_indexA Tryd.underlying49 ty37 rfl rfl (by omega) (and15 _)) ?_
      change Ops _ _ _ _ _ _ [_, _, _, _, _, _, _, _, _, _, _, _, _, _, _, _, _, _, _, _, _, _, _, _, _, _, _, _, _, _, _, _, _, _, _, _] _
      refine ops_val (ex_load ty37 rfl (hT1.cell)) ?_
      refine ops_val (ex_xor rfl rfl (xor32 (S >>> 4) _)) ?_
      refine ops_val (ex_assign rfl) ?_
      refine ops_nil ?_
      change Run _ _ _ _ [_, _, _, _, _, _, _, _, _, _, _, _, _, _, _, _, _, _, _, _, _, _, _, _, _, _, _, _, _, _, _, _, _, _, _, _] _
      refine run_region ?_
      refine ops_val (ex_move rfl) ?_
      refine ops_val (ex_shr rfl rfl (by omega) (shr32 _ 4 (by decide))) ?_
      refine ops_val (ex_move rfl) ?_
      refine ops_val (ex_move rfl) ?_
      change Ops _ _ _ _ _ _ [_, _, _, _, _, _, _, _, _, _, _, _, _, _, _, _, _, _, _, _, _, _, _, _, _, _, _, _, _, _, _, _, _, _, _, _] _
      refine ops_val (ex_shr rfl rfl (by omega) (shr8_4 _)) ?_
      refine ops_val (ex_conv Tryd.underlying37 Tryd.underlying5 rfl (convh cc)) ?_
      refine ops_val (ex_xor rfl rfl (xor32 _ (h8 cc))) ?_
      refine ops_val (ex_and rfl rfl (and32 _ 15#32)) ?_
      change Ops _ _ _ _ _ _ [_, _, _, _, _, _, _, _, _, _, _, _, _, _, _, _, _, _, _, _, _, _, _, _, _, _, _, _, _, _, _, _, _, _, _, _] _
      refine ops_val (ex_indexA Tryd.underlying49 ty37 rfl rfl (by omega) (and15 _)) ?_
      refine ops_val (ex_load ty37 rfl (hT1.cell)) ?_
      refine ops_val (ex_xor rfl rfl (xor32 _ _)) ?_
      refine ops_val (ex_assign rfl) ?_
      refine ops_nil ?_
      change Run _ _ _ _ [_, _, _, _, _, _, _, _, _, _, _, _, _, _, _, _, _, _, _, _, _, _, _, _, _, _, _, _, _, _, _, _, _, _, _, _] _
      refine run_nil (blk_normal ?_)
      refine run_region ?_
      refine ops_val (ex_add rfl rfl (IntWalk.i64_in _ (by omega))) ?_
      refine ops_val (ex_move rfl) ?_
      refine ops_nil ?_
      change Run _ _ _ _ [_, _, _, _, _, _, _, _, _, _, _, _, _, _, _, _, _, _, _, _, _, _, _, _, _, _, _, _, _, _, _, _, _, _, _, _] _
      refine run_nil (rnd_normal ?_)
      exact ⟨b.length - (q + 1), by omega, q + 1, _, _, rfl, (fs (fn (fn (fn (fn (fn (fn (fs (fs (fs (fn (fn (fn (fn (fn (fn (fn (fn (fn (fn (fn (fn (fn (fn (fn (fn (fn (fn (fn (fn (fn (fn (fn (fn (fn (fn f0)))))))))))))))))))))))))))))))))))), rfl, by omega, by rw [← hcb], H1⟩
    · skip
      refine ops_nil ?_
      change Run _ _ _ _ [_, _, _, _, _, _, _, _, _, _, _, _, _, _, _, _, _, _, _, _, _, _, _, _, _, _, _, _, _, _, _, _, _, _, _, _] _
      refine run_seq ?_
      refine run_cond_false rfl ?_
      refine run_exit ?_
      refine rnd_exit ?_
      refine blk_exit ?_
      refine run_seq ?_
      refine run_region ?_
      refine ops_val (ex_move rfl) ?_
      refine ops_val (ex_assign rfl) ?_
      refine ops_nil ?_
      change Run _ _ _ _ [_, _, _, _, _, _, _, _, _, _, _, _, _, _, _, _, _, _, _, _, _, _, _, _, _, _, _, _, _, _, _, _, _, _, _, _] _
      refine run_ret ?_
      refine fin_ret1 rfl rfl ?_
      have e : b.take q = b := List.take_of_length_le (by omega)
      rw [e]
      exact ⟨rfl, H1⟩
set_option maxRecDepth 100000 in
set_option maxHeartbeats 4000000 in
theorem sum_any (A : Option Addr) (b : List UInt8) (c : Nat) (w0 : World) (hr : Rd w0 A b.length 1 (u8s b)) (hb : b.length ≤ 211106232532992) (hT : Tab w0) :
    Does Tryd.prog 21 #[.slice A b.length c] w0 (fun r w' => r = .int .u32 ((sum b).toNat : Int) ∧ Hp w0 w' [] []) := by
  refine does_of Tryd.func21 Tryd.ntmps21 rfl ?_
  change Run _ _ _ _ [.slice A b.length c, undef, undef, undef, undef, undef] _
  skip
  refine run_seq ?_
  refine run_region ?_
  refine ops_val (ex_assign rfl) ?_
  refine ops_nil ?_
  change Run _ _ _ _ [_, _, _, _, _, _] _
  refine run_seq ?_
  refine run_region ?_
  refine ops_val (ex_move rfl) ?_
  refine ops_call_val (ex_call gf24 rfl) (more_any 0xFFFFFFFF#32 A b c _ hr hb hT) ?_
  intro w1 H1
  refine ops_val (ex_compl rfl (not32 _)) ?_
  refine ops_val (ex_assign rfl) ?_
  refine ops_nil ?_
  change Run _ _ _ _ [_, _, _, _, _, _] _
  refine run_ret ?_
  refine fin_ret1 rfl rfl ?_
  exact ⟨rfl, H1⟩
set_option maxRecDepth 100000 in
set_option maxHeartbeats 4000000 in
theorem rsum_any (A : Option Addr) (b : List UInt8) (c : Nat) (w0 : World) (hr : Rd w0 A b.length 1 (u8s b)) (hb : b.length ≤ 211106232532992) :
    Does Tryd.prog 22 #[.slice A b.length c] w0 (fun r w' => r = .int .u32 ((sum b).toNat : Int) ∧ Hp w0 w' [] []) := by
  refine does_of Tryd.func22 Tryd.ntmps22 rfl ?_
  change Run _ _ _ _ [.slice A b.length c, undef, undef, undef, undef, undef, undef, undef, undef, undef, undef, undef, undef, undef, undef, undef, undef, undef, undef, undef, undef, undef, undef, undef, undef, undef, undef, undef, undef, undef, undef, undef, undef, undef, undef, undef] _
  have H := Hp.refl w0
  refine run_seq ?_
  refine run_region ?_
  refine ops_val (ex_assign rfl) ?_
  refine ops_nil ?_
  change Run _ _ _ _ [_, _, _, _, _, _, _, _, _, _, _, _, _, _, _, _, _, _, _, _, _, _, _, _, _, _, _, _, _, _, _, _, _, _, _, _] _
  refine run_seq ?_
  refine run_region ?_
  refine ops_val (ex_assign rfl) ?_
  refine ops_nil ?_
  change Run _ _ _ _ [_, _, _, _, _, _, _, _, _, _, _, _, _, _, _, _, _, _, _, _, _, _, _, _, _, _, _, _, _, _, _, _, _, _, _, _] _
  refine run_seq ?_
  refine run_seq ?_
  refine run_region ?_
  refine ops_val (ex_assign rfl) ?_
  refine ops_nil ?_
  change Run _ _ _ _ [_, _, _, _, _, _, _, _, _, _, _, _, _, _, _, _, _, _, _, _, _, _, _, _, _, _, _, _, _, _, _, _, _, _, _, _] _
  refine run_block ?_
  refine run_loop (fun n l w => ∃ (q : Nat) (x y : Int), 8 * b.length - q = n ∧ Fits [some (.slice A b.length c), none, none, some (.int .u32 x), some (.int .i64 y), none, none, none, none, none, none, none, none, none, none, none, none, none, none, none, none, none, none, none, none, none, none, none, none, none, none, none, none, none, none, none] l ∧ y = q ∧ q ≤ 8 * b.length ∧ x = ((Crc.bits 0xFFFFFFFF#32 ((bl b).take q)).toNat : Int) ∧ Hp w0 w [] []) (8 * b.length) ?_ ?_
  · exact ⟨0, _, _, rfl, (fs (fn (fn (fs (fs (fn (fn (fn (fn (fn (fn (fn (fn (fn (fn (fn (fn (fn (fn (fn (fn (fn (fn (fn (fn (fn (fn (fn (fn (fn (fn (fn (fn (fn (fn (fn f0)))))))))))))))))))))))))))))))))))), rfl, Nat.zero_le _, rfl, H⟩
  · rintro n l w1 ⟨q, x, y, rfl, hfit, rfl, hq, rfl, H1⟩
    obtain ⟨j, rfl⟩ := hfit.open
    change Run _ _ _ _ [_, _, _, _, _, _, _, _, _, _, _, _, _, _, _, _, _, _, _, _, _, _, _, _, _, _, _, _, _, _, _, _, _, _, _, _] _
    clear hfit
    refine run_seq ?_
    refine run_seq ?_
    refine run_region ?_
    refine ops_val (ex_move rfl) ?_
    refine ops_val (ex_move rfl) ?_
    refine ops_val (ex_len_slice Tryd.underlying22 rfl) ?_
    refine ops_val (ex_mul rfl rfl (IntWalk.i64_in _ (by omega))) ?_
    change Ops _ _ _ _ _ _ [_, _, _, _, _, _, _, _, _, _, _, _, _, _, _, _, _, _, _, _, _, _, _, _, _, _, _, _, _, _, _, _, _, _, _, _] _
    refine ops_test (ex_lss rfl rfl) (fun hp11 => ?_) (fun hp11 => ?_)
    · have hql : q < 8 * b.length := by omega
      have hq8 : q / 8 < b.length := by omega
      obtain ⟨a, rfl⟩ := hr.some_ (by omega)
      have hsn := bits_snoc (s := 0xFFFFFFFF#32) (bl_at hq8)
      have hlt := b[q / 8].toNat_lt
      generalize hC : b[q / 8].toNat = cc at hsn hlt
      generalize Crc.bits 0xFFFFFFFF#32 ((bl b).take q) = S at hsn
      refine ops_nil ?_
      change Run _ _ _ _ [_, _, _, _, _, _, _, _, _, _, _, _, _, _, _, _, _, _, _, _, _, _, _, _, _, _, _, _, _, _, _, _, _, _, _, _] _
      refine run_cond_true rfl ?_
      refine run_skip ?_
      refine run_seq ?_
      refine run_block ?_
      refine run_seq ?_
      refine run_region ?_
      refine ops_val (ex_move rfl) ?_
      refine ops_val (ex_move rfl) ?_
      refine ops_val (ex_quo rfl rfl (by omega) (tdivN .i64 q 8 (IntWalk.i64_in _ (by omega)))) ?_
      refine ops_val (ex_idx Tryd.underlying22 ty5 rfl rfl rfl hq8 (Nat.mul_one _)) ?_
      change Ops _ _ _ _ _ _ [_, _, _, _, _, _, _, _, _, _, _, _, _, _, _, _, _, _, _, _, _, _, _, _, _, _, _, _, _, _, _, _, _, _, _, _] _
      refine ops_val (ex_load ty5 rfl ((hr.to0 H1).cells a rfl (q / 8) (.int .u8 (cc : Int)) (by rw [← hC]; exact u8s_get hq8))) ?_
      refine ops_val (ex_move rfl) ?_
      refine ops_val (ex_rem rfl rfl (by omega) (tmodN q 8)) ?_
      refine ops_val (ex_shr rfl rfl (by omega) (shr_nat cc (q % 8) 8)) ?_
      change Ops _ _ _ _ _ _ [_, _, _, _, _, _, _, _, _, _, _, _, _, _, _, _, _, _, _, _, _, _, _, _, _, _, _, _, _, _, _, _, _, _, _, _] _
      refine ops_val (ex_conv Tryd.underlying37 Tryd.underlying5 rfl (conv32 _ (Nat.lt_of_le_of_lt (Nat.div_le_self _ _) (by omega)))) ?_
      refine ops_val (ex_and rfl rfl (bitN cc (q % 8) hlt (by omega))) ?_
      refine ops_val (ex_assign rfl) ?_
      refine ops_nil ?_
      change Run _ _ _ _ [_, _, _, _, _, _, _, _, _, _, _, _, _, _, _, _, _, _, _, _, _, _, _, _, _, _, _, _, _, _, _, _, _, _, _, _] _
      refine run_seq ?_
      refine run_region ?_
      refine ops_val (ex_move rfl) ?_
      refine ops_val (ex_and rfl rfl (and32 S 1#32)) ?_
      refine ops_val (ex_move rfl) ?_
      refine ops_val (ex_xor rfl rfl (xor32 (S &&& 1#32) (Crc.bit (cc.testBit (q % 8))))) ?_
      change Ops _ _ _ _ _ _ [_, _, _, _, _, _, _, _, _, _, _, _, _, _, _, _, _, _, _, _, _, _, _, _, _, _, _, _, _, _, _, _, _, _, _, _] _
      refine ops_val (ex_assign rfl) ?_
      refine ops_nil ?_
      change Run _ _ _ _ [_, _, _, _, _, _, _, _, _, _, _, _, _, _, _, _, _, _, _, _, _, _, _, _, _, _, _, _, _, _, _, _, _, _, _, _] _
      refine run_seq ?_
      refine run_region ?_
      refine ops_val (ex_move rfl) ?_
      refine ops_val (ex_shr rfl rfl (by omega) (shr32 S 1 (by decide))) ?_
      refine ops_val (ex_assign rfl) ?_
      refine ops_nil ?_
      change Run _ _ _ _ [_, _, _, _, _, _, _, _, _, _, _, _, _, _, _, _, _, _, _, _, _, _, _, _, _, _, _, _, _, _, _, _, _, _, _, _] _
      refine run_seq ?_
      refine run_region ?_
      refine ops_val (ex_move rfl) ?_
      refine ops_test (ex_eql rfl rfl) (fun hp31 => ?_) (fun hp31 => ?_)
      · rw [stepT (by omega)] at hsn
        refine ops_nil ?_
        change Run _ _ _ _ [_, _, _, _, _, _, _, _, _, _, _, _, _, _, _, _, _, _, _, _, _, _, _, _, _, _, _, _, _, _, _, _, _, _, _, _] _
        refine run_cond_true rfl ?_
        refine run_region ?_
        refine ops_val (ex_move rfl) ?_
        refine ops_val (ex_xor rfl rfl (xor32 (S >>> 1) Crc.poly)) ?_
        refine ops_val (ex_assign rfl) ?_
        refine ops_nil ?_
        change Run _ _ _ _ [_, _, _, _, _, _, _, _, _, _, _, _, _, _, _, _, _, _, _, _, _, _, _, _, _, _, _, _, _, _, _, _, _, _, _, _] _
        refine run_nil (blk_normal ?_)
        refine run_region ?_
        refine ops_val (ex_move rfl) ?_
        refine ops_val (ex_add rfl rfl (IntWalk.i64_in _ (by omega))) ?_
        refine ops_val (ex_assign rfl) ?_
        refine ops_nil ?_
        change Run _ _ _ _ [_, _, _, _, _, _, _, _, _, _, _, _, _, _, _, _, _, _, _, _, _, _, _, _, _, _, _, _, _, _, _, _, _, _, _, _] _
        refine run_nil (rnd_normal ?_)
        exact ⟨8 * b.length - (q + 1), by omega, q + 1, _, _, rfl, (fs (fn (fn (fs (fs (fn (fn (fn (fn (fn (fn (fn (fn (fn (fn (fn (fn (fn (fn (fn (fn (fn (fn (fn (fn (fn (fn (fn (fn (fn (fn (fn (fn (fn (fn (fn f0)))))))))))))))))))))))))))))))))))), rfl, by omega, by rw [hsn], H1⟩
      · rw [stepF (by omega)] at hsn
        refine ops_nil ?_
        change Run _ _ _ _ [_, _, _, _, _, _, _, _, _, _, _, _, _, _, _, _, _, _, _, _, _, _, _, _, _, _, _, _, _, _, _, _, _, _, _, _] _
        refine run_cond_false rfl ?_
        refine run_skip ?_
        refine run_nil (blk_normal ?_)
        refine run_region ?_
        refine ops_val (ex_move rfl) ?_
        refine ops_val (ex_add rfl rfl (IntWalk.i64_in _ (by omega))) ?_
        refine ops_val (ex_assign rfl) ?_
        refine ops_nil ?_
        change Run _ _ _ _ [_, _, _, _, _, _, _, _, _, _, _, _, _, _, _, _, _, _, _, _, _, _, _, _, _, _, _, _, _, _, _, _, _, _, _, _] _
        refine run_nil (rnd_normal ?_)
        exact ⟨8 * b.length - (q + 1), by omega, q + 1, _, _, rfl, (fs (fn (fn (fs (fs (fn (fn (fn (fn (fn (fn (fn (fn (fn (fn (fn (fn (fn (fn (fn (fn (fn (fn (fn (fn (fn (fn (fn (fn (fn (fn (fn (fn (fn (fn (fn f0)))))))))))))))))))))))))))))))))))), rfl, by omega, by rw [hsn], H1⟩
    · skip
      refine ops_nil ?_
      change Run _ _ _ _ [_, _, _, _, _, _, _, _, _, _, _, _, _, _, _, _, _, _, _, _, _, _, _, _, _, _, _, _, _, _, _, _, _, _, _, _] _
      refine run_cond_false rfl ?_
      refine run_exit ?_
      refine rnd_exit ?_
      refine blk_exit ?_
      refine run_seq ?_
      refine run_region ?_
      refine ops_val (ex_move rfl) ?_
      refine ops_val (ex_compl rfl (not32 _)) ?_
      refine ops_val (ex_assign rfl) ?_
      refine ops_nil ?_
      change Run _ _ _ _ [_, _, _, _, _, _, _, _, _, _, _, _, _, _, _, _, _, _, _, _, _, _, _, _, _, _, _, _, _, _, _, _, _, _, _, _] _
      refine run_ret ?_
      refine fin_ret1 rfl rfl ?_
      have e : (bl b).take q = bl b := List.take_of_length_le (by rw [bl_length]; omega)
      rw [e]
      exact ⟨rfl, H1⟩
set_option maxRecDepth 100000 in
set_option maxHeartbeats 4000000 in
theorem four_any (x : BitVec 32) (w0 : World) :
    Does Tryd.prog 31 #[.int .u32 (x.toNat : Int)] w0 (fun r w' => Own w0 w' r (four x.toNat)) := by
  refine does_of Tryd.func31 Tryd.ntmps31 rfl ?_
  change Run _ _ _ _ [.int .u32 (x.toNat : Int), undef, undef, undef, undef, undef, undef, undef, undef, undef, undef, undef, undef, undef, undef] _
  have H := Hp.refl w0
  refine run_seq ?_
  refine run_region ?_
  refine ops_val (ex_assign rfl) ?_
  refine ops_nil ?_
  change Run _ _ _ _ [_, _, _, _, _, _, _, _, _, _, _, _, _, _, _] _
  refine run_seq ?_
  refine run_region ?_
  refine ops_val (ex_move rfl) ?_
  refine ops_val (ex_conv Tryd.underlying5 Tryd.underlying37 rfl (u8w x.toNat)) ?_
  refine ops_val (ex_move rfl) ?_
  refine ops_val (ex_shr rfl rfl (by omega) (show _ = ((x.toNat / 256 : Nat) : Int) from shr_nat x.toNat 8 32)) ?_
  change Ops _ _ _ _ _ _ [_, _, _, _, _, _, _, _, _, _, _, _, _, _, _] _
  refine ops_val (ex_conv Tryd.underlying5 Tryd.underlying37 rfl (u8w (x.toNat / 256))) ?_
  refine ops_val (ex_move rfl) ?_
  refine ops_val (ex_shr rfl rfl (by omega) (show _ = ((x.toNat / 65536 : Nat) : Int) from shr_nat x.toNat 16 32)) ?_
  refine ops_val (ex_conv Tryd.underlying5 Tryd.underlying37 rfl (u8w (x.toNat / 65536))) ?_
  change Ops _ _ _ _ _ _ [_, _, _, _, _, _, _, _, _, _, _, _, _, _, _] _
  refine ops_val (ex_move rfl) ?_
  refine ops_val (ex_shr rfl rfl (by omega) (show _ = ((x.toNat / 16777216 : Nat) : Int) from shr_nat x.toNat 24 32)) ?_
  refine ops_val (ex_conv Tryd.underlying5 Tryd.underlying37 rfl (u8w (x.toNat / 16777216))) ?_
  refine ops_buildSlice Tryd.underlying22 ty5 H rfl (by decide) rfl ?_
  intro w1 gb H1 hgb
  change Ops _ _ _ _ _ _ [_, _, _, _, _, _, _, _, _, _, _, _, _, _, _] _
  refine ops_val (ex_assign rfl) ?_
  refine ops_nil ?_
  change Run _ _ _ _ [_, _, _, _, _, _, _, _, _, _, _, _, _, _, _] _
  refine run_ret ?_
  refine fin_ret1 rfl rfl ?_
  unfold Own
  rw [u8s_four]
  exact ⟨some gb, 4, [], rfl, Nat.le_refl _, by simp, fun h => (by cases h), H1⟩
set_option maxRecDepth 100000 in
set_option maxHeartbeats 4000000 in
theorem rfour_any (x : BitVec 32) (w0 : World) :
    Does Tryd.prog 32 #[.int .u32 (x.toNat : Int)] w0 (fun r w' => Own w0 w' r (four x.toNat)) := by
  refine does_of Tryd.func32 Tryd.ntmps32 rfl ?_
  change Run _ _ _ _ [.int .u32 (x.toNat : Int), undef, undef, undef, undef, undef, undef, undef, undef, undef, undef, undef, undef, undef, undef] _
  have H := Hp.refl w0
  refine run_seq ?_
  refine run_region ?_
  refine ops_val (ex_assign rfl) ?_
  refine ops_nil ?_
  change Run _ _ _ _ [_, _, _, _, _, _, _, _, _, _, _, _, _, _, _] _
  refine run_seq ?_
  refine run_region ?_
  refine ops_val (ex_move rfl) ?_
  refine ops_val (ex_conv Tryd.underlying5 Tryd.underlying37 rfl (u8w x.toNat)) ?_
  refine ops_val (ex_move rfl) ?_
  refine ops_val (ex_shr rfl rfl (by omega) (show _ = ((x.toNat / 256 : Nat) : Int) from shr_nat x.toNat 8 32)) ?_
  change Ops _ _ _ _ _ _ [_, _, _, _, _, _, _, _, _, _, _, _, _, _, _] _
  refine ops_val (ex_conv Tryd.underlying5 Tryd.underlying37 rfl (u8w (x.toNat / 256))) ?_
  refine ops_val (ex_move rfl) ?_
  refine ops_val (ex_shr rfl rfl (by omega) (show _ = ((x.toNat / 65536 : Nat) : Int) from shr_nat x.toNat 16 32)) ?_
  refine ops_val (ex_conv Tryd.underlying5 Tryd.underlying37 rfl (u8w (x.toNat / 65536))) ?_
  change Ops _ _ _ _ _ _ [_, _, _, _, _, _, _, _, _, _, _, _, _, _, _] _
  refine ops_val (ex_move rfl) ?_
  refine ops_val (ex_shr rfl rfl (by omega) (show _ = ((x.toNat / 16777216 : Nat) : Int) from shr_nat x.toNat 24 32)) ?_
  refine ops_val (ex_conv Tryd.underlying5 Tryd.underlying37 rfl (u8w (x.toNat / 16777216))) ?_
  refine ops_buildSlice Tryd.underlying22 ty5 H rfl (by decide) rfl ?_
  intro w1 gb H1 hgb
  change Ops _ _ _ _ _ _ [_, _, _, _, _, _, _, _, _, _, _, _, _, _, _] _
  refine ops_val (ex_assign rfl) ?_
  refine ops_nil ?_
  change Run _ _ _ _ [_, _, _, _, _, _, _, _, _, _, _, _, _, _, _] _
  refine run_ret ?_
  refine fin_ret1 rfl rfl ?_
  unfold Own
  rw [u8s_four]
  exact ⟨some gb, 4, [], rfl, Nat.le_refl _, by simp, fun h => (by cases h), H1⟩
set_option maxRecDepth 100000 in
set_option maxHeartbeats 4000000 in
theorem word_any (A : Option Addr) (b : List UInt8) (c : Nat) (w0 : World) (hr : Rd w0 A b.length 1 (u8s b)) (h4 : 4 ≤ b.length) :
    Does Tryd.prog 23 #[.slice A b.length c] w0 (fun r w' => r = .int .u32 ((wordOf b : Nat) : Int) ∧ Hp w0 w' [] []) := by
  refine does_of Tryd.func23 Tryd.ntmps23 rfl ?_
  change Run _ _ _ _ [.slice A b.length c, undef, undef, undef, undef, undef, undef, undef, undef, undef, undef, undef, undef, undef, undef, undef, undef, undef, undef, undef, undef, undef, undef, undef, undef] _
  have H := Hp.refl w0
  obtain ⟨x0, x1, x2, x3, t, rfl⟩ := four_of h4
  obtain ⟨a, rfl⟩ := hr.some_ (by simp only [List.length_cons]; omega)
  have hx0 := x0.toNat_lt
  have hx1 := x1.toNat_lt
  have hx2 := x2.toNat_lt
  have hx3 := x3.toNat_lt
  refine run_seq ?_
  refine run_region ?_
  refine ops_val (ex_assign rfl) ?_
  refine ops_nil ?_
  change Run _ _ _ _ [_, _, _, _, _, _, _, _, _, _, _, _, _, _, _, _, _, _, _, _, _, _, _, _, _] _
  refine run_seq ?_
  refine run_mixH [(true, 0), (true, 1), (true, 2), (true, 3), (true, 4), (true, 5), (true, 6), (true, 7), (true, 8), (true, 9), (true, 10), (true, 11), (true, 12), (true, 13), (true, 14), (true, 15), (true, 16), (true, 17), (true, 18), (true, 19), (true, 20), (true, 21), (true, 22)] H [] mixed (by decide) (by kernel_rfl) ?_
  rintro w1 hw1
  have H1 := Hp.drew H; rw [← hw1] at H1
  refine mix_p rfl ?_
  refine mix1_val (fun wz hz => ex_move rfl) ?_
  refine mix_p rfl ?_
  refine mix1_val (fun wz hz => ex_idx Tryd.underlying22 ty5 rfl rfl (i := 0) rfl (by simp only [List.length_cons]; omega) (Nat.mul_one _)) ?_
  refine mix_p rfl ?_
  refine mix1_val (fun wz hz => ex_load ty5 rfl ((hr.to0 hz).cells a rfl 0 (.int .u8 (x0.toNat : Int)) rfl)) ?_
  refine mix_p rfl ?_
  refine mix1_val (fun wz hz => ex_conv Tryd.underlying37 Tryd.underlying5 rfl (IntWalk.u32_in _ (by omega))) ?_
  change Mixes _ _ _ _ _ _ [_, _, _, _, _, _, _, _, _, _, _, _, _, _, _, _, _, _, _, _, _, _, _, _, _] _
  refine mix_p rfl ?_
  refine mix1_val (fun wz hz => ex_move rfl) ?_
  refine mix_p rfl ?_
  refine mix1_val (fun wz hz => ex_idx Tryd.underlying22 ty5 rfl rfl (i := 1) rfl (by simp only [List.length_cons]; omega) (Nat.mul_one _)) ?_
  refine mix_p rfl ?_
  refine mix1_val (fun wz hz => ex_load ty5 rfl ((hr.to0 hz).cells a rfl 1 (.int .u8 (x1.toNat : Int)) rfl)) ?_
  refine mix_p rfl ?_
  refine mix1_val (fun wz hz => ex_conv Tryd.underlying37 Tryd.underlying5 rfl (IntWalk.u32_in _ (by omega))) ?_
  change Mixes _ _ _ _ _ _ [_, _, _, _, _, _, _, _, _, _, _, _, _, _, _, _, _, _, _, _, _, _, _, _, _] _
  refine mix_p rfl ?_
  refine mix1_val (fun wz hz => ex_shl rfl rfl (by omega) (sh32 x1.toNat 8 256 (by decide) (by decide) (by omega))) ?_
  refine mix_p rfl ?_
  refine mix1_val (fun wz hz => ex_or rfl rfl (or32N (x0.toNat) x1.toNat 8 256 (by decide) (by omega) (by omega))) ?_
  refine mix_p rfl ?_
  refine mix1_val (fun wz hz => ex_move rfl) ?_
  refine mix_p rfl ?_
  refine mix1_val (fun wz hz => ex_idx Tryd.underlying22 ty5 rfl rfl (i := 2) rfl (by simp only [List.length_cons]; omega) (Nat.mul_one _)) ?_
  change Mixes _ _ _ _ _ _ [_, _, _, _, _, _, _, _, _, _, _, _, _, _, _, _, _, _, _, _, _, _, _, _, _] _
  refine mix_p rfl ?_
  refine mix1_val (fun wz hz => ex_load ty5 rfl ((hr.to0 hz).cells a rfl 2 (.int .u8 (x2.toNat : Int)) rfl)) ?_
  refine mix_p rfl ?_
  refine mix1_val (fun wz hz => ex_conv Tryd.underlying37 Tryd.underlying5 rfl (IntWalk.u32_in _ (by omega))) ?_
  refine mix_p rfl ?_
  refine mix1_val (fun wz hz => ex_shl rfl rfl (by omega) (sh32 x2.toNat 16 65536 (by decide) (by decide) (by omega))) ?_
  refine mix_p rfl ?_
  refine mix1_val (fun wz hz => ex_or rfl rfl (or32N (x0.toNat + x1.toNat * 256) x2.toNat 16 65536 (by decide) (by omega) (by omega))) ?_
  change Mixes _ _ _ _ _ _ [_, _, _, _, _, _, _, _, _, _, _, _, _, _, _, _, _, _, _, _, _, _, _, _, _] _
  refine mix_p rfl ?_
  refine mix1_val (fun wz hz => ex_move rfl) ?_
  refine mix_p rfl ?_
  refine mix1_val (fun wz hz => ex_idx Tryd.underlying22 ty5 rfl rfl (i := 3) rfl (by simp only [List.length_cons]; omega) (Nat.mul_one _)) ?_
  refine mix_p rfl ?_
  refine mix1_val (fun wz hz => ex_load ty5 rfl ((hr.to0 hz).cells a rfl 3 (.int .u8 (x3.toNat : Int)) rfl)) ?_
  refine mix_p rfl ?_
  refine mix1_val (fun wz hz => ex_conv Tryd.underlying37 Tryd.underlying5 rfl (IntWalk.u32_in _ (by omega))) ?_
  change Mixes _ _ _ _ _ _ [_, _, _, _, _, _, _, _, _, _, _, _, _, _, _, _, _, _, _, _, _, _, _, _, _] _
  refine mix_p rfl ?_
  refine mix1_val (fun wz hz => ex_shl rfl rfl (by omega) (sh32 x3.toNat 24 16777216 (by decide) (by decide) (by omega))) ?_
  refine mix_p rfl ?_
  refine mix1_val (fun wz hz => ex_or rfl rfl (or32N (x0.toNat + x1.toNat * 256 + x2.toNat * 65536) x3.toNat 24 16777216 (by decide) (by omega) (by omega))) ?_
  refine mix_p rfl ?_
  refine mix1_val (fun wz hz => ex_assign rfl) ?_
  refine mix_nil ?_
  change Run _ _ _ _ [_, _, _, _, _, _, _, _, _, _, _, _, _, _, _, _, _, _, _, _, _, _, _, _, _] _
  refine run_ret ?_
  refine fin_ret1 rfl rfl ?_
  exact ⟨rfl, H1⟩
set_option maxRecDepth 100000 in
set_option maxHeartbeats 4000000 in
theorem rword_any (A : Option Addr) (b : List UInt8) (c : Nat) (w0 : World) (hr : Rd w0 A b.length 1 (u8s b)) (h4 : 4 ≤ b.length) :
    Does Tryd.prog 26 #[.slice A b.length c] w0 (fun r w' => r = .int .u32 ((wordOf b : Nat) : Int) ∧ Hp w0 w' [] []) := by
  refine does_of Tryd.func26 Tryd.ntmps26 rfl ?_
  change Run _ _ _ _ [.slice A b.length c, undef, undef, undef, undef, undef, undef, undef, undef, undef, undef, undef, undef, undef, undef, undef, undef, undef, undef, undef, undef, undef, undef, undef, undef] _
  have H := Hp.refl w0
  obtain ⟨x0, x1, x2, x3, t, rfl⟩ := four_of h4
  obtain ⟨a, rfl⟩ := hr.some_ (by simp only [List.length_cons]; omega)
  have hx0 := x0.toNat_lt
  have hx1 := x1.toNat_lt
  have hx2 := x2.toNat_lt
  have hx3 := x3.toNat_lt
  refine run_seq ?_
  refine run_region ?_
  refine ops_val (ex_assign rfl) ?_
  refine ops_nil ?_
  change Run _ _ _ _ [_, _, _, _, _, _, _, _, _, _, _, _, _, _, _, _, _, _, _, _, _, _, _, _, _] _
  refine run_seq ?_
  refine run_mixH [(true, 0), (true, 1), (true, 2), (true, 3), (true, 4), (true, 5), (true, 6), (true, 7), (true, 8), (true, 9), (true, 10), (true, 11), (true, 12), (true, 13), (true, 14), (true, 15), (true, 16), (true, 17), (true, 18), (true, 19), (true, 20), (true, 21), (true, 22)] H [] mixed (by decide) (by kernel_rfl) ?_
  rintro w1 hw1
  have H1 := Hp.drew H; rw [← hw1] at H1
  refine mix_p rfl ?_
  refine mix1_val (fun wz hz => ex_move rfl) ?_
  refine mix_p rfl ?_
  refine mix1_val (fun wz hz => ex_idx Tryd.underlying22 ty5 rfl rfl (i := 0) rfl (by simp only [List.length_cons]; omega) (Nat.mul_one _)) ?_
  refine mix_p rfl ?_
  refine mix1_val (fun wz hz => ex_load ty5 rfl ((hr.to0 hz).cells a rfl 0 (.int .u8 (x0.toNat : Int)) rfl)) ?_
  refine mix_p rfl ?_
  refine mix1_val (fun wz hz => ex_conv Tryd.underlying37 Tryd.underlying5 rfl (IntWalk.u32_in _ (by omega))) ?_
  change Mixes _ _ _ _ _ _ [_, _, _, _, _, _, _, _, _, _, _, _, _, _, _, _, _, _, _, _, _, _, _, _, _] _
  refine mix_p rfl ?_
  refine mix1_val (fun wz hz => ex_move rfl) ?_
  refine mix_p rfl ?_
  refine mix1_val (fun wz hz => ex_idx Tryd.underlying22 ty5 rfl rfl (i := 1) rfl (by simp only [List.length_cons]; omega) (Nat.mul_one _)) ?_
  refine mix_p rfl ?_
  refine mix1_val (fun wz hz => ex_load ty5 rfl ((hr.to0 hz).cells a rfl 1 (.int .u8 (x1.toNat : Int)) rfl)) ?_
  refine mix_p rfl ?_
  refine mix1_val (fun wz hz => ex_conv Tryd.underlying37 Tryd.underlying5 rfl (IntWalk.u32_in _ (by omega))) ?_
  change Mixes _ _ _ _ _ _ [_, _, _, _, _, _, _, _, _, _, _, _, _, _, _, _, _, _, _, _, _, _, _, _, _] _
  refine mix_p rfl ?_
  refine mix1_val (fun wz hz => ex_shl rfl rfl (by omega) (sh32 x1.toNat 8 256 (by decide) (by decide) (by omega))) ?_
  refine mix_p rfl ?_
  refine mix1_val (fun wz hz => ex_add rfl rfl ((IntWalk.u32_in _ (by omega)).trans (show (((x0.toNat : Nat) : Int) + ((x1.toNat * 256 : Nat) : Int)) = ((x0.toNat + x1.toNat * 256 : Nat) : Int) by omega))) ?_
  refine mix_p rfl ?_
  refine mix1_val (fun wz hz => ex_move rfl) ?_
  refine mix_p rfl ?_
  refine mix1_val (fun wz hz => ex_idx Tryd.underlying22 ty5 rfl rfl (i := 2) rfl (by simp only [List.length_cons]; omega) (Nat.mul_one _)) ?_
  change Mixes _ _ _ _ _ _ [_, _, _, _, _, _, _, _, _, _, _, _, _, _, _, _, _, _, _, _, _, _, _, _, _] _
  refine mix_p rfl ?_
  refine mix1_val (fun wz hz => ex_load ty5 rfl ((hr.to0 hz).cells a rfl 2 (.int .u8 (x2.toNat : Int)) rfl)) ?_
  refine mix_p rfl ?_
  refine mix1_val (fun wz hz => ex_conv Tryd.underlying37 Tryd.underlying5 rfl (IntWalk.u32_in _ (by omega))) ?_
  refine mix_p rfl ?_
  refine mix1_val (fun wz hz => ex_shl rfl rfl (by omega) (sh32 x2.toNat 16 65536 (by decide) (by decide) (by omega))) ?_
  refine mix_p rfl ?_
  refine mix1_val (fun wz hz => ex_add rfl rfl ((IntWalk.u32_in _ (by omega)).trans (show (((x0.toNat + x1.toNat * 256 : Nat) : Int) + ((x2.toNat * 65536 : Nat) : Int)) = ((x0.toNat + x1.toNat * 256 + x2.toNat * 65536 : Nat) : Int) by omega))) ?_
  change Mixes _ _ _ _ _ _ [_, _, _, _, _, _, _, _, _, _, _, _, _, _, _, _, _, _, _, _, _, _, _, _, _] _
  refine mix_p rfl ?_
  refine mix1_val (fun wz hz => ex_move rfl) ?_
  refine mix_p rfl ?_
  refine mix1_val (fun wz hz => ex_idx Tryd.underlying22 ty5 rfl rfl (i := 3) rfl (by simp only [List.length_cons]; omega) (Nat.mul_one _)) ?_
  refine mix_p rfl ?_
  refine mix1_val (fun wz hz => ex_load ty5 rfl ((hr.to0 hz).cells a rfl 3 (.int .u8 (x3.toNat : Int)) rfl)) ?_
  refine mix_p rfl ?_
  refine mix1_val (fun wz hz => ex_conv Tryd.underlying37 Tryd.underlying5 rfl (IntWalk.u32_in _ (by omega))) ?_
  change Mixes _ _ _ _ _ _ [_, _, _, _, _, _, _, _, _, _, _, _, _, _, _, _, _, _, _, _, _, _, _, _, _] _
  refine mix_p rfl ?_
  refine mix1_val (fun wz hz => ex_shl rfl rfl (by omega) (sh32 x3.toNat 24 16777216 (by decide) (by decide) (by omega))) ?_
  refine mix_p rfl ?_
  refine mix1_val (fun wz hz => ex_add rfl rfl ((IntWalk.u32_in _ (by omega)).trans (show (((x0.toNat + x1.toNat * 256 + x2.toNat * 65536 : Nat) : Int) + ((x3.toNat * 16777216 : Nat) : Int)) = ((x0.toNat + x1.toNat * 256 + x2.toNat * 65536 + x3.toNat * 16777216 : Nat) : Int) by omega))) ?_
  refine mix_p rfl ?_
  refine mix1_val (fun wz hz => ex_assign rfl) ?_
  refine mix_nil ?_
  change Run _ _ _ _ [_, _, _, _, _, _, _, _, _, _, _, _, _, _, _, _, _, _, _, _, _, _, _, _, _] _
  refine run_ret ?_
  refine fin_ret1 rfl rfl ?_
  exact ⟨rfl, H1⟩
set_option maxRecDepth 100000 in
set_option maxHeartbeats 4000000 in
theorem rnum_any (v : Nat) (w0 : World) (hv : v < 2 ^ 64) :
    Does Tryd.prog 16 #[.int .u64 v] w0 (fun r w' => Own w0 w' r (enc v)) := by
  refine does_of Tryd.func16 Tryd.ntmps16 rfl ?_
  change Run _ _ _ _ [.int .u64 v, undef, undef, undef, undef, undef, undef, undef, undef, undef, undef, undef, undef, undef, undef, undef, undef, undef, undef, undef] _
  have H := Hp.refl w0
  refine run_seq ?_
  refine run_region ?_
  refine ops_val (ex_assign rfl) ?_
  refine ops_nil ?_
  change Run _ _ _ _ [_, _, _, _, _, _, _, _, _, _, _, _, _, _, _, _, _, _, _, _] _
  refine run_seq ?_
  refine run_region ?_
  refine ops_val (ex_assign rfl) ?_
  refine ops_nil ?_
  change Run _ _ _ _ [_, _, _, _, _, _, _, _, _, _, _, _, _, _, _, _, _, _, _, _] _
  refine run_seq ?_
  refine run_block ?_
  refine run_loop (fun n l w => ∃ (v1 : Nat) (pre : List UInt8) (x : Int) (g : Option Nat) (m cap : Nat) (xs sp : List Value), v1 = n ∧ Fits [some (.int .u64 x), none, some (.slice none 0 0), some (.slice (hd g) m cap), none, none, none, none, none, none, none, none, none, none, none, none, none, none, none, none] l ∧ x = v1 ∧ v1 ≤ v ∧ m = pre.length ∧ xs = u8s pre ∧ enc v = pre ++ enc v1 ∧ m ≤ cap ∧ cap * 1 ≤ (xs ++ sp).length ∧ (g = none → cap = 0) ∧ Hp w0 w [] [(g, 5, xs ++ sp)]) (v) ?_ ?_
  · exact ⟨v, [], _, none, 0, 0, [], [], rfl, (fs (fn (fs (fs (fn (fn (fn (fn (fn (fn (fn (fn (fn (fn (fn (fn (fn (fn (fn (fn f0)))))))))))))))))))), rfl, Nat.le_refl _, rfl, rfl, rfl, Nat.le_refl _, by simp, fun _ => rfl, H.nil 5⟩
  · rintro n l w1 ⟨v1, pre, x, g, m, cap, xs, sp, rfl, hfit, rfl, hle, rfl, rfl, henc, hmc, hcap, hg0, H1⟩
    obtain ⟨j, rfl⟩ := hfit.open
    change Run _ _ _ _ [_, _, _, _, _, _, _, _, _, _, _, _, _, _, _, _, _, _, _, _] _
    clear hfit
    have hl10 := enc_len64 hv
    have hlp : pre.length + (enc v1).length = (enc v).length := by rw [henc]; simp
    have hpos := enc_pos v1
    refine run_seq ?_
    refine run_seq ?_
    refine run_region ?_
    refine ops_val (ex_move rfl) ?_
    refine ops_test (ex_gtr rfl rfl) (fun hp5 => ?_) (fun hp5 => ?_)
    · skip
      refine ops_nil ?_
      change Run _ _ _ _ [_, _, _, _, _, _, _, _, _, _, _, _, _, _, _, _, _, _, _, _] _
      refine run_cond_true rfl ?_
      refine run_skip ?_
      refine run_block ?_
      refine run_seq ?_
      refine run_region ?_
      refine ops_val (ex_move rfl) ?_
      refine ops_val (ex_move rfl) ?_
      refine ops_val (ex_rem rfl rfl (by omega) (tmodN v1 128)) ?_
      refine ops_val (ex_add rfl rfl ((IntWalk.u64_in _ (by omega)).trans (show (((v1 % 128 : Nat) : Int) + 128) = ((v1 % 128 + 128 : Nat) : Int) by omega))) ?_
      change Ops _ _ _ _ _ _ [_, _, _, _, _, _, _, _, _, _, _, _, _, _, _, _, _, _, _, _] _
      refine ops_val (ex_conv Tryd.underlying5 Tryd.underlying31 rfl (IntWalk.u8_in _ (by omega))) ?_
      refine ops_buildSlice Tryd.underlying22 ty5 H1 rfl (by decide) rfl ?_
      intro w2 g2 H2 hg2
      refine ops_append Tryd.underlying22 ty5 (by decide) H2 0 rfl rfl (u8s_length1 pre) hcap hmc hg0 rfl (H2.rd (i := 1) (o := some g2) (xs := [Value.int .u8 ((v1 % 128 + 128 : Nat) : Int)]) (sp := []) rfl rfl (by decide)) rfl (by omega) (by omega) (by decide) ?_
      intro w3 g3 cap3 sp3 H3 hcap3 hmc3 hg3
      refine ops_val (ex_assign rfl) ?_
      refine ops_nil ?_
      change Run _ _ _ _ [_, _, _, _, _, _, _, _, _, _, _, _, _, _, _, _, _, _, _, _] _
      refine run_region ?_
      refine ops_val (ex_move rfl) ?_
      refine ops_val (ex_quo rfl rfl (by omega) (tdivN .u64 v1 128 (IntWalk.u64_in _ (by omega)))) ?_
      refine ops_val (ex_assign rfl) ?_
      refine ops_nil ?_
      change Run _ _ _ _ [_, _, _, _, _, _, _, _, _, _, _, _, _, _, _, _, _, _, _, _] _
      refine run_nil (blk_normal ?_)
      refine run_nil (rnd_normal ?_)
      exact ⟨v1 / 128, by omega, v1 / 128, pre ++ [UInt8.ofNat (v1 % 128 + 128)], _, g3, _, cap3, u8s pre ++ [Value.int .u8 ((v1 % 128 + 128 : Nat) : Int)], sp3, rfl, (fs (fn (fs (fs (fn (fn (fn (fn (fn (fn (fn (fn (fn (fn (fn (fn (fn (fn (fn (fn f0)))))))))))))))))))), rfl, by omega, by simp, by rw [u8s_append, u8s_one, u8n (by omega)], by rw [henc, enc_ge (by omega)]; simp, hmc3, hcap3, hg3, H3.pick [0] (by decide)⟩
    · skip
      refine ops_nil ?_
      change Run _ _ _ _ [_, _, _, _, _, _, _, _, _, _, _, _, _, _, _, _, _, _, _, _] _
      refine run_cond_false rfl ?_
      refine run_exit ?_
      refine rnd_exit ?_
      refine blk_exit ?_
      refine run_seq ?_
      refine run_region ?_
      refine ops_val (ex_move rfl) ?_
      refine ops_val (ex_move rfl) ?_
      refine ops_val (ex_conv Tryd.underlying5 Tryd.underlying31 rfl (u8w v1)) ?_
      refine ops_buildSlice Tryd.underlying22 ty5 H1 rfl (by decide) rfl ?_
      intro w2 g2 H2 hg2
      change Ops _ _ _ _ _ _ [_, _, _, _, _, _, _, _, _, _, _, _, _, _, _, _, _, _, _, _] _
      refine ops_append Tryd.underlying22 ty5 (by decide) H2 0 rfl rfl (u8s_length1 pre) hcap hmc hg0 rfl (H2.rd (i := 1) (o := some g2) (xs := [Value.int .u8 ((v1 % 256 : Nat) : Int)]) (sp := []) rfl rfl (by decide)) rfl (by omega) (by omega) (by decide) ?_
      intro w3 g3 cap3 sp3 H3 hcap3 hmc3 hg3
      refine ops_val (ex_assign rfl) ?_
      refine ops_nil ?_
      change Run _ _ _ _ [_, _, _, _, _, _, _, _, _, _, _, _, _, _, _, _, _, _, _, _] _
      refine run_ret ?_
      refine fin_ret1 rfl rfl ?_
      have e1 : enc v = pre ++ [UInt8.ofNat v1] := by rw [henc, enc_lt (by omega)]
      have e2 : u8s (enc v) = u8s pre ++ [.int .u8 ((v1 % 256 : Nat) : Int)] := by rw [e1, u8s_append, u8s_one, u8n (by omega), Nat.mod_eq_of_lt (by omega)]
      have e3 : (enc v).length = pre.length + 1 := by rw [e1]; simp
      unfold Own
      rw [e2, e3]
      exact ⟨g3, cap3, sp3, rfl, hmc3, hcap3, hg3, H3.pick [0] (by decide)⟩
set_option maxRecDepth 100000 in
set_option maxHeartbeats 4000000 in
theorem rint_any (n : Int) (w0 : World) (hlo : -9223372036854775808 ≤ n) (hhi : n ≤ 9223372036854775807) :
    Does Tryd.prog 18 #[.int .i64 n] w0 (fun r w' => Own w0 w' r (encInt n)) := by
  refine does_of Tryd.func18 Tryd.ntmps18 rfl ?_
  change Run _ _ _ _ [.int .i64 n, undef, undef, undef, undef, undef, undef, undef, undef, undef, undef, undef, undef, undef, undef, undef] _
  have H := Hp.refl w0
  refine run_seq ?_
  refine run_region ?_
  refine ops_val (ex_assign rfl) ?_
  refine ops_nil ?_
  change Run _ _ _ _ [_, _, _, _, _, _, _, _, _, _, _, _, _, _, _, _] _
  refine run_seq ?_
  refine run_seq ?_
  refine run_region ?_
  refine ops_val (ex_move rfl) ?_
  refine ops_test (ex_geq rfl rfl) (fun hp4 => ?_) (fun hp4 => ?_)
  · obtain ⟨m, rfl⟩ := Int.eq_ofNat_of_zero_le (show 0 ≤ n by omega)
    refine ops_nil ?_
    change Run _ _ _ _ [_, _, _, _, _, _, _, _, _, _, _, _, _, _, _, _] _
    refine run_cond_true rfl ?_
    refine run_seq ?_
    refine run_region ?_
    refine ops_val (ex_move rfl) ?_
    refine ops_val (ex_conv Tryd.underlying31 Tryd.underlying3 rfl (IntWalk.u64_in _ (by omega))) ?_
    refine ops_val (ex_mul rfl rfl ((IntWalk.u64_in _ (by omega)).trans (show (2 * (m : Int)) = ((2 * m : Nat) : Int) by omega))) ?_
    refine ops_call_own (ex_call gf16 rfl) (rnum_any (2 * m) _ (by omega)) ?_
    intro w1 g1 c1 sp1 hm1 hc1 hg1 H1
    change Ops _ _ _ _ _ _ [_, _, _, _, _, _, _, _, _, _, _, _, _, _, _, _] _
    refine ops_val (ex_assign rfl) ?_
    refine ops_nil ?_
    change Run _ _ _ _ [_, _, _, _, _, _, _, _, _, _, _, _, _, _, _, _] _
    refine run_ret ?_
    refine fin_ret1 rfl rfl ?_
    have e : encInt (m : Int) = enc (2 * m) := by rw [encInt_eq]; unfold zig; rw [if_neg (by omega)]; congr 1
    rw [e]
    exact ⟨g1, c1, sp1, rfl, hm1, hc1, hg1, H1⟩
  · skip
    refine ops_nil ?_
    change Run _ _ _ _ [_, _, _, _, _, _, _, _, _, _, _, _, _, _, _, _] _
    refine run_cond_false rfl ?_
    refine run_skip ?_
    refine run_seq ?_
    refine run_region ?_
    refine ops_val (ex_move rfl) ?_
    refine ops_val (ex_add rfl rfl (IntWalk.i64_in _ (by omega))) ?_
    refine ops_val (ex_neg rfl ((IntWalk.i64_in _ (by omega)).trans (show (0 : Int) - (n + 1) = (((-n - 1).toNat : Nat) : Int) by omega))) ?_
    refine ops_val (ex_conv Tryd.underlying31 Tryd.underlying3 rfl (IntWalk.u64_in _ (by omega))) ?_
    change Ops _ _ _ _ _ _ [_, _, _, _, _, _, _, _, _, _, _, _, _, _, _, _] _
    refine ops_val (ex_mul rfl rfl ((IntWalk.u64_in _ (by omega)).trans (show (2 * (((-n - 1).toNat : Nat) : Int)) = ((2 * (-n - 1).toNat : Nat) : Int) by omega))) ?_
    refine ops_val (ex_add rfl rfl ((IntWalk.u64_in _ (by omega)).trans (show (((2 * (-n - 1).toNat : Nat) : Int) + 1) = ((2 * (-n - 1).toNat + 1 : Nat) : Int) by omega))) ?_
    refine ops_call_own (ex_call gf16 rfl) (rnum_any (2 * (-n - 1).toNat + 1) _ (by omega)) ?_
    intro w1 g1 c1 sp1 hm1 hc1 hg1 H1
    refine ops_val (ex_assign rfl) ?_
    refine ops_nil ?_
    change Run _ _ _ _ [_, _, _, _, _, _, _, _, _, _, _, _, _, _, _, _] _
    refine run_ret ?_
    refine fin_ret1 rfl rfl ?_
    have e : encInt n = enc (2 * (-n - 1).toNat + 1) := by rw [encInt_eq]; unfold zig; rw [if_pos (by omega)]; congr 1; omega
    rw [e]
    exact ⟨g1, c1, sp1, rfl, hm1, hc1, hg1, H1⟩
set_option maxRecDepth 100000 in
set_option maxHeartbeats 4000000 in
theorem rtext_any (A : Option Addr) (b : List UInt8) (c : Nat) (w0 : World) (hr : Rd w0 A b.length 1 (u8s b)) (hb : b.length ≤ 211106232532900) :
    Does Tryd.prog 20 #[.slice A b.length c] w0 (fun r w' => Own w0 w' r (encText b)) := by
  have hl10 := enc_len64 (v := b.length) (by omega)
  refine does_of Tryd.func20 Tryd.ntmps20 rfl ?_
  change Run _ _ _ _ [.slice A b.length c, undef, undef, undef, undef, undef, undef, undef, undef] _
  have H := Hp.refl w0
  refine run_seq ?_
  refine run_region ?_
  refine ops_val (ex_assign rfl) ?_
  refine ops_nil ?_
  change Run _ _ _ _ [_, _, _, _, _, _, _, _, _] _
  refine run_seq ?_
  refine run_region ?_
  refine ops_val (ex_move rfl) ?_
  refine ops_val (ex_len_slice Tryd.underlying22 rfl) ?_
  refine ops_val (ex_conv Tryd.underlying31 Tryd.underlying3 rfl ((IntWalk.u64_in _ (by omega)))) ?_
  refine ops_call_own (ex_call gf16 rfl) (rnum_any b.length _ (by omega)) ?_
  intro w1 g1 c1 sp1 hm1 hc1 hg1 H1
  change Ops _ _ _ _ _ _ [_, _, _, _, _, _, _, _, _] _
  refine ops_val (ex_move rfl) ?_
  refine ops_append Tryd.underlying22 ty5 (by decide) H1 0 rfl rfl (u8s_length1 _) hc1 hm1 hg1 rfl (hr.to0 H1) (u8s_one' b) (by omega) (by omega) (by decide) ?_
  intro w2 g3 cap3 sp3 H2 hcap3 hmc3 hg3
  refine ops_val (ex_assign rfl) ?_
  refine ops_nil ?_
  change Run _ _ _ _ [_, _, _, _, _, _, _, _, _] _
  refine run_ret ?_
  refine fin_ret1 rfl rfl ?_
  unfold Own
  rw [encText_eq, u8s_append, List.length_append]
  exact ⟨g3, cap3, sp3, rfl, hmc3, hcap3, hg3, H2⟩
end Go.Proofs.YtlglenbmpikhmaaDoor
