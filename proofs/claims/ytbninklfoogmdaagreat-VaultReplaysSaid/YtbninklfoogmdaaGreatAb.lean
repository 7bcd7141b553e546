/-
  Short names for the laws that walks use most.
-/
import Derived.Test.YtbninklfoogmdaaGreatMid
import Derived.Test.YtbninklfoogmdaaGreatBase
import Derived.Test.YtbninklfoogmdaaGreatOps
import Derived.Test.YtbninklfoogmdaaGreatRow
import Derived.Test.YtbninklfoogmdaaGreatMid
import Derived.Test.YtbninklfoogmdaaGreatFun
import Derived.Test.YtbninklfoogmdaaGreatKit
import Derived.Test.YtbninklfoogmdaaGreatMit
namespace Go.Proofs.YtbninklfoogmdaaGreat
open Go Go.RowKit
section
variable {P : Program} {ds : List Deferred} {Q : Post} {K : List Value → World → Prop} {KS : List Value → Prop} {all os : List Oper} {l l' : List Value} {w w0 : World} {ty t : TypeId} {pos : String} {af : Array Edge} {d : Tmp} {v : Value} {S : World → Prop} {x y z : Operand} {i n : Nat} {s : List (Bool × Nat)} {cs : List Code} {c1 c2 : Code} {a : Addr} {f off : Nat} {ft : TypeId} {bk o : Nat}
abbrev Frm (l : List Value) : Prop := l = l
theorem cR (e : l = l') (h : Run P ds cs Q l' w) : Run P ds cs Q l w := by rw [e]; exact h
theorem cOp (e : l = l') (h : Ops P ds all K Q os l' w) : Ops P ds all K Q os l w := by rw [e]; exact h
theorem cStl (e : l = l') (h : Still P ds all w KS os l') : Still P ds all w KS os l := by rw [e]; exact h
theorem cZ (e : l = l') (h : MixZ P ds all S K s l' w) : MixZ P ds all S K s l w := by rw [e]; exact h
theorem cM (e : l = l') (h : Mixes P ds all S K s l' w) : Mixes P ds all S K s l w := by rw [e]; exact h
theorem Xr (e : l = l') (h : K l' w) : Ops P ds all K Q [] l w := ops_nil (by rw [e]; exact h)
theorem Rq {os : List Oper} (h : Ops P ds os (Run P ds (c2 :: cs) Q) Q os l w) : Run P ds (.seq (.region n os.toArray false) c2 :: cs) Q l w := run_seq (run_region h)
theorem Xm (h : ev l x = some v) (k : Ops P ds all K Q os (l.set d v) w) : Ops P ds all K Q (⟨some d, .move x, ty, pos, af, none⟩ :: os) l w := ops_val (ex_move h) k
theorem Xa (h : ev l x = some v) (k : Ops P ds all K Q os (l.set d v) w) : Ops P ds all K Q (⟨some d, .assign x, ty, pos, af, none⟩ :: os) l w := ops_val (ex_assign h) k
theorem Xt (hc : ev l x = some (.bool true)) (h : ev l y = some v) (k : Ops P ds all K Q os (l.set d v) w) : Ops P ds all K Q (⟨some d, .pick x y z, ty, pos, af, none⟩ :: os) l w := ops_val (ex_pick_t hc h) k
theorem Xu (hc : ev l x = some (.bool false)) (h : ev l z = some v) (k : Ops P ds all K Q os (l.set d v) w) : Ops P ds all K Q (⟨some d, .pick x y z, ty, pos, af, none⟩ :: os) l w := ops_val (ex_pick_f hc h) k
theorem Xe {vs : List Value} {i : Nat} (hx : ev l x = some (.tuple vs.toArray)) (hi : vs[i]? = some v) (k : Ops P ds all K Q os (l.set d v) w) : Ops P ds all K Q (⟨some d, .extract x i, ty, pos, af, none⟩ :: os) l w := ops_val (ex_extract hx hi) k
theorem Xn {b : Bool} (h : ev l x = some (.bool b)) (k : Ops P ds all K Q os (l.set d (.bool (!b))) w) : Ops P ds all K Q (⟨some d, .unOp .not t x, ty, pos, af, none⟩ :: os) l w := ops_val (ex_not h) k
theorem Xc (h : ev l x = some (.pointer (some a))) (k : Ops P ds all K Q os (l.set d (.pointer (some a))) w) : Ops P ds all K Q (⟨some d, .nilCheck x, ty, pos, af, none⟩ :: os) l w := ops_val (ex_nilCheck h) k
theorem Xf (hf : fieldOf P t f = some (off, ft)) (hx : ev l x = some (.pointer (some ⟨bk, o, none⟩))) (k : Ops P ds all K Q os (l.set d (.pointer (some ⟨bk, o + off, none⟩))) w) : Ops P ds all K Q (⟨some d, .fieldAddr t x f, ty, pos, af, none⟩ :: os) l w := ops_val (ex_fieldAddr hf hx) k
theorem Zm (ho : all[i]? = some ⟨some d, .move x, ty, pos, af, none⟩) (h : ev l x = some v) (k : MixZ P ds all S K s (l.set d v) w) : MixZ P ds all S K ((true, i) :: s) l w := mixz_p ho (mix1_val (fun _ _ => ex_move h) k)
theorem Zc (ho : all[i]? = some ⟨some d, .nilCheck x, ty, pos, af, none⟩) (h : ev l x = some (.pointer (some a))) (k : MixZ P ds all S K s (l.set d (.pointer (some a))) w) : MixZ P ds all S K ((true, i) :: s) l w := mixz_p ho (mix1_val (fun _ _ => ex_nilCheck h) k)
theorem Zf (ho : all[i]? = some ⟨some d, .fieldAddr t x f, ty, pos, af, none⟩) (hf : fieldOf P t f = some (off, ft)) (hx : ev l x = some (.pointer (some ⟨bk, o, none⟩))) (k : MixZ P ds all S K s (l.set d (.pointer (some ⟨bk, o + off, none⟩))) w) : MixZ P ds all S K ((true, i) :: s) l w := mixz_p ho (mix1_val (fun _ _ => ex_fieldAddr hf hx) k)
theorem Qn (k : Run P ds cs Q l w) : Run P ds [] (blkQ n (Run P ds cs Q) Q) l w := run_nil (blk_normal k)
theorem cT {s : Sch} (e : l = l') (h : MixT P ds all S K s l' w) : MixT P ds all S K s l w := by rw [e]; exact h
theorem Tm {s : Sch} (ho : all[i]? = some ⟨some d, .move x, ty, pos, af, none⟩) (h : ev l x = some v) (k : MixT P ds all S K s (l.set d v) w) : MixT P ds all S K (.p i s) l w := mixt_p ho (mix1_val (fun _ _ => ex_move h) k)
theorem Tf {s : Sch} (ho : all[i]? = some ⟨some d, .fieldAddr t x f, ty, pos, af, none⟩) (hf : fieldOf P t f = some (off, ft)) (hx : ev l x = some (.pointer (some ⟨bk, o, none⟩))) (k : MixT P ds all S K s (l.set d (.pointer (some ⟨bk, o + off, none⟩))) w) : MixT P ds all S K (.p i s) l w := mixt_p ho (mix1_val (fun _ _ => ex_fieldAddr hf hx) k)
end
theorem J1 : type_of% @run_seq := @run_seq
theorem J2 : type_of% @run_region := @run_region
theorem J3 : type_of% @run_cond_true := @run_cond_true
theorem J4 : type_of% @run_cond_false := @run_cond_false
theorem J5 : type_of% @run_ret := @run_ret
theorem J6 : type_of% @run_skip := @run_skip
theorem J7 : type_of% @run_block := @run_block
theorem J8 : type_of% @run_exit := @run_exit
theorem OV : type_of% @ops_val := @ops_val
theorem OY : type_of% @ops_yes := @ops_yes
theorem OZ : type_of% @ops_no := @ops_no
theorem OE : type_of% @ops_nil := @ops_nil
theorem OT : type_of% @ops_test := @ops_test
theorem OC : type_of% @ops_call_val := @ops_call_val
theorem OX : type_of% @ops_call_test := @ops_call_test
theorem OQ : type_of% @ops_call := @ops_call
theorem OT1 : type_of% @ops_true := @ops_true
theorem OT0 : type_of% @ops_false := @ops_false
theorem MV : type_of% @mix1_val := @mix1_val
theorem MP : type_of% @mixz_p := @mixz_p
theorem MO : type_of% @mixz_o := @mixz_o
theorem ME : type_of% @mixz_nil := @mixz_nil
theorem MY : type_of% @mix1_yes := @mix1_yes
theorem MZ : type_of% @mix1_no := @mix1_no
theorem BR : type_of% @blk_ret := @blk_ret
theorem SV : type_of% @still_val := @still_val
theorem FN1 : type_of% @fin_ret1 := @fin_ret1
theorem FN2 : type_of% @fin_ret2 := @fin_ret2
theorem EL : type_of% @ex_load := @ex_load
theorem EN : type_of% @ex_loadN := @ex_loadN
theorem EI : type_of% @ex_idx := @ex_idx
theorem EF : type_of% @ex_fieldAddr := @ex_fieldAddr
theorem ES : type_of% @ex_len_slice := @ex_len_slice
theorem EC : type_of% @ex_call := @ex_call
theorem OS : type_of% @ops_store := @ops_store
theorem OW : type_of% @ops_store1 := @ops_store1
theorem OA : type_of% @ops_alloc := @ops_alloc
theorem EB : type_of% @ex_build := @ex_build
theorem TP : type_of% @mixt_p := @mixt_p
theorem TQ : type_of% @mixt_o := @mixt_o
end Go.Proofs.YtbninklfoogmdaaGreat
