/-
  No cell of these rows narrows 'for every input' (looked for: loops, veiled, ifaces, maps, wideKeys, modest, calm, conditions, laid).
  DERIVED. THE GIVEN ROWS OF THIS SEAT. 5 by the template 'for every input the law returns true; each argument reads behind the call as it read before'; 0 by the template 'total and deterministic' (their statements: YtlglenbmpikhmaaTotals.lean).
  GIVEN WITH THE SEED: the statements are not yours to turn. If you find one false, say at which input.
  Laid BY PROGRAM, IN A SANDBOX (cutbox-rows.mjs): the forced cells as the released guide's own fill.sh prints them over the translation 0a3f8e9e7991e051… (all of the seat's roots in one cut). By AI agents, Wed Nov 11 2026. No macro, syntax, notation, axiom, sorry.
-/
import Derived.Test.YtlglenbmpikhmaaChecked
import GoSem.Claim
import GoSem.ClaimJoined
import GoSem.ClaimMapViews
import Derived.JoinedTies
import Derived.KernelRfl
namespace Go.Proofs.Ytlglenbmpikhmaa
/- THE CELL 'sum', in the pinned program and in every row, IS THE sha256 OF THE DUMP (.gsa) THAT YtlglenbmpikhmaaProg.lean LOADS. Nothing in Lean hashes anything: it is a label: what it is worth is what the hold of that sum in a sandbox is worth. -/
noncomputable def Try.pinned : Pinned := { name := "ytlglenbmpikhmaa", sum := "0a3f8e9e7991e0515a24d5e6c10851705ceed356961cb76691aad603e8f5f664", checked := Try.checked }
namespace Rows
def none {H : Type} : Left H := { results := [], args := [] }

/-- 'purselaw02.CodecOneForm': WHATEVER THE INPUT: true; the input reads as it did. -/
def codecOneFormSpec : ChangeSpec := { name := "codecOneForm", fn := fun _ => fun
  | [d] => { results := [.lit (.bool true)], args := [d] }
  | _ => none }
def codecOneFormRow : OpenClaim := { program := "ytlglenbmpikhmaa", sum := "0a3f8e9e7991e0515a24d5e6c10851705ceed356961cb76691aad603e8f5f664", func := "purse/purselaw02.CodecOneForm", spec := "codecOneForm", unfollowed := true, recurses := true, apart := false }
def CodecOneFormSaid : Prop := codecOneFormRow.holds Try.pinned (OpenSpec.ofChange codecOneFormSpec)

/-- ITS FALSE NEIGHBOUR: 'it returns false'. Refute it at one input. -/
def codecOneFormWrong : ChangeSpec := { name := "codecOneForm", fn := fun _ => fun
  | [d] => { results := [.lit (.bool false)], args := [d] }
  | _ => none }
def CodecOneFormWrongFalsely : Prop := codecOneFormRow.holds Try.pinned (OpenSpec.ofChange codecOneFormWrong)

/-- 'purselaw02.CodecBack': WHATEVER THE INPUT: true; the input reads as it did. -/
def codecBackSpec : ChangeSpec := { name := "codecBack", fn := fun _ => fun
  | [d1, d2, d3, d4] => { results := [.lit (.bool true)], args := [d1, d2, d3, d4] }
  | _ => none }
def codecBackRow : OpenClaim := { program := "ytlglenbmpikhmaa", sum := "0a3f8e9e7991e0515a24d5e6c10851705ceed356961cb76691aad603e8f5f664", func := "purse/purselaw02.CodecBack", spec := "codecBack", unfollowed := true, recurses := true, apart := false }
def CodecBackSaid : Prop := codecBackRow.holds Try.pinned (OpenSpec.ofChange codecBackSpec)

/-- ITS FALSE NEIGHBOUR: 'it returns false'. Refute it at one input. -/
def codecBackWrong : ChangeSpec := { name := "codecBack", fn := fun _ => fun
  | [d1, d2, d3, d4] => { results := [.lit (.bool false)], args := [d1, d2, d3, d4] }
  | _ => none }
def CodecBackWrongFalsely : Prop := codecBackRow.holds Try.pinned (OpenSpec.ofChange codecBackWrong)

/-- 'purselaw02.CodecReads': WHATEVER THE INPUT: true; the input reads as it did. -/
def codecReadsSpec : ChangeSpec := { name := "codecReads", fn := fun _ => fun
  | [d1, d2] => { results := [.lit (.bool true)], args := [d1, d2] }
  | _ => none }
def codecReadsRow : OpenClaim := { program := "ytlglenbmpikhmaa", sum := "0a3f8e9e7991e0515a24d5e6c10851705ceed356961cb76691aad603e8f5f664", func := "purse/purselaw02.CodecReads", spec := "codecReads", unfollowed := true, recurses := true, apart := false }
def CodecReadsSaid : Prop := codecReadsRow.holds Try.pinned (OpenSpec.ofChange codecReadsSpec)

/-- ITS FALSE NEIGHBOUR: 'it returns false'. Refute it at one input. -/
def codecReadsWrong : ChangeSpec := { name := "codecReads", fn := fun _ => fun
  | [d1, d2] => { results := [.lit (.bool false)], args := [d1, d2] }
  | _ => none }
def CodecReadsWrongFalsely : Prop := codecReadsRow.holds Try.pinned (OpenSpec.ofChange codecReadsWrong)

/-- 'purselaw02.CodecNil': WHATEVER THE INPUT: true; the input reads as it did. -/
def codecNilSpec : ChangeSpec := { name := "codecNil", fn := fun _ => fun
  | [d] => { results := [.lit (.bool true)], args := [d] }
  | _ => none }
def codecNilRow : OpenClaim := { program := "ytlglenbmpikhmaa", sum := "0a3f8e9e7991e0515a24d5e6c10851705ceed356961cb76691aad603e8f5f664", func := "purse/purselaw02.CodecNil", spec := "codecNil", unfollowed := true, recurses := true, apart := false }
def CodecNilSaid : Prop := codecNilRow.holds Try.pinned (OpenSpec.ofChange codecNilSpec)

/-- ITS FALSE NEIGHBOUR: 'it returns false'. Refute it at one input. -/
def codecNilWrong : ChangeSpec := { name := "codecNil", fn := fun _ => fun
  | [d] => { results := [.lit (.bool false)], args := [d] }
  | _ => none }
def CodecNilWrongFalsely : Prop := codecNilRow.holds Try.pinned (OpenSpec.ofChange codecNilWrong)

/-- 'purselaw02.CodecLeft': WHATEVER THE INPUT: true; the input reads as it did. -/
def codecLeftSpec : ChangeSpec := { name := "codecLeft", fn := fun _ => fun
  | [d1, d2] => { results := [.lit (.bool true)], args := [d1, d2] }
  | _ => none }
def codecLeftRow : OpenClaim := { program := "ytlglenbmpikhmaa", sum := "0a3f8e9e7991e0515a24d5e6c10851705ceed356961cb76691aad603e8f5f664", func := "purse/purselaw02.CodecLeft", spec := "codecLeft", unfollowed := true, recurses := true, apart := false }
def CodecLeftSaid : Prop := codecLeftRow.holds Try.pinned (OpenSpec.ofChange codecLeftSpec)

/-- ITS FALSE NEIGHBOUR: 'it returns false'. Refute it at one input. -/
def codecLeftWrong : ChangeSpec := { name := "codecLeft", fn := fun _ => fun
  | [d1, d2] => { results := [.lit (.bool false)], args := [d1, d2] }
  | _ => none }
def CodecLeftWrongFalsely : Prop := codecLeftRow.holds Try.pinned (OpenSpec.ofChange codecLeftWrong)

/- THE SECOND FORM. 'bulk': how many values and letters a reading holds, each counted each time it is reached (what is shared counts as often as it is met; a slice's spare places count too). A statement '..UptoSaid' is the law's where the arguments, and the package variables that the reading takes, are together of bulk at most 1048576: NARROWER than '..Said'. Prove '..Said' where nothing that the law and all that it calls make is longer than what came in: it says more and counts as full. Else prove '..UptoSaid'. A law counts once. -/
mutual
def uptoBulk {H : Type} : DataW H → Nat
  | .lit (.string bytes) => bytes.length + 1
  | .lit _ => 1
  | .nil => 1
  | .ptr d => uptoBulk d + 1
  | .slice elems spare => uptoBulkAll elems + uptoBulkAll spare + 1
  | .agg parts => uptoBulkAll parts + 1
  | .iface _ d => uptoBulk d + 1
  | .map entries => uptoBulkEntries entries + 1
  | .held _ => 1
def uptoBulkAll {H : Type} : List (DataW H) → Nat
  | [] => 0
  | d :: r => uptoBulk d + uptoBulkAll r
def uptoBulkEntries {H : Type} : List (Lit × DataW H) → Nat
  | [] => 0
  | x :: r => uptoBulkEntry x + uptoBulkEntries r
def uptoBulkEntry {H : Type} : Lit × DataW H → Nat
  | (.string bytes, d) => bytes.length + uptoBulk d + 1
  | (_, d) => uptoBulk d + 1
 end
def uptoSmall : (H : Type) → List (DataW H) → Bool := fun _ ds => decide (uptoBulkAll ds ≤ 1048576)
def OpenSpec.upto (s : _root_.Go.ChangeSpec) : _root_.Go.OpenSpec := { _root_.Go.OpenSpec.ofChange s with cond := some uptoSmall }

/-- 'purselaw02.CodecOneForm', WHERE WHAT IT READS IS OF BULK AT MOST 1048576: true; the input reads as it did. -/
def codecOneFormUptoRow : OpenClaim := { program := "ytlglenbmpikhmaa", sum := "0a3f8e9e7991e0515a24d5e6c10851705ceed356961cb76691aad603e8f5f664", func := "purse/purselaw02.CodecOneForm", spec := "codecOneForm", unfollowed := true, recurses := true, apart := false, narrowed := true }
def CodecOneFormUptoSaid : Prop := codecOneFormUptoRow.holds Try.pinned (OpenSpec.upto codecOneFormSpec)

/-- 'purselaw02.CodecBack', WHERE WHAT IT READS IS OF BULK AT MOST 1048576: true; the input reads as it did. -/
def codecBackUptoRow : OpenClaim := { program := "ytlglenbmpikhmaa", sum := "0a3f8e9e7991e0515a24d5e6c10851705ceed356961cb76691aad603e8f5f664", func := "purse/purselaw02.CodecBack", spec := "codecBack", unfollowed := true, recurses := true, apart := false, narrowed := true }
def CodecBackUptoSaid : Prop := codecBackUptoRow.holds Try.pinned (OpenSpec.upto codecBackSpec)

/-- 'purselaw02.CodecReads', WHERE WHAT IT READS IS OF BULK AT MOST 1048576: true; the input reads as it did. -/
def codecReadsUptoRow : OpenClaim := { program := "ytlglenbmpikhmaa", sum := "0a3f8e9e7991e0515a24d5e6c10851705ceed356961cb76691aad603e8f5f664", func := "purse/purselaw02.CodecReads", spec := "codecReads", unfollowed := true, recurses := true, apart := false, narrowed := true }
def CodecReadsUptoSaid : Prop := codecReadsUptoRow.holds Try.pinned (OpenSpec.upto codecReadsSpec)

/-- 'purselaw02.CodecNil', WHERE WHAT IT READS IS OF BULK AT MOST 1048576: true; the input reads as it did. -/
def codecNilUptoRow : OpenClaim := { program := "ytlglenbmpikhmaa", sum := "0a3f8e9e7991e0515a24d5e6c10851705ceed356961cb76691aad603e8f5f664", func := "purse/purselaw02.CodecNil", spec := "codecNil", unfollowed := true, recurses := true, apart := false, narrowed := true }
def CodecNilUptoSaid : Prop := codecNilUptoRow.holds Try.pinned (OpenSpec.upto codecNilSpec)

/-- 'purselaw02.CodecLeft', WHERE WHAT IT READS IS OF BULK AT MOST 1048576: true; the input reads as it did. -/
def codecLeftUptoRow : OpenClaim := { program := "ytlglenbmpikhmaa", sum := "0a3f8e9e7991e0515a24d5e6c10851705ceed356961cb76691aad603e8f5f664", func := "purse/purselaw02.CodecLeft", spec := "codecLeft", unfollowed := true, recurses := true, apart := false, narrowed := true }
def CodecLeftUptoSaid : Prop := codecLeftUptoRow.holds Try.pinned (OpenSpec.upto codecLeftSpec)

end Rows
end Go.Proofs.Ytlglenbmpikhmaa
