/-
  No cell of these rows narrows 'for every input' (looked for: loops, veiled, ifaces, maps, wideKeys, modest, calm, conditions, laid).
  DERIVED. THE GIVEN ROWS OF THIS SEAT. 7 by the template 'for every input the law returns true; each argument reads behind the call as it read before'; 0 by the template 'total and deterministic' (their statements: YtoeobicpdeklaaaTotals.lean).
  GIVEN WITH THE SEED: the statements are not yours to turn. If you find one false, say at which input.
  Laid BY PROGRAM, IN A SANDBOX (cutbox-rows.mjs): the forced cells as the released guide's own fill.sh prints them over the translation 44f82a787a1f37ee… (all of the seat's roots in one cut). By AI agents, Wed Nov 11 2026. No macro, syntax, notation, axiom, sorry.
-/
import Derived.Test.YtoeobicpdeklaaaChecked
import GoSem.Claim
import GoSem.ClaimJoined
import GoSem.ClaimMapViews
import Derived.JoinedTies
import Derived.KernelRfl
namespace Go.Proofs.Ytoeobicpdeklaaa
/- THE CELL 'sum', in the pinned program and in every row, IS THE sha256 OF THE DUMP (.gsa) THAT YtoeobicpdeklaaaProg.lean LOADS. Nothing in Lean hashes anything: it is a label: what it is worth is what the hold of that sum in a sandbox is worth. -/
noncomputable def Try.pinned : Pinned := { name := "ytoeobicpdeklaaa", sum := "44f82a787a1f37ee47d37a083c3996fc346a3e3bb0ced886af8f61cf4806760e", checked := Try.checked }
namespace Rows
def none {H : Type} : Left H := { results := [], args := [] }

/-- 'purselaw03.WireCommands': WHATEVER THE INPUT: true; the input reads as it did. -/
def wireCommandsSpec : ChangeSpec := { name := "wireCommands", fn := fun _ => fun
  | [d1, d2] => { results := [.lit (.bool true)], args := [d1, d2] }
  | _ => none }
def wireCommandsRow : OpenClaim := { program := "ytoeobicpdeklaaa", sum := "44f82a787a1f37ee47d37a083c3996fc346a3e3bb0ced886af8f61cf4806760e", func := "purse/purselaw03.WireCommands", spec := "wireCommands", unfollowed := true, recurses := true, apart := false }
def WireCommandsSaid : Prop := wireCommandsRow.holds Try.pinned (OpenSpec.ofChange wireCommandsSpec)

/-- ITS FALSE NEIGHBOUR: 'it returns false'. Refute it at one input. -/
def wireCommandsWrong : ChangeSpec := { name := "wireCommands", fn := fun _ => fun
  | [d1, d2] => { results := [.lit (.bool false)], args := [d1, d2] }
  | _ => none }
def WireCommandsWrongFalsely : Prop := wireCommandsRow.holds Try.pinned (OpenSpec.ofChange wireCommandsWrong)

/-- 'purselaw03.WireKeeps': WHATEVER THE INPUT: true; the input reads as it did. -/
def wireKeepsSpec : ChangeSpec := { name := "wireKeeps", fn := fun _ => fun
  | [d1, d2] => { results := [.lit (.bool true)], args := [d1, d2] }
  | _ => none }
def wireKeepsRow : OpenClaim := { program := "ytoeobicpdeklaaa", sum := "44f82a787a1f37ee47d37a083c3996fc346a3e3bb0ced886af8f61cf4806760e", func := "purse/purselaw03.WireKeeps", spec := "wireKeeps", unfollowed := true, recurses := true, apart := false }
def WireKeepsSaid : Prop := wireKeepsRow.holds Try.pinned (OpenSpec.ofChange wireKeepsSpec)

/-- ITS FALSE NEIGHBOUR: 'it returns false'. Refute it at one input. -/
def wireKeepsWrong : ChangeSpec := { name := "wireKeeps", fn := fun _ => fun
  | [d1, d2] => { results := [.lit (.bool false)], args := [d1, d2] }
  | _ => none }
def WireKeepsWrongFalsely : Prop := wireKeepsRow.holds Try.pinned (OpenSpec.ofChange wireKeepsWrong)

/-- 'purselaw03.WireNotes': WHATEVER THE INPUT: true; the input reads as it did. -/
def wireNotesSpec : ChangeSpec := { name := "wireNotes", fn := fun _ => fun
  | [d1, d2] => { results := [.lit (.bool true)], args := [d1, d2] }
  | _ => none }
def wireNotesRow : OpenClaim := { program := "ytoeobicpdeklaaa", sum := "44f82a787a1f37ee47d37a083c3996fc346a3e3bb0ced886af8f61cf4806760e", func := "purse/purselaw03.WireNotes", spec := "wireNotes", unfollowed := true, recurses := true, apart := false }
def WireNotesSaid : Prop := wireNotesRow.holds Try.pinned (OpenSpec.ofChange wireNotesSpec)

/-- ITS FALSE NEIGHBOUR: 'it returns false'. Refute it at one input. -/
def wireNotesWrong : ChangeSpec := { name := "wireNotes", fn := fun _ => fun
  | [d1, d2] => { results := [.lit (.bool false)], args := [d1, d2] }
  | _ => none }
def WireNotesWrongFalsely : Prop := wireNotesRow.holds Try.pinned (OpenSpec.ofChange wireNotesWrong)

/-- 'purselaw03.WireCharts': WHATEVER THE INPUT: true; the input reads as it did. -/
def wireChartsSpec : ChangeSpec := { name := "wireCharts", fn := fun _ => fun
  | [d1, d2] => { results := [.lit (.bool true)], args := [d1, d2] }
  | _ => none }
def wireChartsRow : OpenClaim := { program := "ytoeobicpdeklaaa", sum := "44f82a787a1f37ee47d37a083c3996fc346a3e3bb0ced886af8f61cf4806760e", func := "purse/purselaw03.WireCharts", spec := "wireCharts", unfollowed := true, recurses := true, apart := false }
def WireChartsSaid : Prop := wireChartsRow.holds Try.pinned (OpenSpec.ofChange wireChartsSpec)

/-- ITS FALSE NEIGHBOUR: 'it returns false'. Refute it at one input. -/
def wireChartsWrong : ChangeSpec := { name := "wireCharts", fn := fun _ => fun
  | [d1, d2] => { results := [.lit (.bool false)], args := [d1, d2] }
  | _ => none }
def WireChartsWrongFalsely : Prop := wireChartsRow.holds Try.pinned (OpenSpec.ofChange wireChartsWrong)

/-- 'purselaw03.WireLetters': WHATEVER THE INPUT: true; the input reads as it did. -/
def wireLettersSpec : ChangeSpec := { name := "wireLetters", fn := fun _ => fun
  | [d1, d2, d3] => { results := [.lit (.bool true)], args := [d1, d2, d3] }
  | _ => none }
def wireLettersRow : OpenClaim := { program := "ytoeobicpdeklaaa", sum := "44f82a787a1f37ee47d37a083c3996fc346a3e3bb0ced886af8f61cf4806760e", func := "purse/purselaw03.WireLetters", spec := "wireLetters", unfollowed := true, recurses := true, apart := false }
def WireLettersSaid : Prop := wireLettersRow.holds Try.pinned (OpenSpec.ofChange wireLettersSpec)

/-- ITS FALSE NEIGHBOUR: 'it returns false'. Refute it at one input. -/
def wireLettersWrong : ChangeSpec := { name := "wireLetters", fn := fun _ => fun
  | [d1, d2, d3] => { results := [.lit (.bool false)], args := [d1, d2, d3] }
  | _ => none }
def WireLettersWrongFalsely : Prop := wireLettersRow.holds Try.pinned (OpenSpec.ofChange wireLettersWrong)

/-- 'purselaw03.WireBack': WHATEVER THE INPUT: true; the input reads as it did. -/
def wireBackSpec : ChangeSpec := { name := "wireBack", fn := fun _ => fun
  | [d1, d2, d3] => { results := [.lit (.bool true)], args := [d1, d2, d3] }
  | _ => none }
def wireBackRow : OpenClaim := { program := "ytoeobicpdeklaaa", sum := "44f82a787a1f37ee47d37a083c3996fc346a3e3bb0ced886af8f61cf4806760e", func := "purse/purselaw03.WireBack", spec := "wireBack", unfollowed := true, recurses := true, apart := false }
def WireBackSaid : Prop := wireBackRow.holds Try.pinned (OpenSpec.ofChange wireBackSpec)

/-- ITS FALSE NEIGHBOUR: 'it returns false'. Refute it at one input. -/
def wireBackWrong : ChangeSpec := { name := "wireBack", fn := fun _ => fun
  | [d1, d2, d3] => { results := [.lit (.bool false)], args := [d1, d2, d3] }
  | _ => none }
def WireBackWrongFalsely : Prop := wireBackRow.holds Try.pinned (OpenSpec.ofChange wireBackWrong)

/-- 'purselaw03.WireOneForm': WHATEVER THE INPUT: true; the input reads as it did. -/
def wireOneFormSpec : ChangeSpec := { name := "wireOneForm", fn := fun _ => fun
  | [d] => { results := [.lit (.bool true)], args := [d] }
  | _ => none }
def wireOneFormRow : OpenClaim := { program := "ytoeobicpdeklaaa", sum := "44f82a787a1f37ee47d37a083c3996fc346a3e3bb0ced886af8f61cf4806760e", func := "purse/purselaw03.WireOneForm", spec := "wireOneForm", unfollowed := true, recurses := true, apart := false }
def WireOneFormSaid : Prop := wireOneFormRow.holds Try.pinned (OpenSpec.ofChange wireOneFormSpec)

/-- ITS FALSE NEIGHBOUR: 'it returns false'. Refute it at one input. -/
def wireOneFormWrong : ChangeSpec := { name := "wireOneForm", fn := fun _ => fun
  | [d] => { results := [.lit (.bool false)], args := [d] }
  | _ => none }
def WireOneFormWrongFalsely : Prop := wireOneFormRow.holds Try.pinned (OpenSpec.ofChange wireOneFormWrong)

/- THE SECOND FORM. 'bulk': how many values and letters a reading holds, each counted each time it is reached (what is shared counts as often as it is met; a slice's spare places count too). A statement '..UptoSaid' is the law's where the arguments, and the package variables that the reading takes, are together of bulk at most 1048576: NARROWER than '..Said'. Prove '..Said' where nothing that the law and all that it calls make is longer than what came in: it says more and counts as full. Else prove '..UptoSaid'. A law counts once. -/
mutual
def uptoBulk {H : Type} : DataW H → Nat
  | .lit (.string bytes) => bytes.length + 1
  | .lit _ => 1
  | .nil => 1
  | .ptr d => uptoBulk d + 1
  | .slice elems spare => uptoBulkAll elems + uptoBulkAll spare + 1
  | .agg parts => uptoBulkAll parts + 1
  | .iface _ d => uptoBulk d + 1
  | .map entries => uptoBulkEntries entries + 1
  | .held _ => 1
def uptoBulkAll {H : Type} : List (DataW H) → Nat
  | [] => 0
  | d :: r => uptoBulk d + uptoBulkAll r
def uptoBulkEntries {H : Type} : List (Lit × DataW H) → Nat
  | [] => 0
  | x :: r => uptoBulkEntry x + uptoBulkEntries r
def uptoBulkEntry {H : Type} : Lit × DataW H → Nat
  | (.string bytes, d) => bytes.length + uptoBulk d + 1
  | (_, d) => uptoBulk d + 1
 end
def uptoSmall : (H : Type) → List (DataW H) → Bool := fun _ ds => decide (uptoBulkAll ds ≤ 1048576)
def OpenSpec.upto (s : _root_.Go.ChangeSpec) : _root_.Go.OpenSpec := { _root_.Go.OpenSpec.ofChange s with cond := some uptoSmall }

/-- 'purselaw03.WireCommands', WHERE WHAT IT READS IS OF BULK AT MOST 1048576: true; the input reads as it did. -/
def wireCommandsUptoRow : OpenClaim := { program := "ytoeobicpdeklaaa", sum := "44f82a787a1f37ee47d37a083c3996fc346a3e3bb0ced886af8f61cf4806760e", func := "purse/purselaw03.WireCommands", spec := "wireCommands", unfollowed := true, recurses := true, apart := false, narrowed := true }
def WireCommandsUptoSaid : Prop := wireCommandsUptoRow.holds Try.pinned (OpenSpec.upto wireCommandsSpec)

/-- 'purselaw03.WireKeeps', WHERE WHAT IT READS IS OF BULK AT MOST 1048576: true; the input reads as it did. -/
def wireKeepsUptoRow : OpenClaim := { program := "ytoeobicpdeklaaa", sum := "44f82a787a1f37ee47d37a083c3996fc346a3e3bb0ced886af8f61cf4806760e", func := "purse/purselaw03.WireKeeps", spec := "wireKeeps", unfollowed := true, recurses := true, apart := false, narrowed := true }
def WireKeepsUptoSaid : Prop := wireKeepsUptoRow.holds Try.pinned (OpenSpec.upto wireKeepsSpec)

/-- 'purselaw03.WireNotes', WHERE WHAT IT READS IS OF BULK AT MOST 1048576: true; the input reads as it did. -/
def wireNotesUptoRow : OpenClaim := { program := "ytoeobicpdeklaaa", sum := "44f82a787a1f37ee47d37a083c3996fc346a3e3bb0ced886af8f61cf4806760e", func := "purse/purselaw03.WireNotes", spec := "wireNotes", unfollowed := true, recurses := true, apart := false, narrowed := true }
def WireNotesUptoSaid : Prop := wireNotesUptoRow.holds Try.pinned (OpenSpec.upto wireNotesSpec)

/-- 'purselaw03.WireCharts', WHERE WHAT IT READS IS OF BULK AT MOST 1048576: true; the input reads as it did. -/
def wireChartsUptoRow : OpenClaim := { program := "ytoeobicpdeklaaa", sum := "44f82a787a1f37ee47d37a083c3996fc346a3e3bb0ced886af8f61cf4806760e", func := "purse/purselaw03.WireCharts", spec := "wireCharts", unfollowed := true, recurses := true, apart := false, narrowed := true }
def WireChartsUptoSaid : Prop := wireChartsUptoRow.holds Try.pinned (OpenSpec.upto wireChartsSpec)

/-- 'purselaw03.WireLetters', WHERE WHAT IT READS IS OF BULK AT MOST 1048576: true; the input reads as it did. -/
def wireLettersUptoRow : OpenClaim := { program := "ytoeobicpdeklaaa", sum := "44f82a787a1f37ee47d37a083c3996fc346a3e3bb0ced886af8f61cf4806760e", func := "purse/purselaw03.WireLetters", spec := "wireLetters", unfollowed := true, recurses := true, apart := false, narrowed := true }
def WireLettersUptoSaid : Prop := wireLettersUptoRow.holds Try.pinned (OpenSpec.upto wireLettersSpec)

/-- 'purselaw03.WireBack', WHERE WHAT IT READS IS OF BULK AT MOST 1048576: true; the input reads as it did. -/
def wireBackUptoRow : OpenClaim := { program := "ytoeobicpdeklaaa", sum := "44f82a787a1f37ee47d37a083c3996fc346a3e3bb0ced886af8f61cf4806760e", func := "purse/purselaw03.WireBack", spec := "wireBack", unfollowed := true, recurses := true, apart := false, narrowed := true }
def WireBackUptoSaid : Prop := wireBackUptoRow.holds Try.pinned (OpenSpec.upto wireBackSpec)

/-- 'purselaw03.WireOneForm', WHERE WHAT IT READS IS OF BULK AT MOST 1048576: true; the input reads as it did. -/
def wireOneFormUptoRow : OpenClaim := { program := "ytoeobicpdeklaaa", sum := "44f82a787a1f37ee47d37a083c3996fc346a3e3bb0ced886af8f61cf4806760e", func := "purse/purselaw03.WireOneForm", spec := "wireOneForm", unfollowed := true, recurses := true, apart := false, narrowed := true }
def WireOneFormUptoSaid : Prop := wireOneFormUptoRow.holds Try.pinned (OpenSpec.upto wireOneFormSpec)

end Rows
end Go.Proofs.Ytoeobicpdeklaaa
