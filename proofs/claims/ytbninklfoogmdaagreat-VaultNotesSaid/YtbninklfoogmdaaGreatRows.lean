/-
  No cell of these rows narrows 'for every input' (looked for: loops, veiled, ifaces, maps, wideKeys, modest, calm, conditions, laid).
  DERIVED. THE GIVEN ROWS OF THIS SEAT. 3 by the template 'for every input the law returns true; each argument reads behind the call as it read before'; 0 by the template 'total and deterministic' (their statements: YtbninklfoogmdaaGreatTotals.lean).
  GIVEN WITH THE SEED: the statements are not yours to turn. If you find one false, say at which input.
  Laid BY PROGRAM, IN A SANDBOX (cutbox-rows.mjs): the forced cells as the released guide's own fill.sh prints them over the translation 5462e383b7428e1f… (all of the seat's roots in one cut). By AI agents, Wed Nov 11 2026. No macro, syntax, notation, axiom, sorry.
-/
import Derived.Test.YtbninklfoogmdaaGreatChecked
import GoSem.Claim
import GoSem.ClaimJoined
import GoSem.ClaimMapViews
import Derived.JoinedTies
import Derived.KernelRfl
namespace Go.Proofs.YtbninklfoogmdaaGreat
/- THE CELL 'sum', in the pinned program and in every row, IS THE sha256 OF THE DUMP (.gsa) THAT YtbninklfoogmdaaGreatProg.lean LOADS. Nothing in Lean hashes anything: it is a label: what it is worth is what the hold of that sum in a sandbox is worth. -/
noncomputable def Tryz.pinned : Pinned := { name := "ytbninklfoogmdaagreat", sum := "5462e383b7428e1fc4750cc41248c44f42c982ec4af284b11c895fe0c77bd9a6", checked := Tryz.checked }
namespace Rows
def none {H : Type} : Left H := { results := [], args := [] }

/-- 'purselaw21.VaultFirst': WHATEVER THE INPUT: true; the input reads as it did. -/
def vaultFirstSpec : ChangeSpec := { name := "vaultFirst", fn := fun _ => fun
  | [d] => { results := [.lit (.bool true)], args := [d] }
  | _ => none }
def vaultFirstRow : OpenClaim := { program := "ytbninklfoogmdaagreat", sum := "5462e383b7428e1fc4750cc41248c44f42c982ec4af284b11c895fe0c77bd9a6", func := "purse/purselaw21.VaultFirst", spec := "vaultFirst", inPlace := ["internal/bytealg.abigen_runtime_cmpstring", "slices.overlaps[purse/api.Right]", "slices.overlaps[purse/api.Mark]", "slices.overlaps[purse/api.Vote]"], unfollowed := true, recurses := true, apart := false }
def VaultFirstSaid : Prop := vaultFirstRow.holds Tryz.pinned (OpenSpec.ofChange vaultFirstSpec)

/-- ITS FALSE NEIGHBOUR: 'it returns false'. Refute it at one input. -/
def vaultFirstWrong : ChangeSpec := { name := "vaultFirst", fn := fun _ => fun
  | [d] => { results := [.lit (.bool false)], args := [d] }
  | _ => none }
def VaultFirstWrongFalsely : Prop := vaultFirstRow.holds Tryz.pinned (OpenSpec.ofChange vaultFirstWrong)

/-- 'purselaw21.VaultReplays': WHATEVER THE INPUT: true; the input reads as it did. -/
def vaultReplaysSpec : ChangeSpec := { name := "vaultReplays", fn := fun _ => fun
  | [d] => { results := [.lit (.bool true)], args := [d] }
  | _ => none }
def vaultReplaysRow : OpenClaim := { program := "ytbninklfoogmdaagreat", sum := "5462e383b7428e1fc4750cc41248c44f42c982ec4af284b11c895fe0c77bd9a6", func := "purse/purselaw21.VaultReplays", spec := "vaultReplays", inPlace := ["internal/bytealg.abigen_runtime_cmpstring", "slices.overlaps[purse/api.Right]", "slices.overlaps[purse/api.Mark]", "slices.overlaps[purse/api.Vote]"], unfollowed := true, recurses := true, apart := false }
def VaultReplaysSaid : Prop := vaultReplaysRow.holds Tryz.pinned (OpenSpec.ofChange vaultReplaysSpec)

/-- ITS FALSE NEIGHBOUR: 'it returns false'. Refute it at one input. -/
def vaultReplaysWrong : ChangeSpec := { name := "vaultReplays", fn := fun _ => fun
  | [d] => { results := [.lit (.bool false)], args := [d] }
  | _ => none }
def VaultReplaysWrongFalsely : Prop := vaultReplaysRow.holds Tryz.pinned (OpenSpec.ofChange vaultReplaysWrong)

/-- 'purselaw21.VaultNotes': WHATEVER THE INPUT: true; the input reads as it did. -/
def vaultNotesSpec : ChangeSpec := { name := "vaultNotes", fn := fun _ => fun
  | [d] => { results := [.lit (.bool true)], args := [d] }
  | _ => none }
def vaultNotesRow : OpenClaim := { program := "ytbninklfoogmdaagreat", sum := "5462e383b7428e1fc4750cc41248c44f42c982ec4af284b11c895fe0c77bd9a6", func := "purse/purselaw21.VaultNotes", spec := "vaultNotes", inPlace := ["internal/bytealg.abigen_runtime_cmpstring", "slices.overlaps[purse/api.Right]", "slices.overlaps[purse/api.Mark]", "slices.overlaps[purse/api.Vote]"], unfollowed := true, recurses := true, apart := false }
def VaultNotesSaid : Prop := vaultNotesRow.holds Tryz.pinned (OpenSpec.ofChange vaultNotesSpec)

/-- ITS FALSE NEIGHBOUR: 'it returns false'. Refute it at one input. -/
def vaultNotesWrong : ChangeSpec := { name := "vaultNotes", fn := fun _ => fun
  | [d] => { results := [.lit (.bool false)], args := [d] }
  | _ => none }
def VaultNotesWrongFalsely : Prop := vaultNotesRow.holds Tryz.pinned (OpenSpec.ofChange vaultNotesWrong)

/- THE SECOND FORM. 'bulk': how many values and letters a reading holds, each counted each time it is reached (what is shared counts as often as it is met; a slice's spare places count too). A statement '..UptoSaid' is the law's where the arguments, and the package variables that the reading takes, are together of bulk at most 1048576: NARROWER than '..Said'. Prove '..Said' where nothing that the law and all that it calls make is longer than what came in: it says more and counts as full. Else prove '..UptoSaid'. A law counts once. -/
mutual
def uptoBulk {H : Type} : DataW H → Nat
  | .lit (.string bytes) => bytes.length + 1
  | .lit _ => 1
  | .nil => 1
  | .ptr d => uptoBulk d + 1
  | .slice elems spare => uptoBulkAll elems + uptoBulkAll spare + 1
  | .agg parts => uptoBulkAll parts + 1
  | .iface _ d => uptoBulk d + 1
  | .map entries => uptoBulkEntries entries + 1
  | .held _ => 1
def uptoBulkAll {H : Type} : List (DataW H) → Nat
  | [] => 0
  | d :: r => uptoBulk d + uptoBulkAll r
def uptoBulkEntries {H : Type} : List (Lit × DataW H) → Nat
  | [] => 0
  | x :: r => uptoBulkEntry x + uptoBulkEntries r
def uptoBulkEntry {H : Type} : Lit × DataW H → Nat
  | (.string bytes, d) => bytes.length + uptoBulk d + 1
  | (_, d) => uptoBulk d + 1
 end
def uptoSmall : (H : Type) → List (DataW H) → Bool := fun _ ds => decide (uptoBulkAll ds ≤ 1048576)
def OpenSpec.upto (s : _root_.Go.ChangeSpec) : _root_.Go.OpenSpec := { _root_.Go.OpenSpec.ofChange s with cond := some uptoSmall }

/-- 'purselaw21.VaultFirst', WHERE WHAT IT READS IS OF BULK AT MOST 1048576: true; the input reads as it did. -/
def vaultFirstUptoRow : OpenClaim := { program := "ytbninklfoogmdaagreat", sum := "5462e383b7428e1fc4750cc41248c44f42c982ec4af284b11c895fe0c77bd9a6", func := "purse/purselaw21.VaultFirst", spec := "vaultFirst", inPlace := ["internal/bytealg.abigen_runtime_cmpstring", "slices.overlaps[purse/api.Right]", "slices.overlaps[purse/api.Mark]", "slices.overlaps[purse/api.Vote]"], unfollowed := true, recurses := true, apart := false, narrowed := true }
def VaultFirstUptoSaid : Prop := vaultFirstUptoRow.holds Tryz.pinned (OpenSpec.upto vaultFirstSpec)

/-- 'purselaw21.VaultReplays', WHERE WHAT IT READS IS OF BULK AT MOST 1048576: true; the input reads as it did. -/
def vaultReplaysUptoRow : OpenClaim := { program := "ytbninklfoogmdaagreat", sum := "5462e383b7428e1fc4750cc41248c44f42c982ec4af284b11c895fe0c77bd9a6", func := "purse/purselaw21.VaultReplays", spec := "vaultReplays", inPlace := ["internal/bytealg.abigen_runtime_cmpstring", "slices.overlaps[purse/api.Right]", "slices.overlaps[purse/api.Mark]", "slices.overlaps[purse/api.Vote]"], unfollowed := true, recurses := true, apart := false, narrowed := true }
def VaultReplaysUptoSaid : Prop := vaultReplaysUptoRow.holds Tryz.pinned (OpenSpec.upto vaultReplaysSpec)

/-- 'purselaw21.VaultNotes', WHERE WHAT IT READS IS OF BULK AT MOST 1048576: true; the input reads as it did. -/
def vaultNotesUptoRow : OpenClaim := { program := "ytbninklfoogmdaagreat", sum := "5462e383b7428e1fc4750cc41248c44f42c982ec4af284b11c895fe0c77bd9a6", func := "purse/purselaw21.VaultNotes", spec := "vaultNotes", inPlace := ["internal/bytealg.abigen_runtime_cmpstring", "slices.overlaps[purse/api.Right]", "slices.overlaps[purse/api.Mark]", "slices.overlaps[purse/api.Vote]"], unfollowed := true, recurses := true, apart := false, narrowed := true }
def VaultNotesUptoSaid : Prop := vaultNotesUptoRow.holds Tryz.pinned (OpenSpec.upto vaultNotesSpec)

end Rows
end Go.Proofs.YtbninklfoogmdaaGreat
