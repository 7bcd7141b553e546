/-
  No cell of these rows narrows 'for every input' (looked for: loops, veiled, ifaces, maps, wideKeys, modest, calm, conditions, laid).
  DERIVED. THE GIVEN ROWS OF THIS SEAT. 4 by the template 'for every input the law returns true; each argument reads behind the call as it read before'; 0 by the template 'total and deterministic' (their statements: YtjoeklkmnfaabaaGreatTotals.lean).
  GIVEN WITH THE SEED: the statements are not yours to turn. If you find one false, say at which input.
  Laid BY PROGRAM, IN A SANDBOX (cutbox-rows.mjs): the forced cells as the released guide's own fill.sh prints them over the translation fb22b125f2fd2e83… (all of the seat's roots in one cut). By AI agents, Wed Nov 11 2026. No macro, syntax, notation, axiom, sorry.
-/
import Derived.Test.YtjoeklkmnfaabaaGreatChecked
import GoSem.Claim
import GoSem.ClaimJoined
import GoSem.ClaimMapViews
import Derived.JoinedTies
import Derived.KernelRfl
namespace Go.Proofs.YtjoeklkmnfaabaaGreat
/- THE CELL 'sum', in the pinned program and in every row, IS THE sha256 OF THE DUMP (.gsa) THAT YtjoeklkmnfaabaaGreatProg.lean LOADS. Nothing in Lean hashes anything: it is a label: what it is worth is what the hold of that sum in a sandbox is worth. -/
noncomputable def Tryz.pinned : Pinned := { name := "ytjoeklkmnfaabaagreat", sum := "fb22b125f2fd2e831a77d66ca340850d5abebc13e4e4cc4eee3bf4d0f0e1ad29", checked := Tryz.checked }
namespace Rows
def none {H : Type} : Left H := { results := [], args := [] }

/-- 'purselaw21.VaultNil': WHATEVER THE INPUT: true; the input reads as it did. -/
def vaultNilSpec : ChangeSpec := { name := "vaultNil", fn := fun _ => fun
  | [d] => { results := [.lit (.bool true)], args := [d] }
  | _ => none }
def vaultNilRow : OpenClaim := { program := "ytjoeklkmnfaabaagreat", sum := "fb22b125f2fd2e831a77d66ca340850d5abebc13e4e4cc4eee3bf4d0f0e1ad29", func := "purse/purselaw21.VaultNil", spec := "vaultNil", inPlace := ["internal/bytealg.abigen_runtime_cmpstring", "slices.overlaps[purse/api.Right]", "slices.overlaps[purse/api.Mark]", "slices.overlaps[purse/api.Vote]"], unfollowed := true, recurses := true, apart := false }
def VaultNilSaid : Prop := vaultNilRow.holds Tryz.pinned (OpenSpec.ofChange vaultNilSpec)

/-- ITS FALSE NEIGHBOUR: 'it returns false'. Refute it at one input. -/
def vaultNilWrong : ChangeSpec := { name := "vaultNil", fn := fun _ => fun
  | [d] => { results := [.lit (.bool false)], args := [d] }
  | _ => none }
def VaultNilWrongFalsely : Prop := vaultNilRow.holds Tryz.pinned (OpenSpec.ofChange vaultNilWrong)

/-- 'purselaw21.VaultLast': WHATEVER THE INPUT: true; the input reads as it did. -/
def vaultLastSpec : ChangeSpec := { name := "vaultLast", fn := fun _ => fun
  | [d] => { results := [.lit (.bool true)], args := [d] }
  | _ => none }
def vaultLastRow : OpenClaim := { program := "ytjoeklkmnfaabaagreat", sum := "fb22b125f2fd2e831a77d66ca340850d5abebc13e4e4cc4eee3bf4d0f0e1ad29", func := "purse/purselaw21.VaultLast", spec := "vaultLast", inPlace := ["internal/bytealg.abigen_runtime_cmpstring", "slices.overlaps[purse/api.Right]", "slices.overlaps[purse/api.Mark]", "slices.overlaps[purse/api.Vote]"], unfollowed := true, recurses := true, apart := false }
def VaultLastSaid : Prop := vaultLastRow.holds Tryz.pinned (OpenSpec.ofChange vaultLastSpec)

/-- ITS FALSE NEIGHBOUR: 'it returns false'. Refute it at one input. -/
def vaultLastWrong : ChangeSpec := { name := "vaultLast", fn := fun _ => fun
  | [d] => { results := [.lit (.bool false)], args := [d] }
  | _ => none }
def VaultLastWrongFalsely : Prop := vaultLastRow.holds Tryz.pinned (OpenSpec.ofChange vaultLastWrong)

/-- 'purselaw21.VaultTrims': WHATEVER THE INPUT: true; the input reads as it did. -/
def vaultTrimsSpec : ChangeSpec := { name := "vaultTrims", fn := fun _ => fun
  | [d1, d2, d3, d4, d5] => { results := [.lit (.bool true)], args := [d1, d2, d3, d4, d5] }
  | _ => none }
def vaultTrimsRow : OpenClaim := { program := "ytjoeklkmnfaabaagreat", sum := "fb22b125f2fd2e831a77d66ca340850d5abebc13e4e4cc4eee3bf4d0f0e1ad29", func := "purse/purselaw21.VaultTrims", spec := "vaultTrims", inPlace := ["internal/bytealg.abigen_runtime_cmpstring", "slices.overlaps[purse/api.Right]", "slices.overlaps[purse/api.Mark]", "slices.overlaps[purse/api.Vote]"], unfollowed := true, recurses := true, apart := false }
def VaultTrimsSaid : Prop := vaultTrimsRow.holds Tryz.pinned (OpenSpec.ofChange vaultTrimsSpec)

/-- ITS FALSE NEIGHBOUR: 'it returns false'. Refute it at one input. -/
def vaultTrimsWrong : ChangeSpec := { name := "vaultTrims", fn := fun _ => fun
  | [d1, d2, d3, d4, d5] => { results := [.lit (.bool false)], args := [d1, d2, d3, d4, d5] }
  | _ => none }
def VaultTrimsWrongFalsely : Prop := vaultTrimsRow.holds Tryz.pinned (OpenSpec.ofChange vaultTrimsWrong)

/-- 'purselaw21.VaultKeeps': WHATEVER THE INPUT: true; the input reads as it did. -/
def vaultKeepsSpec : ChangeSpec := { name := "vaultKeeps", fn := fun _ => fun
  | [d] => { results := [.lit (.bool true)], args := [d] }
  | _ => none }
def vaultKeepsRow : OpenClaim := { program := "ytjoeklkmnfaabaagreat", sum := "fb22b125f2fd2e831a77d66ca340850d5abebc13e4e4cc4eee3bf4d0f0e1ad29", func := "purse/purselaw21.VaultKeeps", spec := "vaultKeeps", inPlace := ["internal/bytealg.abigen_runtime_cmpstring", "slices.overlaps[purse/api.Right]", "slices.overlaps[purse/api.Mark]", "slices.overlaps[purse/api.Vote]"], unfollowed := true, recurses := true, apart := false }
def VaultKeepsSaid : Prop := vaultKeepsRow.holds Tryz.pinned (OpenSpec.ofChange vaultKeepsSpec)

/-- ITS FALSE NEIGHBOUR: 'it returns false'. Refute it at one input. -/
def vaultKeepsWrong : ChangeSpec := { name := "vaultKeeps", fn := fun _ => fun
  | [d] => { results := [.lit (.bool false)], args := [d] }
  | _ => none }
def VaultKeepsWrongFalsely : Prop := vaultKeepsRow.holds Tryz.pinned (OpenSpec.ofChange vaultKeepsWrong)

/- THE SECOND FORM. 'bulk': how many values and letters a reading holds, each counted each time it is reached (what is shared counts as often as it is met; a slice's spare places count too). A statement '..UptoSaid' is the law's where the arguments, and the package variables that the reading takes, are together of bulk at most 1048576: NARROWER than '..Said'. Prove '..Said' where nothing that the law and all that it calls make is longer than what came in: it says more and counts as full. Else prove '..UptoSaid'. A law counts once. -/
mutual
def uptoBulk {H : Type} : DataW H → Nat
  | .lit (.string bytes) => bytes.length + 1
  | .lit _ => 1
  | .nil => 1
  | .ptr d => uptoBulk d + 1
  | .slice elems spare => uptoBulkAll elems + uptoBulkAll spare + 1
  | .agg parts => uptoBulkAll parts + 1
  | .iface _ d => uptoBulk d + 1
  | .map entries => uptoBulkEntries entries + 1
  | .held _ => 1
def uptoBulkAll {H : Type} : List (DataW H) → Nat
  | [] => 0
  | d :: r => uptoBulk d + uptoBulkAll r
def uptoBulkEntries {H : Type} : List (Lit × DataW H) → Nat
  | [] => 0
  | x :: r => uptoBulkEntry x + uptoBulkEntries r
def uptoBulkEntry {H : Type} : Lit × DataW H → Nat
  | (.string bytes, d) => bytes.length + uptoBulk d + 1
  | (_, d) => uptoBulk d + 1
 end
def uptoSmall : (H : Type) → List (DataW H) → Bool := fun _ ds => decide (uptoBulkAll ds ≤ 1048576)
def OpenSpec.upto (s : _root_.Go.ChangeSpec) : _root_.Go.OpenSpec := { _root_.Go.OpenSpec.ofChange s with cond := some uptoSmall }

/-- 'purselaw21.VaultNil', WHERE WHAT IT READS IS OF BULK AT MOST 1048576: true; the input reads as it did. -/
def vaultNilUptoRow : OpenClaim := { program := "ytjoeklkmnfaabaagreat", sum := "fb22b125f2fd2e831a77d66ca340850d5abebc13e4e4cc4eee3bf4d0f0e1ad29", func := "purse/purselaw21.VaultNil", spec := "vaultNil", inPlace := ["internal/bytealg.abigen_runtime_cmpstring", "slices.overlaps[purse/api.Right]", "slices.overlaps[purse/api.Mark]", "slices.overlaps[purse/api.Vote]"], unfollowed := true, recurses := true, apart := false, narrowed := true }
def VaultNilUptoSaid : Prop := vaultNilUptoRow.holds Tryz.pinned (OpenSpec.upto vaultNilSpec)

/-- 'purselaw21.VaultLast', WHERE WHAT IT READS IS OF BULK AT MOST 1048576: true; the input reads as it did. -/
def vaultLastUptoRow : OpenClaim := { program := "ytjoeklkmnfaabaagreat", sum := "fb22b125f2fd2e831a77d66ca340850d5abebc13e4e4cc4eee3bf4d0f0e1ad29", func := "purse/purselaw21.VaultLast", spec := "vaultLast", inPlace := ["internal/bytealg.abigen_runtime_cmpstring", "slices.overlaps[purse/api.Right]", "slices.overlaps[purse/api.Mark]", "slices.overlaps[purse/api.Vote]"], unfollowed := true, recurses := true, apart := false, narrowed := true }
def VaultLastUptoSaid : Prop := vaultLastUptoRow.holds Tryz.pinned (OpenSpec.upto vaultLastSpec)

/-- 'purselaw21.VaultTrims', WHERE WHAT IT READS IS OF BULK AT MOST 1048576: true; the input reads as it did. -/
def vaultTrimsUptoRow : OpenClaim := { program := "ytjoeklkmnfaabaagreat", sum := "fb22b125f2fd2e831a77d66ca340850d5abebc13e4e4cc4eee3bf4d0f0e1ad29", func := "purse/purselaw21.VaultTrims", spec := "vaultTrims", inPlace := ["internal/bytealg.abigen_runtime_cmpstring", "slices.overlaps[purse/api.Right]", "slices.overlaps[purse/api.Mark]", "slices.overlaps[purse/api.Vote]"], unfollowed := true, recurses := true, apart := false, narrowed := true }
def VaultTrimsUptoSaid : Prop := vaultTrimsUptoRow.holds Tryz.pinned (OpenSpec.upto vaultTrimsSpec)

/-- 'purselaw21.VaultKeeps', WHERE WHAT IT READS IS OF BULK AT MOST 1048576: true; the input reads as it did. -/
def vaultKeepsUptoRow : OpenClaim := { program := "ytjoeklkmnfaabaagreat", sum := "fb22b125f2fd2e831a77d66ca340850d5abebc13e4e4cc4eee3bf4d0f0e1ad29", func := "purse/purselaw21.VaultKeeps", spec := "vaultKeeps", inPlace := ["internal/bytealg.abigen_runtime_cmpstring", "slices.overlaps[purse/api.Right]", "slices.overlaps[purse/api.Mark]", "slices.overlaps[purse/api.Vote]"], unfollowed := true, recurses := true, apart := false, narrowed := true }
def VaultKeepsUptoSaid : Prop := vaultKeepsUptoRow.holds Tryz.pinned (OpenSpec.upto vaultKeepsSpec)

end Rows
end Go.Proofs.YtjoeklkmnfaabaaGreat
