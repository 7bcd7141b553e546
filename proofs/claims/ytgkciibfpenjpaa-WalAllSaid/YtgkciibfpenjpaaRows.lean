/-
  No cell of these rows narrows 'for every input' (looked for: loops, veiled, ifaces, maps, wideKeys, modest, calm, conditions, laid).
  DERIVED. THE GIVEN ROWS OF THIS SEAT. 6 by the template 'for every input the law returns true; each argument reads behind the call as it read before'; 0 by the template 'total and deterministic' (their statements: YtgkciibfpenjpaaTotals.lean).
  GIVEN WITH THE SEED: the statements are not yours to turn. If you find one false, say at which input.
  Laid BY PROGRAM, IN A SANDBOX (cutbox-rows.mjs): the forced cells as the released guide's own fill.sh prints them over the translation 4ea74b9235f2e504… (all of the seat's roots in one cut). By AI agents, Wed Nov 11 2026. No macro, syntax, notation, axiom, sorry.
-/
import Derived.Test.YtgkciibfpenjpaaChecked
import GoSem.Claim
import GoSem.ClaimJoined
import GoSem.ClaimMapViews
import Derived.JoinedTies
import Derived.KernelRfl
namespace Go.Proofs.Ytgkciibfpenjpaa
/- THE CELL 'sum', in the pinned program and in every row, IS THE sha256 OF THE DUMP (.gsa) THAT YtgkciibfpenjpaaProg.lean LOADS. Nothing in Lean hashes anything: it is a label: what it is worth is what the hold of that sum in a sandbox is worth. -/
noncomputable def Try.pinned : Pinned := { name := "ytgkciibfpenjpaa", sum := "4ea74b9235f2e504571ff74527e20b13a0f8fccb7b45beab44a99b8d6db800ea", checked := Try.checked }
namespace Rows
def none {H : Type} : Left H := { results := [], args := [] }

/-- 'purselaw05.WalRoom': WHATEVER THE INPUT: true; the input reads as it did. -/
def walRoomSpec : ChangeSpec := { name := "walRoom", fn := fun _ => fun
  | [d1, d2, d3] => { results := [.lit (.bool true)], args := [d1, d2, d3] }
  | _ => none }
def walRoomRow : OpenClaim := { program := "ytgkciibfpenjpaa", sum := "4ea74b9235f2e504571ff74527e20b13a0f8fccb7b45beab44a99b8d6db800ea", func := "purse/purselaw05.WalRoom", spec := "walRoom", unfollowed := true, recurses := true, apart := false }
def WalRoomSaid : Prop := walRoomRow.holds Try.pinned (OpenSpec.ofChange walRoomSpec)

/-- ITS FALSE NEIGHBOUR: 'it returns false'. Refute it at one input. -/
def walRoomWrong : ChangeSpec := { name := "walRoom", fn := fun _ => fun
  | [d1, d2, d3] => { results := [.lit (.bool false)], args := [d1, d2, d3] }
  | _ => none }
def WalRoomWrongFalsely : Prop := walRoomRow.holds Try.pinned (OpenSpec.ofChange walRoomWrong)

/-- 'purselaw05.WalLong': WHATEVER THE INPUT: true; the input reads as it did. -/
def walLongSpec : ChangeSpec := { name := "walLong", fn := fun _ => fun
  | [d1, d2] => { results := [.lit (.bool true)], args := [d1, d2] }
  | _ => none }
def walLongRow : OpenClaim := { program := "ytgkciibfpenjpaa", sum := "4ea74b9235f2e504571ff74527e20b13a0f8fccb7b45beab44a99b8d6db800ea", func := "purse/purselaw05.WalLong", spec := "walLong", unfollowed := true, recurses := true, apart := false }
def WalLongSaid : Prop := walLongRow.holds Try.pinned (OpenSpec.ofChange walLongSpec)

/-- ITS FALSE NEIGHBOUR: 'it returns false'. Refute it at one input. -/
def walLongWrong : ChangeSpec := { name := "walLong", fn := fun _ => fun
  | [d1, d2] => { results := [.lit (.bool false)], args := [d1, d2] }
  | _ => none }
def WalLongWrongFalsely : Prop := walLongRow.holds Try.pinned (OpenSpec.ofChange walLongWrong)

/-- 'purselaw05.WalCuts': WHATEVER THE INPUT: true; the input reads as it did. -/
def walCutsSpec : ChangeSpec := { name := "walCuts", fn := fun _ => fun
  | [d1, d2] => { results := [.lit (.bool true)], args := [d1, d2] }
  | _ => none }
def walCutsRow : OpenClaim := { program := "ytgkciibfpenjpaa", sum := "4ea74b9235f2e504571ff74527e20b13a0f8fccb7b45beab44a99b8d6db800ea", func := "purse/purselaw05.WalCuts", spec := "walCuts", unfollowed := true, recurses := true, apart := false }
def WalCutsSaid : Prop := walCutsRow.holds Try.pinned (OpenSpec.ofChange walCutsSpec)

/-- ITS FALSE NEIGHBOUR: 'it returns false'. Refute it at one input. -/
def walCutsWrong : ChangeSpec := { name := "walCuts", fn := fun _ => fun
  | [d1, d2] => { results := [.lit (.bool false)], args := [d1, d2] }
  | _ => none }
def WalCutsWrongFalsely : Prop := walCutsRow.holds Try.pinned (OpenSpec.ofChange walCutsWrong)

/-- 'purselaw05.WalAll': WHATEVER THE INPUT: true; the input reads as it did. -/
def walAllSpec : ChangeSpec := { name := "walAll", fn := fun _ => fun
  | [d1, d2] => { results := [.lit (.bool true)], args := [d1, d2] }
  | _ => none }
def walAllRow : OpenClaim := { program := "ytgkciibfpenjpaa", sum := "4ea74b9235f2e504571ff74527e20b13a0f8fccb7b45beab44a99b8d6db800ea", func := "purse/purselaw05.WalAll", spec := "walAll", unfollowed := true, recurses := true, apart := false }
def WalAllSaid : Prop := walAllRow.holds Try.pinned (OpenSpec.ofChange walAllSpec)

/-- ITS FALSE NEIGHBOUR: 'it returns false'. Refute it at one input. -/
def walAllWrong : ChangeSpec := { name := "walAll", fn := fun _ => fun
  | [d1, d2] => { results := [.lit (.bool false)], args := [d1, d2] }
  | _ => none }
def WalAllWrongFalsely : Prop := walAllRow.holds Try.pinned (OpenSpec.ofChange walAllWrong)

/-- 'purselaw05.WalNil': WHATEVER THE INPUT: true; the input reads as it did. -/
def walNilSpec : ChangeSpec := { name := "walNil", fn := fun _ => fun
  | [d1, d2] => { results := [.lit (.bool true)], args := [d1, d2] }
  | _ => none }
def walNilRow : OpenClaim := { program := "ytgkciibfpenjpaa", sum := "4ea74b9235f2e504571ff74527e20b13a0f8fccb7b45beab44a99b8d6db800ea", func := "purse/purselaw05.WalNil", spec := "walNil", unfollowed := true, recurses := true, apart := false }
def WalNilSaid : Prop := walNilRow.holds Try.pinned (OpenSpec.ofChange walNilSpec)

/-- ITS FALSE NEIGHBOUR: 'it returns false'. Refute it at one input. -/
def walNilWrong : ChangeSpec := { name := "walNil", fn := fun _ => fun
  | [d1, d2] => { results := [.lit (.bool false)], args := [d1, d2] }
  | _ => none }
def WalNilWrongFalsely : Prop := walNilRow.holds Try.pinned (OpenSpec.ofChange walNilWrong)

/-- 'purselaw05.WalSafe': WHATEVER THE INPUT: true; the input reads as it did. -/
def walSafeSpec : ChangeSpec := { name := "walSafe", fn := fun _ => fun
  | [d1, d2, d3, d4, d5, d6] => { results := [.lit (.bool true)], args := [d1, d2, d3, d4, d5, d6] }
  | _ => none }
def walSafeRow : OpenClaim := { program := "ytgkciibfpenjpaa", sum := "4ea74b9235f2e504571ff74527e20b13a0f8fccb7b45beab44a99b8d6db800ea", func := "purse/purselaw05.WalSafe", spec := "walSafe", unfollowed := true, recurses := true, apart := false }
def WalSafeSaid : Prop := walSafeRow.holds Try.pinned (OpenSpec.ofChange walSafeSpec)

/-- ITS FALSE NEIGHBOUR: 'it returns false'. Refute it at one input. -/
def walSafeWrong : ChangeSpec := { name := "walSafe", fn := fun _ => fun
  | [d1, d2, d3, d4, d5, d6] => { results := [.lit (.bool false)], args := [d1, d2, d3, d4, d5, d6] }
  | _ => none }
def WalSafeWrongFalsely : Prop := walSafeRow.holds Try.pinned (OpenSpec.ofChange walSafeWrong)

/- THE SECOND FORM. 'bulk': how many values and letters a reading holds, each counted each time it is reached (what is shared counts as often as it is met; a slice's spare places count too). A statement '..UptoSaid' is the law's where the arguments, and the package variables that the reading takes, are together of bulk at most 1048576: NARROWER than '..Said'. Prove '..Said' where nothing that the law and all that it calls make is longer than what came in: it says more and counts as full. Else prove '..UptoSaid'. A law counts once. -/
mutual
def uptoBulk {H : Type} : DataW H → Nat
  | .lit (.string bytes) => bytes.length + 1
  | .lit _ => 1
  | .nil => 1
  | .ptr d => uptoBulk d + 1
  | .slice elems spare => uptoBulkAll elems + uptoBulkAll spare + 1
  | .agg parts => uptoBulkAll parts + 1
  | .iface _ d => uptoBulk d + 1
  | .map entries => uptoBulkEntries entries + 1
  | .held _ => 1
def uptoBulkAll {H : Type} : List (DataW H) → Nat
  | [] => 0
  | d :: r => uptoBulk d + uptoBulkAll r
def uptoBulkEntries {H : Type} : List (Lit × DataW H) → Nat
  | [] => 0
  | x :: r => uptoBulkEntry x + uptoBulkEntries r
def uptoBulkEntry {H : Type} : Lit × DataW H → Nat
  | (.string bytes, d) => bytes.length + uptoBulk d + 1
  | (_, d) => uptoBulk d + 1
 end
def uptoSmall : (H : Type) → List (DataW H) → Bool := fun _ ds => decide (uptoBulkAll ds ≤ 1048576)
def OpenSpec.upto (s : _root_.Go.ChangeSpec) : _root_.Go.OpenSpec := { _root_.Go.OpenSpec.ofChange s with cond := some uptoSmall }

/-- 'purselaw05.WalRoom', WHERE WHAT IT READS IS OF BULK AT MOST 1048576: true; the input reads as it did. -/
def walRoomUptoRow : OpenClaim := { program := "ytgkciibfpenjpaa", sum := "4ea74b9235f2e504571ff74527e20b13a0f8fccb7b45beab44a99b8d6db800ea", func := "purse/purselaw05.WalRoom", spec := "walRoom", unfollowed := true, recurses := true, apart := false, narrowed := true }
def WalRoomUptoSaid : Prop := walRoomUptoRow.holds Try.pinned (OpenSpec.upto walRoomSpec)

/-- 'purselaw05.WalLong', WHERE WHAT IT READS IS OF BULK AT MOST 1048576: true; the input reads as it did. -/
def walLongUptoRow : OpenClaim := { program := "ytgkciibfpenjpaa", sum := "4ea74b9235f2e504571ff74527e20b13a0f8fccb7b45beab44a99b8d6db800ea", func := "purse/purselaw05.WalLong", spec := "walLong", unfollowed := true, recurses := true, apart := false, narrowed := true }
def WalLongUptoSaid : Prop := walLongUptoRow.holds Try.pinned (OpenSpec.upto walLongSpec)

/-- 'purselaw05.WalCuts', WHERE WHAT IT READS IS OF BULK AT MOST 1048576: true; the input reads as it did. -/
def walCutsUptoRow : OpenClaim := { program := "ytgkciibfpenjpaa", sum := "4ea74b9235f2e504571ff74527e20b13a0f8fccb7b45beab44a99b8d6db800ea", func := "purse/purselaw05.WalCuts", spec := "walCuts", unfollowed := true, recurses := true, apart := false, narrowed := true }
def WalCutsUptoSaid : Prop := walCutsUptoRow.holds Try.pinned (OpenSpec.upto walCutsSpec)

/-- 'purselaw05.WalAll', WHERE WHAT IT READS IS OF BULK AT MOST 1048576: true; the input reads as it did. -/
def walAllUptoRow : OpenClaim := { program := "ytgkciibfpenjpaa", sum := "4ea74b9235f2e504571ff74527e20b13a0f8fccb7b45beab44a99b8d6db800ea", func := "purse/purselaw05.WalAll", spec := "walAll", unfollowed := true, recurses := true, apart := false, narrowed := true }
def WalAllUptoSaid : Prop := walAllUptoRow.holds Try.pinned (OpenSpec.upto walAllSpec)

/-- 'purselaw05.WalNil', WHERE WHAT IT READS IS OF BULK AT MOST 1048576: true; the input reads as it did. -/
def walNilUptoRow : OpenClaim := { program := "ytgkciibfpenjpaa", sum := "4ea74b9235f2e504571ff74527e20b13a0f8fccb7b45beab44a99b8d6db800ea", func := "purse/purselaw05.WalNil", spec := "walNil", unfollowed := true, recurses := true, apart := false, narrowed := true }
def WalNilUptoSaid : Prop := walNilUptoRow.holds Try.pinned (OpenSpec.upto walNilSpec)

/-- 'purselaw05.WalSafe', WHERE WHAT IT READS IS OF BULK AT MOST 1048576: true; the input reads as it did. -/
def walSafeUptoRow : OpenClaim := { program := "ytgkciibfpenjpaa", sum := "4ea74b9235f2e504571ff74527e20b13a0f8fccb7b45beab44a99b8d6db800ea", func := "purse/purselaw05.WalSafe", spec := "walSafe", unfollowed := true, recurses := true, apart := false, narrowed := true }
def WalSafeUptoSaid : Prop := walSafeUptoRow.holds Try.pinned (OpenSpec.upto walSafeSpec)

end Rows
end Go.Proofs.Ytgkciibfpenjpaa
