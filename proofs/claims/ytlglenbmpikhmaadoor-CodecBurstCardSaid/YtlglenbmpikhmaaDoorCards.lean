/-
  DERIVED. GIVEN WITH THE SEED: THE CARDS: each row of YtlglenbmpikhmaaDoorRows.lean that lists a variable, with what it lists TIED to the program's text (the seventh form; the later family's looks); each row that meets fmt, with fmt's text TOLD by the authors' own Lean function (tested against real Go, not proved from fmt's source: count such statements apart). THE CARD IS WHAT COUNTS. Prove the row's statement (the work); the ties are given (YtlglenbmpikhmaaDoorTie.lean); close each card by the builder's one call (the guide's Derived/Test/ToyasCard.lean, 'card_holds'). Laid BY PROGRAM, IN A SANDBOX (cutbox-door.mjs). By AI agents, Wed Nov 11 2026. No macro, syntax, notation, axiom, sorry.
-/
import Derived.Test.YtlglenbmpikhmaaDoorRows
import GoSem.ClaimSeven
namespace Go.Proofs.YtlglenbmpikhmaaDoor
namespace Rows

/-- THE TIED CARD OF 'purselaw02.CodecUnframes'. -/
def codecUnframesCard : Claim7 := { stood := { row := codecUnframesRow, standIns := [], harness := (true, "ac543defd0eef595d691e1abaeb1feb6ce61b54f7bf53adaa7312ecbb637e3d9"), looks := false }, kinds := [], alts := [], laidByText := true, laidKinds := [.data], laidTests := true, laidLooks := .later }
def CodecUnframesCardSaid : Prop := Claim7.holds Tryd.pinned (.plain (OpenSpec.ofChange codecUnframesSpec)) codecUnframesCard

/-- THE TIED CARD OF 'purselaw02.CodecWrites'. -/
def codecWritesCard : Claim7 := { stood := { row := codecWritesRow, standIns := [], harness := (true, "ac543defd0eef595d691e1abaeb1feb6ce61b54f7bf53adaa7312ecbb637e3d9"), looks := false }, kinds := [], alts := [], laidByText := true, laidKinds := [.data], laidTests := true, laidLooks := .later }
def CodecWritesCardSaid : Prop := Claim7.holds Tryd.pinned (.plain (OpenSpec.ofChange codecWritesSpec)) codecWritesCard

/-- THE TIED CARD OF 'purselaw02.CodecFrames'. -/
def codecFramesCard : Claim7 := { stood := { row := codecFramesRow, standIns := [], harness := (true, "ac543defd0eef595d691e1abaeb1feb6ce61b54f7bf53adaa7312ecbb637e3d9"), looks := false }, kinds := [], alts := [], laidByText := true, laidKinds := [.data], laidTests := true, laidLooks := .later }
def CodecFramesCardSaid : Prop := Claim7.holds Tryd.pinned (.plain (OpenSpec.ofChange codecFramesSpec)) codecFramesCard

/-- THE TIED CARD OF 'purselaw02.CodecBurst'. -/
def codecBurstCard : Claim7 := { stood := { row := codecBurstRow, standIns := [], harness := (true, "ac543defd0eef595d691e1abaeb1feb6ce61b54f7bf53adaa7312ecbb637e3d9"), looks := false }, kinds := [], alts := [], laidByText := true, laidKinds := [.data], laidTests := true, laidLooks := .later }
def CodecBurstCardSaid : Prop := Claim7.holds Tryd.pinned (.plain (OpenSpec.ofChange codecBurstSpec)) codecBurstCard

/-- THE SECOND FORM's CARD OF 'purselaw02.CodecUnframes'. -/
def codecUnframesUptoCard : Claim7 := { stood := { row := codecUnframesUptoRow, standIns := [], harness := (true, "ac543defd0eef595d691e1abaeb1feb6ce61b54f7bf53adaa7312ecbb637e3d9"), looks := false }, kinds := [], alts := [], laidByText := true, laidKinds := [.data], laidTests := true, laidLooks := .later }
def CodecUnframesUptoCardSaid : Prop := Claim7.holds Tryd.pinned (.plain (OpenSpec.upto codecUnframesSpec)) codecUnframesUptoCard

/-- THE SECOND FORM's CARD OF 'purselaw02.CodecWrites'. -/
def codecWritesUptoCard : Claim7 := { stood := { row := codecWritesUptoRow, standIns := [], harness := (true, "ac543defd0eef595d691e1abaeb1feb6ce61b54f7bf53adaa7312ecbb637e3d9"), looks := false }, kinds := [], alts := [], laidByText := true, laidKinds := [.data], laidTests := true, laidLooks := .later }
def CodecWritesUptoCardSaid : Prop := Claim7.holds Tryd.pinned (.plain (OpenSpec.upto codecWritesSpec)) codecWritesUptoCard

/-- THE SECOND FORM's CARD OF 'purselaw02.CodecFrames'. -/
def codecFramesUptoCard : Claim7 := { stood := { row := codecFramesUptoRow, standIns := [], harness := (true, "ac543defd0eef595d691e1abaeb1feb6ce61b54f7bf53adaa7312ecbb637e3d9"), looks := false }, kinds := [], alts := [], laidByText := true, laidKinds := [.data], laidTests := true, laidLooks := .later }
def CodecFramesUptoCardSaid : Prop := Claim7.holds Tryd.pinned (.plain (OpenSpec.upto codecFramesSpec)) codecFramesUptoCard

/-- THE SECOND FORM's CARD OF 'purselaw02.CodecBurst'. -/
def codecBurstUptoCard : Claim7 := { stood := { row := codecBurstUptoRow, standIns := [], harness := (true, "ac543defd0eef595d691e1abaeb1feb6ce61b54f7bf53adaa7312ecbb637e3d9"), looks := false }, kinds := [], alts := [], laidByText := true, laidKinds := [.data], laidTests := true, laidLooks := .later }
def CodecBurstUptoCardSaid : Prop := Claim7.holds Tryd.pinned (.plain (OpenSpec.upto codecBurstSpec)) codecBurstUptoCard
end Rows
end Go.Proofs.YtlglenbmpikhmaaDoor
