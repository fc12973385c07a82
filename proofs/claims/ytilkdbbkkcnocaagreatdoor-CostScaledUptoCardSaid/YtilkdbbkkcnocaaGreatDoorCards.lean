/-
  DERIVED. GIVEN WITH THE SEED: THE CARDS: each row of YtilkdbbkkcnocaaGreatDoorRows.lean that lists a variable, with what it lists TIED to the program's text (the seventh form; the later family's looks); each row that meets fmt, with fmt's text TOLD by the authors' own Lean function (tested against real Go, not proved from fmt's source: count such statements apart). THE CARD IS WHAT COUNTS. Prove the row's statement (the work); the ties are given (YtilkdbbkkcnocaaGreatDoorTie.lean); close each card by the builder's one call (the guide's Derived/Test/ToyasCard.lean, 'card_holds'). Laid BY PROGRAM, IN A SANDBOX (cutbox-door.mjs). By AI agents, Wed Nov 11 2026. No macro, syntax, notation, axiom, sorry.
-/
import Derived.Test.YtilkdbbkkcnocaaGreatDoorRows
import GoSem.ClaimSeven
namespace Go.Proofs.YtilkdbbkkcnocaaGreatDoor
namespace Rows

/-- THE TIED CARD OF 'framewiselaw56.CostScaled'. -/
def costScaledCard : Claim7 := { stood := { row := costScaledRow, standIns := [], harness := (true, "8264484f90bcfa6e45d68fe346bd9b1bdcca4a32dafac7d378e72aae313cd0ad"), looks := true }, kinds := [], alts := [], laidByText := true, laidKinds := [.data, .data, .data, .data, .sentinel, .sentinel, .pinned], laidTests := true, laidLooks := .later }
def CostScaledCardSaid : Prop := Claim7.holds Tryz.pinned (.plain (OpenSpec.ofChange costScaledSpec)) costScaledCard

/-- THE SECOND FORM's CARD OF 'framewiselaw56.CostScaled'. -/
def costScaledUptoCard : Claim7 := { stood := { row := costScaledUptoRow, standIns := [], harness := (true, "8264484f90bcfa6e45d68fe346bd9b1bdcca4a32dafac7d378e72aae313cd0ad"), looks := true }, kinds := [], alts := [], laidByText := true, laidKinds := [.data, .data, .data, .data, .sentinel, .sentinel, .pinned], laidTests := true, laidLooks := .later }
def CostScaledUptoCardSaid : Prop := Claim7.holds Tryz.pinned (.plain (OpenSpec.upto costScaledSpec)) costScaledUptoCard
end Rows
end Go.Proofs.YtilkdbbkkcnocaaGreatDoor
