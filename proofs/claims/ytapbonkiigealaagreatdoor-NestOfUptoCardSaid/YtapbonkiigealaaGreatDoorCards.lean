/-
  DERIVED. GIVEN WITH THE SEED: THE CARDS: each row of YtapbonkiigealaaGreatDoorRows.lean that lists a variable, with what it lists TIED to the program's text (the seventh form; the later family's looks); each row that meets fmt, with fmt's text TOLD by the authors' own Lean function (tested against real Go, not proved from fmt's source: count such statements apart). THE CARD IS WHAT COUNTS. Prove the row's statement (the work); the ties are given (YtapbonkiigealaaGreatDoorTie.lean); close each card by the builder's one call (the guide's Derived/Test/ToyasCard.lean, 'card_holds'). Laid BY PROGRAM, IN A SANDBOX (cutbox-door.mjs). By AI agents, Wed Nov 11 2026. No macro, syntax, notation, axiom, sorry.
-/
import Derived.Test.YtapbonkiigealaaGreatDoorRows
import GoSem.ClaimSeven
namespace Go.Proofs.YtapbonkiigealaaGreatDoor
namespace Rows

/-- THE TIED CARD OF 'framewiselaw49.NestValid'. -/
def nestValidCard : Claim7 := { stood := { row := nestValidRow, standIns := [], harness := (true, "99e3cebbbbf3d011bde3d3ed27ab0428292fae10d8993ee1d5120a046ede7335"), looks := true }, kinds := [], alts := [], laidByText := true, laidKinds := [.data, .data, .data, .sentinel, .sentinel], laidTests := true, laidLooks := .later }
def NestValidCardSaid : Prop := Claim7.holds Tryz.pinned (.plain (OpenSpec.ofChange nestValidSpec)) nestValidCard

/-- THE TIED CARD OF 'framewiselaw49.NestOf'. -/
def nestOfCard : Claim7 := { stood := { row := nestOfRow, standIns := [], harness := (true, "99e3cebbbbf3d011bde3d3ed27ab0428292fae10d8993ee1d5120a046ede7335"), looks := true }, kinds := [], alts := [], laidByText := true, laidKinds := [.data, .data, .data, .sentinel, .sentinel], laidTests := true, laidLooks := .later }
def NestOfCardSaid : Prop := Claim7.holds Tryz.pinned (.plain (OpenSpec.ofChange nestOfSpec)) nestOfCard

/-- THE SECOND FORM's CARD OF 'framewiselaw49.NestValid'. -/
def nestValidUptoCard : Claim7 := { stood := { row := nestValidUptoRow, standIns := [], harness := (true, "99e3cebbbbf3d011bde3d3ed27ab0428292fae10d8993ee1d5120a046ede7335"), looks := true }, kinds := [], alts := [], laidByText := true, laidKinds := [.data, .data, .data, .sentinel, .sentinel], laidTests := true, laidLooks := .later }
def NestValidUptoCardSaid : Prop := Claim7.holds Tryz.pinned (.plain (OpenSpec.upto nestValidSpec)) nestValidUptoCard

/-- THE SECOND FORM's CARD OF 'framewiselaw49.NestOf'. -/
def nestOfUptoCard : Claim7 := { stood := { row := nestOfUptoRow, standIns := [], harness := (true, "99e3cebbbbf3d011bde3d3ed27ab0428292fae10d8993ee1d5120a046ede7335"), looks := true }, kinds := [], alts := [], laidByText := true, laidKinds := [.data, .data, .data, .sentinel, .sentinel], laidTests := true, laidLooks := .later }
def NestOfUptoCardSaid : Prop := Claim7.holds Tryz.pinned (.plain (OpenSpec.upto nestOfSpec)) nestOfUptoCard
end Rows
end Go.Proofs.YtapbonkiigealaaGreatDoor
