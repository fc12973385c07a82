/-
  DERIVED. GIVEN WITH THE SEED: THE CARDS: each row of YtagdhpkdbdilaaaGreatDoorRows.lean that lists a variable, with what it lists TIED to the program's text (the seventh form; the later family's looks); each row that meets fmt, with fmt's text TOLD by the authors' own Lean function (tested against real Go, not proved from fmt's source: count such statements apart). THE CARD IS WHAT COUNTS. Prove the row's statement (the work); the ties are given (YtagdhpkdbdilaaaGreatDoorTie.lean); close each card by the builder's one call (the guide's Derived/Test/ToyasCard.lean, 'card_holds'). Laid BY PROGRAM, IN A SANDBOX (cutbox-door.mjs). By AI agents, Wed Nov 11 2026. No macro, syntax, notation, axiom, sorry.
-/
import Derived.Test.YtagdhpkdbdilaaaGreatDoorRows
import GoSem.ClaimSeven
namespace Go.Proofs.YtagdhpkdbdilaaaGreatDoor
namespace Rows

/-- THE TIED CARD OF 'framewiselaw51.TileInterchange'. -/
def tileInterchangeCard : Claim7 := { stood := { row := tileInterchangeRow, standIns := [], harness := (true, "ca08c5a1bd16daacc77228955af61791c7c08fd5682ba668ed77ef7a0a89a824"), looks := true }, kinds := [], alts := [], laidByText := true, laidKinds := [.data, .data, .data, .sentinel, .sentinel], laidTests := true, laidLooks := .later }
def TileInterchangeCardSaid : Prop := Claim7.holds Tryz.pinned (.plain (OpenSpec.ofChange tileInterchangeSpec)) tileInterchangeCard

/-- THE TIED CARD OF 'framewiselaw51.TileStrip'. -/
def tileStripCard : Claim7 := { stood := { row := tileStripRow, standIns := [], harness := (true, "ca08c5a1bd16daacc77228955af61791c7c08fd5682ba668ed77ef7a0a89a824"), looks := true }, kinds := [], alts := [], laidByText := true, laidKinds := [.data, .data, .data, .sentinel, .sentinel], laidTests := true, laidLooks := .later }
def TileStripCardSaid : Prop := Claim7.holds Tryz.pinned (.plain (OpenSpec.ofChange tileStripSpec)) tileStripCard

/-- THE TIED CARD OF 'framewiselaw51.TileSafe'. -/
def tileSafeCard : Claim7 := { stood := { row := tileSafeRow, standIns := [], harness := (true, "ca08c5a1bd16daacc77228955af61791c7c08fd5682ba668ed77ef7a0a89a824"), looks := true }, kinds := [], alts := [], laidByText := true, laidKinds := [.data, .data, .data, .sentinel, .sentinel], laidTests := true, laidLooks := .later }
def TileSafeCardSaid : Prop := Claim7.holds Tryz.pinned (.plain (OpenSpec.ofChange tileSafeSpec)) tileSafeCard

/-- THE SECOND FORM's CARD OF 'framewiselaw51.TileInterchange'. -/
def tileInterchangeUptoCard : Claim7 := { stood := { row := tileInterchangeUptoRow, standIns := [], harness := (true, "ca08c5a1bd16daacc77228955af61791c7c08fd5682ba668ed77ef7a0a89a824"), looks := true }, kinds := [], alts := [], laidByText := true, laidKinds := [.data, .data, .data, .sentinel, .sentinel], laidTests := true, laidLooks := .later }
def TileInterchangeUptoCardSaid : Prop := Claim7.holds Tryz.pinned (.plain (OpenSpec.upto tileInterchangeSpec)) tileInterchangeUptoCard

/-- THE SECOND FORM's CARD OF 'framewiselaw51.TileStrip'. -/
def tileStripUptoCard : Claim7 := { stood := { row := tileStripUptoRow, standIns := [], harness := (true, "ca08c5a1bd16daacc77228955af61791c7c08fd5682ba668ed77ef7a0a89a824"), looks := true }, kinds := [], alts := [], laidByText := true, laidKinds := [.data, .data, .data, .sentinel, .sentinel], laidTests := true, laidLooks := .later }
def TileStripUptoCardSaid : Prop := Claim7.holds Tryz.pinned (.plain (OpenSpec.upto tileStripSpec)) tileStripUptoCard

/-- THE SECOND FORM's CARD OF 'framewiselaw51.TileSafe'. -/
def tileSafeUptoCard : Claim7 := { stood := { row := tileSafeUptoRow, standIns := [], harness := (true, "ca08c5a1bd16daacc77228955af61791c7c08fd5682ba668ed77ef7a0a89a824"), looks := true }, kinds := [], alts := [], laidByText := true, laidKinds := [.data, .data, .data, .sentinel, .sentinel], laidTests := true, laidLooks := .later }
def TileSafeUptoCardSaid : Prop := Claim7.holds Tryz.pinned (.plain (OpenSpec.upto tileSafeSpec)) tileSafeUptoCard
end Rows
end Go.Proofs.YtagdhpkdbdilaaaGreatDoor
