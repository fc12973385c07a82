/-
  DERIVED. GIVEN WITH THE SEED: THE CARDS: each row of YtdegpppbhhjlhaaGreatDoorRows.lean that lists a variable, with what it lists TIED to the program's text (the seventh form; the later family's looks); each row that meets fmt, with fmt's text TOLD by the authors' own Lean function (tested against real Go, not proved from fmt's source: count such statements apart). THE CARD IS WHAT COUNTS. Prove the row's statement (the work); the ties are given (YtdegpppbhhjlhaaGreatDoorTie.lean); close each card by the builder's one call (the guide's Derived/Test/ToyasCard.lean, 'card_holds'). Laid BY PROGRAM, IN A SANDBOX (cutbox-door.mjs). By AI agents, Wed Nov 11 2026. No macro, syntax, notation, axiom, sorry.
-/
import Derived.Test.YtdegpppbhhjlhaaGreatDoorRows
import GoSem.ClaimSeven
namespace Go.Proofs.YtdegpppbhhjlhaaGreatDoor
namespace Rows

/-- THE TIED CARD OF 'framewiselaw56.CostPull'. -/
def costPullCard : Claim7 := { stood := { row := costPullRow, standIns := [], harness := (true, "8a3f7b0dd5432d702af7f7c3c6c7070cbee2130ab954c8197d4266f5a8f04fb2"), looks := true }, kinds := [], alts := [], laidByText := true, laidKinds := [.data, .data, .data, .data, .sentinel, .sentinel, .pinned], laidTests := true, laidLooks := .later }
def CostPullCardSaid : Prop := Claim7.holds Tryz.pinned (.plain (OpenSpec.ofChange costPullSpec)) costPullCard

/-- THE SECOND FORM's CARD OF 'framewiselaw56.CostPull'. -/
def costPullUptoCard : Claim7 := { stood := { row := costPullUptoRow, standIns := [], harness := (true, "8a3f7b0dd5432d702af7f7c3c6c7070cbee2130ab954c8197d4266f5a8f04fb2"), looks := true }, kinds := [], alts := [], laidByText := true, laidKinds := [.data, .data, .data, .data, .sentinel, .sentinel, .pinned], laidTests := true, laidLooks := .later }
def CostPullUptoCardSaid : Prop := Claim7.holds Tryz.pinned (.plain (OpenSpec.upto costPullSpec)) costPullUptoCard
end Rows
end Go.Proofs.YtdegpppbhhjlhaaGreatDoor
