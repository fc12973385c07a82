/-
  DERIVED. GIVEN WITH THE SEED: THE CARDS: each row of YtplehelpidcobaaGreatDoorRows.lean that lists a variable, with what it lists TIED to the program's text (the seventh form; the later family's looks); each row that meets fmt, with fmt's text TOLD by the authors' own Lean function (tested against real Go, not proved from fmt's source: count such statements apart). THE CARD IS WHAT COUNTS. Prove the row's statement (the work); the ties are given (YtplehelpidcobaaGreatDoorTie.lean); close each card by the builder's one call (the guide's Derived/Test/ToyasCard.lean, 'card_holds'). Laid BY PROGRAM, IN A SANDBOX (cutbox-door.mjs). By AI agents, Wed Nov 11 2026. No macro, syntax, notation, axiom, sorry.
-/
import Derived.Test.YtplehelpidcobaaGreatDoorRows
import GoSem.ClaimSeven
namespace Go.Proofs.YtplehelpidcobaaGreatDoor
namespace Rows

/-- THE TIED CARD OF 'framewiselaw47.PlanMake'. -/
def planMakeCard : Claim7 := { stood := { row := planMakeRow, standIns := [], harness := (true, "1f2688e68a894893c4c8fb009503598dc7fa87dacef85f776490022480734316"), looks := true }, kinds := [], alts := [], laidByText := true, laidKinds := [.data, .data, .data, .data, .sentinel, .sentinel, .pinned], laidTests := true, laidLooks := .later }
def PlanMakeCardSaid : Prop := Claim7.holds Tryz.pinned (.plain (OpenSpec.ofChange planMakeSpec)) planMakeCard

/-- THE TIED CARD OF 'framewiselaw47.PlanPeak'. -/
def planPeakCard : Claim7 := { stood := { row := planPeakRow, standIns := [], harness := (true, "1f2688e68a894893c4c8fb009503598dc7fa87dacef85f776490022480734316"), looks := true }, kinds := [], alts := [], laidByText := true, laidKinds := [.data, .data, .data, .data, .sentinel, .sentinel, .pinned], laidTests := true, laidLooks := .later }
def PlanPeakCardSaid : Prop := Claim7.holds Tryz.pinned (.plain (OpenSpec.ofChange planPeakSpec)) planPeakCard

/-- THE TIED CARD OF 'framewiselaw47.PlanSound'. -/
def planSoundCard : Claim7 := { stood := { row := planSoundRow, standIns := [], harness := (true, "1f2688e68a894893c4c8fb009503598dc7fa87dacef85f776490022480734316"), looks := true }, kinds := [], alts := [], laidByText := true, laidKinds := [.data, .data, .data, .data, .sentinel, .sentinel, .pinned], laidTests := true, laidLooks := .later }
def PlanSoundCardSaid : Prop := Claim7.holds Tryz.pinned (.plain (OpenSpec.ofChange planSoundSpec)) planSoundCard

/-- THE SECOND FORM's CARD OF 'framewiselaw47.PlanMake'. -/
def planMakeUptoCard : Claim7 := { stood := { row := planMakeUptoRow, standIns := [], harness := (true, "1f2688e68a894893c4c8fb009503598dc7fa87dacef85f776490022480734316"), looks := true }, kinds := [], alts := [], laidByText := true, laidKinds := [.data, .data, .data, .data, .sentinel, .sentinel, .pinned], laidTests := true, laidLooks := .later }
def PlanMakeUptoCardSaid : Prop := Claim7.holds Tryz.pinned (.plain (OpenSpec.upto planMakeSpec)) planMakeUptoCard

/-- THE SECOND FORM's CARD OF 'framewiselaw47.PlanPeak'. -/
def planPeakUptoCard : Claim7 := { stood := { row := planPeakUptoRow, standIns := [], harness := (true, "1f2688e68a894893c4c8fb009503598dc7fa87dacef85f776490022480734316"), looks := true }, kinds := [], alts := [], laidByText := true, laidKinds := [.data, .data, .data, .data, .sentinel, .sentinel, .pinned], laidTests := true, laidLooks := .later }
def PlanPeakUptoCardSaid : Prop := Claim7.holds Tryz.pinned (.plain (OpenSpec.upto planPeakSpec)) planPeakUptoCard

/-- THE SECOND FORM's CARD OF 'framewiselaw47.PlanSound'. -/
def planSoundUptoCard : Claim7 := { stood := { row := planSoundUptoRow, standIns := [], harness := (true, "1f2688e68a894893c4c8fb009503598dc7fa87dacef85f776490022480734316"), looks := true }, kinds := [], alts := [], laidByText := true, laidKinds := [.data, .data, .data, .data, .sentinel, .sentinel, .pinned], laidTests := true, laidLooks := .later }
def PlanSoundUptoCardSaid : Prop := Claim7.holds Tryz.pinned (.plain (OpenSpec.upto planSoundSpec)) planSoundUptoCard
end Rows
end Go.Proofs.YtplehelpidcobaaGreatDoor
