/-
  DERIVED. GIVEN WITH THE SEED: THE CARDS: each row of YtdglfamcgppilaaGreatDoorRows.lean that lists a variable, with what it lists TIED to the program's text (the seventh form; the later family's looks); each row that meets fmt, with fmt's text TOLD by the authors' own Lean function (tested against real Go, not proved from fmt's source: count such statements apart). THE CARD IS WHAT COUNTS. Prove the row's statement (the work); the ties are given (YtdglfamcgppilaaGreatDoorTie.lean); close each card by the builder's one call (the guide's Derived/Test/ToyasCard.lean, 'card_holds'). Laid BY PROGRAM, IN A SANDBOX (cutbox-door.mjs). By AI agents, Wed Nov 11 2026. No macro, syntax, notation, axiom, sorry.
-/
import Derived.Test.YtdglfamcgppilaaGreatDoorRows
import GoSem.ClaimSeven
namespace Go.Proofs.YtdglfamcgppilaaGreatDoor
namespace Rows

/-- THE TIED CARD OF 'framewiselaw43.PullEval'. -/
def pullEvalCard : Claim7 := { stood := { row := pullEvalRow, standIns := [], harness := (true, "381081fd067b45c587594144c021a657aa12ebe292b40ef4b5a1b3819f03d680"), looks := true }, kinds := [], alts := [], laidByText := true, laidKinds := [.data, .data, .data, .data, .sentinel, .sentinel, .listed, .data, .pinned], laidTests := true, laidLooks := .later }
def PullEvalCardSaid : Prop := Claim7.holds Tryz.pinned (.plain (OpenSpec.ofChange pullEvalSpec)) pullEvalCard

/-- THE SECOND FORM's CARD OF 'framewiselaw43.PullEval'. -/
def pullEvalUptoCard : Claim7 := { stood := { row := pullEvalUptoRow, standIns := [], harness := (true, "381081fd067b45c587594144c021a657aa12ebe292b40ef4b5a1b3819f03d680"), looks := true }, kinds := [], alts := [], laidByText := true, laidKinds := [.data, .data, .data, .data, .sentinel, .sentinel, .listed, .data, .pinned], laidTests := true, laidLooks := .later }
def PullEvalUptoCardSaid : Prop := Claim7.holds Tryz.pinned (.plain (OpenSpec.upto pullEvalSpec)) pullEvalUptoCard
end Rows
end Go.Proofs.YtdglfamcgppilaaGreatDoor
