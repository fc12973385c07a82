/-
  DERIVED. GIVEN WITH THE SEED: THE CARDS: each row of YtdideofckfhnfaaGreatDoorRows.lean that lists a variable, with what it lists TIED to the program's text (the seventh form; the later family's looks); each row that meets fmt, with fmt's text TOLD by the authors' own Lean function (tested against real Go, not proved from fmt's source: count such statements apart). THE CARD IS WHAT COUNTS. Prove the row's statement (the work); the ties are given (YtdideofckfhnfaaGreatDoorTie.lean); close each card by the builder's one call (the guide's Derived/Test/ToyasCard.lean, 'card_holds'). Laid BY PROGRAM, IN A SANDBOX (cutbox-door.mjs). By AI agents, Wed Nov 11 2026. No macro, syntax, notation, axiom, sorry.
-/
import Derived.Test.YtdideofckfhnfaaGreatDoorRows
import GoSem.ClaimSeven
namespace Go.Proofs.YtdideofckfhnfaaGreatDoor
namespace Rows

/-- THE TIED CARD OF 'framewiselaw43.PullForms'. -/
def pullFormsCard : Claim7 := { stood := { row := pullFormsRow, standIns := [], harness := (true, "bd48cf66299980355da1ab5a6eb9a91addfd3647552bc484211afb9de054f92c"), looks := true }, kinds := [], alts := [], laidByText := true, laidKinds := [.data, .data, .data, .data, .sentinel, .sentinel, .listed, .data, .pinned], laidTests := true, laidLooks := .later }
def PullFormsCardSaid : Prop := Claim7.holds Tryz.pinned (.plain (OpenSpec.ofChange pullFormsSpec)) pullFormsCard

/-- THE SECOND FORM's CARD OF 'framewiselaw43.PullForms'. -/
def pullFormsUptoCard : Claim7 := { stood := { row := pullFormsUptoRow, standIns := [], harness := (true, "bd48cf66299980355da1ab5a6eb9a91addfd3647552bc484211afb9de054f92c"), looks := true }, kinds := [], alts := [], laidByText := true, laidKinds := [.data, .data, .data, .data, .sentinel, .sentinel, .listed, .data, .pinned], laidTests := true, laidLooks := .later }
def PullFormsUptoCardSaid : Prop := Claim7.holds Tryz.pinned (.plain (OpenSpec.upto pullFormsSpec)) pullFormsUptoCard
end Rows
end Go.Proofs.YtdideofckfhnfaaGreatDoor
