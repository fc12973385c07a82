/-
  DERIVED. GIVEN WITH THE SEED: THE CARDS: each row of YtmcpinidcecmoaaGreatDoorRows.lean that lists a variable, with what it lists TIED to the program's text (the seventh form; the later family's looks); each row that meets fmt, with fmt's text TOLD by the authors' own Lean function (tested against real Go, not proved from fmt's source: count such statements apart). THE CARD IS WHAT COUNTS. Prove the row's statement (the work); the ties are given (YtmcpinidcecmoaaGreatDoorTie.lean); close each card by the builder's one call (the guide's Derived/Test/ToyasCard.lean, 'card_holds'). Laid BY PROGRAM, IN A SANDBOX (cutbox-door.mjs). By AI agents, Wed Nov 11 2026. No macro, syntax, notation, axiom, sorry.
-/
import Derived.Test.YtmcpinidcecmoaaGreatDoorRows
import GoSem.ClaimSeven
namespace Go.Proofs.YtmcpinidcecmoaaGreatDoor
namespace Rows

/-- THE TIED CARD OF 'framewiselaw45.LifetimeSpans'. -/
def lifetimeSpansCard : Claim7 := { stood := { row := lifetimeSpansRow, standIns := [], harness := (true, "559ff63b8d6203e79173114f6a011d986d9ada27c2214e33d57e9b65d5eae34e"), looks := true }, kinds := [], alts := [], laidByText := true, laidKinds := [.data, .data, .data, .data, .sentinel, .sentinel, .pinned], laidTests := true, laidLooks := .later }
def LifetimeSpansCardSaid : Prop := Claim7.holds Tryz.pinned (.plain (OpenSpec.ofChange lifetimeSpansSpec)) lifetimeSpansCard

/-- THE TIED CARD OF 'framewiselaw45.LifetimeNeeds'. -/
def lifetimeNeedsCard : Claim7 := { stood := { row := lifetimeNeedsRow, standIns := [], harness := (true, "559ff63b8d6203e79173114f6a011d986d9ada27c2214e33d57e9b65d5eae34e"), looks := true }, kinds := [], alts := [], laidByText := true, laidKinds := [.data, .data, .data, .data, .sentinel, .sentinel, .pinned], laidTests := true, laidLooks := .later }
def LifetimeNeedsCardSaid : Prop := Claim7.holds Tryz.pinned (.plain (OpenSpec.ofChange lifetimeNeedsSpec)) lifetimeNeedsCard

/-- THE TIED CARD OF 'framewiselaw45.LifetimeReads'. -/
def lifetimeReadsCard : Claim7 := { stood := { row := lifetimeReadsRow, standIns := [], harness := (true, "559ff63b8d6203e79173114f6a011d986d9ada27c2214e33d57e9b65d5eae34e"), looks := true }, kinds := [], alts := [], laidByText := true, laidKinds := [.data, .data, .data, .data, .sentinel, .sentinel, .pinned], laidTests := true, laidLooks := .later }
def LifetimeReadsCardSaid : Prop := Claim7.holds Tryz.pinned (.plain (OpenSpec.ofChange lifetimeReadsSpec)) lifetimeReadsCard

/-- THE TIED CARD OF 'framewiselaw45.LifetimeEnds'. -/
def lifetimeEndsCard : Claim7 := { stood := { row := lifetimeEndsRow, standIns := [], harness := (true, "559ff63b8d6203e79173114f6a011d986d9ada27c2214e33d57e9b65d5eae34e"), looks := true }, kinds := [], alts := [], laidByText := true, laidKinds := [.data, .data, .data, .data, .sentinel, .sentinel, .pinned], laidTests := true, laidLooks := .later }
def LifetimeEndsCardSaid : Prop := Claim7.holds Tryz.pinned (.plain (OpenSpec.ofChange lifetimeEndsSpec)) lifetimeEndsCard

/-- THE SECOND FORM's CARD OF 'framewiselaw45.LifetimeSpans'. -/
def lifetimeSpansUptoCard : Claim7 := { stood := { row := lifetimeSpansUptoRow, standIns := [], harness := (true, "559ff63b8d6203e79173114f6a011d986d9ada27c2214e33d57e9b65d5eae34e"), looks := true }, kinds := [], alts := [], laidByText := true, laidKinds := [.data, .data, .data, .data, .sentinel, .sentinel, .pinned], laidTests := true, laidLooks := .later }
def LifetimeSpansUptoCardSaid : Prop := Claim7.holds Tryz.pinned (.plain (OpenSpec.upto lifetimeSpansSpec)) lifetimeSpansUptoCard

/-- THE SECOND FORM's CARD OF 'framewiselaw45.LifetimeNeeds'. -/
def lifetimeNeedsUptoCard : Claim7 := { stood := { row := lifetimeNeedsUptoRow, standIns := [], harness := (true, "559ff63b8d6203e79173114f6a011d986d9ada27c2214e33d57e9b65d5eae34e"), looks := true }, kinds := [], alts := [], laidByText := true, laidKinds := [.data, .data, .data, .data, .sentinel, .sentinel, .pinned], laidTests := true, laidLooks := .later }
def LifetimeNeedsUptoCardSaid : Prop := Claim7.holds Tryz.pinned (.plain (OpenSpec.upto lifetimeNeedsSpec)) lifetimeNeedsUptoCard

/-- THE SECOND FORM's CARD OF 'framewiselaw45.LifetimeReads'. -/
def lifetimeReadsUptoCard : Claim7 := { stood := { row := lifetimeReadsUptoRow, standIns := [], harness := (true, "559ff63b8d6203e79173114f6a011d986d9ada27c2214e33d57e9b65d5eae34e"), looks := true }, kinds := [], alts := [], laidByText := true, laidKinds := [.data, .data, .data, .data, .sentinel, .sentinel, .pinned], laidTests := true, laidLooks := .later }
def LifetimeReadsUptoCardSaid : Prop := Claim7.holds Tryz.pinned (.plain (OpenSpec.upto lifetimeReadsSpec)) lifetimeReadsUptoCard

/-- THE SECOND FORM's CARD OF 'framewiselaw45.LifetimeEnds'. -/
def lifetimeEndsUptoCard : Claim7 := { stood := { row := lifetimeEndsUptoRow, standIns := [], harness := (true, "559ff63b8d6203e79173114f6a011d986d9ada27c2214e33d57e9b65d5eae34e"), looks := true }, kinds := [], alts := [], laidByText := true, laidKinds := [.data, .data, .data, .data, .sentinel, .sentinel, .pinned], laidTests := true, laidLooks := .later }
def LifetimeEndsUptoCardSaid : Prop := Claim7.holds Tryz.pinned (.plain (OpenSpec.upto lifetimeEndsSpec)) lifetimeEndsUptoCard
end Rows
end Go.Proofs.YtmcpinidcecmoaaGreatDoor
