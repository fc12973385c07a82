/-
  DERIVED. GIVEN WITH THE SEED: THE CARDS: each row of YtdpdokigjeaaiaaGreatDoorRows.lean that lists a variable, with what it lists TIED to the program's text (the seventh form; the later family's looks); each row that meets fmt, with fmt's text TOLD by the authors' own Lean function (tested against real Go, not proved from fmt's source: count such statements apart). THE CARD IS WHAT COUNTS. Prove the row's statement (the work); the ties are given (YtdpdokigjeaaiaaGreatDoorTie.lean); close each card by the builder's one call (the guide's Derived/Test/ToyasCard.lean, 'card_holds'). Laid BY PROGRAM, IN A SANDBOX (cutbox-door.mjs). By AI agents, Wed Nov 11 2026. No macro, syntax, notation, axiom, sorry.
-/
import Derived.Test.YtdpdokigjeaaiaaGreatDoorRows
import GoSem.ClaimSeven
namespace Go.Proofs.YtdpdokigjeaaiaaGreatDoor
namespace Rows

/-- THE TIED CARD OF 'framewiselaw46.UniqueOwn'. -/
def uniqueOwnCard : Claim7 := { stood := { row := uniqueOwnRow, standIns := [], harness := (true, "04115463f29f09c5512e7951fda7d6f7be1c5a895c5c1d4544e90a7eb1ff47ec"), looks := true }, kinds := [], alts := [], laidByText := true, laidKinds := [.data, .data, .data, .data, .sentinel, .sentinel, .pinned], laidTests := true, laidLooks := .later }
def UniqueOwnCardSaid : Prop := Claim7.holds Tryz.pinned (.plain (OpenSpec.ofChange uniqueOwnSpec)) uniqueOwnCard

/-- THE TIED CARD OF 'framewiselaw46.UniqueMay'. -/
def uniqueMayCard : Claim7 := { stood := { row := uniqueMayRow, standIns := [], harness := (true, "04115463f29f09c5512e7951fda7d6f7be1c5a895c5c1d4544e90a7eb1ff47ec"), looks := true }, kinds := [], alts := [], laidByText := true, laidKinds := [.data, .data, .data, .data, .sentinel, .sentinel, .pinned], laidTests := true, laidLooks := .later }
def UniqueMayCardSaid : Prop := Claim7.holds Tryz.pinned (.plain (OpenSpec.ofChange uniqueMaySpec)) uniqueMayCard

/-- THE TIED CARD OF 'framewiselaw46.UniqueOnce'. -/
def uniqueOnceCard : Claim7 := { stood := { row := uniqueOnceRow, standIns := [], harness := (true, "04115463f29f09c5512e7951fda7d6f7be1c5a895c5c1d4544e90a7eb1ff47ec"), looks := true }, kinds := [], alts := [], laidByText := true, laidKinds := [.data, .data, .data, .data, .sentinel, .sentinel, .pinned], laidTests := true, laidLooks := .later }
def UniqueOnceCardSaid : Prop := Claim7.holds Tryz.pinned (.plain (OpenSpec.ofChange uniqueOnceSpec)) uniqueOnceCard

/-- THE SECOND FORM's CARD OF 'framewiselaw46.UniqueOwn'. -/
def uniqueOwnUptoCard : Claim7 := { stood := { row := uniqueOwnUptoRow, standIns := [], harness := (true, "04115463f29f09c5512e7951fda7d6f7be1c5a895c5c1d4544e90a7eb1ff47ec"), looks := true }, kinds := [], alts := [], laidByText := true, laidKinds := [.data, .data, .data, .data, .sentinel, .sentinel, .pinned], laidTests := true, laidLooks := .later }
def UniqueOwnUptoCardSaid : Prop := Claim7.holds Tryz.pinned (.plain (OpenSpec.upto uniqueOwnSpec)) uniqueOwnUptoCard

/-- THE SECOND FORM's CARD OF 'framewiselaw46.UniqueMay'. -/
def uniqueMayUptoCard : Claim7 := { stood := { row := uniqueMayUptoRow, standIns := [], harness := (true, "04115463f29f09c5512e7951fda7d6f7be1c5a895c5c1d4544e90a7eb1ff47ec"), looks := true }, kinds := [], alts := [], laidByText := true, laidKinds := [.data, .data, .data, .data, .sentinel, .sentinel, .pinned], laidTests := true, laidLooks := .later }
def UniqueMayUptoCardSaid : Prop := Claim7.holds Tryz.pinned (.plain (OpenSpec.upto uniqueMaySpec)) uniqueMayUptoCard

/-- THE SECOND FORM's CARD OF 'framewiselaw46.UniqueOnce'. -/
def uniqueOnceUptoCard : Claim7 := { stood := { row := uniqueOnceUptoRow, standIns := [], harness := (true, "04115463f29f09c5512e7951fda7d6f7be1c5a895c5c1d4544e90a7eb1ff47ec"), looks := true }, kinds := [], alts := [], laidByText := true, laidKinds := [.data, .data, .data, .data, .sentinel, .sentinel, .pinned], laidTests := true, laidLooks := .later }
def UniqueOnceUptoCardSaid : Prop := Claim7.holds Tryz.pinned (.plain (OpenSpec.upto uniqueOnceSpec)) uniqueOnceUptoCard
end Rows
end Go.Proofs.YtdpdokigjeaaiaaGreatDoor
