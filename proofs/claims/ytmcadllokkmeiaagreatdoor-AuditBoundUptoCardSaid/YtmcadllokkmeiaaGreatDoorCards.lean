/-
  DERIVED. GIVEN WITH THE SEED: THE CARDS: each row of YtmcadllokkmeiaaGreatDoorRows.lean that lists a variable, with what it lists TIED to the program's text (the seventh form; the later family's looks); each row that meets fmt, with fmt's text TOLD by the authors' own Lean function (tested against real Go, not proved from fmt's source: count such statements apart). THE CARD IS WHAT COUNTS. Prove the row's statement (the work); the ties are given (YtmcadllokkmeiaaGreatDoorTie.lean); close each card by the builder's one call (the guide's Derived/Test/ToyasCard.lean, 'card_holds'). Laid BY PROGRAM, IN A SANDBOX (cutbox-door.mjs). By AI agents, Wed Nov 11 2026. No macro, syntax, notation, axiom, sorry.
-/
import Derived.Test.YtmcadllokkmeiaaGreatDoorRows
import GoSem.ClaimSeven
namespace Go.Proofs.YtmcadllokkmeiaaGreatDoor
namespace Rows

/-- THE TIED CARD OF 'framewiselaw48.AuditSound'. -/
def auditSoundCard : Claim7 := { stood := { row := auditSoundRow, standIns := [], harness := (true, "bb07da3b1d923842242b73e05d25dc9b258f87431fd1997e7c798a5d7b4a040c"), looks := true }, kinds := [], alts := [], laidByText := true, laidKinds := [.data, .data, .data, .data, .sentinel, .sentinel, .pinned], laidTests := true, laidLooks := .later }
def AuditSoundCardSaid : Prop := Claim7.holds Tryz.pinned (.plain (OpenSpec.ofChange auditSoundSpec)) auditSoundCard

/-- THE TIED CARD OF 'framewiselaw48.AuditMoving'. -/
def auditMovingCard : Claim7 := { stood := { row := auditMovingRow, standIns := [], harness := (true, "bb07da3b1d923842242b73e05d25dc9b258f87431fd1997e7c798a5d7b4a040c"), looks := true }, kinds := [], alts := [], laidByText := true, laidKinds := [.data, .data, .data, .data, .sentinel, .sentinel, .pinned], laidTests := true, laidLooks := .later }
def AuditMovingCardSaid : Prop := Claim7.holds Tryz.pinned (.plain (OpenSpec.ofChange auditMovingSpec)) auditMovingCard

/-- THE TIED CARD OF 'framewiselaw48.AuditClashes'. -/
def auditClashesCard : Claim7 := { stood := { row := auditClashesRow, standIns := [], harness := (true, "bb07da3b1d923842242b73e05d25dc9b258f87431fd1997e7c798a5d7b4a040c"), looks := true }, kinds := [], alts := [], laidByText := true, laidKinds := [.data, .data, .data, .data, .sentinel, .sentinel, .pinned], laidTests := true, laidLooks := .later }
def AuditClashesCardSaid : Prop := Claim7.holds Tryz.pinned (.plain (OpenSpec.ofChange auditClashesSpec)) auditClashesCard

/-- THE TIED CARD OF 'framewiselaw48.AuditBound'. -/
def auditBoundCard : Claim7 := { stood := { row := auditBoundRow, standIns := [], harness := (true, "bb07da3b1d923842242b73e05d25dc9b258f87431fd1997e7c798a5d7b4a040c"), looks := true }, kinds := [], alts := [], laidByText := true, laidKinds := [.data, .data, .data, .data, .sentinel, .sentinel, .pinned], laidTests := true, laidLooks := .later }
def AuditBoundCardSaid : Prop := Claim7.holds Tryz.pinned (.plain (OpenSpec.ofChange auditBoundSpec)) auditBoundCard

/-- THE SECOND FORM's CARD OF 'framewiselaw48.AuditSound'. -/
def auditSoundUptoCard : Claim7 := { stood := { row := auditSoundUptoRow, standIns := [], harness := (true, "bb07da3b1d923842242b73e05d25dc9b258f87431fd1997e7c798a5d7b4a040c"), looks := true }, kinds := [], alts := [], laidByText := true, laidKinds := [.data, .data, .data, .data, .sentinel, .sentinel, .pinned], laidTests := true, laidLooks := .later }
def AuditSoundUptoCardSaid : Prop := Claim7.holds Tryz.pinned (.plain (OpenSpec.upto auditSoundSpec)) auditSoundUptoCard

/-- THE SECOND FORM's CARD OF 'framewiselaw48.AuditMoving'. -/
def auditMovingUptoCard : Claim7 := { stood := { row := auditMovingUptoRow, standIns := [], harness := (true, "bb07da3b1d923842242b73e05d25dc9b258f87431fd1997e7c798a5d7b4a040c"), looks := true }, kinds := [], alts := [], laidByText := true, laidKinds := [.data, .data, .data, .data, .sentinel, .sentinel, .pinned], laidTests := true, laidLooks := .later }
def AuditMovingUptoCardSaid : Prop := Claim7.holds Tryz.pinned (.plain (OpenSpec.upto auditMovingSpec)) auditMovingUptoCard

/-- THE SECOND FORM's CARD OF 'framewiselaw48.AuditClashes'. -/
def auditClashesUptoCard : Claim7 := { stood := { row := auditClashesUptoRow, standIns := [], harness := (true, "bb07da3b1d923842242b73e05d25dc9b258f87431fd1997e7c798a5d7b4a040c"), looks := true }, kinds := [], alts := [], laidByText := true, laidKinds := [.data, .data, .data, .data, .sentinel, .sentinel, .pinned], laidTests := true, laidLooks := .later }
def AuditClashesUptoCardSaid : Prop := Claim7.holds Tryz.pinned (.plain (OpenSpec.upto auditClashesSpec)) auditClashesUptoCard

/-- THE SECOND FORM's CARD OF 'framewiselaw48.AuditBound'. -/
def auditBoundUptoCard : Claim7 := { stood := { row := auditBoundUptoRow, standIns := [], harness := (true, "bb07da3b1d923842242b73e05d25dc9b258f87431fd1997e7c798a5d7b4a040c"), looks := true }, kinds := [], alts := [], laidByText := true, laidKinds := [.data, .data, .data, .data, .sentinel, .sentinel, .pinned], laidTests := true, laidLooks := .later }
def AuditBoundUptoCardSaid : Prop := Claim7.holds Tryz.pinned (.plain (OpenSpec.upto auditBoundSpec)) auditBoundUptoCard
end Rows
end Go.Proofs.YtmcadllokkmeiaaGreatDoor
