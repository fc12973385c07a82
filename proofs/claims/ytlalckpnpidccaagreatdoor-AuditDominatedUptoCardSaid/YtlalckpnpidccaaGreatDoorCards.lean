/-
  DERIVED. GIVEN WITH THE SEED: THE CARDS: each row of YtlalckpnpidccaaGreatDoorRows.lean that lists a variable, with what it lists TIED to the program's text (the seventh form; the later family's looks); each row that meets fmt, with fmt's text TOLD by the authors' own Lean function (tested against real Go, not proved from fmt's source: count such statements apart). THE CARD IS WHAT COUNTS. Prove the row's statement (the work); the ties are given (YtlalckpnpidccaaGreatDoorTie.lean); close each card by the builder's one call (the guide's Derived/Test/ToyasCard.lean, 'card_holds'). Laid BY PROGRAM, IN A SANDBOX (cutbox-door.mjs). By AI agents, Wed Nov 11 2026. No macro, syntax, notation, axiom, sorry.
-/
import Derived.Test.YtlalckpnpidccaaGreatDoorRows
import GoSem.ClaimSeven
namespace Go.Proofs.YtlalckpnpidccaaGreatDoor
namespace Rows

/-- THE TIED CARD OF 'framewiselaw48.AuditDominated'. -/
def auditDominatedCard : Claim7 := { stood := { row := auditDominatedRow, standIns := [], harness := (true, "629a4d71e842eae2583a82f461f0952fc07419ce614741c1588e77969b00c4bf"), looks := true }, kinds := [], alts := [], laidByText := true, laidKinds := [.data, .data, .data, .data, .sentinel, .sentinel, .pinned], laidTests := true, laidLooks := .later }
def AuditDominatedCardSaid : Prop := Claim7.holds Tryz.pinned (.plain (OpenSpec.ofChange auditDominatedSpec)) auditDominatedCard

/-- THE TIED CARD OF 'framewiselaw48.AuditDemands'. -/
def auditDemandsCard : Claim7 := { stood := { row := auditDemandsRow, standIns := [], harness := (true, "629a4d71e842eae2583a82f461f0952fc07419ce614741c1588e77969b00c4bf"), looks := true }, kinds := [], alts := [], laidByText := true, laidKinds := [.data, .data, .data, .data, .sentinel, .sentinel, .pinned], laidTests := true, laidLooks := .later }
def AuditDemandsCardSaid : Prop := Claim7.holds Tryz.pinned (.plain (OpenSpec.ofChange auditDemandsSpec)) auditDemandsCard

/-- THE TIED CARD OF 'framewiselaw48.AuditValues'. -/
def auditValuesCard : Claim7 := { stood := { row := auditValuesRow, standIns := [], harness := (true, "629a4d71e842eae2583a82f461f0952fc07419ce614741c1588e77969b00c4bf"), looks := true }, kinds := [], alts := [], laidByText := true, laidKinds := [.data, .data, .data, .data, .sentinel, .sentinel, .pinned], laidTests := true, laidLooks := .later }
def AuditValuesCardSaid : Prop := Claim7.holds Tryz.pinned (.plain (OpenSpec.ofChange auditValuesSpec)) auditValuesCard

/-- THE SECOND FORM's CARD OF 'framewiselaw48.AuditDominated'. -/
def auditDominatedUptoCard : Claim7 := { stood := { row := auditDominatedUptoRow, standIns := [], harness := (true, "629a4d71e842eae2583a82f461f0952fc07419ce614741c1588e77969b00c4bf"), looks := true }, kinds := [], alts := [], laidByText := true, laidKinds := [.data, .data, .data, .data, .sentinel, .sentinel, .pinned], laidTests := true, laidLooks := .later }
def AuditDominatedUptoCardSaid : Prop := Claim7.holds Tryz.pinned (.plain (OpenSpec.upto auditDominatedSpec)) auditDominatedUptoCard

/-- THE SECOND FORM's CARD OF 'framewiselaw48.AuditDemands'. -/
def auditDemandsUptoCard : Claim7 := { stood := { row := auditDemandsUptoRow, standIns := [], harness := (true, "629a4d71e842eae2583a82f461f0952fc07419ce614741c1588e77969b00c4bf"), looks := true }, kinds := [], alts := [], laidByText := true, laidKinds := [.data, .data, .data, .data, .sentinel, .sentinel, .pinned], laidTests := true, laidLooks := .later }
def AuditDemandsUptoCardSaid : Prop := Claim7.holds Tryz.pinned (.plain (OpenSpec.upto auditDemandsSpec)) auditDemandsUptoCard

/-- THE SECOND FORM's CARD OF 'framewiselaw48.AuditValues'. -/
def auditValuesUptoCard : Claim7 := { stood := { row := auditValuesUptoRow, standIns := [], harness := (true, "629a4d71e842eae2583a82f461f0952fc07419ce614741c1588e77969b00c4bf"), looks := true }, kinds := [], alts := [], laidByText := true, laidKinds := [.data, .data, .data, .data, .sentinel, .sentinel, .pinned], laidTests := true, laidLooks := .later }
def AuditValuesUptoCardSaid : Prop := Claim7.holds Tryz.pinned (.plain (OpenSpec.upto auditValuesSpec)) auditValuesUptoCard
end Rows
end Go.Proofs.YtlalckpnpidccaaGreatDoor
