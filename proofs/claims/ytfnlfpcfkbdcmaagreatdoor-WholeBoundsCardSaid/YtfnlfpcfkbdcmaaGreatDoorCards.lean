/-
  DERIVED. GIVEN WITH THE SEED: THE CARDS: each row of YtfnlfpcfkbdcmaaGreatDoorRows.lean that lists a variable, with what it lists TIED to the program's text (the seventh form; the later family's looks); each row that meets fmt, with fmt's text TOLD by the authors' own Lean function (tested against real Go, not proved from fmt's source: count such statements apart). THE CARD IS WHAT COUNTS. Prove the row's statement (the work); the ties are given (YtfnlfpcfkbdcmaaGreatDoorTie.lean); close each card by the builder's one call (the guide's Derived/Test/ToyasCard.lean, 'card_holds'). Laid BY PROGRAM, IN A SANDBOX (cutbox-door.mjs). By AI agents, Wed Nov 11 2026. No macro, syntax, notation, axiom, sorry.
-/
import Derived.Test.YtfnlfpcfkbdcmaaGreatDoorRows
import GoSem.ClaimSeven
namespace Go.Proofs.YtfnlfpcfkbdcmaaGreatDoor
namespace Rows

/-- THE TIED CARD OF 'firkintop.WholeLimits'. -/
def wholeLimitsCard : Claim7 := { stood := { row := wholeLimitsRow, standIns := [], harness := (true, "bafb3dba6a131be211833f12d190a12372b60e393ea79f44b24f6e98cf668a8a"), looks := false }, kinds := [], alts := [], laidByText := true, laidKinds := [.data], laidTests := true, laidLooks := .later }
def WholeLimitsCardSaid : Prop := Claim7.holds Tryz.pinned (.plain (OpenSpec.ofChange wholeLimitsSpec)) wholeLimitsCard

/-- THE TIED CARD OF 'firkintop.WholeTotal'. -/
def wholeTotalCard : Claim7 := { stood := { row := wholeTotalRow, standIns := [], harness := (true, "bafb3dba6a131be211833f12d190a12372b60e393ea79f44b24f6e98cf668a8a"), looks := false }, kinds := [], alts := [], laidByText := true, laidKinds := [.data], laidTests := true, laidLooks := .later }
def WholeTotalCardSaid : Prop := Claim7.holds Tryz.pinned (.plain (OpenSpec.ofChange wholeTotalSpec)) wholeTotalCard

/-- THE TIED CARD OF 'firkintop.WholeBounds'. -/
def wholeBoundsCard : Claim7 := { stood := { row := wholeBoundsRow, standIns := [], harness := (true, "bafb3dba6a131be211833f12d190a12372b60e393ea79f44b24f6e98cf668a8a"), looks := false }, kinds := [], alts := [], laidByText := true, laidKinds := [.data], laidTests := true, laidLooks := .later }
def WholeBoundsCardSaid : Prop := Claim7.holds Tryz.pinned (.plain (OpenSpec.ofChange wholeBoundsSpec)) wholeBoundsCard

/-- THE TIED CARD OF 'firkintop.WholeShorter'. -/
def wholeShorterCard : Claim7 := { stood := { row := wholeShorterRow, standIns := [], harness := (true, "bafb3dba6a131be211833f12d190a12372b60e393ea79f44b24f6e98cf668a8a"), looks := false }, kinds := [], alts := [], laidByText := true, laidKinds := [.data], laidTests := true, laidLooks := .later }
def WholeShorterCardSaid : Prop := Claim7.holds Tryz.pinned (.plain (OpenSpec.ofChange wholeShorterSpec)) wholeShorterCard

/-- THE SECOND FORM's CARD OF 'firkintop.WholeLimits'. -/
def wholeLimitsUptoCard : Claim7 := { stood := { row := wholeLimitsUptoRow, standIns := [], harness := (true, "bafb3dba6a131be211833f12d190a12372b60e393ea79f44b24f6e98cf668a8a"), looks := false }, kinds := [], alts := [], laidByText := true, laidKinds := [.data], laidTests := true, laidLooks := .later }
def WholeLimitsUptoCardSaid : Prop := Claim7.holds Tryz.pinned (.plain (OpenSpec.upto wholeLimitsSpec)) wholeLimitsUptoCard

/-- THE SECOND FORM's CARD OF 'firkintop.WholeTotal'. -/
def wholeTotalUptoCard : Claim7 := { stood := { row := wholeTotalUptoRow, standIns := [], harness := (true, "bafb3dba6a131be211833f12d190a12372b60e393ea79f44b24f6e98cf668a8a"), looks := false }, kinds := [], alts := [], laidByText := true, laidKinds := [.data], laidTests := true, laidLooks := .later }
def WholeTotalUptoCardSaid : Prop := Claim7.holds Tryz.pinned (.plain (OpenSpec.upto wholeTotalSpec)) wholeTotalUptoCard

/-- THE SECOND FORM's CARD OF 'firkintop.WholeBounds'. -/
def wholeBoundsUptoCard : Claim7 := { stood := { row := wholeBoundsUptoRow, standIns := [], harness := (true, "bafb3dba6a131be211833f12d190a12372b60e393ea79f44b24f6e98cf668a8a"), looks := false }, kinds := [], alts := [], laidByText := true, laidKinds := [.data], laidTests := true, laidLooks := .later }
def WholeBoundsUptoCardSaid : Prop := Claim7.holds Tryz.pinned (.plain (OpenSpec.upto wholeBoundsSpec)) wholeBoundsUptoCard

/-- THE SECOND FORM's CARD OF 'firkintop.WholeShorter'. -/
def wholeShorterUptoCard : Claim7 := { stood := { row := wholeShorterUptoRow, standIns := [], harness := (true, "bafb3dba6a131be211833f12d190a12372b60e393ea79f44b24f6e98cf668a8a"), looks := false }, kinds := [], alts := [], laidByText := true, laidKinds := [.data], laidTests := true, laidLooks := .later }
def WholeShorterUptoCardSaid : Prop := Claim7.holds Tryz.pinned (.plain (OpenSpec.upto wholeShorterSpec)) wholeShorterUptoCard
end Rows
end Go.Proofs.YtfnlfpcfkbdcmaaGreatDoor
