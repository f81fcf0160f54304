/-
  DERIVED. GIVEN WITH THE SEED: THE CARDS: each row of YtejbfndcaiphoaaDoorRows.lean that lists a variable, with what it lists TIED to the program's text (the seventh form; the later family's looks); each row that meets fmt, with fmt's text TOLD by the authors' own Lean function (tested against real Go, not proved from fmt's source: count such statements apart). THE CARD IS WHAT COUNTS. Prove the row's statement (the work); the ties are given (YtejbfndcaiphoaaDoorTie.lean); close each card by the builder's one call (the guide's Derived/Test/ToyasCard.lean, 'card_holds'). Laid BY PROGRAM, IN A SANDBOX (cutbox-door.mjs). By AI agents, Wed Nov 11 2026. No macro, syntax, notation, axiom, sorry.
-/
import Derived.Test.YtejbfndcaiphoaaDoorRows
import GoSem.ClaimSeven
namespace Go.Proofs.YtejbfndcaiphoaaDoor
namespace Rows

/-- THE TIED CARD OF 'firkinlaw01.CrcSums'. -/
def crcSumsCard : Claim7 := { stood := { row := crcSumsRow, standIns := [], harness := (true, "cbb028b379b9b193191ae2c2674ff358710d0953d59f501dfe4ed568d639c85c"), looks := false }, kinds := [], alts := [], laidByText := true, laidKinds := [.data], laidTests := true, laidLooks := .later }
def CrcSumsCardSaid : Prop := Claim7.holds Tryd.pinned (.plain (OpenSpec.ofChange crcSumsSpec)) crcSumsCard

/-- THE TIED CARD OF 'firkinlaw01.CrcMore'. -/
def crcMoreCard : Claim7 := { stood := { row := crcMoreRow, standIns := [], harness := (true, "cbb028b379b9b193191ae2c2674ff358710d0953d59f501dfe4ed568d639c85c"), looks := false }, kinds := [], alts := [], laidByText := true, laidKinds := [.data], laidTests := true, laidLooks := .later }
def CrcMoreCardSaid : Prop := Claim7.holds Tryd.pinned (.plain (OpenSpec.ofChange crcMoreSpec)) crcMoreCard

/-- THE TIED CARD OF 'firkinlaw01.CrcXor'. -/
def crcXorCard : Claim7 := { stood := { row := crcXorRow, standIns := [], harness := (true, "cbb028b379b9b193191ae2c2674ff358710d0953d59f501dfe4ed568d639c85c"), looks := false }, kinds := [], alts := [], laidByText := true, laidKinds := [.data], laidTests := true, laidLooks := .later }
def CrcXorCardSaid : Prop := Claim7.holds Tryd.pinned (.plain (OpenSpec.ofChange crcXorSpec)) crcXorCard

/-- THE TIED CARD OF 'firkinlaw01.CrcCuts'. -/
def crcCutsCard : Claim7 := { stood := { row := crcCutsRow, standIns := [], harness := (true, "cbb028b379b9b193191ae2c2674ff358710d0953d59f501dfe4ed568d639c85c"), looks := false }, kinds := [], alts := [], laidByText := true, laidKinds := [.data], laidTests := true, laidLooks := .later }
def CrcCutsCardSaid : Prop := Claim7.holds Tryd.pinned (.plain (OpenSpec.ofChange crcCutsSpec)) crcCutsCard

/-- THE TIED CARD OF 'firkinlaw01.CrcTurned'. -/
def crcTurnedCard : Claim7 := { stood := { row := crcTurnedRow, standIns := [], harness := (true, "cbb028b379b9b193191ae2c2674ff358710d0953d59f501dfe4ed568d639c85c"), looks := false }, kinds := [], alts := [], laidByText := true, laidKinds := [.data], laidTests := true, laidLooks := .later }
def CrcTurnedCardSaid : Prop := Claim7.holds Tryd.pinned (.plain (OpenSpec.ofChange crcTurnedSpec)) crcTurnedCard

/-- THE TIED CARD OF 'firkinlaw01.CrcJoins'. -/
def crcJoinsCard : Claim7 := { stood := { row := crcJoinsRow, standIns := [], harness := (true, "cbb028b379b9b193191ae2c2674ff358710d0953d59f501dfe4ed568d639c85c"), looks := false }, kinds := [], alts := [], laidByText := true, laidKinds := [.data], laidTests := true, laidLooks := .later }
def CrcJoinsCardSaid : Prop := Claim7.holds Tryd.pinned (.plain (OpenSpec.ofChange crcJoinsSpec)) crcJoinsCard

/-- THE TIED CARD OF 'firkinlaw01.CrcShifts'. -/
def crcShiftsCard : Claim7 := { stood := { row := crcShiftsRow, standIns := [], harness := (true, "cbb028b379b9b193191ae2c2674ff358710d0953d59f501dfe4ed568d639c85c"), looks := false }, kinds := [], alts := [], laidByText := true, laidKinds := [.data], laidTests := true, laidLooks := .later }
def CrcShiftsCardSaid : Prop := Claim7.holds Tryd.pinned (.plain (OpenSpec.ofChange crcShiftsSpec)) crcShiftsCard

/-- THE SECOND FORM's CARD OF 'firkinlaw01.CrcSums'. -/
def crcSumsUptoCard : Claim7 := { stood := { row := crcSumsUptoRow, standIns := [], harness := (true, "cbb028b379b9b193191ae2c2674ff358710d0953d59f501dfe4ed568d639c85c"), looks := false }, kinds := [], alts := [], laidByText := true, laidKinds := [.data], laidTests := true, laidLooks := .later }
def CrcSumsUptoCardSaid : Prop := Claim7.holds Tryd.pinned (.plain (OpenSpec.upto crcSumsSpec)) crcSumsUptoCard

/-- THE SECOND FORM's CARD OF 'firkinlaw01.CrcMore'. -/
def crcMoreUptoCard : Claim7 := { stood := { row := crcMoreUptoRow, standIns := [], harness := (true, "cbb028b379b9b193191ae2c2674ff358710d0953d59f501dfe4ed568d639c85c"), looks := false }, kinds := [], alts := [], laidByText := true, laidKinds := [.data], laidTests := true, laidLooks := .later }
def CrcMoreUptoCardSaid : Prop := Claim7.holds Tryd.pinned (.plain (OpenSpec.upto crcMoreSpec)) crcMoreUptoCard

/-- THE SECOND FORM's CARD OF 'firkinlaw01.CrcXor'. -/
def crcXorUptoCard : Claim7 := { stood := { row := crcXorUptoRow, standIns := [], harness := (true, "cbb028b379b9b193191ae2c2674ff358710d0953d59f501dfe4ed568d639c85c"), looks := false }, kinds := [], alts := [], laidByText := true, laidKinds := [.data], laidTests := true, laidLooks := .later }
def CrcXorUptoCardSaid : Prop := Claim7.holds Tryd.pinned (.plain (OpenSpec.upto crcXorSpec)) crcXorUptoCard

/-- THE SECOND FORM's CARD OF 'firkinlaw01.CrcCuts'. -/
def crcCutsUptoCard : Claim7 := { stood := { row := crcCutsUptoRow, standIns := [], harness := (true, "cbb028b379b9b193191ae2c2674ff358710d0953d59f501dfe4ed568d639c85c"), looks := false }, kinds := [], alts := [], laidByText := true, laidKinds := [.data], laidTests := true, laidLooks := .later }
def CrcCutsUptoCardSaid : Prop := Claim7.holds Tryd.pinned (.plain (OpenSpec.upto crcCutsSpec)) crcCutsUptoCard

/-- THE SECOND FORM's CARD OF 'firkinlaw01.CrcTurned'. -/
def crcTurnedUptoCard : Claim7 := { stood := { row := crcTurnedUptoRow, standIns := [], harness := (true, "cbb028b379b9b193191ae2c2674ff358710d0953d59f501dfe4ed568d639c85c"), looks := false }, kinds := [], alts := [], laidByText := true, laidKinds := [.data], laidTests := true, laidLooks := .later }
def CrcTurnedUptoCardSaid : Prop := Claim7.holds Tryd.pinned (.plain (OpenSpec.upto crcTurnedSpec)) crcTurnedUptoCard

/-- THE SECOND FORM's CARD OF 'firkinlaw01.CrcJoins'. -/
def crcJoinsUptoCard : Claim7 := { stood := { row := crcJoinsUptoRow, standIns := [], harness := (true, "cbb028b379b9b193191ae2c2674ff358710d0953d59f501dfe4ed568d639c85c"), looks := false }, kinds := [], alts := [], laidByText := true, laidKinds := [.data], laidTests := true, laidLooks := .later }
def CrcJoinsUptoCardSaid : Prop := Claim7.holds Tryd.pinned (.plain (OpenSpec.upto crcJoinsSpec)) crcJoinsUptoCard

/-- THE SECOND FORM's CARD OF 'firkinlaw01.CrcShifts'. -/
def crcShiftsUptoCard : Claim7 := { stood := { row := crcShiftsUptoRow, standIns := [], harness := (true, "cbb028b379b9b193191ae2c2674ff358710d0953d59f501dfe4ed568d639c85c"), looks := false }, kinds := [], alts := [], laidByText := true, laidKinds := [.data], laidTests := true, laidLooks := .later }
def CrcShiftsUptoCardSaid : Prop := Claim7.holds Tryd.pinned (.plain (OpenSpec.upto crcShiftsSpec)) crcShiftsUptoCard
end Rows
end Go.Proofs.YtejbfndcaiphoaaDoor
