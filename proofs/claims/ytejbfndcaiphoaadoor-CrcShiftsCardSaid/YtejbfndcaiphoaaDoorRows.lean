/-
  NARROWER THAN 'FOR EVERY INPUT', by the rows' own cells (each row's printed sentence says how): CrcSums: laid · CrcMore: laid · CrcXor: laid · CrcCuts: laid · CrcTurned: laid · CrcJoins: laid · CrcShifts: laid.
  DERIVED. THE GIVEN ROWS OF THIS SEAT. 7 by the template 'for every input the law returns true; each argument reads behind the call as it read before'; 0 by the template 'total and deterministic' (their statements: YtejbfndcaiphoaaDoorTotals.lean).
  GIVEN WITH THE SEED: the statements are not yours to turn. If you find one false, say at which input.
  Laid BY PROGRAM, IN A SANDBOX (cutbox-rows.mjs): the forced cells as the released guide's own fill.sh prints them over the translation a16145a765faf440… (all of the seat's roots in one cut). By AI agents, Wed Nov 11 2026. No macro, syntax, notation, axiom, sorry.
-/
import Derived.Test.YtejbfndcaiphoaaDoorChecked
import GoSem.Claim
import GoSem.ClaimJoined
import GoSem.ClaimMapViews
import Derived.JoinedTies
import Derived.KernelRfl
namespace Go.Proofs.YtejbfndcaiphoaaDoor
/- THE CELL 'sum', in the pinned program and in every row, IS THE sha256 OF THE DUMP (.gsa) THAT YtejbfndcaiphoaaDoorProg.lean LOADS. Nothing in Lean hashes anything: it is a label: what it is worth is what the hold of that sum in a sandbox is worth. -/
noncomputable def Tryd.pinned : Pinned := { name := "ytejbfndcaiphoaadoor", sum := "a16145a765faf440549b176d978dbb0d694d0cc804d7c97310d9c07583c9515e", checked := Tryd.checked }
namespace Rows
def none {H : Type} : Left H := { results := [], args := [] }

/- WHAT THE LISTED PACKAGE-LEVEL VARIABLES READ AS WHEN THE CALL BEGINS. Each datum BY PROGRAM (the guide's laid-datum.mjs) off the statement by which the dump's own 'gosem.cut.vars' lays the variable. In a bare row this is a premise. The card (YtejbfndcaiphoaaDoorCards.lean) ties it to the program's text. -/
def laid_firkin_crc_shifted {H : Type} : DataW H := .agg [.lit (.int .u32 0), .lit (.int .u32 498536548), .lit (.int .u32 997073096), .lit (.int .u32 651767980), .lit (.int .u32 1994146192), .lit (.int .u32 1802195444), .lit (.int .u32 1303535960), .lit (.int .u32 1342533948), .lit (.int .u32 3988292384), .lit (.int .u32 4027552580), .lit (.int .u32 3604390888), .lit (.int .u32 3412177804), .lit (.int .u32 2607071920), .lit (.int .u32 2262029012), .lit (.int .u32 2685067896), .lit (.int .u32 3183342108)]

/-- 'firkinlaw01.CrcSums': WHATEVER THE INPUT: true; the input reads as it did. -/
def crcSumsSpec : ChangeSpec := { name := "crcSums", fn := fun _ => fun
  | [d1, d2] => { results := [.lit (.bool true)], args := [d1, d2] }
  | _ => none }
def crcSumsRow : OpenClaim := { program := "ytejbfndcaiphoaadoor", sum := "a16145a765faf440549b176d978dbb0d694d0cc804d7c97310d9c07583c9515e", func := "firkin/firkinlaw01.CrcSums", spec := "crcSums", named := ["firkin/crc.shifted"], apart := false, laid := [("firkin/crc.shifted", laid_firkin_crc_shifted)] }
def CrcSumsSaid : Prop := crcSumsRow.holds Tryd.pinned (OpenSpec.ofChange crcSumsSpec)

/-- ITS FALSE NEIGHBOUR: 'it returns false'. Refute it at one input. -/
def crcSumsWrong : ChangeSpec := { name := "crcSums", fn := fun _ => fun
  | [d1, d2] => { results := [.lit (.bool false)], args := [d1, d2] }
  | _ => none }
def CrcSumsWrongFalsely : Prop := crcSumsRow.holds Tryd.pinned (OpenSpec.ofChange crcSumsWrong)

/-- 'firkinlaw01.CrcMore': WHATEVER THE INPUT: true; the input reads as it did. -/
def crcMoreSpec : ChangeSpec := { name := "crcMore", fn := fun _ => fun
  | [d1, d2] => { results := [.lit (.bool true)], args := [d1, d2] }
  | _ => none }
def crcMoreRow : OpenClaim := { program := "ytejbfndcaiphoaadoor", sum := "a16145a765faf440549b176d978dbb0d694d0cc804d7c97310d9c07583c9515e", func := "firkin/firkinlaw01.CrcMore", spec := "crcMore", named := ["firkin/crc.shifted"], apart := false, laid := [("firkin/crc.shifted", laid_firkin_crc_shifted)] }
def CrcMoreSaid : Prop := crcMoreRow.holds Tryd.pinned (OpenSpec.ofChange crcMoreSpec)

/-- ITS FALSE NEIGHBOUR: 'it returns false'. Refute it at one input. -/
def crcMoreWrong : ChangeSpec := { name := "crcMore", fn := fun _ => fun
  | [d1, d2] => { results := [.lit (.bool false)], args := [d1, d2] }
  | _ => none }
def CrcMoreWrongFalsely : Prop := crcMoreRow.holds Tryd.pinned (OpenSpec.ofChange crcMoreWrong)

/-- 'firkinlaw01.CrcXor': WHATEVER THE INPUT: true; the input reads as it did. -/
def crcXorSpec : ChangeSpec := { name := "crcXor", fn := fun _ => fun
  | [d1, d2, d3] => { results := [.lit (.bool true)], args := [d1, d2, d3] }
  | _ => none }
def crcXorRow : OpenClaim := { program := "ytejbfndcaiphoaadoor", sum := "a16145a765faf440549b176d978dbb0d694d0cc804d7c97310d9c07583c9515e", func := "firkin/firkinlaw01.CrcXor", spec := "crcXor", named := ["firkin/crc.shifted"], apart := false, laid := [("firkin/crc.shifted", laid_firkin_crc_shifted)] }
def CrcXorSaid : Prop := crcXorRow.holds Tryd.pinned (OpenSpec.ofChange crcXorSpec)

/-- ITS FALSE NEIGHBOUR: 'it returns false'. Refute it at one input. -/
def crcXorWrong : ChangeSpec := { name := "crcXor", fn := fun _ => fun
  | [d1, d2, d3] => { results := [.lit (.bool false)], args := [d1, d2, d3] }
  | _ => none }
def CrcXorWrongFalsely : Prop := crcXorRow.holds Tryd.pinned (OpenSpec.ofChange crcXorWrong)

/-- 'firkinlaw01.CrcCuts': WHATEVER THE INPUT: true; the input reads as it did. -/
def crcCutsSpec : ChangeSpec := { name := "crcCuts", fn := fun _ => fun
  | [d] => { results := [.lit (.bool true)], args := [d] }
  | _ => none }
def crcCutsRow : OpenClaim := { program := "ytejbfndcaiphoaadoor", sum := "a16145a765faf440549b176d978dbb0d694d0cc804d7c97310d9c07583c9515e", func := "firkin/firkinlaw01.CrcCuts", spec := "crcCuts", named := ["firkin/crc.shifted"], apart := false, laid := [("firkin/crc.shifted", laid_firkin_crc_shifted)] }
def CrcCutsSaid : Prop := crcCutsRow.holds Tryd.pinned (OpenSpec.ofChange crcCutsSpec)

/-- ITS FALSE NEIGHBOUR: 'it returns false'. Refute it at one input. -/
def crcCutsWrong : ChangeSpec := { name := "crcCuts", fn := fun _ => fun
  | [d] => { results := [.lit (.bool false)], args := [d] }
  | _ => none }
def CrcCutsWrongFalsely : Prop := crcCutsRow.holds Tryd.pinned (OpenSpec.ofChange crcCutsWrong)

/-- 'firkinlaw01.CrcTurned': WHATEVER THE INPUT: true; the input reads as it did. -/
def crcTurnedSpec : ChangeSpec := { name := "crcTurned", fn := fun _ => fun
  | [d1, d2, d3] => { results := [.lit (.bool true)], args := [d1, d2, d3] }
  | _ => none }
def crcTurnedRow : OpenClaim := { program := "ytejbfndcaiphoaadoor", sum := "a16145a765faf440549b176d978dbb0d694d0cc804d7c97310d9c07583c9515e", func := "firkin/firkinlaw01.CrcTurned", spec := "crcTurned", named := ["firkin/crc.shifted"], apart := false, laid := [("firkin/crc.shifted", laid_firkin_crc_shifted)] }
def CrcTurnedSaid : Prop := crcTurnedRow.holds Tryd.pinned (OpenSpec.ofChange crcTurnedSpec)

/-- ITS FALSE NEIGHBOUR: 'it returns false'. Refute it at one input. -/
def crcTurnedWrong : ChangeSpec := { name := "crcTurned", fn := fun _ => fun
  | [d1, d2, d3] => { results := [.lit (.bool false)], args := [d1, d2, d3] }
  | _ => none }
def CrcTurnedWrongFalsely : Prop := crcTurnedRow.holds Tryd.pinned (OpenSpec.ofChange crcTurnedWrong)

/-- 'firkinlaw01.CrcJoins': WHATEVER THE INPUT: true; the input reads as it did. -/
def crcJoinsSpec : ChangeSpec := { name := "crcJoins", fn := fun _ => fun
  | [d1, d2] => { results := [.lit (.bool true)], args := [d1, d2] }
  | _ => none }
def crcJoinsRow : OpenClaim := { program := "ytejbfndcaiphoaadoor", sum := "a16145a765faf440549b176d978dbb0d694d0cc804d7c97310d9c07583c9515e", func := "firkin/firkinlaw01.CrcJoins", spec := "crcJoins", named := ["firkin/crc.shifted"], apart := false, laid := [("firkin/crc.shifted", laid_firkin_crc_shifted)] }
def CrcJoinsSaid : Prop := crcJoinsRow.holds Tryd.pinned (OpenSpec.ofChange crcJoinsSpec)

/-- ITS FALSE NEIGHBOUR: 'it returns false'. Refute it at one input. -/
def crcJoinsWrong : ChangeSpec := { name := "crcJoins", fn := fun _ => fun
  | [d1, d2] => { results := [.lit (.bool false)], args := [d1, d2] }
  | _ => none }
def CrcJoinsWrongFalsely : Prop := crcJoinsRow.holds Tryd.pinned (OpenSpec.ofChange crcJoinsWrong)

/-- 'firkinlaw01.CrcShifts': WHATEVER THE INPUT: true; the input reads as it did. -/
def crcShiftsSpec : ChangeSpec := { name := "crcShifts", fn := fun _ => fun
  | [d1, d2, d3, d4, d5] => { results := [.lit (.bool true)], args := [d1, d2, d3, d4, d5] }
  | _ => none }
def crcShiftsRow : OpenClaim := { program := "ytejbfndcaiphoaadoor", sum := "a16145a765faf440549b176d978dbb0d694d0cc804d7c97310d9c07583c9515e", func := "firkin/firkinlaw01.CrcShifts", spec := "crcShifts", named := ["firkin/crc.shifted"], apart := false, laid := [("firkin/crc.shifted", laid_firkin_crc_shifted)] }
def CrcShiftsSaid : Prop := crcShiftsRow.holds Tryd.pinned (OpenSpec.ofChange crcShiftsSpec)

/-- ITS FALSE NEIGHBOUR: 'it returns false'. Refute it at one input. -/
def crcShiftsWrong : ChangeSpec := { name := "crcShifts", fn := fun _ => fun
  | [d1, d2, d3, d4, d5] => { results := [.lit (.bool false)], args := [d1, d2, d3, d4, d5] }
  | _ => none }
def CrcShiftsWrongFalsely : Prop := crcShiftsRow.holds Tryd.pinned (OpenSpec.ofChange crcShiftsWrong)

/- THE SECOND FORM. 'bulk': how many values and letters a reading holds, each counted each time it is reached (what is shared counts as often as it is met; a slice's spare places count too). A statement '..UptoSaid' is the law's where the arguments, and the package variables that the reading takes, are together of bulk at most 1048576: NARROWER than '..Said'. Prove '..Said' where nothing that the law and all that it calls make is longer than what came in: it says more and counts as full. Else prove '..UptoSaid'. A law counts once. -/
mutual
def uptoBulk {H : Type} : DataW H → Nat
  | .lit (.string bytes) => bytes.length + 1
  | .lit _ => 1
  | .nil => 1
  | .ptr d => uptoBulk d + 1
  | .slice elems spare => uptoBulkAll elems + uptoBulkAll spare + 1
  | .agg parts => uptoBulkAll parts + 1
  | .iface _ d => uptoBulk d + 1
  | .map entries => uptoBulkEntries entries + 1
  | .held _ => 1
def uptoBulkAll {H : Type} : List (DataW H) → Nat
  | [] => 0
  | d :: r => uptoBulk d + uptoBulkAll r
def uptoBulkEntries {H : Type} : List (Lit × DataW H) → Nat
  | [] => 0
  | x :: r => uptoBulkEntry x + uptoBulkEntries r
def uptoBulkEntry {H : Type} : Lit × DataW H → Nat
  | (.string bytes, d) => bytes.length + uptoBulk d + 1
  | (_, d) => uptoBulk d + 1
 end
def uptoSmall : (H : Type) → List (DataW H) → Bool := fun _ ds => decide (uptoBulkAll ds ≤ 1048576)
def OpenSpec.upto (s : _root_.Go.ChangeSpec) : _root_.Go.OpenSpec := { _root_.Go.OpenSpec.ofChange s with cond := some uptoSmall }

/-- 'firkinlaw01.CrcSums', WHERE WHAT IT READS IS OF BULK AT MOST 1048576: true; the input reads as it did. -/
def crcSumsUptoRow : OpenClaim := { program := "ytejbfndcaiphoaadoor", sum := "a16145a765faf440549b176d978dbb0d694d0cc804d7c97310d9c07583c9515e", func := "firkin/firkinlaw01.CrcSums", spec := "crcSums", named := ["firkin/crc.shifted"], apart := false, laid := [("firkin/crc.shifted", laid_firkin_crc_shifted)], narrowed := true }
def CrcSumsUptoSaid : Prop := crcSumsUptoRow.holds Tryd.pinned (OpenSpec.upto crcSumsSpec)

/-- 'firkinlaw01.CrcMore', WHERE WHAT IT READS IS OF BULK AT MOST 1048576: true; the input reads as it did. -/
def crcMoreUptoRow : OpenClaim := { program := "ytejbfndcaiphoaadoor", sum := "a16145a765faf440549b176d978dbb0d694d0cc804d7c97310d9c07583c9515e", func := "firkin/firkinlaw01.CrcMore", spec := "crcMore", named := ["firkin/crc.shifted"], apart := false, laid := [("firkin/crc.shifted", laid_firkin_crc_shifted)], narrowed := true }
def CrcMoreUptoSaid : Prop := crcMoreUptoRow.holds Tryd.pinned (OpenSpec.upto crcMoreSpec)

/-- 'firkinlaw01.CrcXor', WHERE WHAT IT READS IS OF BULK AT MOST 1048576: true; the input reads as it did. -/
def crcXorUptoRow : OpenClaim := { program := "ytejbfndcaiphoaadoor", sum := "a16145a765faf440549b176d978dbb0d694d0cc804d7c97310d9c07583c9515e", func := "firkin/firkinlaw01.CrcXor", spec := "crcXor", named := ["firkin/crc.shifted"], apart := false, laid := [("firkin/crc.shifted", laid_firkin_crc_shifted)], narrowed := true }
def CrcXorUptoSaid : Prop := crcXorUptoRow.holds Tryd.pinned (OpenSpec.upto crcXorSpec)

/-- 'firkinlaw01.CrcCuts', WHERE WHAT IT READS IS OF BULK AT MOST 1048576: true; the input reads as it did. -/
def crcCutsUptoRow : OpenClaim := { program := "ytejbfndcaiphoaadoor", sum := "a16145a765faf440549b176d978dbb0d694d0cc804d7c97310d9c07583c9515e", func := "firkin/firkinlaw01.CrcCuts", spec := "crcCuts", named := ["firkin/crc.shifted"], apart := false, laid := [("firkin/crc.shifted", laid_firkin_crc_shifted)], narrowed := true }
def CrcCutsUptoSaid : Prop := crcCutsUptoRow.holds Tryd.pinned (OpenSpec.upto crcCutsSpec)

/-- 'firkinlaw01.CrcTurned', WHERE WHAT IT READS IS OF BULK AT MOST 1048576: true; the input reads as it did. -/
def crcTurnedUptoRow : OpenClaim := { program := "ytejbfndcaiphoaadoor", sum := "a16145a765faf440549b176d978dbb0d694d0cc804d7c97310d9c07583c9515e", func := "firkin/firkinlaw01.CrcTurned", spec := "crcTurned", named := ["firkin/crc.shifted"], apart := false, laid := [("firkin/crc.shifted", laid_firkin_crc_shifted)], narrowed := true }
def CrcTurnedUptoSaid : Prop := crcTurnedUptoRow.holds Tryd.pinned (OpenSpec.upto crcTurnedSpec)

/-- 'firkinlaw01.CrcJoins', WHERE WHAT IT READS IS OF BULK AT MOST 1048576: true; the input reads as it did. -/
def crcJoinsUptoRow : OpenClaim := { program := "ytejbfndcaiphoaadoor", sum := "a16145a765faf440549b176d978dbb0d694d0cc804d7c97310d9c07583c9515e", func := "firkin/firkinlaw01.CrcJoins", spec := "crcJoins", named := ["firkin/crc.shifted"], apart := false, laid := [("firkin/crc.shifted", laid_firkin_crc_shifted)], narrowed := true }
def CrcJoinsUptoSaid : Prop := crcJoinsUptoRow.holds Tryd.pinned (OpenSpec.upto crcJoinsSpec)

/-- 'firkinlaw01.CrcShifts', WHERE WHAT IT READS IS OF BULK AT MOST 1048576: true; the input reads as it did. -/
def crcShiftsUptoRow : OpenClaim := { program := "ytejbfndcaiphoaadoor", sum := "a16145a765faf440549b176d978dbb0d694d0cc804d7c97310d9c07583c9515e", func := "firkin/firkinlaw01.CrcShifts", spec := "crcShifts", named := ["firkin/crc.shifted"], apart := false, laid := [("firkin/crc.shifted", laid_firkin_crc_shifted)], narrowed := true }
def CrcShiftsUptoSaid : Prop := crcShiftsUptoRow.holds Tryd.pinned (OpenSpec.upto crcShiftsSpec)

end Rows
end Go.Proofs.YtejbfndcaiphoaaDoor
