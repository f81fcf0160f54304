/-
  NARROWER THAN 'FOR EVERY INPUT', by the rows' own cells (each row's printed sentence says how): WholeLimits: laid · WholeTotal: laid · WholeBounds: laid · WholeShorter: laid.
  DERIVED. THE GIVEN ROWS OF THIS SEAT. 4 by the template 'for every input the law returns true; each argument reads behind the call as it read before'; 0 by the template 'total and deterministic' (their statements: YtfnlfpcfkbdcmaaGreatDoorTotals.lean).
  GIVEN WITH THE SEED: the statements are not yours to turn. If you find one false, say at which input.
  Laid BY PROGRAM, IN A SANDBOX (cutbox-rows.mjs): the forced cells as the released guide's own fill.sh prints them over the translation 0f7741145b008c24… (all of the seat's roots in one cut). By AI agents, Wed Nov 11 2026. No macro, syntax, notation, axiom, sorry.
-/
import Derived.Test.YtfnlfpcfkbdcmaaGreatDoorChecked
import GoSem.Claim
import GoSem.ClaimJoined
import GoSem.ClaimMapViews
import Derived.JoinedTies
import Derived.KernelRfl
namespace Go.Proofs.YtfnlfpcfkbdcmaaGreatDoor
/- THE CELL 'sum', in the pinned program and in every row, IS THE sha256 OF THE DUMP (.gsa) THAT YtfnlfpcfkbdcmaaGreatDoorProg.lean LOADS. Nothing in Lean hashes anything: it is a label: what it is worth is what the hold of that sum in a sandbox is worth. -/
noncomputable def Tryz.pinned : Pinned := { name := "ytfnlfpcfkbdcmaagreatdoor", sum := "0f7741145b008c24cf770e703c5a96bb1cc6b7458e3789e7d9e8807d0e1b13de", checked := Tryz.checked }
namespace Rows
def none {H : Type} : Left H := { results := [], args := [] }

/- WHAT THE LISTED PACKAGE-LEVEL VARIABLES READ AS WHEN THE CALL BEGINS. Each datum BY PROGRAM (the guide's laid-datum.mjs) off the statement by which the dump's own 'gosem.cut.vars' lays the variable. In a bare row this is a premise. The card (YtfnlfpcfkbdcmaaGreatDoorCards.lean) ties it to the program's text. -/
def laid_firkin_crc_shifted {H : Type} : DataW H := .agg [.lit (.int .u32 0), .lit (.int .u32 498536548), .lit (.int .u32 997073096), .lit (.int .u32 651767980), .lit (.int .u32 1994146192), .lit (.int .u32 1802195444), .lit (.int .u32 1303535960), .lit (.int .u32 1342533948), .lit (.int .u32 3988292384), .lit (.int .u32 4027552580), .lit (.int .u32 3604390888), .lit (.int .u32 3412177804), .lit (.int .u32 2607071920), .lit (.int .u32 2262029012), .lit (.int .u32 2685067896), .lit (.int .u32 3183342108)]

/-- 'firkintop.WholeLimits': WHATEVER THE INPUT: true; the input reads as it did. -/
def wholeLimitsSpec : ChangeSpec := { name := "wholeLimits", fn := fun _ => fun
  | [d1, d2, d3, d4] => { results := [.lit (.bool true)], args := [d1, d2, d3, d4] }
  | _ => none }
def wholeLimitsRow : OpenClaim := { program := "ytfnlfpcfkbdcmaagreatdoor", sum := "0f7741145b008c24cf770e703c5a96bb1cc6b7458e3789e7d9e8807d0e1b13de", func := "firkin/firkintop.WholeLimits", spec := "wholeLimits", unfollowed := true, recurses := true, named := ["firkin/crc.shifted"], plainKeys := false, apart := false, laid := [("firkin/crc.shifted", laid_firkin_crc_shifted)] }
def WholeLimitsSaid : Prop := wholeLimitsRow.holds Tryz.pinned (OpenSpec.ofChange wholeLimitsSpec)

/-- ITS FALSE NEIGHBOUR: 'it returns false'. Refute it at one input. -/
def wholeLimitsWrong : ChangeSpec := { name := "wholeLimits", fn := fun _ => fun
  | [d1, d2, d3, d4] => { results := [.lit (.bool false)], args := [d1, d2, d3, d4] }
  | _ => none }
def WholeLimitsWrongFalsely : Prop := wholeLimitsRow.holds Tryz.pinned (OpenSpec.ofChange wholeLimitsWrong)

/-- 'firkintop.WholeTotal': WHATEVER THE INPUT: true; the input reads as it did. -/
def wholeTotalSpec : ChangeSpec := { name := "wholeTotal", fn := fun _ => fun
  | [d] => { results := [.lit (.bool true)], args := [d] }
  | _ => none }
def wholeTotalRow : OpenClaim := { program := "ytfnlfpcfkbdcmaagreatdoor", sum := "0f7741145b008c24cf770e703c5a96bb1cc6b7458e3789e7d9e8807d0e1b13de", func := "firkin/firkintop.WholeTotal", spec := "wholeTotal", unfollowed := true, recurses := true, named := ["firkin/crc.shifted"], plainKeys := false, apart := false, laid := [("firkin/crc.shifted", laid_firkin_crc_shifted)] }
def WholeTotalSaid : Prop := wholeTotalRow.holds Tryz.pinned (OpenSpec.ofChange wholeTotalSpec)

/-- ITS FALSE NEIGHBOUR: 'it returns false'. Refute it at one input. -/
def wholeTotalWrong : ChangeSpec := { name := "wholeTotal", fn := fun _ => fun
  | [d] => { results := [.lit (.bool false)], args := [d] }
  | _ => none }
def WholeTotalWrongFalsely : Prop := wholeTotalRow.holds Tryz.pinned (OpenSpec.ofChange wholeTotalWrong)

/-- 'firkintop.WholeBounds': WHATEVER THE INPUT: true; the input reads as it did. -/
def wholeBoundsSpec : ChangeSpec := { name := "wholeBounds", fn := fun _ => fun
  | [d] => { results := [.lit (.bool true)], args := [d] }
  | _ => none }
def wholeBoundsRow : OpenClaim := { program := "ytfnlfpcfkbdcmaagreatdoor", sum := "0f7741145b008c24cf770e703c5a96bb1cc6b7458e3789e7d9e8807d0e1b13de", func := "firkin/firkintop.WholeBounds", spec := "wholeBounds", unfollowed := true, recurses := true, named := ["firkin/crc.shifted"], plainKeys := false, apart := false, laid := [("firkin/crc.shifted", laid_firkin_crc_shifted)] }
def WholeBoundsSaid : Prop := wholeBoundsRow.holds Tryz.pinned (OpenSpec.ofChange wholeBoundsSpec)

/-- ITS FALSE NEIGHBOUR: 'it returns false'. Refute it at one input. -/
def wholeBoundsWrong : ChangeSpec := { name := "wholeBounds", fn := fun _ => fun
  | [d] => { results := [.lit (.bool false)], args := [d] }
  | _ => none }
def WholeBoundsWrongFalsely : Prop := wholeBoundsRow.holds Tryz.pinned (OpenSpec.ofChange wholeBoundsWrong)

/-- 'firkintop.WholeShorter': WHATEVER THE INPUT: true; the input reads as it did. -/
def wholeShorterSpec : ChangeSpec := { name := "wholeShorter", fn := fun _ => fun
  | [d1, d2, d3] => { results := [.lit (.bool true)], args := [d1, d2, d3] }
  | _ => none }
def wholeShorterRow : OpenClaim := { program := "ytfnlfpcfkbdcmaagreatdoor", sum := "0f7741145b008c24cf770e703c5a96bb1cc6b7458e3789e7d9e8807d0e1b13de", func := "firkin/firkintop.WholeShorter", spec := "wholeShorter", unfollowed := true, recurses := true, named := ["firkin/crc.shifted"], plainKeys := false, apart := false, laid := [("firkin/crc.shifted", laid_firkin_crc_shifted)] }
def WholeShorterSaid : Prop := wholeShorterRow.holds Tryz.pinned (OpenSpec.ofChange wholeShorterSpec)

/-- ITS FALSE NEIGHBOUR: 'it returns false'. Refute it at one input. -/
def wholeShorterWrong : ChangeSpec := { name := "wholeShorter", fn := fun _ => fun
  | [d1, d2, d3] => { results := [.lit (.bool false)], args := [d1, d2, d3] }
  | _ => none }
def WholeShorterWrongFalsely : Prop := wholeShorterRow.holds Tryz.pinned (OpenSpec.ofChange wholeShorterWrong)

/- THE SECOND FORM. 'bulk': how many values and letters a reading holds, each counted each time it is reached (what is shared counts as often as it is met; a slice's spare places count too). A statement '..UptoSaid' is the law's where the arguments, and the package variables that the reading takes, are together of bulk at most 1048576: NARROWER than '..Said'. Prove '..Said' where nothing that the law and all that it calls make is longer than what came in: it says more and counts as full. Else prove '..UptoSaid'. A law counts once. -/
mutual
def uptoBulk {H : Type} : DataW H → Nat
  | .lit (.string bytes) => bytes.length + 1
  | .lit _ => 1
  | .nil => 1
  | .ptr d => uptoBulk d + 1
  | .slice elems spare => uptoBulkAll elems + uptoBulkAll spare + 1
  | .agg parts => uptoBulkAll parts + 1
  | .iface _ d => uptoBulk d + 1
  | .map entries => uptoBulkEntries entries + 1
  | .held _ => 1
def uptoBulkAll {H : Type} : List (DataW H) → Nat
  | [] => 0
  | d :: r => uptoBulk d + uptoBulkAll r
def uptoBulkEntries {H : Type} : List (Lit × DataW H) → Nat
  | [] => 0
  | x :: r => uptoBulkEntry x + uptoBulkEntries r
def uptoBulkEntry {H : Type} : Lit × DataW H → Nat
  | (.string bytes, d) => bytes.length + uptoBulk d + 1
  | (_, d) => uptoBulk d + 1
 end
def uptoSmall : (H : Type) → List (DataW H) → Bool := fun _ ds => decide (uptoBulkAll ds ≤ 1048576)
def OpenSpec.upto (s : _root_.Go.ChangeSpec) : _root_.Go.OpenSpec := { _root_.Go.OpenSpec.ofChange s with cond := some uptoSmall }

/-- 'firkintop.WholeLimits', WHERE WHAT IT READS IS OF BULK AT MOST 1048576: true; the input reads as it did. -/
def wholeLimitsUptoRow : OpenClaim := { program := "ytfnlfpcfkbdcmaagreatdoor", sum := "0f7741145b008c24cf770e703c5a96bb1cc6b7458e3789e7d9e8807d0e1b13de", func := "firkin/firkintop.WholeLimits", spec := "wholeLimits", unfollowed := true, recurses := true, named := ["firkin/crc.shifted"], plainKeys := false, apart := false, laid := [("firkin/crc.shifted", laid_firkin_crc_shifted)], narrowed := true }
def WholeLimitsUptoSaid : Prop := wholeLimitsUptoRow.holds Tryz.pinned (OpenSpec.upto wholeLimitsSpec)

/-- 'firkintop.WholeTotal', WHERE WHAT IT READS IS OF BULK AT MOST 1048576: true; the input reads as it did. -/
def wholeTotalUptoRow : OpenClaim := { program := "ytfnlfpcfkbdcmaagreatdoor", sum := "0f7741145b008c24cf770e703c5a96bb1cc6b7458e3789e7d9e8807d0e1b13de", func := "firkin/firkintop.WholeTotal", spec := "wholeTotal", unfollowed := true, recurses := true, named := ["firkin/crc.shifted"], plainKeys := false, apart := false, laid := [("firkin/crc.shifted", laid_firkin_crc_shifted)], narrowed := true }
def WholeTotalUptoSaid : Prop := wholeTotalUptoRow.holds Tryz.pinned (OpenSpec.upto wholeTotalSpec)

/-- 'firkintop.WholeBounds', WHERE WHAT IT READS IS OF BULK AT MOST 1048576: true; the input reads as it did. -/
def wholeBoundsUptoRow : OpenClaim := { program := "ytfnlfpcfkbdcmaagreatdoor", sum := "0f7741145b008c24cf770e703c5a96bb1cc6b7458e3789e7d9e8807d0e1b13de", func := "firkin/firkintop.WholeBounds", spec := "wholeBounds", unfollowed := true, recurses := true, named := ["firkin/crc.shifted"], plainKeys := false, apart := false, laid := [("firkin/crc.shifted", laid_firkin_crc_shifted)], narrowed := true }
def WholeBoundsUptoSaid : Prop := wholeBoundsUptoRow.holds Tryz.pinned (OpenSpec.upto wholeBoundsSpec)

/-- 'firkintop.WholeShorter', WHERE WHAT IT READS IS OF BULK AT MOST 1048576: true; the input reads as it did. -/
def wholeShorterUptoRow : OpenClaim := { program := "ytfnlfpcfkbdcmaagreatdoor", sum := "0f7741145b008c24cf770e703c5a96bb1cc6b7458e3789e7d9e8807d0e1b13de", func := "firkin/firkintop.WholeShorter", spec := "wholeShorter", unfollowed := true, recurses := true, named := ["firkin/crc.shifted"], plainKeys := false, apart := false, laid := [("firkin/crc.shifted", laid_firkin_crc_shifted)], narrowed := true }
def WholeShorterUptoSaid : Prop := wholeShorterUptoRow.holds Tryz.pinned (OpenSpec.upto wholeShorterSpec)

end Rows
end Go.Proofs.YtfnlfpcfkbdcmaaGreatDoor
