/-
  No cell of these rows narrows 'for every input' (looked for: loops, veiled, ifaces, maps, wideKeys, modest, calm, conditions, laid).
  DERIVED. THE GIVEN ROWS OF THIS SEAT. 6 by the template 'for every input the law returns true; each argument reads behind the call as it read before'; 0 by the template 'total and deterministic' (their statements: YtjbedcgacnnanaaTotals.lean).
  GIVEN WITH THE SEED: the statements are not yours to turn. If you find one false, say at which input.
  Laid BY PROGRAM, IN A SANDBOX (cutbox-rows.mjs): the forced cells as the released guide's own fill.sh prints them over the translation d5e1bc13f5333c07… (all of the seat's roots in one cut). By AI agents, Wed Nov 11 2026. No macro, syntax, notation, axiom, sorry.
-/
import Derived.Test.YtjbedcgacnnanaaChecked
import GoSem.Claim
import GoSem.ClaimJoined
import GoSem.ClaimMapViews
import Derived.JoinedTies
import Derived.KernelRfl
namespace Go.Proofs.Ytjbedcgacnnanaa
/- THE CELL 'sum', in the pinned program and in every row, IS THE sha256 OF THE DUMP (.gsa) THAT YtjbedcgacnnanaaProg.lean LOADS. Nothing in Lean hashes anything: it is a label: what it is worth is what the hold of that sum in a sandbox is worth. -/
noncomputable def Try.pinned : Pinned := { name := "ytjbedcgacnnanaa", sum := "d5e1bc13f5333c070a55bfb082119d53a49b48012dfdf557ee8bbb333515b419", checked := Try.checked }
namespace Rows
def none {H : Type} : Left H := { results := [], args := [] }

/-- 'firkinlaw06.RsParity': WHATEVER THE INPUT: true; the input reads as it did. -/
def rsParitySpec : ChangeSpec := { name := "rsParity", fn := fun _ => fun
  | [d1, d2] => { results := [.lit (.bool true)], args := [d1, d2] }
  | _ => none }
def rsParityRow : OpenClaim := { program := "ytjbedcgacnnanaa", sum := "d5e1bc13f5333c070a55bfb082119d53a49b48012dfdf557ee8bbb333515b419", func := "firkin/firkinlaw06.RsParity", spec := "rsParity", unfollowed := true, recurses := true, apart := false }
def RsParitySaid : Prop := rsParityRow.holds Try.pinned (OpenSpec.ofChange rsParitySpec)

/-- ITS FALSE NEIGHBOUR: 'it returns false'. Refute it at one input. -/
def rsParityWrong : ChangeSpec := { name := "rsParity", fn := fun _ => fun
  | [d1, d2] => { results := [.lit (.bool false)], args := [d1, d2] }
  | _ => none }
def RsParityWrongFalsely : Prop := rsParityRow.holds Try.pinned (OpenSpec.ofChange rsParityWrong)

/-- 'firkinlaw06.RsMends': WHATEVER THE INPUT: true; the input reads as it did. -/
def rsMendsSpec : ChangeSpec := { name := "rsMends", fn := fun _ => fun
  | [d1, d2, d3, d4] => { results := [.lit (.bool true)], args := [d1, d2, d3, d4] }
  | _ => none }
def rsMendsRow : OpenClaim := { program := "ytjbedcgacnnanaa", sum := "d5e1bc13f5333c070a55bfb082119d53a49b48012dfdf557ee8bbb333515b419", func := "firkin/firkinlaw06.RsMends", spec := "rsMends", unfollowed := true, recurses := true, apart := false }
def RsMendsSaid : Prop := rsMendsRow.holds Try.pinned (OpenSpec.ofChange rsMendsSpec)

/-- ITS FALSE NEIGHBOUR: 'it returns false'. Refute it at one input. -/
def rsMendsWrong : ChangeSpec := { name := "rsMends", fn := fun _ => fun
  | [d1, d2, d3, d4] => { results := [.lit (.bool false)], args := [d1, d2, d3, d4] }
  | _ => none }
def RsMendsWrongFalsely : Prop := rsMendsRow.holds Try.pinned (OpenSpec.ofChange rsMendsWrong)

/-- 'firkinlaw06.RsXor': WHATEVER THE INPUT: true; the input reads as it did. -/
def rsXorSpec : ChangeSpec := { name := "rsXor", fn := fun _ => fun
  | [d1, d2, d3] => { results := [.lit (.bool true)], args := [d1, d2, d3] }
  | _ => none }
def rsXorRow : OpenClaim := { program := "ytjbedcgacnnanaa", sum := "d5e1bc13f5333c070a55bfb082119d53a49b48012dfdf557ee8bbb333515b419", func := "firkin/firkinlaw06.RsXor", spec := "rsXor", unfollowed := true, recurses := true, apart := false }
def RsXorSaid : Prop := rsXorRow.holds Try.pinned (OpenSpec.ofChange rsXorSpec)

/-- ITS FALSE NEIGHBOUR: 'it returns false'. Refute it at one input. -/
def rsXorWrong : ChangeSpec := { name := "rsXor", fn := fun _ => fun
  | [d1, d2, d3] => { results := [.lit (.bool false)], args := [d1, d2, d3] }
  | _ => none }
def RsXorWrongFalsely : Prop := rsXorRow.holds Try.pinned (OpenSpec.ofChange rsXorWrong)

/-- 'firkinlaw06.RsBack': WHATEVER THE INPUT: true; the input reads as it did. -/
def rsBackSpec : ChangeSpec := { name := "rsBack", fn := fun _ => fun
  | [d1, d2, d3, d4] => { results := [.lit (.bool true)], args := [d1, d2, d3, d4] }
  | _ => none }
def rsBackRow : OpenClaim := { program := "ytjbedcgacnnanaa", sum := "d5e1bc13f5333c070a55bfb082119d53a49b48012dfdf557ee8bbb333515b419", func := "firkin/firkinlaw06.RsBack", spec := "rsBack", unfollowed := true, recurses := true, apart := false }
def RsBackSaid : Prop := rsBackRow.holds Try.pinned (OpenSpec.ofChange rsBackSpec)

/-- ITS FALSE NEIGHBOUR: 'it returns false'. Refute it at one input. -/
def rsBackWrong : ChangeSpec := { name := "rsBack", fn := fun _ => fun
  | [d1, d2, d3, d4] => { results := [.lit (.bool false)], args := [d1, d2, d3, d4] }
  | _ => none }
def RsBackWrongFalsely : Prop := rsBackRow.holds Try.pinned (OpenSpec.ofChange rsBackWrong)

/-- 'firkinlaw06.RsFew': WHATEVER THE INPUT: true; the input reads as it did. -/
def rsFewSpec : ChangeSpec := { name := "rsFew", fn := fun _ => fun
  | [d1, d2, d3, d4] => { results := [.lit (.bool true)], args := [d1, d2, d3, d4] }
  | _ => none }
def rsFewRow : OpenClaim := { program := "ytjbedcgacnnanaa", sum := "d5e1bc13f5333c070a55bfb082119d53a49b48012dfdf557ee8bbb333515b419", func := "firkin/firkinlaw06.RsFew", spec := "rsFew", unfollowed := true, recurses := true, apart := false }
def RsFewSaid : Prop := rsFewRow.holds Try.pinned (OpenSpec.ofChange rsFewSpec)

/-- ITS FALSE NEIGHBOUR: 'it returns false'. Refute it at one input. -/
def rsFewWrong : ChangeSpec := { name := "rsFew", fn := fun _ => fun
  | [d1, d2, d3, d4] => { results := [.lit (.bool false)], args := [d1, d2, d3, d4] }
  | _ => none }
def RsFewWrongFalsely : Prop := rsFewRow.holds Try.pinned (OpenSpec.ofChange rsFewWrong)

/-- 'firkinlaw06.RsRight': WHATEVER THE INPUT: true; the input reads as it did. -/
def rsRightSpec : ChangeSpec := { name := "rsRight", fn := fun _ => fun
  | [d1, d2, d3] => { results := [.lit (.bool true)], args := [d1, d2, d3] }
  | _ => none }
def rsRightRow : OpenClaim := { program := "ytjbedcgacnnanaa", sum := "d5e1bc13f5333c070a55bfb082119d53a49b48012dfdf557ee8bbb333515b419", func := "firkin/firkinlaw06.RsRight", spec := "rsRight", unfollowed := true, recurses := true, apart := false }
def RsRightSaid : Prop := rsRightRow.holds Try.pinned (OpenSpec.ofChange rsRightSpec)

/-- ITS FALSE NEIGHBOUR: 'it returns false'. Refute it at one input. -/
def rsRightWrong : ChangeSpec := { name := "rsRight", fn := fun _ => fun
  | [d1, d2, d3] => { results := [.lit (.bool false)], args := [d1, d2, d3] }
  | _ => none }
def RsRightWrongFalsely : Prop := rsRightRow.holds Try.pinned (OpenSpec.ofChange rsRightWrong)

/- THE SECOND FORM. 'bulk': how many values and letters a reading holds, each counted each time it is reached (what is shared counts as often as it is met; a slice's spare places count too). A statement '..UptoSaid' is the law's where the arguments, and the package variables that the reading takes, are together of bulk at most 1048576: NARROWER than '..Said'. Prove '..Said' where nothing that the law and all that it calls make is longer than what came in: it says more and counts as full. Else prove '..UptoSaid'. A law counts once. -/
mutual
def uptoBulk {H : Type} : DataW H → Nat
  | .lit (.string bytes) => bytes.length + 1
  | .lit _ => 1
  | .nil => 1
  | .ptr d => uptoBulk d + 1
  | .slice elems spare => uptoBulkAll elems + uptoBulkAll spare + 1
  | .agg parts => uptoBulkAll parts + 1
  | .iface _ d => uptoBulk d + 1
  | .map entries => uptoBulkEntries entries + 1
  | .held _ => 1
def uptoBulkAll {H : Type} : List (DataW H) → Nat
  | [] => 0
  | d :: r => uptoBulk d + uptoBulkAll r
def uptoBulkEntries {H : Type} : List (Lit × DataW H) → Nat
  | [] => 0
  | x :: r => uptoBulkEntry x + uptoBulkEntries r
def uptoBulkEntry {H : Type} : Lit × DataW H → Nat
  | (.string bytes, d) => bytes.length + uptoBulk d + 1
  | (_, d) => uptoBulk d + 1
 end
def uptoSmall : (H : Type) → List (DataW H) → Bool := fun _ ds => decide (uptoBulkAll ds ≤ 1048576)
def OpenSpec.upto (s : _root_.Go.ChangeSpec) : _root_.Go.OpenSpec := { _root_.Go.OpenSpec.ofChange s with cond := some uptoSmall }

/-- 'firkinlaw06.RsParity', WHERE WHAT IT READS IS OF BULK AT MOST 1048576: true; the input reads as it did. -/
def rsParityUptoRow : OpenClaim := { program := "ytjbedcgacnnanaa", sum := "d5e1bc13f5333c070a55bfb082119d53a49b48012dfdf557ee8bbb333515b419", func := "firkin/firkinlaw06.RsParity", spec := "rsParity", unfollowed := true, recurses := true, apart := false, narrowed := true }
def RsParityUptoSaid : Prop := rsParityUptoRow.holds Try.pinned (OpenSpec.upto rsParitySpec)

/-- 'firkinlaw06.RsMends', WHERE WHAT IT READS IS OF BULK AT MOST 1048576: true; the input reads as it did. -/
def rsMendsUptoRow : OpenClaim := { program := "ytjbedcgacnnanaa", sum := "d5e1bc13f5333c070a55bfb082119d53a49b48012dfdf557ee8bbb333515b419", func := "firkin/firkinlaw06.RsMends", spec := "rsMends", unfollowed := true, recurses := true, apart := false, narrowed := true }
def RsMendsUptoSaid : Prop := rsMendsUptoRow.holds Try.pinned (OpenSpec.upto rsMendsSpec)

/-- 'firkinlaw06.RsXor', WHERE WHAT IT READS IS OF BULK AT MOST 1048576: true; the input reads as it did. -/
def rsXorUptoRow : OpenClaim := { program := "ytjbedcgacnnanaa", sum := "d5e1bc13f5333c070a55bfb082119d53a49b48012dfdf557ee8bbb333515b419", func := "firkin/firkinlaw06.RsXor", spec := "rsXor", unfollowed := true, recurses := true, apart := false, narrowed := true }
def RsXorUptoSaid : Prop := rsXorUptoRow.holds Try.pinned (OpenSpec.upto rsXorSpec)

/-- 'firkinlaw06.RsBack', WHERE WHAT IT READS IS OF BULK AT MOST 1048576: true; the input reads as it did. -/
def rsBackUptoRow : OpenClaim := { program := "ytjbedcgacnnanaa", sum := "d5e1bc13f5333c070a55bfb082119d53a49b48012dfdf557ee8bbb333515b419", func := "firkin/firkinlaw06.RsBack", spec := "rsBack", unfollowed := true, recurses := true, apart := false, narrowed := true }
def RsBackUptoSaid : Prop := rsBackUptoRow.holds Try.pinned (OpenSpec.upto rsBackSpec)

/-- 'firkinlaw06.RsFew', WHERE WHAT IT READS IS OF BULK AT MOST 1048576: true; the input reads as it did. -/
def rsFewUptoRow : OpenClaim := { program := "ytjbedcgacnnanaa", sum := "d5e1bc13f5333c070a55bfb082119d53a49b48012dfdf557ee8bbb333515b419", func := "firkin/firkinlaw06.RsFew", spec := "rsFew", unfollowed := true, recurses := true, apart := false, narrowed := true }
def RsFewUptoSaid : Prop := rsFewUptoRow.holds Try.pinned (OpenSpec.upto rsFewSpec)

/-- 'firkinlaw06.RsRight', WHERE WHAT IT READS IS OF BULK AT MOST 1048576: true; the input reads as it did. -/
def rsRightUptoRow : OpenClaim := { program := "ytjbedcgacnnanaa", sum := "d5e1bc13f5333c070a55bfb082119d53a49b48012dfdf557ee8bbb333515b419", func := "firkin/firkinlaw06.RsRight", spec := "rsRight", unfollowed := true, recurses := true, apart := false, narrowed := true }
def RsRightUptoSaid : Prop := rsRightUptoRow.holds Try.pinned (OpenSpec.upto rsRightSpec)

end Rows
end Go.Proofs.Ytjbedcgacnnanaa
