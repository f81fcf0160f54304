/-
  No cell of these rows narrows 'for every input' (looked for: loops, veiled, ifaces, maps, wideKeys, modest, calm, conditions, laid).
  DERIVED. THE GIVEN ROWS OF THIS SEAT. 11 by the template 'for every input the law returns true; each argument reads behind the call as it read before'; 0 by the template 'total and deterministic' (their statements: YtbokbndphpdgoaaTotals.lean).
  GIVEN WITH THE SEED: the statements are not yours to turn. If you find one false, say at which input.
  Laid BY PROGRAM, IN A SANDBOX (cutbox-rows.mjs): the forced cells as the released guide's own fill.sh prints them over the translation a6b94c3880d69ae6… (all of the seat's roots in one cut). By AI agents, Wed Nov 11 2026. No macro, syntax, notation, axiom, sorry.
-/
import Derived.Test.YtbokbndphpdgoaaChecked
import GoSem.Claim
import GoSem.ClaimJoined
import GoSem.ClaimMapViews
import Derived.JoinedTies
import Derived.KernelRfl
namespace Go.Proofs.Ytbokbndphpdgoaa
/- THE CELL 'sum', in the pinned program and in every row, IS THE sha256 OF THE DUMP (.gsa) THAT YtbokbndphpdgoaaProg.lean LOADS. Nothing in Lean hashes anything: it is a label: what it is worth is what the hold of that sum in a sandbox is worth. -/
noncomputable def Try.pinned : Pinned := { name := "ytbokbndphpdgoaa", sum := "a6b94c3880d69ae61247be52d589fef105390ebb33d7355bb3ddd01f30d150f7", checked := Try.checked }
namespace Rows
def none {H : Type} : Left H := { results := [], args := [] }

/-- 'firkinlaw05.MatMay': WHATEVER THE INPUT: true; the input reads as it did. -/
def matMaySpec : ChangeSpec := { name := "matMay", fn := fun _ => fun
  | [d] => { results := [.lit (.bool true)], args := [d] }
  | _ => none }
def matMayRow : OpenClaim := { program := "ytbokbndphpdgoaa", sum := "a6b94c3880d69ae61247be52d589fef105390ebb33d7355bb3ddd01f30d150f7", func := "firkin/firkinlaw05.MatMay", spec := "matMay", unfollowed := true, recurses := true, apart := false }
def MatMaySaid : Prop := matMayRow.holds Try.pinned (OpenSpec.ofChange matMaySpec)

/-- ITS FALSE NEIGHBOUR: 'it returns false'. Refute it at one input. -/
def matMayWrong : ChangeSpec := { name := "matMay", fn := fun _ => fun
  | [d] => { results := [.lit (.bool false)], args := [d] }
  | _ => none }
def MatMayWrongFalsely : Prop := matMayRow.holds Try.pinned (OpenSpec.ofChange matMayWrong)

/-- 'firkinlaw05.MatMakes': WHATEVER THE INPUT: true; the input reads as it did. -/
def matMakesSpec : ChangeSpec := { name := "matMakes", fn := fun _ => fun
  | [d1, d2, d3] => { results := [.lit (.bool true)], args := [d1, d2, d3] }
  | _ => none }
def matMakesRow : OpenClaim := { program := "ytbokbndphpdgoaa", sum := "a6b94c3880d69ae61247be52d589fef105390ebb33d7355bb3ddd01f30d150f7", func := "firkin/firkinlaw05.MatMakes", spec := "matMakes", unfollowed := true, recurses := true, apart := false }
def MatMakesSaid : Prop := matMakesRow.holds Try.pinned (OpenSpec.ofChange matMakesSpec)

/-- ITS FALSE NEIGHBOUR: 'it returns false'. Refute it at one input. -/
def matMakesWrong : ChangeSpec := { name := "matMakes", fn := fun _ => fun
  | [d1, d2, d3] => { results := [.lit (.bool false)], args := [d1, d2, d3] }
  | _ => none }
def MatMakesWrongFalsely : Prop := matMakesRow.holds Try.pinned (OpenSpec.ofChange matMakesWrong)

/-- 'firkinlaw05.MatStacks': WHATEVER THE INPUT: true; the input reads as it did. -/
def matStacksSpec : ChangeSpec := { name := "matStacks", fn := fun _ => fun
  | [d] => { results := [.lit (.bool true)], args := [d] }
  | _ => none }
def matStacksRow : OpenClaim := { program := "ytbokbndphpdgoaa", sum := "a6b94c3880d69ae61247be52d589fef105390ebb33d7355bb3ddd01f30d150f7", func := "firkin/firkinlaw05.MatStacks", spec := "matStacks", unfollowed := true, recurses := true, apart := false }
def MatStacksSaid : Prop := matStacksRow.holds Try.pinned (OpenSpec.ofChange matStacksSpec)

/-- ITS FALSE NEIGHBOUR: 'it returns false'. Refute it at one input. -/
def matStacksWrong : ChangeSpec := { name := "matStacks", fn := fun _ => fun
  | [d] => { results := [.lit (.bool false)], args := [d] }
  | _ => none }
def MatStacksWrongFalsely : Prop := matStacksRow.holds Try.pinned (OpenSpec.ofChange matStacksWrong)

/-- 'firkinlaw05.MatPicks': WHATEVER THE INPUT: true; the input reads as it did. -/
def matPicksSpec : ChangeSpec := { name := "matPicks", fn := fun _ => fun
  | [d1, d2] => { results := [.lit (.bool true)], args := [d1, d2] }
  | _ => none }
def matPicksRow : OpenClaim := { program := "ytbokbndphpdgoaa", sum := "a6b94c3880d69ae61247be52d589fef105390ebb33d7355bb3ddd01f30d150f7", func := "firkin/firkinlaw05.MatPicks", spec := "matPicks", unfollowed := true, recurses := true, apart := false }
def MatPicksSaid : Prop := matPicksRow.holds Try.pinned (OpenSpec.ofChange matPicksSpec)

/-- ITS FALSE NEIGHBOUR: 'it returns false'. Refute it at one input. -/
def matPicksWrong : ChangeSpec := { name := "matPicks", fn := fun _ => fun
  | [d1, d2] => { results := [.lit (.bool false)], args := [d1, d2] }
  | _ => none }
def MatPicksWrongFalsely : Prop := matPicksRow.holds Try.pinned (OpenSpec.ofChange matPicksWrong)

/-- 'firkinlaw05.MatMuls': WHATEVER THE INPUT: true; the input reads as it did. -/
def matMulsSpec : ChangeSpec := { name := "matMuls", fn := fun _ => fun
  | [d1, d2] => { results := [.lit (.bool true)], args := [d1, d2] }
  | _ => none }
def matMulsRow : OpenClaim := { program := "ytbokbndphpdgoaa", sum := "a6b94c3880d69ae61247be52d589fef105390ebb33d7355bb3ddd01f30d150f7", func := "firkin/firkinlaw05.MatMuls", spec := "matMuls", unfollowed := true, recurses := true, apart := false }
def MatMulsSaid : Prop := matMulsRow.holds Try.pinned (OpenSpec.ofChange matMulsSpec)

/-- ITS FALSE NEIGHBOUR: 'it returns false'. Refute it at one input. -/
def matMulsWrong : ChangeSpec := { name := "matMuls", fn := fun _ => fun
  | [d1, d2] => { results := [.lit (.bool false)], args := [d1, d2] }
  | _ => none }
def MatMulsWrongFalsely : Prop := matMulsRow.holds Try.pinned (OpenSpec.ofChange matMulsWrong)

/-- 'firkinlaw05.MatBrackets': WHATEVER THE INPUT: true; the input reads as it did. -/
def matBracketsSpec : ChangeSpec := { name := "matBrackets", fn := fun _ => fun
  | [d1, d2, d3] => { results := [.lit (.bool true)], args := [d1, d2, d3] }
  | _ => none }
def matBracketsRow : OpenClaim := { program := "ytbokbndphpdgoaa", sum := "a6b94c3880d69ae61247be52d589fef105390ebb33d7355bb3ddd01f30d150f7", func := "firkin/firkinlaw05.MatBrackets", spec := "matBrackets", unfollowed := true, recurses := true, apart := false }
def MatBracketsSaid : Prop := matBracketsRow.holds Try.pinned (OpenSpec.ofChange matBracketsSpec)

/-- ITS FALSE NEIGHBOUR: 'it returns false'. Refute it at one input. -/
def matBracketsWrong : ChangeSpec := { name := "matBrackets", fn := fun _ => fun
  | [d1, d2, d3] => { results := [.lit (.bool false)], args := [d1, d2, d3] }
  | _ => none }
def MatBracketsWrongFalsely : Prop := matBracketsRow.holds Try.pinned (OpenSpec.ofChange matBracketsWrong)

/-- 'firkinlaw05.MatRanks': WHATEVER THE INPUT: true; the input reads as it did. -/
def matRanksSpec : ChangeSpec := { name := "matRanks", fn := fun _ => fun
  | [d] => { results := [.lit (.bool true)], args := [d] }
  | _ => none }
def matRanksRow : OpenClaim := { program := "ytbokbndphpdgoaa", sum := "a6b94c3880d69ae61247be52d589fef105390ebb33d7355bb3ddd01f30d150f7", func := "firkin/firkinlaw05.MatRanks", spec := "matRanks", unfollowed := true, recurses := true, apart := false }
def MatRanksSaid : Prop := matRanksRow.holds Try.pinned (OpenSpec.ofChange matRanksSpec)

/-- ITS FALSE NEIGHBOUR: 'it returns false'. Refute it at one input. -/
def matRanksWrong : ChangeSpec := { name := "matRanks", fn := fun _ => fun
  | [d] => { results := [.lit (.bool false)], args := [d] }
  | _ => none }
def MatRanksWrongFalsely : Prop := matRanksRow.holds Try.pinned (OpenSpec.ofChange matRanksWrong)

/-- 'firkinlaw05.MatFlat': WHATEVER THE INPUT: true; the input reads as it did. -/
def matFlatSpec : ChangeSpec := { name := "matFlat", fn := fun _ => fun
  | [d1, d2] => { results := [.lit (.bool true)], args := [d1, d2] }
  | _ => none }
def matFlatRow : OpenClaim := { program := "ytbokbndphpdgoaa", sum := "a6b94c3880d69ae61247be52d589fef105390ebb33d7355bb3ddd01f30d150f7", func := "firkin/firkinlaw05.MatFlat", spec := "matFlat", unfollowed := true, recurses := true, apart := false }
def MatFlatSaid : Prop := matFlatRow.holds Try.pinned (OpenSpec.ofChange matFlatSpec)

/-- ITS FALSE NEIGHBOUR: 'it returns false'. Refute it at one input. -/
def matFlatWrong : ChangeSpec := { name := "matFlat", fn := fun _ => fun
  | [d1, d2] => { results := [.lit (.bool false)], args := [d1, d2] }
  | _ => none }
def MatFlatWrongFalsely : Prop := matFlatRow.holds Try.pinned (OpenSpec.ofChange matFlatWrong)

/-- 'firkinlaw05.MatTurns': WHATEVER THE INPUT: true; the input reads as it did. -/
def matTurnsSpec : ChangeSpec := { name := "matTurns", fn := fun _ => fun
  | [d1, d2] => { results := [.lit (.bool true)], args := [d1, d2] }
  | _ => none }
def matTurnsRow : OpenClaim := { program := "ytbokbndphpdgoaa", sum := "a6b94c3880d69ae61247be52d589fef105390ebb33d7355bb3ddd01f30d150f7", func := "firkin/firkinlaw05.MatTurns", spec := "matTurns", unfollowed := true, recurses := true, apart := false }
def MatTurnsSaid : Prop := matTurnsRow.holds Try.pinned (OpenSpec.ofChange matTurnsSpec)

/-- ITS FALSE NEIGHBOUR: 'it returns false'. Refute it at one input. -/
def matTurnsWrong : ChangeSpec := { name := "matTurns", fn := fun _ => fun
  | [d1, d2] => { results := [.lit (.bool false)], args := [d1, d2] }
  | _ => none }
def MatTurnsWrongFalsely : Prop := matTurnsRow.holds Try.pinned (OpenSpec.ofChange matTurnsWrong)

/-- 'firkinlaw05.MatInverts': WHATEVER THE INPUT: true; the input reads as it did. -/
def matInvertsSpec : ChangeSpec := { name := "matInverts", fn := fun _ => fun
  | [d] => { results := [.lit (.bool true)], args := [d] }
  | _ => none }
def matInvertsRow : OpenClaim := { program := "ytbokbndphpdgoaa", sum := "a6b94c3880d69ae61247be52d589fef105390ebb33d7355bb3ddd01f30d150f7", func := "firkin/firkinlaw05.MatInverts", spec := "matInverts", unfollowed := true, recurses := true, apart := false }
def MatInvertsSaid : Prop := matInvertsRow.holds Try.pinned (OpenSpec.ofChange matInvertsSpec)

/-- ITS FALSE NEIGHBOUR: 'it returns false'. Refute it at one input. -/
def matInvertsWrong : ChangeSpec := { name := "matInverts", fn := fun _ => fun
  | [d] => { results := [.lit (.bool false)], args := [d] }
  | _ => none }
def MatInvertsWrongFalsely : Prop := matInvertsRow.holds Try.pinned (OpenSpec.ofChange matInvertsWrong)

/-- 'firkinlaw05.MatCauchy': WHATEVER THE INPUT: true; the input reads as it did. -/
def matCauchySpec : ChangeSpec := { name := "matCauchy", fn := fun _ => fun
  | [d1, d2, d3] => { results := [.lit (.bool true)], args := [d1, d2, d3] }
  | _ => none }
def matCauchyRow : OpenClaim := { program := "ytbokbndphpdgoaa", sum := "a6b94c3880d69ae61247be52d589fef105390ebb33d7355bb3ddd01f30d150f7", func := "firkin/firkinlaw05.MatCauchy", spec := "matCauchy", unfollowed := true, recurses := true, apart := false }
def MatCauchySaid : Prop := matCauchyRow.holds Try.pinned (OpenSpec.ofChange matCauchySpec)

/-- ITS FALSE NEIGHBOUR: 'it returns false'. Refute it at one input. -/
def matCauchyWrong : ChangeSpec := { name := "matCauchy", fn := fun _ => fun
  | [d1, d2, d3] => { results := [.lit (.bool false)], args := [d1, d2, d3] }
  | _ => none }
def MatCauchyWrongFalsely : Prop := matCauchyRow.holds Try.pinned (OpenSpec.ofChange matCauchyWrong)

/- THE SECOND FORM. 'bulk': how many values and letters a reading holds, each counted each time it is reached (what is shared counts as often as it is met; a slice's spare places count too). A statement '..UptoSaid' is the law's where the arguments, and the package variables that the reading takes, are together of bulk at most 1048576: NARROWER than '..Said'. Prove '..Said' where nothing that the law and all that it calls make is longer than what came in: it says more and counts as full. Else prove '..UptoSaid'. A law counts once. -/
mutual
def uptoBulk {H : Type} : DataW H → Nat
  | .lit (.string bytes) => bytes.length + 1
  | .lit _ => 1
  | .nil => 1
  | .ptr d => uptoBulk d + 1
  | .slice elems spare => uptoBulkAll elems + uptoBulkAll spare + 1
  | .agg parts => uptoBulkAll parts + 1
  | .iface _ d => uptoBulk d + 1
  | .map entries => uptoBulkEntries entries + 1
  | .held _ => 1
def uptoBulkAll {H : Type} : List (DataW H) → Nat
  | [] => 0
  | d :: r => uptoBulk d + uptoBulkAll r
def uptoBulkEntries {H : Type} : List (Lit × DataW H) → Nat
  | [] => 0
  | x :: r => uptoBulkEntry x + uptoBulkEntries r
def uptoBulkEntry {H : Type} : Lit × DataW H → Nat
  | (.string bytes, d) => bytes.length + uptoBulk d + 1
  | (_, d) => uptoBulk d + 1
 end
def uptoSmall : (H : Type) → List (DataW H) → Bool := fun _ ds => decide (uptoBulkAll ds ≤ 1048576)
def OpenSpec.upto (s : _root_.Go.ChangeSpec) : _root_.Go.OpenSpec := { _root_.Go.OpenSpec.ofChange s with cond := some uptoSmall }

/-- 'firkinlaw05.MatMay', WHERE WHAT IT READS IS OF BULK AT MOST 1048576: true; the input reads as it did. -/
def matMayUptoRow : OpenClaim := { program := "ytbokbndphpdgoaa", sum := "a6b94c3880d69ae61247be52d589fef105390ebb33d7355bb3ddd01f30d150f7", func := "firkin/firkinlaw05.MatMay", spec := "matMay", unfollowed := true, recurses := true, apart := false, narrowed := true }
def MatMayUptoSaid : Prop := matMayUptoRow.holds Try.pinned (OpenSpec.upto matMaySpec)

/-- 'firkinlaw05.MatMakes', WHERE WHAT IT READS IS OF BULK AT MOST 1048576: true; the input reads as it did. -/
def matMakesUptoRow : OpenClaim := { program := "ytbokbndphpdgoaa", sum := "a6b94c3880d69ae61247be52d589fef105390ebb33d7355bb3ddd01f30d150f7", func := "firkin/firkinlaw05.MatMakes", spec := "matMakes", unfollowed := true, recurses := true, apart := false, narrowed := true }
def MatMakesUptoSaid : Prop := matMakesUptoRow.holds Try.pinned (OpenSpec.upto matMakesSpec)

/-- 'firkinlaw05.MatStacks', WHERE WHAT IT READS IS OF BULK AT MOST 1048576: true; the input reads as it did. -/
def matStacksUptoRow : OpenClaim := { program := "ytbokbndphpdgoaa", sum := "a6b94c3880d69ae61247be52d589fef105390ebb33d7355bb3ddd01f30d150f7", func := "firkin/firkinlaw05.MatStacks", spec := "matStacks", unfollowed := true, recurses := true, apart := false, narrowed := true }
def MatStacksUptoSaid : Prop := matStacksUptoRow.holds Try.pinned (OpenSpec.upto matStacksSpec)

/-- 'firkinlaw05.MatPicks', WHERE WHAT IT READS IS OF BULK AT MOST 1048576: true; the input reads as it did. -/
def matPicksUptoRow : OpenClaim := { program := "ytbokbndphpdgoaa", sum := "a6b94c3880d69ae61247be52d589fef105390ebb33d7355bb3ddd01f30d150f7", func := "firkin/firkinlaw05.MatPicks", spec := "matPicks", unfollowed := true, recurses := true, apart := false, narrowed := true }
def MatPicksUptoSaid : Prop := matPicksUptoRow.holds Try.pinned (OpenSpec.upto matPicksSpec)

/-- 'firkinlaw05.MatMuls', WHERE WHAT IT READS IS OF BULK AT MOST 1048576: true; the input reads as it did. -/
def matMulsUptoRow : OpenClaim := { program := "ytbokbndphpdgoaa", sum := "a6b94c3880d69ae61247be52d589fef105390ebb33d7355bb3ddd01f30d150f7", func := "firkin/firkinlaw05.MatMuls", spec := "matMuls", unfollowed := true, recurses := true, apart := false, narrowed := true }
def MatMulsUptoSaid : Prop := matMulsUptoRow.holds Try.pinned (OpenSpec.upto matMulsSpec)

/-- 'firkinlaw05.MatBrackets', WHERE WHAT IT READS IS OF BULK AT MOST 1048576: true; the input reads as it did. -/
def matBracketsUptoRow : OpenClaim := { program := "ytbokbndphpdgoaa", sum := "a6b94c3880d69ae61247be52d589fef105390ebb33d7355bb3ddd01f30d150f7", func := "firkin/firkinlaw05.MatBrackets", spec := "matBrackets", unfollowed := true, recurses := true, apart := false, narrowed := true }
def MatBracketsUptoSaid : Prop := matBracketsUptoRow.holds Try.pinned (OpenSpec.upto matBracketsSpec)

/-- 'firkinlaw05.MatRanks', WHERE WHAT IT READS IS OF BULK AT MOST 1048576: true; the input reads as it did. -/
def matRanksUptoRow : OpenClaim := { program := "ytbokbndphpdgoaa", sum := "a6b94c3880d69ae61247be52d589fef105390ebb33d7355bb3ddd01f30d150f7", func := "firkin/firkinlaw05.MatRanks", spec := "matRanks", unfollowed := true, recurses := true, apart := false, narrowed := true }
def MatRanksUptoSaid : Prop := matRanksUptoRow.holds Try.pinned (OpenSpec.upto matRanksSpec)

/-- 'firkinlaw05.MatFlat', WHERE WHAT IT READS IS OF BULK AT MOST 1048576: true; the input reads as it did. -/
def matFlatUptoRow : OpenClaim := { program := "ytbokbndphpdgoaa", sum := "a6b94c3880d69ae61247be52d589fef105390ebb33d7355bb3ddd01f30d150f7", func := "firkin/firkinlaw05.MatFlat", spec := "matFlat", unfollowed := true, recurses := true, apart := false, narrowed := true }
def MatFlatUptoSaid : Prop := matFlatUptoRow.holds Try.pinned (OpenSpec.upto matFlatSpec)

/-- 'firkinlaw05.MatTurns', WHERE WHAT IT READS IS OF BULK AT MOST 1048576: true; the input reads as it did. -/
def matTurnsUptoRow : OpenClaim := { program := "ytbokbndphpdgoaa", sum := "a6b94c3880d69ae61247be52d589fef105390ebb33d7355bb3ddd01f30d150f7", func := "firkin/firkinlaw05.MatTurns", spec := "matTurns", unfollowed := true, recurses := true, apart := false, narrowed := true }
def MatTurnsUptoSaid : Prop := matTurnsUptoRow.holds Try.pinned (OpenSpec.upto matTurnsSpec)

/-- 'firkinlaw05.MatInverts', WHERE WHAT IT READS IS OF BULK AT MOST 1048576: true; the input reads as it did. -/
def matInvertsUptoRow : OpenClaim := { program := "ytbokbndphpdgoaa", sum := "a6b94c3880d69ae61247be52d589fef105390ebb33d7355bb3ddd01f30d150f7", func := "firkin/firkinlaw05.MatInverts", spec := "matInverts", unfollowed := true, recurses := true, apart := false, narrowed := true }
def MatInvertsUptoSaid : Prop := matInvertsUptoRow.holds Try.pinned (OpenSpec.upto matInvertsSpec)

/-- 'firkinlaw05.MatCauchy', WHERE WHAT IT READS IS OF BULK AT MOST 1048576: true; the input reads as it did. -/
def matCauchyUptoRow : OpenClaim := { program := "ytbokbndphpdgoaa", sum := "a6b94c3880d69ae61247be52d589fef105390ebb33d7355bb3ddd01f30d150f7", func := "firkin/firkinlaw05.MatCauchy", spec := "matCauchy", unfollowed := true, recurses := true, apart := false, narrowed := true }
def MatCauchyUptoSaid : Prop := matCauchyUptoRow.holds Try.pinned (OpenSpec.upto matCauchySpec)

end Rows
end Go.Proofs.Ytbokbndphpdgoaa
