/-
  No cell of these rows narrows 'for every input' (looked for: loops, veiled, ifaces, maps, wideKeys, modest, calm, conditions, laid).
  DERIVED. THE GIVEN ROWS OF THIS SEAT. 4 by the template 'for every input the law returns true; each argument reads behind the call as it read before'; 0 by the template 'total and deterministic' (their statements: YtmoflbpglkeikaaTotals.lean).
  GIVEN WITH THE SEED: the statements are not yours to turn. If you find one false, say at which input.
  Laid BY PROGRAM, IN A SANDBOX (cutbox-rows.mjs): the forced cells as the released guide's own fill.sh prints them over the translation e79e80187bf3d6c8… (all of the seat's roots in one cut). By AI agents, Wed Nov 11 2026. No macro, syntax, notation, axiom, sorry.
-/
import Derived.Test.YtmoflbpglkeikaaChecked
import GoSem.Claim
import GoSem.ClaimJoined
import GoSem.ClaimMapViews
import Derived.JoinedTies
import Derived.KernelRfl
namespace Go.Proofs.Ytmoflbpglkeikaa
/- THE CELL 'sum', in the pinned program and in every row, IS THE sha256 OF THE DUMP (.gsa) THAT YtmoflbpglkeikaaProg.lean LOADS. Nothing in Lean hashes anything: it is a label: what it is worth is what the hold of that sum in a sandbox is worth. -/
noncomputable def Try.pinned : Pinned := { name := "ytmoflbpglkeikaa", sum := "e79e80187bf3d6c8b1a6c23345fb4813eebe4a527f2420624646e84d7e0175a4", checked := Try.checked }
namespace Rows
def none {H : Type} : Left H := { results := [], args := [] }

/-- 'cashbooklaw24.FilterRight': WHATEVER THE INPUT: true; the input reads as it did. -/
def filterRightSpec : ChangeSpec := { name := "filterRight", fn := fun _ => fun
  | [d] => { results := [.lit (.bool true)], args := [d] }
  | _ => none }
def filterRightRow : OpenClaim := { program := "ytmoflbpglkeikaa", sum := "e79e80187bf3d6c8b1a6c23345fb4813eebe4a527f2420624646e84d7e0175a4", func := "cashbook/cashbooklaw24.FilterRight", spec := "filterRight", unfollowed := true, recurses := true, apart := false }
def FilterRightSaid : Prop := filterRightRow.holds Try.pinned (OpenSpec.ofChange filterRightSpec)

/-- ITS FALSE NEIGHBOUR: 'it returns false'. Refute it at one input. -/
def filterRightWrong : ChangeSpec := { name := "filterRight", fn := fun _ => fun
  | [d] => { results := [.lit (.bool false)], args := [d] }
  | _ => none }
def FilterRightWrongFalsely : Prop := filterRightRow.holds Try.pinned (OpenSpec.ofChange filterRightWrong)

/-- 'cashbooklaw24.FilterTakes': WHATEVER THE INPUT: true; the input reads as it did. -/
def filterTakesSpec : ChangeSpec := { name := "filterTakes", fn := fun _ => fun
  | [d1, d2, d3] => { results := [.lit (.bool true)], args := [d1, d2, d3] }
  | _ => none }
def filterTakesRow : OpenClaim := { program := "ytmoflbpglkeikaa", sum := "e79e80187bf3d6c8b1a6c23345fb4813eebe4a527f2420624646e84d7e0175a4", func := "cashbook/cashbooklaw24.FilterTakes", spec := "filterTakes", unfollowed := true, recurses := true, apart := false }
def FilterTakesSaid : Prop := filterTakesRow.holds Try.pinned (OpenSpec.ofChange filterTakesSpec)

/-- ITS FALSE NEIGHBOUR: 'it returns false'. Refute it at one input. -/
def filterTakesWrong : ChangeSpec := { name := "filterTakes", fn := fun _ => fun
  | [d1, d2, d3] => { results := [.lit (.bool false)], args := [d1, d2, d3] }
  | _ => none }
def FilterTakesWrongFalsely : Prop := filterTakesRow.holds Try.pinned (OpenSpec.ofChange filterTakesWrong)

/-- 'cashbooklaw24.FilterParts': WHATEVER THE INPUT: true; the input reads as it did. -/
def filterPartsSpec : ChangeSpec := { name := "filterParts", fn := fun _ => fun
  | [d1, d2, d3] => { results := [.lit (.bool true)], args := [d1, d2, d3] }
  | _ => none }
def filterPartsRow : OpenClaim := { program := "ytmoflbpglkeikaa", sum := "e79e80187bf3d6c8b1a6c23345fb4813eebe4a527f2420624646e84d7e0175a4", func := "cashbook/cashbooklaw24.FilterParts", spec := "filterParts", unfollowed := true, recurses := true, apart := false }
def FilterPartsSaid : Prop := filterPartsRow.holds Try.pinned (OpenSpec.ofChange filterPartsSpec)

/-- ITS FALSE NEIGHBOUR: 'it returns false'. Refute it at one input. -/
def filterPartsWrong : ChangeSpec := { name := "filterParts", fn := fun _ => fun
  | [d1, d2, d3] => { results := [.lit (.bool false)], args := [d1, d2, d3] }
  | _ => none }
def FilterPartsWrongFalsely : Prop := filterPartsRow.holds Try.pinned (OpenSpec.ofChange filterPartsWrong)

/-- 'cashbooklaw24.FilterEnds': WHATEVER THE INPUT: true; the input reads as it did. -/
def filterEndsSpec : ChangeSpec := { name := "filterEnds", fn := fun _ => fun
  | [d1, d2, d3] => { results := [.lit (.bool true)], args := [d1, d2, d3] }
  | _ => none }
def filterEndsRow : OpenClaim := { program := "ytmoflbpglkeikaa", sum := "e79e80187bf3d6c8b1a6c23345fb4813eebe4a527f2420624646e84d7e0175a4", func := "cashbook/cashbooklaw24.FilterEnds", spec := "filterEnds", unfollowed := true, recurses := true, apart := false }
def FilterEndsSaid : Prop := filterEndsRow.holds Try.pinned (OpenSpec.ofChange filterEndsSpec)

/-- ITS FALSE NEIGHBOUR: 'it returns false'. Refute it at one input. -/
def filterEndsWrong : ChangeSpec := { name := "filterEnds", fn := fun _ => fun
  | [d1, d2, d3] => { results := [.lit (.bool false)], args := [d1, d2, d3] }
  | _ => none }
def FilterEndsWrongFalsely : Prop := filterEndsRow.holds Try.pinned (OpenSpec.ofChange filterEndsWrong)

/- THE SECOND FORM. 'bulk': how many values and letters a reading holds, each counted each time it is reached (what is shared counts as often as it is met; a slice's spare places count too). A statement '..UptoSaid' is the law's where the arguments, and the package variables that the reading takes, are together of bulk at most 1048576: NARROWER than '..Said'. Prove '..Said' where nothing that the law and all that it calls make is longer than what came in: it says more and counts as full. Else prove '..UptoSaid'. A law counts once. -/
mutual
def uptoBulk {H : Type} : DataW H → Nat
  | .lit (.string bytes) => bytes.length + 1
  | .lit _ => 1
  | .nil => 1
  | .ptr d => uptoBulk d + 1
  | .slice elems spare => uptoBulkAll elems + uptoBulkAll spare + 1
  | .agg parts => uptoBulkAll parts + 1
  | .iface _ d => uptoBulk d + 1
  | .map entries => uptoBulkEntries entries + 1
  | .held _ => 1
def uptoBulkAll {H : Type} : List (DataW H) → Nat
  | [] => 0
  | d :: r => uptoBulk d + uptoBulkAll r
def uptoBulkEntries {H : Type} : List (Lit × DataW H) → Nat
  | [] => 0
  | x :: r => uptoBulkEntry x + uptoBulkEntries r
def uptoBulkEntry {H : Type} : Lit × DataW H → Nat
  | (.string bytes, d) => bytes.length + uptoBulk d + 1
  | (_, d) => uptoBulk d + 1
 end
def uptoSmall : (H : Type) → List (DataW H) → Bool := fun _ ds => decide (uptoBulkAll ds ≤ 1048576)
def OpenSpec.upto (s : _root_.Go.ChangeSpec) : _root_.Go.OpenSpec := { _root_.Go.OpenSpec.ofChange s with cond := some uptoSmall }

/-- 'cashbooklaw24.FilterRight', WHERE WHAT IT READS IS OF BULK AT MOST 1048576: true; the input reads as it did. -/
def filterRightUptoRow : OpenClaim := { program := "ytmoflbpglkeikaa", sum := "e79e80187bf3d6c8b1a6c23345fb4813eebe4a527f2420624646e84d7e0175a4", func := "cashbook/cashbooklaw24.FilterRight", spec := "filterRight", unfollowed := true, recurses := true, apart := false, narrowed := true }
def FilterRightUptoSaid : Prop := filterRightUptoRow.holds Try.pinned (OpenSpec.upto filterRightSpec)

/-- 'cashbooklaw24.FilterTakes', WHERE WHAT IT READS IS OF BULK AT MOST 1048576: true; the input reads as it did. -/
def filterTakesUptoRow : OpenClaim := { program := "ytmoflbpglkeikaa", sum := "e79e80187bf3d6c8b1a6c23345fb4813eebe4a527f2420624646e84d7e0175a4", func := "cashbook/cashbooklaw24.FilterTakes", spec := "filterTakes", unfollowed := true, recurses := true, apart := false, narrowed := true }
def FilterTakesUptoSaid : Prop := filterTakesUptoRow.holds Try.pinned (OpenSpec.upto filterTakesSpec)

/-- 'cashbooklaw24.FilterParts', WHERE WHAT IT READS IS OF BULK AT MOST 1048576: true; the input reads as it did. -/
def filterPartsUptoRow : OpenClaim := { program := "ytmoflbpglkeikaa", sum := "e79e80187bf3d6c8b1a6c23345fb4813eebe4a527f2420624646e84d7e0175a4", func := "cashbook/cashbooklaw24.FilterParts", spec := "filterParts", unfollowed := true, recurses := true, apart := false, narrowed := true }
def FilterPartsUptoSaid : Prop := filterPartsUptoRow.holds Try.pinned (OpenSpec.upto filterPartsSpec)

/-- 'cashbooklaw24.FilterEnds', WHERE WHAT IT READS IS OF BULK AT MOST 1048576: true; the input reads as it did. -/
def filterEndsUptoRow : OpenClaim := { program := "ytmoflbpglkeikaa", sum := "e79e80187bf3d6c8b1a6c23345fb4813eebe4a527f2420624646e84d7e0175a4", func := "cashbook/cashbooklaw24.FilterEnds", spec := "filterEnds", unfollowed := true, recurses := true, apart := false, narrowed := true }
def FilterEndsUptoSaid : Prop := filterEndsUptoRow.holds Try.pinned (OpenSpec.upto filterEndsSpec)

end Rows
end Go.Proofs.Ytmoflbpglkeikaa
