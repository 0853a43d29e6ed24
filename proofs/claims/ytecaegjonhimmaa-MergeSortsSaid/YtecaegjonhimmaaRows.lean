/-
  No cell of these rows narrows 'for every input' (looked for: loops, veiled, ifaces, maps, wideKeys, modest, calm, conditions, laid).
  DERIVED. THE GIVEN ROWS OF THIS SEAT. 4 by the template 'for every input the law returns true; each argument reads behind the call as it read before'; 0 by the template 'total and deterministic' (their statements: YtecaegjonhimmaaTotals.lean).
  GIVEN WITH THE SEED: the statements are not yours to turn. If you find one false, say at which input.
  Laid BY PROGRAM, IN A SANDBOX (cutbox-rows.mjs): the forced cells as the released guide's own fill.sh prints them over the translation 3651065e332519eb… (all of the seat's roots in one cut). By AI agents, Wed Nov 11 2026. No macro, syntax, notation, axiom, sorry.
-/
import Derived.Test.YtecaegjonhimmaaChecked
import GoSem.Claim
import GoSem.ClaimJoined
import GoSem.ClaimMapViews
import Derived.JoinedTies
import Derived.KernelRfl
namespace Go.Proofs.Ytecaegjonhimmaa
/- THE CELL 'sum', in the pinned program and in every row, IS THE sha256 OF THE DUMP (.gsa) THAT YtecaegjonhimmaaProg.lean LOADS. Nothing in Lean hashes anything: it is a label: what it is worth is what the hold of that sum in a sandbox is worth. -/
noncomputable def Try.pinned : Pinned := { name := "ytecaegjonhimmaa", sum := "3651065e332519eb4bfd9407f9aebbb867b3b476aa61c59657af2fd8bf785f6e", checked := Try.checked }
namespace Rows
def none {H : Type} : Left H := { results := [], args := [] }

/-- 'cashbooklaw14.MergeAll': WHATEVER THE INPUT: true; the input reads as it did. -/
def mergeAllSpec : ChangeSpec := { name := "mergeAll", fn := fun _ => fun
  | [d1, d2] => { results := [.lit (.bool true)], args := [d1, d2] }
  | _ => none }
def mergeAllRow : OpenClaim := { program := "ytecaegjonhimmaa", sum := "3651065e332519eb4bfd9407f9aebbb867b3b476aa61c59657af2fd8bf785f6e", func := "cashbook/cashbooklaw14.MergeAll", spec := "mergeAll", unfollowed := true, recurses := true, apart := false }
def MergeAllSaid : Prop := mergeAllRow.holds Try.pinned (OpenSpec.ofChange mergeAllSpec)

/-- ITS FALSE NEIGHBOUR: 'it returns false'. Refute it at one input. -/
def mergeAllWrong : ChangeSpec := { name := "mergeAll", fn := fun _ => fun
  | [d1, d2] => { results := [.lit (.bool false)], args := [d1, d2] }
  | _ => none }
def MergeAllWrongFalsely : Prop := mergeAllRow.holds Try.pinned (OpenSpec.ofChange mergeAllWrong)

/-- 'cashbooklaw14.MergeMost': WHATEVER THE INPUT: true; the input reads as it did. -/
def mergeMostSpec : ChangeSpec := { name := "mergeMost", fn := fun _ => fun
  | [d1, d2, d3] => { results := [.lit (.bool true)], args := [d1, d2, d3] }
  | _ => none }
def mergeMostRow : OpenClaim := { program := "ytecaegjonhimmaa", sum := "3651065e332519eb4bfd9407f9aebbb867b3b476aa61c59657af2fd8bf785f6e", func := "cashbook/cashbooklaw14.MergeMost", spec := "mergeMost", unfollowed := true, recurses := true, apart := false }
def MergeMostSaid : Prop := mergeMostRow.holds Try.pinned (OpenSpec.ofChange mergeMostSpec)

/-- ITS FALSE NEIGHBOUR: 'it returns false'. Refute it at one input. -/
def mergeMostWrong : ChangeSpec := { name := "mergeMost", fn := fun _ => fun
  | [d1, d2, d3] => { results := [.lit (.bool false)], args := [d1, d2, d3] }
  | _ => none }
def MergeMostWrongFalsely : Prop := mergeMostRow.holds Try.pinned (OpenSpec.ofChange mergeMostWrong)

/-- 'cashbooklaw14.MergeSorts': WHATEVER THE INPUT: true; the input reads as it did. -/
def mergeSortsSpec : ChangeSpec := { name := "mergeSorts", fn := fun _ => fun
  | [d] => { results := [.lit (.bool true)], args := [d] }
  | _ => none }
def mergeSortsRow : OpenClaim := { program := "ytecaegjonhimmaa", sum := "3651065e332519eb4bfd9407f9aebbb867b3b476aa61c59657af2fd8bf785f6e", func := "cashbook/cashbooklaw14.MergeSorts", spec := "mergeSorts", unfollowed := true, recurses := true, apart := false }
def MergeSortsSaid : Prop := mergeSortsRow.holds Try.pinned (OpenSpec.ofChange mergeSortsSpec)

/-- ITS FALSE NEIGHBOUR: 'it returns false'. Refute it at one input. -/
def mergeSortsWrong : ChangeSpec := { name := "mergeSorts", fn := fun _ => fun
  | [d] => { results := [.lit (.bool false)], args := [d] }
  | _ => none }
def MergeSortsWrongFalsely : Prop := mergeSortsRow.holds Try.pinned (OpenSpec.ofChange mergeSortsWrong)

/-- 'cashbooklaw14.MergeLazy': WHATEVER THE INPUT: true; the input reads as it did. -/
def mergeLazySpec : ChangeSpec := { name := "mergeLazy", fn := fun _ => fun
  | [d1, d2, d3] => { results := [.lit (.bool true)], args := [d1, d2, d3] }
  | _ => none }
def mergeLazyRow : OpenClaim := { program := "ytecaegjonhimmaa", sum := "3651065e332519eb4bfd9407f9aebbb867b3b476aa61c59657af2fd8bf785f6e", func := "cashbook/cashbooklaw14.MergeLazy", spec := "mergeLazy", unfollowed := true, recurses := true, apart := false }
def MergeLazySaid : Prop := mergeLazyRow.holds Try.pinned (OpenSpec.ofChange mergeLazySpec)

/-- ITS FALSE NEIGHBOUR: 'it returns false'. Refute it at one input. -/
def mergeLazyWrong : ChangeSpec := { name := "mergeLazy", fn := fun _ => fun
  | [d1, d2, d3] => { results := [.lit (.bool false)], args := [d1, d2, d3] }
  | _ => none }
def MergeLazyWrongFalsely : Prop := mergeLazyRow.holds Try.pinned (OpenSpec.ofChange mergeLazyWrong)

/- THE SECOND FORM. 'bulk': how many values and letters a reading holds, each counted each time it is reached (what is shared counts as often as it is met; a slice's spare places count too). A statement '..UptoSaid' is the law's where the arguments, and the package variables that the reading takes, are together of bulk at most 1048576: NARROWER than '..Said'. Prove '..Said' where nothing that the law and all that it calls make is longer than what came in: it says more and counts as full. Else prove '..UptoSaid'. A law counts once. -/
mutual
def uptoBulk {H : Type} : DataW H → Nat
  | .lit (.string bytes) => bytes.length + 1
  | .lit _ => 1
  | .nil => 1
  | .ptr d => uptoBulk d + 1
  | .slice elems spare => uptoBulkAll elems + uptoBulkAll spare + 1
  | .agg parts => uptoBulkAll parts + 1
  | .iface _ d => uptoBulk d + 1
  | .map entries => uptoBulkEntries entries + 1
  | .held _ => 1
def uptoBulkAll {H : Type} : List (DataW H) → Nat
  | [] => 0
  | d :: r => uptoBulk d + uptoBulkAll r
def uptoBulkEntries {H : Type} : List (Lit × DataW H) → Nat
  | [] => 0
  | x :: r => uptoBulkEntry x + uptoBulkEntries r
def uptoBulkEntry {H : Type} : Lit × DataW H → Nat
  | (.string bytes, d) => bytes.length + uptoBulk d + 1
  | (_, d) => uptoBulk d + 1
 end
def uptoSmall : (H : Type) → List (DataW H) → Bool := fun _ ds => decide (uptoBulkAll ds ≤ 1048576)
def OpenSpec.upto (s : _root_.Go.ChangeSpec) : _root_.Go.OpenSpec := { _root_.Go.OpenSpec.ofChange s with cond := some uptoSmall }

/-- 'cashbooklaw14.MergeAll', WHERE WHAT IT READS IS OF BULK AT MOST 1048576: true; the input reads as it did. -/
def mergeAllUptoRow : OpenClaim := { program := "ytecaegjonhimmaa", sum := "3651065e332519eb4bfd9407f9aebbb867b3b476aa61c59657af2fd8bf785f6e", func := "cashbook/cashbooklaw14.MergeAll", spec := "mergeAll", unfollowed := true, recurses := true, apart := false, narrowed := true }
def MergeAllUptoSaid : Prop := mergeAllUptoRow.holds Try.pinned (OpenSpec.upto mergeAllSpec)

/-- 'cashbooklaw14.MergeMost', WHERE WHAT IT READS IS OF BULK AT MOST 1048576: true; the input reads as it did. -/
def mergeMostUptoRow : OpenClaim := { program := "ytecaegjonhimmaa", sum := "3651065e332519eb4bfd9407f9aebbb867b3b476aa61c59657af2fd8bf785f6e", func := "cashbook/cashbooklaw14.MergeMost", spec := "mergeMost", unfollowed := true, recurses := true, apart := false, narrowed := true }
def MergeMostUptoSaid : Prop := mergeMostUptoRow.holds Try.pinned (OpenSpec.upto mergeMostSpec)

/-- 'cashbooklaw14.MergeSorts', WHERE WHAT IT READS IS OF BULK AT MOST 1048576: true; the input reads as it did. -/
def mergeSortsUptoRow : OpenClaim := { program := "ytecaegjonhimmaa", sum := "3651065e332519eb4bfd9407f9aebbb867b3b476aa61c59657af2fd8bf785f6e", func := "cashbook/cashbooklaw14.MergeSorts", spec := "mergeSorts", unfollowed := true, recurses := true, apart := false, narrowed := true }
def MergeSortsUptoSaid : Prop := mergeSortsUptoRow.holds Try.pinned (OpenSpec.upto mergeSortsSpec)

/-- 'cashbooklaw14.MergeLazy', WHERE WHAT IT READS IS OF BULK AT MOST 1048576: true; the input reads as it did. -/
def mergeLazyUptoRow : OpenClaim := { program := "ytecaegjonhimmaa", sum := "3651065e332519eb4bfd9407f9aebbb867b3b476aa61c59657af2fd8bf785f6e", func := "cashbook/cashbooklaw14.MergeLazy", spec := "mergeLazy", unfollowed := true, recurses := true, apart := false, narrowed := true }
def MergeLazyUptoSaid : Prop := mergeLazyUptoRow.holds Try.pinned (OpenSpec.upto mergeLazySpec)

end Rows
end Go.Proofs.Ytecaegjonhimmaa
