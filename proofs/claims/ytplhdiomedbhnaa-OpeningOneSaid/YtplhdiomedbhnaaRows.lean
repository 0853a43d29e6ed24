/-
  No cell of these rows narrows 'for every input' (looked for: loops, veiled, ifaces, maps, wideKeys, modest, calm, conditions, laid).
  DERIVED. THE GIVEN ROWS OF THIS SEAT. 4 by the template 'for every input the law returns true; each argument reads behind the call as it read before'; 0 by the template 'total and deterministic' (their statements: YtplhdiomedbhnaaTotals.lean).
  GIVEN WITH THE SEED: the statements are not yours to turn. If you find one false, say at which input.
  Laid BY PROGRAM, IN A SANDBOX (cutbox-rows.mjs): the forced cells as the released guide's own fill.sh prints them over the translation 4d8d9745098db0af… (all of the seat's roots in one cut). By AI agents, Wed Nov 11 2026. No macro, syntax, notation, axiom, sorry.
-/
import Derived.Test.YtplhdiomedbhnaaChecked
import GoSem.Claim
import GoSem.ClaimJoined
import GoSem.ClaimMapViews
import Derived.JoinedTies
import Derived.KernelRfl
namespace Go.Proofs.Ytplhdiomedbhnaa
/- THE CELL 'sum', in the pinned program and in every row, IS THE sha256 OF THE DUMP (.gsa) THAT YtplhdiomedbhnaaProg.lean LOADS. Nothing in Lean hashes anything: it is a label: what it is worth is what the hold of that sum in a sandbox is worth. -/
noncomputable def Try.pinned : Pinned := { name := "ytplhdiomedbhnaa", sum := "4d8d9745098db0afadcedccb0af5a7a1fb2d6a4b6ba590ca5f6c410a42d4b41e", checked := Try.checked }
namespace Rows
def none {H : Type} : Left H := { results := [], args := [] }

/-- 'cashbooklaw17.OpeningGood': WHATEVER THE INPUT: true; the input reads as it did. -/
def openingGoodSpec : ChangeSpec := { name := "openingGood", fn := fun _ => fun
  | [d1, d2] => { results := [.lit (.bool true)], args := [d1, d2] }
  | _ => none }
def openingGoodRow : OpenClaim := { program := "ytplhdiomedbhnaa", sum := "4d8d9745098db0afadcedccb0af5a7a1fb2d6a4b6ba590ca5f6c410a42d4b41e", func := "cashbook/cashbooklaw17.OpeningGood", spec := "openingGood", apart := false }
def OpeningGoodSaid : Prop := openingGoodRow.holds Try.pinned (OpenSpec.ofChange openingGoodSpec)

/-- ITS FALSE NEIGHBOUR: 'it returns false'. Refute it at one input. -/
def openingGoodWrong : ChangeSpec := { name := "openingGood", fn := fun _ => fun
  | [d1, d2] => { results := [.lit (.bool false)], args := [d1, d2] }
  | _ => none }
def OpeningGoodWrongFalsely : Prop := openingGoodRow.holds Try.pinned (OpenSpec.ofChange openingGoodWrong)

/-- 'cashbooklaw17.OpeningOne': WHATEVER THE INPUT: true; the input reads as it did. -/
def openingOneSpec : ChangeSpec := { name := "openingOne", fn := fun _ => fun
  | [d1, d2] => { results := [.lit (.bool true)], args := [d1, d2] }
  | _ => none }
def openingOneRow : OpenClaim := { program := "ytplhdiomedbhnaa", sum := "4d8d9745098db0afadcedccb0af5a7a1fb2d6a4b6ba590ca5f6c410a42d4b41e", func := "cashbook/cashbooklaw17.OpeningOne", spec := "openingOne", apart := false }
def OpeningOneSaid : Prop := openingOneRow.holds Try.pinned (OpenSpec.ofChange openingOneSpec)

/-- ITS FALSE NEIGHBOUR: 'it returns false'. Refute it at one input. -/
def openingOneWrong : ChangeSpec := { name := "openingOne", fn := fun _ => fun
  | [d1, d2] => { results := [.lit (.bool false)], args := [d1, d2] }
  | _ => none }
def OpeningOneWrongFalsely : Prop := openingOneRow.holds Try.pinned (OpenSpec.ofChange openingOneWrong)

/-- 'cashbooklaw17.OpeningVerdicts': WHATEVER THE INPUT: true; the input reads as it did. -/
def openingVerdictsSpec : ChangeSpec := { name := "openingVerdicts", fn := fun _ => fun
  | [d1, d2, d3] => { results := [.lit (.bool true)], args := [d1, d2, d3] }
  | _ => none }
def openingVerdictsRow : OpenClaim := { program := "ytplhdiomedbhnaa", sum := "4d8d9745098db0afadcedccb0af5a7a1fb2d6a4b6ba590ca5f6c410a42d4b41e", func := "cashbook/cashbooklaw17.OpeningVerdicts", spec := "openingVerdicts", apart := false }
def OpeningVerdictsSaid : Prop := openingVerdictsRow.holds Try.pinned (OpenSpec.ofChange openingVerdictsSpec)

/-- ITS FALSE NEIGHBOUR: 'it returns false'. Refute it at one input. -/
def openingVerdictsWrong : ChangeSpec := { name := "openingVerdicts", fn := fun _ => fun
  | [d1, d2, d3] => { results := [.lit (.bool false)], args := [d1, d2, d3] }
  | _ => none }
def OpeningVerdictsWrongFalsely : Prop := openingVerdictsRow.holds Try.pinned (OpenSpec.ofChange openingVerdictsWrong)

/-- 'cashbooklaw17.OpeningAgain': WHATEVER THE INPUT: true; the input reads as it did. -/
def openingAgainSpec : ChangeSpec := { name := "openingAgain", fn := fun _ => fun
  | [d1, d2, d3] => { results := [.lit (.bool true)], args := [d1, d2, d3] }
  | _ => none }
def openingAgainRow : OpenClaim := { program := "ytplhdiomedbhnaa", sum := "4d8d9745098db0afadcedccb0af5a7a1fb2d6a4b6ba590ca5f6c410a42d4b41e", func := "cashbook/cashbooklaw17.OpeningAgain", spec := "openingAgain", apart := false }
def OpeningAgainSaid : Prop := openingAgainRow.holds Try.pinned (OpenSpec.ofChange openingAgainSpec)

/-- ITS FALSE NEIGHBOUR: 'it returns false'. Refute it at one input. -/
def openingAgainWrong : ChangeSpec := { name := "openingAgain", fn := fun _ => fun
  | [d1, d2, d3] => { results := [.lit (.bool false)], args := [d1, d2, d3] }
  | _ => none }
def OpeningAgainWrongFalsely : Prop := openingAgainRow.holds Try.pinned (OpenSpec.ofChange openingAgainWrong)

/- THE SECOND FORM. 'bulk': how many values and letters a reading holds, each counted each time it is reached (what is shared counts as often as it is met; a slice's spare places count too). A statement '..UptoSaid' is the law's where the arguments, and the package variables that the reading takes, are together of bulk at most 1048576: NARROWER than '..Said'. Prove '..Said' where nothing that the law and all that it calls make is longer than what came in: it says more and counts as full. Else prove '..UptoSaid'. A law counts once. -/
mutual
def uptoBulk {H : Type} : DataW H → Nat
  | .lit (.string bytes) => bytes.length + 1
  | .lit _ => 1
  | .nil => 1
  | .ptr d => uptoBulk d + 1
  | .slice elems spare => uptoBulkAll elems + uptoBulkAll spare + 1
  | .agg parts => uptoBulkAll parts + 1
  | .iface _ d => uptoBulk d + 1
  | .map entries => uptoBulkEntries entries + 1
  | .held _ => 1
def uptoBulkAll {H : Type} : List (DataW H) → Nat
  | [] => 0
  | d :: r => uptoBulk d + uptoBulkAll r
def uptoBulkEntries {H : Type} : List (Lit × DataW H) → Nat
  | [] => 0
  | x :: r => uptoBulkEntry x + uptoBulkEntries r
def uptoBulkEntry {H : Type} : Lit × DataW H → Nat
  | (.string bytes, d) => bytes.length + uptoBulk d + 1
  | (_, d) => uptoBulk d + 1
 end
def uptoSmall : (H : Type) → List (DataW H) → Bool := fun _ ds => decide (uptoBulkAll ds ≤ 1048576)
def OpenSpec.upto (s : _root_.Go.ChangeSpec) : _root_.Go.OpenSpec := { _root_.Go.OpenSpec.ofChange s with cond := some uptoSmall }

/-- 'cashbooklaw17.OpeningGood', WHERE WHAT IT READS IS OF BULK AT MOST 1048576: true; the input reads as it did. -/
def openingGoodUptoRow : OpenClaim := { program := "ytplhdiomedbhnaa", sum := "4d8d9745098db0afadcedccb0af5a7a1fb2d6a4b6ba590ca5f6c410a42d4b41e", func := "cashbook/cashbooklaw17.OpeningGood", spec := "openingGood", apart := false, narrowed := true }
def OpeningGoodUptoSaid : Prop := openingGoodUptoRow.holds Try.pinned (OpenSpec.upto openingGoodSpec)

/-- 'cashbooklaw17.OpeningOne', WHERE WHAT IT READS IS OF BULK AT MOST 1048576: true; the input reads as it did. -/
def openingOneUptoRow : OpenClaim := { program := "ytplhdiomedbhnaa", sum := "4d8d9745098db0afadcedccb0af5a7a1fb2d6a4b6ba590ca5f6c410a42d4b41e", func := "cashbook/cashbooklaw17.OpeningOne", spec := "openingOne", apart := false, narrowed := true }
def OpeningOneUptoSaid : Prop := openingOneUptoRow.holds Try.pinned (OpenSpec.upto openingOneSpec)

/-- 'cashbooklaw17.OpeningVerdicts', WHERE WHAT IT READS IS OF BULK AT MOST 1048576: true; the input reads as it did. -/
def openingVerdictsUptoRow : OpenClaim := { program := "ytplhdiomedbhnaa", sum := "4d8d9745098db0afadcedccb0af5a7a1fb2d6a4b6ba590ca5f6c410a42d4b41e", func := "cashbook/cashbooklaw17.OpeningVerdicts", spec := "openingVerdicts", apart := false, narrowed := true }
def OpeningVerdictsUptoSaid : Prop := openingVerdictsUptoRow.holds Try.pinned (OpenSpec.upto openingVerdictsSpec)

/-- 'cashbooklaw17.OpeningAgain', WHERE WHAT IT READS IS OF BULK AT MOST 1048576: true; the input reads as it did. -/
def openingAgainUptoRow : OpenClaim := { program := "ytplhdiomedbhnaa", sum := "4d8d9745098db0afadcedccb0af5a7a1fb2d6a4b6ba590ca5f6c410a42d4b41e", func := "cashbook/cashbooklaw17.OpeningAgain", spec := "openingAgain", apart := false, narrowed := true }
def OpeningAgainUptoSaid : Prop := openingAgainUptoRow.holds Try.pinned (OpenSpec.upto openingAgainSpec)

end Rows
end Go.Proofs.Ytplhdiomedbhnaa
