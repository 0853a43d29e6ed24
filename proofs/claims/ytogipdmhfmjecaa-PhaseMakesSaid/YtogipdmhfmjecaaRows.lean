/-
  No cell of these rows narrows 'for every input' (looked for: loops, veiled, ifaces, maps, wideKeys, modest, calm, conditions, laid).
  DERIVED. THE GIVEN ROWS OF THIS SEAT. 3 by the template 'for every input the law returns true; each argument reads behind the call as it read before'; 0 by the template 'total and deterministic' (their statements: YtogipdmhfmjecaaTotals.lean).
  GIVEN WITH THE SEED: the statements are not yours to turn. If you find one false, say at which input.
  Laid BY PROGRAM, IN A SANDBOX (cutbox-rows.mjs): the forced cells as the released guide's own fill.sh prints them over the translation 07f1fa52d5add193… (all of the seat's roots in one cut). By AI agents, Wed Nov 11 2026. No macro, syntax, notation, axiom, sorry.
-/
import Derived.Test.YtogipdmhfmjecaaChecked
import GoSem.Claim
import GoSem.ClaimJoined
import GoSem.ClaimMapViews
import Derived.JoinedTies
import Derived.KernelRfl
namespace Go.Proofs.Ytogipdmhfmjecaa
/- THE CELL 'sum', in the pinned program and in every row, IS THE sha256 OF THE DUMP (.gsa) THAT YtogipdmhfmjecaaProg.lean LOADS. Nothing in Lean hashes anything: it is a label: what it is worth is what the hold of that sum in a sandbox is worth. -/
noncomputable def Try.pinned : Pinned := { name := "ytogipdmhfmjecaa", sum := "07f1fa52d5add1931ab541c58870ac9892f81c684ffa10f95a7d485455eecb7a", checked := Try.checked }
namespace Rows
def none {H : Type} : Left H := { results := [], args := [] }

/-- 'cashbooklaw20.PhaseTimes': WHATEVER THE INPUT: true; the input reads as it did. -/
def phaseTimesSpec : ChangeSpec := { name := "phaseTimes", fn := fun _ => fun
  | [d1, d2] => { results := [.lit (.bool true)], args := [d1, d2] }
  | _ => none }
def phaseTimesRow : OpenClaim := { program := "ytogipdmhfmjecaa", sum := "07f1fa52d5add1931ab541c58870ac9892f81c684ffa10f95a7d485455eecb7a", func := "cashbook/cashbooklaw20.PhaseTimes", spec := "phaseTimes", apart := false }
def PhaseTimesSaid : Prop := phaseTimesRow.holds Try.pinned (OpenSpec.ofChange phaseTimesSpec)

/-- ITS FALSE NEIGHBOUR: 'it returns false'. Refute it at one input. -/
def phaseTimesWrong : ChangeSpec := { name := "phaseTimes", fn := fun _ => fun
  | [d1, d2] => { results := [.lit (.bool false)], args := [d1, d2] }
  | _ => none }
def PhaseTimesWrongFalsely : Prop := phaseTimesRow.holds Try.pinned (OpenSpec.ofChange phaseTimesWrong)

/-- 'cashbooklaw20.PhaseMakes': WHATEVER THE INPUT: true; the input reads as it did. -/
def phaseMakesSpec : ChangeSpec := { name := "phaseMakes", fn := fun _ => fun
  | [d1, d2, d3] => { results := [.lit (.bool true)], args := [d1, d2, d3] }
  | _ => none }
def phaseMakesRow : OpenClaim := { program := "ytogipdmhfmjecaa", sum := "07f1fa52d5add1931ab541c58870ac9892f81c684ffa10f95a7d485455eecb7a", func := "cashbook/cashbooklaw20.PhaseMakes", spec := "phaseMakes", apart := false }
def PhaseMakesSaid : Prop := phaseMakesRow.holds Try.pinned (OpenSpec.ofChange phaseMakesSpec)

/-- ITS FALSE NEIGHBOUR: 'it returns false'. Refute it at one input. -/
def phaseMakesWrong : ChangeSpec := { name := "phaseMakes", fn := fun _ => fun
  | [d1, d2, d3] => { results := [.lit (.bool false)], args := [d1, d2, d3] }
  | _ => none }
def PhaseMakesWrongFalsely : Prop := phaseMakesRow.holds Try.pinned (OpenSpec.ofChange phaseMakesWrong)

/-- 'cashbooklaw20.PhaseOnce': WHATEVER THE INPUT: true; the input reads as it did. -/
def phaseOnceSpec : ChangeSpec := { name := "phaseOnce", fn := fun _ => fun
  | [d] => { results := [.lit (.bool true)], args := [d] }
  | _ => none }
def phaseOnceRow : OpenClaim := { program := "ytogipdmhfmjecaa", sum := "07f1fa52d5add1931ab541c58870ac9892f81c684ffa10f95a7d485455eecb7a", func := "cashbook/cashbooklaw20.PhaseOnce", spec := "phaseOnce", inPlace := ["math/bits.Add64", "math/bits.Sub64"], unfollowed := true, recurses := true, apart := false }
def PhaseOnceSaid : Prop := phaseOnceRow.holds Try.pinned (OpenSpec.ofChange phaseOnceSpec)

/-- ITS FALSE NEIGHBOUR: 'it returns false'. Refute it at one input. -/
def phaseOnceWrong : ChangeSpec := { name := "phaseOnce", fn := fun _ => fun
  | [d] => { results := [.lit (.bool false)], args := [d] }
  | _ => none }
def PhaseOnceWrongFalsely : Prop := phaseOnceRow.holds Try.pinned (OpenSpec.ofChange phaseOnceWrong)

/- THE SECOND FORM. 'bulk': how many values and letters a reading holds, each counted each time it is reached (what is shared counts as often as it is met; a slice's spare places count too). A statement '..UptoSaid' is the law's where the arguments, and the package variables that the reading takes, are together of bulk at most 1048576: NARROWER than '..Said'. Prove '..Said' where nothing that the law and all that it calls make is longer than what came in: it says more and counts as full. Else prove '..UptoSaid'. A law counts once. -/
mutual
def uptoBulk {H : Type} : DataW H → Nat
  | .lit (.string bytes) => bytes.length + 1
  | .lit _ => 1
  | .nil => 1
  | .ptr d => uptoBulk d + 1
  | .slice elems spare => uptoBulkAll elems + uptoBulkAll spare + 1
  | .agg parts => uptoBulkAll parts + 1
  | .iface _ d => uptoBulk d + 1
  | .map entries => uptoBulkEntries entries + 1
  | .held _ => 1
def uptoBulkAll {H : Type} : List (DataW H) → Nat
  | [] => 0
  | d :: r => uptoBulk d + uptoBulkAll r
def uptoBulkEntries {H : Type} : List (Lit × DataW H) → Nat
  | [] => 0
  | x :: r => uptoBulkEntry x + uptoBulkEntries r
def uptoBulkEntry {H : Type} : Lit × DataW H → Nat
  | (.string bytes, d) => bytes.length + uptoBulk d + 1
  | (_, d) => uptoBulk d + 1
 end
def uptoSmall : (H : Type) → List (DataW H) → Bool := fun _ ds => decide (uptoBulkAll ds ≤ 1048576)
def OpenSpec.upto (s : _root_.Go.ChangeSpec) : _root_.Go.OpenSpec := { _root_.Go.OpenSpec.ofChange s with cond := some uptoSmall }

/-- 'cashbooklaw20.PhaseTimes', WHERE WHAT IT READS IS OF BULK AT MOST 1048576: true; the input reads as it did. -/
def phaseTimesUptoRow : OpenClaim := { program := "ytogipdmhfmjecaa", sum := "07f1fa52d5add1931ab541c58870ac9892f81c684ffa10f95a7d485455eecb7a", func := "cashbook/cashbooklaw20.PhaseTimes", spec := "phaseTimes", apart := false, narrowed := true }
def PhaseTimesUptoSaid : Prop := phaseTimesUptoRow.holds Try.pinned (OpenSpec.upto phaseTimesSpec)

/-- 'cashbooklaw20.PhaseMakes', WHERE WHAT IT READS IS OF BULK AT MOST 1048576: true; the input reads as it did. -/
def phaseMakesUptoRow : OpenClaim := { program := "ytogipdmhfmjecaa", sum := "07f1fa52d5add1931ab541c58870ac9892f81c684ffa10f95a7d485455eecb7a", func := "cashbook/cashbooklaw20.PhaseMakes", spec := "phaseMakes", apart := false, narrowed := true }
def PhaseMakesUptoSaid : Prop := phaseMakesUptoRow.holds Try.pinned (OpenSpec.upto phaseMakesSpec)

/-- 'cashbooklaw20.PhaseOnce', WHERE WHAT IT READS IS OF BULK AT MOST 1048576: true; the input reads as it did. -/
def phaseOnceUptoRow : OpenClaim := { program := "ytogipdmhfmjecaa", sum := "07f1fa52d5add1931ab541c58870ac9892f81c684ffa10f95a7d485455eecb7a", func := "cashbook/cashbooklaw20.PhaseOnce", spec := "phaseOnce", inPlace := ["math/bits.Add64", "math/bits.Sub64"], unfollowed := true, recurses := true, apart := false, narrowed := true }
def PhaseOnceUptoSaid : Prop := phaseOnceUptoRow.holds Try.pinned (OpenSpec.upto phaseOnceSpec)

end Rows
end Go.Proofs.Ytogipdmhfmjecaa
