/-
  No cell of these rows narrows 'for every input' (looked for: loops, veiled, ifaces, maps, wideKeys, modest, calm, conditions, laid).
  DERIVED. THE GIVEN ROWS OF THIS SEAT. 5 by the template 'for every input the law returns true; each argument reads behind the call as it read before'; 0 by the template 'total and deterministic' (their statements: YtlmcneonbdgcnaaTotals.lean).
  GIVEN WITH THE SEED: the statements are not yours to turn. If you find one false, say at which input.
  Laid BY PROGRAM, IN A SANDBOX (cutbox-rows.mjs): the forced cells as the released guide's own fill.sh prints them over the translation 359c730ae4123def… (all of the seat's roots in one cut). By AI agents, Wed Nov 11 2026. No macro, syntax, notation, axiom, sorry.
-/
import Derived.Test.YtlmcneonbdgcnaaChecked
import GoSem.Claim
import GoSem.ClaimJoined
import GoSem.ClaimMapViews
import Derived.JoinedTies
import Derived.KernelRfl
namespace Go.Proofs.Ytlmcneonbdgcnaa
/- THE CELL 'sum', in the pinned program and in every row, IS THE sha256 OF THE DUMP (.gsa) THAT YtlmcneonbdgcnaaProg.lean LOADS. Nothing in Lean hashes anything: it is a label: what it is worth is what the hold of that sum in a sandbox is worth. -/
noncomputable def Try.pinned : Pinned := { name := "ytlmcneonbdgcnaa", sum := "359c730ae4123def2fa8ff49e65b54de21546d904e524d6bf3baa881e83e80b1", checked := Try.checked }
namespace Rows
def none {H : Type} : Left H := { results := [], args := [] }

/-- 'cashbooklaw01.WideSums': WHATEVER THE INPUT: true; the input reads as it did. -/
def wideSumsSpec : ChangeSpec := { name := "wideSums", fn := fun _ => fun
  | [d] => { results := [.lit (.bool true)], args := [d] }
  | _ => none }
def wideSumsRow : OpenClaim := { program := "ytlmcneonbdgcnaa", sum := "359c730ae4123def2fa8ff49e65b54de21546d904e524d6bf3baa881e83e80b1", func := "cashbook/cashbooklaw01.WideSums", spec := "wideSums", inPlace := ["math/bits.Add64", "math/bits.Sub64"], apart := false }
def WideSumsSaid : Prop := wideSumsRow.holds Try.pinned (OpenSpec.ofChange wideSumsSpec)

/-- ITS FALSE NEIGHBOUR: 'it returns false'. Refute it at one input. -/
def wideSumsWrong : ChangeSpec := { name := "wideSums", fn := fun _ => fun
  | [d] => { results := [.lit (.bool false)], args := [d] }
  | _ => none }
def WideSumsWrongFalsely : Prop := wideSumsRow.holds Try.pinned (OpenSpec.ofChange wideSumsWrong)

/-- 'cashbooklaw01.WidePlays': WHATEVER THE INPUT: true; the input reads as it did. -/
def widePlaysSpec : ChangeSpec := { name := "widePlays", fn := fun _ => fun
  | [d1, d2] => { results := [.lit (.bool true)], args := [d1, d2] }
  | _ => none }
def widePlaysRow : OpenClaim := { program := "ytlmcneonbdgcnaa", sum := "359c730ae4123def2fa8ff49e65b54de21546d904e524d6bf3baa881e83e80b1", func := "cashbook/cashbooklaw01.WidePlays", spec := "widePlays", inPlace := ["math/bits.Add64", "math/bits.Sub64"], apart := false }
def WidePlaysSaid : Prop := widePlaysRow.holds Try.pinned (OpenSpec.ofChange widePlaysSpec)

/-- ITS FALSE NEIGHBOUR: 'it returns false'. Refute it at one input. -/
def widePlaysWrong : ChangeSpec := { name := "widePlays", fn := fun _ => fun
  | [d1, d2] => { results := [.lit (.bool false)], args := [d1, d2] }
  | _ => none }
def WidePlaysWrongFalsely : Prop := widePlaysRow.holds Try.pinned (OpenSpec.ofChange widePlaysWrong)

/-- 'cashbooklaw01.WideBack': WHATEVER THE INPUT: true; the input reads as it did. -/
def wideBackSpec : ChangeSpec := { name := "wideBack", fn := fun _ => fun
  | [d1, d2] => { results := [.lit (.bool true)], args := [d1, d2] }
  | _ => none }
def wideBackRow : OpenClaim := { program := "ytlmcneonbdgcnaa", sum := "359c730ae4123def2fa8ff49e65b54de21546d904e524d6bf3baa881e83e80b1", func := "cashbook/cashbooklaw01.WideBack", spec := "wideBack", inPlace := ["math/bits.Add64", "math/bits.Sub64"], apart := false }
def WideBackSaid : Prop := wideBackRow.holds Try.pinned (OpenSpec.ofChange wideBackSpec)

/-- ITS FALSE NEIGHBOUR: 'it returns false'. Refute it at one input. -/
def wideBackWrong : ChangeSpec := { name := "wideBack", fn := fun _ => fun
  | [d1, d2] => { results := [.lit (.bool false)], args := [d1, d2] }
  | _ => none }
def WideBackWrongFalsely : Prop := wideBackRow.holds Try.pinned (OpenSpec.ofChange wideBackWrong)

/-- 'cashbooklaw01.WideLeast': WHATEVER THE INPUT: true; the input reads as it did. -/
def wideLeastSpec : ChangeSpec := { name := "wideLeast", fn := fun _ => fun
  | [d] => { results := [.lit (.bool true)], args := [d] }
  | _ => none }
def wideLeastRow : OpenClaim := { program := "ytlmcneonbdgcnaa", sum := "359c730ae4123def2fa8ff49e65b54de21546d904e524d6bf3baa881e83e80b1", func := "cashbook/cashbooklaw01.WideLeast", spec := "wideLeast", inPlace := ["math/bits.Add64", "math/bits.Sub64"], apart := false }
def WideLeastSaid : Prop := wideLeastRow.holds Try.pinned (OpenSpec.ofChange wideLeastSpec)

/-- ITS FALSE NEIGHBOUR: 'it returns false'. Refute it at one input. -/
def wideLeastWrong : ChangeSpec := { name := "wideLeast", fn := fun _ => fun
  | [d] => { results := [.lit (.bool false)], args := [d] }
  | _ => none }
def WideLeastWrongFalsely : Prop := wideLeastRow.holds Try.pinned (OpenSpec.ofChange wideLeastWrong)

/-- 'cashbooklaw01.WideBytes': WHATEVER THE INPUT: true; the input reads as it did. -/
def wideBytesSpec : ChangeSpec := { name := "wideBytes", fn := fun _ => fun
  | [d1, d2, d3] => { results := [.lit (.bool true)], args := [d1, d2, d3] }
  | _ => none }
def wideBytesRow : OpenClaim := { program := "ytlmcneonbdgcnaa", sum := "359c730ae4123def2fa8ff49e65b54de21546d904e524d6bf3baa881e83e80b1", func := "cashbook/cashbooklaw01.WideBytes", spec := "wideBytes", inPlace := ["math/bits.Add64", "math/bits.Sub64"], apart := false }
def WideBytesSaid : Prop := wideBytesRow.holds Try.pinned (OpenSpec.ofChange wideBytesSpec)

/-- ITS FALSE NEIGHBOUR: 'it returns false'. Refute it at one input. -/
def wideBytesWrong : ChangeSpec := { name := "wideBytes", fn := fun _ => fun
  | [d1, d2, d3] => { results := [.lit (.bool false)], args := [d1, d2, d3] }
  | _ => none }
def WideBytesWrongFalsely : Prop := wideBytesRow.holds Try.pinned (OpenSpec.ofChange wideBytesWrong)

/- THE SECOND FORM. 'bulk': how many values and letters a reading holds, each counted each time it is reached (what is shared counts as often as it is met; a slice's spare places count too). A statement '..UptoSaid' is the law's where the arguments, and the package variables that the reading takes, are together of bulk at most 1048576: NARROWER than '..Said'. Prove '..Said' where nothing that the law and all that it calls make is longer than what came in: it says more and counts as full. Else prove '..UptoSaid'. A law counts once. -/
mutual
def uptoBulk {H : Type} : DataW H → Nat
  | .lit (.string bytes) => bytes.length + 1
  | .lit _ => 1
  | .nil => 1
  | .ptr d => uptoBulk d + 1
  | .slice elems spare => uptoBulkAll elems + uptoBulkAll spare + 1
  | .agg parts => uptoBulkAll parts + 1
  | .iface _ d => uptoBulk d + 1
  | .map entries => uptoBulkEntries entries + 1
  | .held _ => 1
def uptoBulkAll {H : Type} : List (DataW H) → Nat
  | [] => 0
  | d :: r => uptoBulk d + uptoBulkAll r
def uptoBulkEntries {H : Type} : List (Lit × DataW H) → Nat
  | [] => 0
  | x :: r => uptoBulkEntry x + uptoBulkEntries r
def uptoBulkEntry {H : Type} : Lit × DataW H → Nat
  | (.string bytes, d) => bytes.length + uptoBulk d + 1
  | (_, d) => uptoBulk d + 1
 end
def uptoSmall : (H : Type) → List (DataW H) → Bool := fun _ ds => decide (uptoBulkAll ds ≤ 1048576)
def OpenSpec.upto (s : _root_.Go.ChangeSpec) : _root_.Go.OpenSpec := { _root_.Go.OpenSpec.ofChange s with cond := some uptoSmall }

/-- 'cashbooklaw01.WideSums', WHERE WHAT IT READS IS OF BULK AT MOST 1048576: true; the input reads as it did. -/
def wideSumsUptoRow : OpenClaim := { program := "ytlmcneonbdgcnaa", sum := "359c730ae4123def2fa8ff49e65b54de21546d904e524d6bf3baa881e83e80b1", func := "cashbook/cashbooklaw01.WideSums", spec := "wideSums", inPlace := ["math/bits.Add64", "math/bits.Sub64"], apart := false, narrowed := true }
def WideSumsUptoSaid : Prop := wideSumsUptoRow.holds Try.pinned (OpenSpec.upto wideSumsSpec)

/-- 'cashbooklaw01.WidePlays', WHERE WHAT IT READS IS OF BULK AT MOST 1048576: true; the input reads as it did. -/
def widePlaysUptoRow : OpenClaim := { program := "ytlmcneonbdgcnaa", sum := "359c730ae4123def2fa8ff49e65b54de21546d904e524d6bf3baa881e83e80b1", func := "cashbook/cashbooklaw01.WidePlays", spec := "widePlays", inPlace := ["math/bits.Add64", "math/bits.Sub64"], apart := false, narrowed := true }
def WidePlaysUptoSaid : Prop := widePlaysUptoRow.holds Try.pinned (OpenSpec.upto widePlaysSpec)

/-- 'cashbooklaw01.WideBack', WHERE WHAT IT READS IS OF BULK AT MOST 1048576: true; the input reads as it did. -/
def wideBackUptoRow : OpenClaim := { program := "ytlmcneonbdgcnaa", sum := "359c730ae4123def2fa8ff49e65b54de21546d904e524d6bf3baa881e83e80b1", func := "cashbook/cashbooklaw01.WideBack", spec := "wideBack", inPlace := ["math/bits.Add64", "math/bits.Sub64"], apart := false, narrowed := true }
def WideBackUptoSaid : Prop := wideBackUptoRow.holds Try.pinned (OpenSpec.upto wideBackSpec)

/-- 'cashbooklaw01.WideLeast', WHERE WHAT IT READS IS OF BULK AT MOST 1048576: true; the input reads as it did. -/
def wideLeastUptoRow : OpenClaim := { program := "ytlmcneonbdgcnaa", sum := "359c730ae4123def2fa8ff49e65b54de21546d904e524d6bf3baa881e83e80b1", func := "cashbook/cashbooklaw01.WideLeast", spec := "wideLeast", inPlace := ["math/bits.Add64", "math/bits.Sub64"], apart := false, narrowed := true }
def WideLeastUptoSaid : Prop := wideLeastUptoRow.holds Try.pinned (OpenSpec.upto wideLeastSpec)

/-- 'cashbooklaw01.WideBytes', WHERE WHAT IT READS IS OF BULK AT MOST 1048576: true; the input reads as it did. -/
def wideBytesUptoRow : OpenClaim := { program := "ytlmcneonbdgcnaa", sum := "359c730ae4123def2fa8ff49e65b54de21546d904e524d6bf3baa881e83e80b1", func := "cashbook/cashbooklaw01.WideBytes", spec := "wideBytes", inPlace := ["math/bits.Add64", "math/bits.Sub64"], apart := false, narrowed := true }
def WideBytesUptoSaid : Prop := wideBytesUptoRow.holds Try.pinned (OpenSpec.upto wideBytesSpec)

end Rows
end Go.Proofs.Ytlmcneonbdgcnaa
