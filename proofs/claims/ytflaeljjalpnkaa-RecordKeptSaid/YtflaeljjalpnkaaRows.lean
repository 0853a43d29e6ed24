/-
  No cell of these rows narrows 'for every input' (looked for: loops, veiled, ifaces, maps, wideKeys, modest, calm, conditions, laid).
  DERIVED. THE GIVEN ROWS OF THIS SEAT. 7 by the template 'for every input the law returns true; each argument reads behind the call as it read before'; 0 by the template 'total and deterministic' (their statements: YtflaeljjalpnkaaTotals.lean).
  GIVEN WITH THE SEED: the statements are not yours to turn. If you find one false, say at which input.
  Laid BY PROGRAM, IN A SANDBOX (cutbox-rows.mjs): the forced cells as the released guide's own fill.sh prints them over the translation 7be9398195729de2… (all of the seat's roots in one cut). By AI agents, Wed Nov 11 2026. No macro, syntax, notation, axiom, sorry.
-/
import Derived.Test.YtflaeljjalpnkaaChecked
import GoSem.Claim
import GoSem.ClaimJoined
import GoSem.ClaimMapViews
import Derived.JoinedTies
import Derived.KernelRfl
namespace Go.Proofs.Ytflaeljjalpnkaa
/- THE CELL 'sum', in the pinned program and in every row, IS THE sha256 OF THE DUMP (.gsa) THAT YtflaeljjalpnkaaProg.lean LOADS. Nothing in Lean hashes anything: it is a label: what it is worth is what the hold of that sum in a sandbox is worth. -/
noncomputable def Try.pinned : Pinned := { name := "ytflaeljjalpnkaa", sum := "7be9398195729de2b3b3bbe8e06a9b120033ceb6958fc9f5c1b5ecf6add0ae8e", checked := Try.checked }
namespace Rows
def none {H : Type} : Left H := { results := [], args := [] }

/-- 'cashbooklaw15.RecordOrder': WHATEVER THE INPUT: true; the input reads as it did. -/
def recordOrderSpec : ChangeSpec := { name := "recordOrder", fn := fun _ => fun
  | [d1, d2, d3] => { results := [.lit (.bool true)], args := [d1, d2, d3] }
  | _ => none }
def recordOrderRow : OpenClaim := { program := "ytflaeljjalpnkaa", sum := "7be9398195729de2b3b3bbe8e06a9b120033ceb6958fc9f5c1b5ecf6add0ae8e", func := "cashbook/cashbooklaw15.RecordOrder", spec := "recordOrder", unfollowed := true, recurses := true, apart := false }
def RecordOrderSaid : Prop := recordOrderRow.holds Try.pinned (OpenSpec.ofChange recordOrderSpec)

/-- ITS FALSE NEIGHBOUR: 'it returns false'. Refute it at one input. -/
def recordOrderWrong : ChangeSpec := { name := "recordOrder", fn := fun _ => fun
  | [d1, d2, d3] => { results := [.lit (.bool false)], args := [d1, d2, d3] }
  | _ => none }
def RecordOrderWrongFalsely : Prop := recordOrderRow.holds Try.pinned (OpenSpec.ofChange recordOrderWrong)

/-- 'cashbooklaw15.RecordSmall': WHATEVER THE INPUT: true; the input reads as it did. -/
def recordSmallSpec : ChangeSpec := { name := "recordSmall", fn := fun _ => fun
  | [d1, d2] => { results := [.lit (.bool true)], args := [d1, d2] }
  | _ => none }
def recordSmallRow : OpenClaim := { program := "ytflaeljjalpnkaa", sum := "7be9398195729de2b3b3bbe8e06a9b120033ceb6958fc9f5c1b5ecf6add0ae8e", func := "cashbook/cashbooklaw15.RecordSmall", spec := "recordSmall", apart := false }
def RecordSmallSaid : Prop := recordSmallRow.holds Try.pinned (OpenSpec.ofChange recordSmallSpec)

/-- ITS FALSE NEIGHBOUR: 'it returns false'. Refute it at one input. -/
def recordSmallWrong : ChangeSpec := { name := "recordSmall", fn := fun _ => fun
  | [d1, d2] => { results := [.lit (.bool false)], args := [d1, d2] }
  | _ => none }
def RecordSmallWrongFalsely : Prop := recordSmallRow.holds Try.pinned (OpenSpec.ofChange recordSmallWrong)

/-- 'cashbooklaw15.RecordAccounts': WHATEVER THE INPUT: true; the input reads as it did. -/
def recordAccountsSpec : ChangeSpec := { name := "recordAccounts", fn := fun _ => fun
  | [d] => { results := [.lit (.bool true)], args := [d] }
  | _ => none }
def recordAccountsRow : OpenClaim := { program := "ytflaeljjalpnkaa", sum := "7be9398195729de2b3b3bbe8e06a9b120033ceb6958fc9f5c1b5ecf6add0ae8e", func := "cashbook/cashbooklaw15.RecordAccounts", spec := "recordAccounts", apart := false }
def RecordAccountsSaid : Prop := recordAccountsRow.holds Try.pinned (OpenSpec.ofChange recordAccountsSpec)

/-- ITS FALSE NEIGHBOUR: 'it returns false'. Refute it at one input. -/
def recordAccountsWrong : ChangeSpec := { name := "recordAccounts", fn := fun _ => fun
  | [d] => { results := [.lit (.bool false)], args := [d] }
  | _ => none }
def RecordAccountsWrongFalsely : Prop := recordAccountsRow.holds Try.pinned (OpenSpec.ofChange recordAccountsWrong)

/-- 'cashbooklaw15.RecordReads': WHATEVER THE INPUT: true; the input reads as it did. -/
def recordReadsSpec : ChangeSpec := { name := "recordReads", fn := fun _ => fun
  | [d] => { results := [.lit (.bool true)], args := [d] }
  | _ => none }
def recordReadsRow : OpenClaim := { program := "ytflaeljjalpnkaa", sum := "7be9398195729de2b3b3bbe8e06a9b120033ceb6958fc9f5c1b5ecf6add0ae8e", func := "cashbook/cashbooklaw15.RecordReads", spec := "recordReads", apart := false }
def RecordReadsSaid : Prop := recordReadsRow.holds Try.pinned (OpenSpec.ofChange recordReadsSpec)

/-- ITS FALSE NEIGHBOUR: 'it returns false'. Refute it at one input. -/
def recordReadsWrong : ChangeSpec := { name := "recordReads", fn := fun _ => fun
  | [d] => { results := [.lit (.bool false)], args := [d] }
  | _ => none }
def RecordReadsWrongFalsely : Prop := recordReadsRow.holds Try.pinned (OpenSpec.ofChange recordReadsWrong)

/-- 'cashbooklaw15.RecordTransfers': WHATEVER THE INPUT: true; the input reads as it did. -/
def recordTransfersSpec : ChangeSpec := { name := "recordTransfers", fn := fun _ => fun
  | [d1, d2] => { results := [.lit (.bool true)], args := [d1, d2] }
  | _ => none }
def recordTransfersRow : OpenClaim := { program := "ytflaeljjalpnkaa", sum := "7be9398195729de2b3b3bbe8e06a9b120033ceb6958fc9f5c1b5ecf6add0ae8e", func := "cashbook/cashbooklaw15.RecordTransfers", spec := "recordTransfers", apart := false }
def RecordTransfersSaid : Prop := recordTransfersRow.holds Try.pinned (OpenSpec.ofChange recordTransfersSpec)

/-- ITS FALSE NEIGHBOUR: 'it returns false'. Refute it at one input. -/
def recordTransfersWrong : ChangeSpec := { name := "recordTransfers", fn := fun _ => fun
  | [d1, d2] => { results := [.lit (.bool false)], args := [d1, d2] }
  | _ => none }
def RecordTransfersWrongFalsely : Prop := recordTransfersRow.holds Try.pinned (OpenSpec.ofChange recordTransfersWrong)

/-- 'cashbooklaw15.RecordRows': WHATEVER THE INPUT: true; the input reads as it did. -/
def recordRowsSpec : ChangeSpec := { name := "recordRows", fn := fun _ => fun
  | [d1, d2, d3] => { results := [.lit (.bool true)], args := [d1, d2, d3] }
  | _ => none }
def recordRowsRow : OpenClaim := { program := "ytflaeljjalpnkaa", sum := "7be9398195729de2b3b3bbe8e06a9b120033ceb6958fc9f5c1b5ecf6add0ae8e", func := "cashbook/cashbooklaw15.RecordRows", spec := "recordRows", unfollowed := true, recurses := true, apart := false }
def RecordRowsSaid : Prop := recordRowsRow.holds Try.pinned (OpenSpec.ofChange recordRowsSpec)

/-- ITS FALSE NEIGHBOUR: 'it returns false'. Refute it at one input. -/
def recordRowsWrong : ChangeSpec := { name := "recordRows", fn := fun _ => fun
  | [d1, d2, d3] => { results := [.lit (.bool false)], args := [d1, d2, d3] }
  | _ => none }
def RecordRowsWrongFalsely : Prop := recordRowsRow.holds Try.pinned (OpenSpec.ofChange recordRowsWrong)

/-- 'cashbooklaw15.RecordKept': WHATEVER THE INPUT: true; the input reads as it did. -/
def recordKeptSpec : ChangeSpec := { name := "recordKept", fn := fun _ => fun
  | [d1, d2] => { results := [.lit (.bool true)], args := [d1, d2] }
  | _ => none }
def recordKeptRow : OpenClaim := { program := "ytflaeljjalpnkaa", sum := "7be9398195729de2b3b3bbe8e06a9b120033ceb6958fc9f5c1b5ecf6add0ae8e", func := "cashbook/cashbooklaw15.RecordKept", spec := "recordKept", unfollowed := true, recurses := true, apart := false }
def RecordKeptSaid : Prop := recordKeptRow.holds Try.pinned (OpenSpec.ofChange recordKeptSpec)

/-- ITS FALSE NEIGHBOUR: 'it returns false'. Refute it at one input. -/
def recordKeptWrong : ChangeSpec := { name := "recordKept", fn := fun _ => fun
  | [d1, d2] => { results := [.lit (.bool false)], args := [d1, d2] }
  | _ => none }
def RecordKeptWrongFalsely : Prop := recordKeptRow.holds Try.pinned (OpenSpec.ofChange recordKeptWrong)

/- THE SECOND FORM. 'bulk': how many values and letters a reading holds, each counted each time it is reached (what is shared counts as often as it is met; a slice's spare places count too). A statement '..UptoSaid' is the law's where the arguments, and the package variables that the reading takes, are together of bulk at most 1048576: NARROWER than '..Said'. Prove '..Said' where nothing that the law and all that it calls make is longer than what came in: it says more and counts as full. Else prove '..UptoSaid'. A law counts once. -/
mutual
def uptoBulk {H : Type} : DataW H → Nat
  | .lit (.string bytes) => bytes.length + 1
  | .lit _ => 1
  | .nil => 1
  | .ptr d => uptoBulk d + 1
  | .slice elems spare => uptoBulkAll elems + uptoBulkAll spare + 1
  | .agg parts => uptoBulkAll parts + 1
  | .iface _ d => uptoBulk d + 1
  | .map entries => uptoBulkEntries entries + 1
  | .held _ => 1
def uptoBulkAll {H : Type} : List (DataW H) → Nat
  | [] => 0
  | d :: r => uptoBulk d + uptoBulkAll r
def uptoBulkEntries {H : Type} : List (Lit × DataW H) → Nat
  | [] => 0
  | x :: r => uptoBulkEntry x + uptoBulkEntries r
def uptoBulkEntry {H : Type} : Lit × DataW H → Nat
  | (.string bytes, d) => bytes.length + uptoBulk d + 1
  | (_, d) => uptoBulk d + 1
 end
def uptoSmall : (H : Type) → List (DataW H) → Bool := fun _ ds => decide (uptoBulkAll ds ≤ 1048576)
def OpenSpec.upto (s : _root_.Go.ChangeSpec) : _root_.Go.OpenSpec := { _root_.Go.OpenSpec.ofChange s with cond := some uptoSmall }

/-- 'cashbooklaw15.RecordOrder', WHERE WHAT IT READS IS OF BULK AT MOST 1048576: true; the input reads as it did. -/
def recordOrderUptoRow : OpenClaim := { program := "ytflaeljjalpnkaa", sum := "7be9398195729de2b3b3bbe8e06a9b120033ceb6958fc9f5c1b5ecf6add0ae8e", func := "cashbook/cashbooklaw15.RecordOrder", spec := "recordOrder", unfollowed := true, recurses := true, apart := false, narrowed := true }
def RecordOrderUptoSaid : Prop := recordOrderUptoRow.holds Try.pinned (OpenSpec.upto recordOrderSpec)

/-- 'cashbooklaw15.RecordSmall', WHERE WHAT IT READS IS OF BULK AT MOST 1048576: true; the input reads as it did. -/
def recordSmallUptoRow : OpenClaim := { program := "ytflaeljjalpnkaa", sum := "7be9398195729de2b3b3bbe8e06a9b120033ceb6958fc9f5c1b5ecf6add0ae8e", func := "cashbook/cashbooklaw15.RecordSmall", spec := "recordSmall", apart := false, narrowed := true }
def RecordSmallUptoSaid : Prop := recordSmallUptoRow.holds Try.pinned (OpenSpec.upto recordSmallSpec)

/-- 'cashbooklaw15.RecordAccounts', WHERE WHAT IT READS IS OF BULK AT MOST 1048576: true; the input reads as it did. -/
def recordAccountsUptoRow : OpenClaim := { program := "ytflaeljjalpnkaa", sum := "7be9398195729de2b3b3bbe8e06a9b120033ceb6958fc9f5c1b5ecf6add0ae8e", func := "cashbook/cashbooklaw15.RecordAccounts", spec := "recordAccounts", apart := false, narrowed := true }
def RecordAccountsUptoSaid : Prop := recordAccountsUptoRow.holds Try.pinned (OpenSpec.upto recordAccountsSpec)

/-- 'cashbooklaw15.RecordReads', WHERE WHAT IT READS IS OF BULK AT MOST 1048576: true; the input reads as it did. -/
def recordReadsUptoRow : OpenClaim := { program := "ytflaeljjalpnkaa", sum := "7be9398195729de2b3b3bbe8e06a9b120033ceb6958fc9f5c1b5ecf6add0ae8e", func := "cashbook/cashbooklaw15.RecordReads", spec := "recordReads", apart := false, narrowed := true }
def RecordReadsUptoSaid : Prop := recordReadsUptoRow.holds Try.pinned (OpenSpec.upto recordReadsSpec)

/-- 'cashbooklaw15.RecordTransfers', WHERE WHAT IT READS IS OF BULK AT MOST 1048576: true; the input reads as it did. -/
def recordTransfersUptoRow : OpenClaim := { program := "ytflaeljjalpnkaa", sum := "7be9398195729de2b3b3bbe8e06a9b120033ceb6958fc9f5c1b5ecf6add0ae8e", func := "cashbook/cashbooklaw15.RecordTransfers", spec := "recordTransfers", apart := false, narrowed := true }
def RecordTransfersUptoSaid : Prop := recordTransfersUptoRow.holds Try.pinned (OpenSpec.upto recordTransfersSpec)

/-- 'cashbooklaw15.RecordRows', WHERE WHAT IT READS IS OF BULK AT MOST 1048576: true; the input reads as it did. -/
def recordRowsUptoRow : OpenClaim := { program := "ytflaeljjalpnkaa", sum := "7be9398195729de2b3b3bbe8e06a9b120033ceb6958fc9f5c1b5ecf6add0ae8e", func := "cashbook/cashbooklaw15.RecordRows", spec := "recordRows", unfollowed := true, recurses := true, apart := false, narrowed := true }
def RecordRowsUptoSaid : Prop := recordRowsUptoRow.holds Try.pinned (OpenSpec.upto recordRowsSpec)

/-- 'cashbooklaw15.RecordKept', WHERE WHAT IT READS IS OF BULK AT MOST 1048576: true; the input reads as it did. -/
def recordKeptUptoRow : OpenClaim := { program := "ytflaeljjalpnkaa", sum := "7be9398195729de2b3b3bbe8e06a9b120033ceb6958fc9f5c1b5ecf6add0ae8e", func := "cashbook/cashbooklaw15.RecordKept", spec := "recordKept", unfollowed := true, recurses := true, apart := false, narrowed := true }
def RecordKeptUptoSaid : Prop := recordKeptUptoRow.holds Try.pinned (OpenSpec.upto recordKeptSpec)

end Rows
end Go.Proofs.Ytflaeljjalpnkaa
