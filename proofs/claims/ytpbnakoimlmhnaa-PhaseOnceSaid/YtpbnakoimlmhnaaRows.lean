/-
  No cell of these rows narrows 'for every input' (looked for: loops, veiled, ifaces, maps, wideKeys, modest, calm, conditions, laid).
  DERIVED. THE GIVEN ROWS OF THIS SEAT. 11 by the template 'for every input the law returns true; each argument reads behind the call as it read before'; 0 by the template 'total and deterministic' (their statements: YtpbnakoimlmhnaaTotals.lean).
  GIVEN WITH THE SEED: the statements are not yours to turn. If you find one false, say at which input.
  Laid BY PROGRAM, IN A SANDBOX (cutbox-rows.mjs): the forced cells as the released guide's own fill.sh prints them over the translation 07592ef6bb895801… (all of the seat's roots in one cut). By AI agents, Wed Nov 11 2026. No macro, syntax, notation, axiom, sorry.
-/
import Derived.Test.YtpbnakoimlmhnaaChecked
import GoSem.Claim
import GoSem.ClaimJoined
import GoSem.ClaimMapViews
import Derived.JoinedTies
import Derived.KernelRfl
namespace Go.Proofs.Ytpbnakoimlmhnaa
/- THE CELL 'sum', in the pinned program and in every row, IS THE sha256 OF THE DUMP (.gsa) THAT YtpbnakoimlmhnaaProg.lean LOADS. Nothing in Lean hashes anything: it is a label: what it is worth is what the hold of that sum in a sandbox is worth. -/
noncomputable def Try.pinned : Pinned := { name := "ytpbnakoimlmhnaa", sum := "07592ef6bb895801194309b9d2bc4bc92813fa9fed5190e008e0fe9bacfae659", checked := Try.checked }
namespace Rows
def none {H : Type} : Left H := { results := [], args := [] }

/-- 'cashbooklaw18.BalanceEven': WHATEVER THE INPUT: true; the input reads as it did. -/
def balanceEvenSpec : ChangeSpec := { name := "balanceEven", fn := fun _ => fun
  | [d1, d2, d3] => { results := [.lit (.bool true)], args := [d1, d2, d3] }
  | _ => none }
def balanceEvenRow : OpenClaim := { program := "ytpbnakoimlmhnaa", sum := "07592ef6bb895801194309b9d2bc4bc92813fa9fed5190e008e0fe9bacfae659", func := "cashbook/cashbooklaw18.BalanceEven", spec := "balanceEven", inPlace := ["math/bits.Add64", "math/bits.Sub64"], unfollowed := true, recurses := true, apart := false }
def BalanceEvenSaid : Prop := balanceEvenRow.holds Try.pinned (OpenSpec.ofChange balanceEvenSpec)

/-- ITS FALSE NEIGHBOUR: 'it returns false'. Refute it at one input. -/
def balanceEvenWrong : ChangeSpec := { name := "balanceEven", fn := fun _ => fun
  | [d1, d2, d3] => { results := [.lit (.bool false)], args := [d1, d2, d3] }
  | _ => none }
def BalanceEvenWrongFalsely : Prop := balanceEvenRow.holds Try.pinned (OpenSpec.ofChange balanceEvenWrong)

/-- 'cashbooklaw18.BalanceMoves': WHATEVER THE INPUT: true; the input reads as it did. -/
def balanceMovesSpec : ChangeSpec := { name := "balanceMoves", fn := fun _ => fun
  | [d1, d2, d3] => { results := [.lit (.bool true)], args := [d1, d2, d3] }
  | _ => none }
def balanceMovesRow : OpenClaim := { program := "ytpbnakoimlmhnaa", sum := "07592ef6bb895801194309b9d2bc4bc92813fa9fed5190e008e0fe9bacfae659", func := "cashbook/cashbooklaw18.BalanceMoves", spec := "balanceMoves", inPlace := ["math/bits.Add64", "math/bits.Sub64"], unfollowed := true, recurses := true, apart := false }
def BalanceMovesSaid : Prop := balanceMovesRow.holds Try.pinned (OpenSpec.ofChange balanceMovesSpec)

/-- ITS FALSE NEIGHBOUR: 'it returns false'. Refute it at one input. -/
def balanceMovesWrong : ChangeSpec := { name := "balanceMoves", fn := fun _ => fun
  | [d1, d2, d3] => { results := [.lit (.bool false)], args := [d1, d2, d3] }
  | _ => none }
def BalanceMovesWrongFalsely : Prop := balanceMovesRow.holds Try.pinned (OpenSpec.ofChange balanceMovesWrong)

/-- 'cashbooklaw18.BalanceBack': WHATEVER THE INPUT: true; the input reads as it did. -/
def balanceBackSpec : ChangeSpec := { name := "balanceBack", fn := fun _ => fun
  | [d1, d2] => { results := [.lit (.bool true)], args := [d1, d2] }
  | _ => none }
def balanceBackRow : OpenClaim := { program := "ytpbnakoimlmhnaa", sum := "07592ef6bb895801194309b9d2bc4bc92813fa9fed5190e008e0fe9bacfae659", func := "cashbook/cashbooklaw18.BalanceBack", spec := "balanceBack", inPlace := ["math/bits.Add64", "math/bits.Sub64"], unfollowed := true, recurses := true, apart := false }
def BalanceBackSaid : Prop := balanceBackRow.holds Try.pinned (OpenSpec.ofChange balanceBackSpec)

/-- ITS FALSE NEIGHBOUR: 'it returns false'. Refute it at one input. -/
def balanceBackWrong : ChangeSpec := { name := "balanceBack", fn := fun _ => fun
  | [d1, d2] => { results := [.lit (.bool false)], args := [d1, d2] }
  | _ => none }
def BalanceBackWrongFalsely : Prop := balanceBackRow.holds Try.pinned (OpenSpec.ofChange balanceBackWrong)

/-- 'cashbooklaw18.BalanceAsks': WHATEVER THE INPUT: true; the input reads as it did. -/
def balanceAsksSpec : ChangeSpec := { name := "balanceAsks", fn := fun _ => fun
  | [d1, d2, d3] => { results := [.lit (.bool true)], args := [d1, d2, d3] }
  | _ => none }
def balanceAsksRow : OpenClaim := { program := "ytpbnakoimlmhnaa", sum := "07592ef6bb895801194309b9d2bc4bc92813fa9fed5190e008e0fe9bacfae659", func := "cashbook/cashbooklaw18.BalanceAsks", spec := "balanceAsks", inPlace := ["math/bits.Add64", "math/bits.Sub64"], unfollowed := true, recurses := true, apart := false }
def BalanceAsksSaid : Prop := balanceAsksRow.holds Try.pinned (OpenSpec.ofChange balanceAsksSpec)

/-- ITS FALSE NEIGHBOUR: 'it returns false'. Refute it at one input. -/
def balanceAsksWrong : ChangeSpec := { name := "balanceAsks", fn := fun _ => fun
  | [d1, d2, d3] => { results := [.lit (.bool false)], args := [d1, d2, d3] }
  | _ => none }
def BalanceAsksWrongFalsely : Prop := balanceAsksRow.holds Try.pinned (OpenSpec.ofChange balanceAsksWrong)

/-- 'cashbooklaw18.BalanceLimits': WHATEVER THE INPUT: true; the input reads as it did. -/
def balanceLimitsSpec : ChangeSpec := { name := "balanceLimits", fn := fun _ => fun
  | [d1, d2, d3] => { results := [.lit (.bool true)], args := [d1, d2, d3] }
  | _ => none }
def balanceLimitsRow : OpenClaim := { program := "ytpbnakoimlmhnaa", sum := "07592ef6bb895801194309b9d2bc4bc92813fa9fed5190e008e0fe9bacfae659", func := "cashbook/cashbooklaw18.BalanceLimits", spec := "balanceLimits", inPlace := ["math/bits.Add64", "math/bits.Sub64"], unfollowed := true, recurses := true, apart := false }
def BalanceLimitsSaid : Prop := balanceLimitsRow.holds Try.pinned (OpenSpec.ofChange balanceLimitsSpec)

/-- ITS FALSE NEIGHBOUR: 'it returns false'. Refute it at one input. -/
def balanceLimitsWrong : ChangeSpec := { name := "balanceLimits", fn := fun _ => fun
  | [d1, d2, d3] => { results := [.lit (.bool false)], args := [d1, d2, d3] }
  | _ => none }
def BalanceLimitsWrongFalsely : Prop := balanceLimitsRow.holds Try.pinned (OpenSpec.ofChange balanceLimitsWrong)

/-- 'cashbooklaw19.PostingChecks': WHATEVER THE INPUT: true; the input reads as it did. -/
def postingChecksSpec : ChangeSpec := { name := "postingChecks", fn := fun _ => fun
  | [d1, d2, d3] => { results := [.lit (.bool true)], args := [d1, d2, d3] }
  | _ => none }
def postingChecksRow : OpenClaim := { program := "ytpbnakoimlmhnaa", sum := "07592ef6bb895801194309b9d2bc4bc92813fa9fed5190e008e0fe9bacfae659", func := "cashbook/cashbooklaw19.PostingChecks", spec := "postingChecks", inPlace := ["math/bits.Add64", "math/bits.Sub64"], unfollowed := true, recurses := true, apart := false }
def PostingChecksSaid : Prop := postingChecksRow.holds Try.pinned (OpenSpec.ofChange postingChecksSpec)

/-- ITS FALSE NEIGHBOUR: 'it returns false'. Refute it at one input. -/
def postingChecksWrong : ChangeSpec := { name := "postingChecks", fn := fun _ => fun
  | [d1, d2, d3] => { results := [.lit (.bool false)], args := [d1, d2, d3] }
  | _ => none }
def PostingChecksWrongFalsely : Prop := postingChecksRow.holds Try.pinned (OpenSpec.ofChange postingChecksWrong)

/-- 'cashbooklaw19.PostingTwice': WHATEVER THE INPUT: true; the input reads as it did. -/
def postingTwiceSpec : ChangeSpec := { name := "postingTwice", fn := fun _ => fun
  | [d1, d2] => { results := [.lit (.bool true)], args := [d1, d2] }
  | _ => none }
def postingTwiceRow : OpenClaim := { program := "ytpbnakoimlmhnaa", sum := "07592ef6bb895801194309b9d2bc4bc92813fa9fed5190e008e0fe9bacfae659", func := "cashbook/cashbooklaw19.PostingTwice", spec := "postingTwice", inPlace := ["math/bits.Add64", "math/bits.Sub64"], unfollowed := true, recurses := true, apart := false }
def PostingTwiceSaid : Prop := postingTwiceRow.holds Try.pinned (OpenSpec.ofChange postingTwiceSpec)

/-- ITS FALSE NEIGHBOUR: 'it returns false'. Refute it at one input. -/
def postingTwiceWrong : ChangeSpec := { name := "postingTwice", fn := fun _ => fun
  | [d1, d2] => { results := [.lit (.bool false)], args := [d1, d2] }
  | _ => none }
def PostingTwiceWrongFalsely : Prop := postingTwiceRow.holds Try.pinned (OpenSpec.ofChange postingTwiceWrong)

/-- 'cashbooklaw19.PostingGood': WHATEVER THE INPUT: true; the input reads as it did. -/
def postingGoodSpec : ChangeSpec := { name := "postingGood", fn := fun _ => fun
  | [d1, d2, d3] => { results := [.lit (.bool true)], args := [d1, d2, d3] }
  | _ => none }
def postingGoodRow : OpenClaim := { program := "ytpbnakoimlmhnaa", sum := "07592ef6bb895801194309b9d2bc4bc92813fa9fed5190e008e0fe9bacfae659", func := "cashbook/cashbooklaw19.PostingGood", spec := "postingGood", inPlace := ["math/bits.Add64", "math/bits.Sub64"], unfollowed := true, recurses := true, apart := false }
def PostingGoodSaid : Prop := postingGoodRow.holds Try.pinned (OpenSpec.ofChange postingGoodSpec)

/-- ITS FALSE NEIGHBOUR: 'it returns false'. Refute it at one input. -/
def postingGoodWrong : ChangeSpec := { name := "postingGood", fn := fun _ => fun
  | [d1, d2, d3] => { results := [.lit (.bool false)], args := [d1, d2, d3] }
  | _ => none }
def PostingGoodWrongFalsely : Prop := postingGoodRow.holds Try.pinned (OpenSpec.ofChange postingGoodWrong)

/-- 'cashbooklaw19.PostingAgain': WHATEVER THE INPUT: true; the input reads as it did. -/
def postingAgainSpec : ChangeSpec := { name := "postingAgain", fn := fun _ => fun
  | [d1, d2, d3] => { results := [.lit (.bool true)], args := [d1, d2, d3] }
  | _ => none }
def postingAgainRow : OpenClaim := { program := "ytpbnakoimlmhnaa", sum := "07592ef6bb895801194309b9d2bc4bc92813fa9fed5190e008e0fe9bacfae659", func := "cashbook/cashbooklaw19.PostingAgain", spec := "postingAgain", inPlace := ["math/bits.Add64", "math/bits.Sub64"], unfollowed := true, recurses := true, apart := false }
def PostingAgainSaid : Prop := postingAgainRow.holds Try.pinned (OpenSpec.ofChange postingAgainSpec)

/-- ITS FALSE NEIGHBOUR: 'it returns false'. Refute it at one input. -/
def postingAgainWrong : ChangeSpec := { name := "postingAgain", fn := fun _ => fun
  | [d1, d2, d3] => { results := [.lit (.bool false)], args := [d1, d2, d3] }
  | _ => none }
def PostingAgainWrongFalsely : Prop := postingAgainRow.holds Try.pinned (OpenSpec.ofChange postingAgainWrong)

/-- 'cashbooklaw19.PostingFirst': WHATEVER THE INPUT: true; the input reads as it did. -/
def postingFirstSpec : ChangeSpec := { name := "postingFirst", fn := fun _ => fun
  | [d1, d2] => { results := [.lit (.bool true)], args := [d1, d2] }
  | _ => none }
def postingFirstRow : OpenClaim := { program := "ytpbnakoimlmhnaa", sum := "07592ef6bb895801194309b9d2bc4bc92813fa9fed5190e008e0fe9bacfae659", func := "cashbook/cashbooklaw19.PostingFirst", spec := "postingFirst", inPlace := ["math/bits.Add64", "math/bits.Sub64"], unfollowed := true, recurses := true, apart := false }
def PostingFirstSaid : Prop := postingFirstRow.holds Try.pinned (OpenSpec.ofChange postingFirstSpec)

/-- ITS FALSE NEIGHBOUR: 'it returns false'. Refute it at one input. -/
def postingFirstWrong : ChangeSpec := { name := "postingFirst", fn := fun _ => fun
  | [d1, d2] => { results := [.lit (.bool false)], args := [d1, d2] }
  | _ => none }
def PostingFirstWrongFalsely : Prop := postingFirstRow.holds Try.pinned (OpenSpec.ofChange postingFirstWrong)

/-- 'cashbooklaw20.PhaseOnce': WHATEVER THE INPUT: true; the input reads as it did. -/
def phaseOnceSpec : ChangeSpec := { name := "phaseOnce", fn := fun _ => fun
  | [d] => { results := [.lit (.bool true)], args := [d] }
  | _ => none }
def phaseOnceRow : OpenClaim := { program := "ytpbnakoimlmhnaa", sum := "07592ef6bb895801194309b9d2bc4bc92813fa9fed5190e008e0fe9bacfae659", func := "cashbook/cashbooklaw20.PhaseOnce", spec := "phaseOnce", inPlace := ["math/bits.Add64", "math/bits.Sub64"], unfollowed := true, recurses := true, apart := false }
def PhaseOnceSaid : Prop := phaseOnceRow.holds Try.pinned (OpenSpec.ofChange phaseOnceSpec)

/-- ITS FALSE NEIGHBOUR: 'it returns false'. Refute it at one input. -/
def phaseOnceWrong : ChangeSpec := { name := "phaseOnce", fn := fun _ => fun
  | [d] => { results := [.lit (.bool false)], args := [d] }
  | _ => none }
def PhaseOnceWrongFalsely : Prop := phaseOnceRow.holds Try.pinned (OpenSpec.ofChange phaseOnceWrong)

/- THE SECOND FORM. 'bulk': how many values and letters a reading holds, each counted each time it is reached (what is shared counts as often as it is met; a slice's spare places count too). A statement '..UptoSaid' is the law's where the arguments, and the package variables that the reading takes, are together of bulk at most 1048576: NARROWER than '..Said'. Prove '..Said' where nothing that the law and all that it calls make is longer than what came in: it says more and counts as full. Else prove '..UptoSaid'. A law counts once. -/
mutual
def uptoBulk {H : Type} : DataW H → Nat
  | .lit (.string bytes) => bytes.length + 1
  | .lit _ => 1
  | .nil => 1
  | .ptr d => uptoBulk d + 1
  | .slice elems spare => uptoBulkAll elems + uptoBulkAll spare + 1
  | .agg parts => uptoBulkAll parts + 1
  | .iface _ d => uptoBulk d + 1
  | .map entries => uptoBulkEntries entries + 1
  | .held _ => 1
def uptoBulkAll {H : Type} : List (DataW H) → Nat
  | [] => 0
  | d :: r => uptoBulk d + uptoBulkAll r
def uptoBulkEntries {H : Type} : List (Lit × DataW H) → Nat
  | [] => 0
  | x :: r => uptoBulkEntry x + uptoBulkEntries r
def uptoBulkEntry {H : Type} : Lit × DataW H → Nat
  | (.string bytes, d) => bytes.length + uptoBulk d + 1
  | (_, d) => uptoBulk d + 1
 end
def uptoSmall : (H : Type) → List (DataW H) → Bool := fun _ ds => decide (uptoBulkAll ds ≤ 1048576)
def OpenSpec.upto (s : _root_.Go.ChangeSpec) : _root_.Go.OpenSpec := { _root_.Go.OpenSpec.ofChange s with cond := some uptoSmall }

/-- 'cashbooklaw18.BalanceEven', WHERE WHAT IT READS IS OF BULK AT MOST 1048576: true; the input reads as it did. -/
def balanceEvenUptoRow : OpenClaim := { program := "ytpbnakoimlmhnaa", sum := "07592ef6bb895801194309b9d2bc4bc92813fa9fed5190e008e0fe9bacfae659", func := "cashbook/cashbooklaw18.BalanceEven", spec := "balanceEven", inPlace := ["math/bits.Add64", "math/bits.Sub64"], unfollowed := true, recurses := true, apart := false, narrowed := true }
def BalanceEvenUptoSaid : Prop := balanceEvenUptoRow.holds Try.pinned (OpenSpec.upto balanceEvenSpec)

/-- 'cashbooklaw18.BalanceMoves', WHERE WHAT IT READS IS OF BULK AT MOST 1048576: true; the input reads as it did. -/
def balanceMovesUptoRow : OpenClaim := { program := "ytpbnakoimlmhnaa", sum := "07592ef6bb895801194309b9d2bc4bc92813fa9fed5190e008e0fe9bacfae659", func := "cashbook/cashbooklaw18.BalanceMoves", spec := "balanceMoves", inPlace := ["math/bits.Add64", "math/bits.Sub64"], unfollowed := true, recurses := true, apart := false, narrowed := true }
def BalanceMovesUptoSaid : Prop := balanceMovesUptoRow.holds Try.pinned (OpenSpec.upto balanceMovesSpec)

/-- 'cashbooklaw18.BalanceBack', WHERE WHAT IT READS IS OF BULK AT MOST 1048576: true; the input reads as it did. -/
def balanceBackUptoRow : OpenClaim := { program := "ytpbnakoimlmhnaa", sum := "07592ef6bb895801194309b9d2bc4bc92813fa9fed5190e008e0fe9bacfae659", func := "cashbook/cashbooklaw18.BalanceBack", spec := "balanceBack", inPlace := ["math/bits.Add64", "math/bits.Sub64"], unfollowed := true, recurses := true, apart := false, narrowed := true }
def BalanceBackUptoSaid : Prop := balanceBackUptoRow.holds Try.pinned (OpenSpec.upto balanceBackSpec)

/-- 'cashbooklaw18.BalanceAsks', WHERE WHAT IT READS IS OF BULK AT MOST 1048576: true; the input reads as it did. -/
def balanceAsksUptoRow : OpenClaim := { program := "ytpbnakoimlmhnaa", sum := "07592ef6bb895801194309b9d2bc4bc92813fa9fed5190e008e0fe9bacfae659", func := "cashbook/cashbooklaw18.BalanceAsks", spec := "balanceAsks", inPlace := ["math/bits.Add64", "math/bits.Sub64"], unfollowed := true, recurses := true, apart := false, narrowed := true }
def BalanceAsksUptoSaid : Prop := balanceAsksUptoRow.holds Try.pinned (OpenSpec.upto balanceAsksSpec)

/-- 'cashbooklaw18.BalanceLimits', WHERE WHAT IT READS IS OF BULK AT MOST 1048576: true; the input reads as it did. -/
def balanceLimitsUptoRow : OpenClaim := { program := "ytpbnakoimlmhnaa", sum := "07592ef6bb895801194309b9d2bc4bc92813fa9fed5190e008e0fe9bacfae659", func := "cashbook/cashbooklaw18.BalanceLimits", spec := "balanceLimits", inPlace := ["math/bits.Add64", "math/bits.Sub64"], unfollowed := true, recurses := true, apart := false, narrowed := true }
def BalanceLimitsUptoSaid : Prop := balanceLimitsUptoRow.holds Try.pinned (OpenSpec.upto balanceLimitsSpec)

/-- 'cashbooklaw19.PostingChecks', WHERE WHAT IT READS IS OF BULK AT MOST 1048576: true; the input reads as it did. -/
def postingChecksUptoRow : OpenClaim := { program := "ytpbnakoimlmhnaa", sum := "07592ef6bb895801194309b9d2bc4bc92813fa9fed5190e008e0fe9bacfae659", func := "cashbook/cashbooklaw19.PostingChecks", spec := "postingChecks", inPlace := ["math/bits.Add64", "math/bits.Sub64"], unfollowed := true, recurses := true, apart := false, narrowed := true }
def PostingChecksUptoSaid : Prop := postingChecksUptoRow.holds Try.pinned (OpenSpec.upto postingChecksSpec)

/-- 'cashbooklaw19.PostingTwice', WHERE WHAT IT READS IS OF BULK AT MOST 1048576: true; the input reads as it did. -/
def postingTwiceUptoRow : OpenClaim := { program := "ytpbnakoimlmhnaa", sum := "07592ef6bb895801194309b9d2bc4bc92813fa9fed5190e008e0fe9bacfae659", func := "cashbook/cashbooklaw19.PostingTwice", spec := "postingTwice", inPlace := ["math/bits.Add64", "math/bits.Sub64"], unfollowed := true, recurses := true, apart := false, narrowed := true }
def PostingTwiceUptoSaid : Prop := postingTwiceUptoRow.holds Try.pinned (OpenSpec.upto postingTwiceSpec)

/-- 'cashbooklaw19.PostingGood', WHERE WHAT IT READS IS OF BULK AT MOST 1048576: true; the input reads as it did. -/
def postingGoodUptoRow : OpenClaim := { program := "ytpbnakoimlmhnaa", sum := "07592ef6bb895801194309b9d2bc4bc92813fa9fed5190e008e0fe9bacfae659", func := "cashbook/cashbooklaw19.PostingGood", spec := "postingGood", inPlace := ["math/bits.Add64", "math/bits.Sub64"], unfollowed := true, recurses := true, apart := false, narrowed := true }
def PostingGoodUptoSaid : Prop := postingGoodUptoRow.holds Try.pinned (OpenSpec.upto postingGoodSpec)

/-- 'cashbooklaw19.PostingAgain', WHERE WHAT IT READS IS OF BULK AT MOST 1048576: true; the input reads as it did. -/
def postingAgainUptoRow : OpenClaim := { program := "ytpbnakoimlmhnaa", sum := "07592ef6bb895801194309b9d2bc4bc92813fa9fed5190e008e0fe9bacfae659", func := "cashbook/cashbooklaw19.PostingAgain", spec := "postingAgain", inPlace := ["math/bits.Add64", "math/bits.Sub64"], unfollowed := true, recurses := true, apart := false, narrowed := true }
def PostingAgainUptoSaid : Prop := postingAgainUptoRow.holds Try.pinned (OpenSpec.upto postingAgainSpec)

/-- 'cashbooklaw19.PostingFirst', WHERE WHAT IT READS IS OF BULK AT MOST 1048576: true; the input reads as it did. -/
def postingFirstUptoRow : OpenClaim := { program := "ytpbnakoimlmhnaa", sum := "07592ef6bb895801194309b9d2bc4bc92813fa9fed5190e008e0fe9bacfae659", func := "cashbook/cashbooklaw19.PostingFirst", spec := "postingFirst", inPlace := ["math/bits.Add64", "math/bits.Sub64"], unfollowed := true, recurses := true, apart := false, narrowed := true }
def PostingFirstUptoSaid : Prop := postingFirstUptoRow.holds Try.pinned (OpenSpec.upto postingFirstSpec)

/-- 'cashbooklaw20.PhaseOnce', WHERE WHAT IT READS IS OF BULK AT MOST 1048576: true; the input reads as it did. -/
def phaseOnceUptoRow : OpenClaim := { program := "ytpbnakoimlmhnaa", sum := "07592ef6bb895801194309b9d2bc4bc92813fa9fed5190e008e0fe9bacfae659", func := "cashbook/cashbooklaw20.PhaseOnce", spec := "phaseOnce", inPlace := ["math/bits.Add64", "math/bits.Sub64"], unfollowed := true, recurses := true, apart := false, narrowed := true }
def PhaseOnceUptoSaid : Prop := phaseOnceUptoRow.holds Try.pinned (OpenSpec.upto phaseOnceSpec)

end Rows
end Go.Proofs.Ytpbnakoimlmhnaa
