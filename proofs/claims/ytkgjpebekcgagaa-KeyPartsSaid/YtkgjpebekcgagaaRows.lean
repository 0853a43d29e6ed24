/-
  No cell of these rows narrows 'for every input' (looked for: loops, veiled, ifaces, maps, wideKeys, modest, calm, conditions, laid).
  DERIVED. THE GIVEN ROWS OF THIS SEAT. 4 by the template 'for every input the law returns true; each argument reads behind the call as it read before'; 0 by the template 'total and deterministic' (their statements: YtkgjpebekcgagaaTotals.lean).
  GIVEN WITH THE SEED: the statements are not yours to turn. If you find one false, say at which input.
  Laid BY PROGRAM, IN A SANDBOX (cutbox-rows.mjs): the forced cells as the released guide's own fill.sh prints them over the translation 205303c31e0a4061… (all of the seat's roots in one cut). By AI agents, Wed Nov 11 2026. No macro, syntax, notation, axiom, sorry.
-/
import Derived.Test.YtkgjpebekcgagaaChecked
import GoSem.Claim
import GoSem.ClaimJoined
import GoSem.ClaimMapViews
import Derived.JoinedTies
import Derived.KernelRfl
namespace Go.Proofs.Ytkgjpebekcgagaa
/- THE CELL 'sum', in the pinned program and in every row, IS THE sha256 OF THE DUMP (.gsa) THAT YtkgjpebekcgagaaProg.lean LOADS. Nothing in Lean hashes anything: it is a label: what it is worth is what the hold of that sum in a sandbox is worth. -/
noncomputable def Try.pinned : Pinned := { name := "ytkgjpebekcgagaa", sum := "205303c31e0a406155b29d9f3fcdd80a12b788e383d65aeca1650703c4470ef6", checked := Try.checked }
namespace Rows
def none {H : Type} : Left H := { results := [], args := [] }

/-- 'cashbooklaw03.KeyRows': WHATEVER THE INPUT: true; the input reads as it did. -/
def keyRowsSpec : ChangeSpec := { name := "keyRows", fn := fun _ => fun
  | [d1, d2, d3] => { results := [.lit (.bool true)], args := [d1, d2, d3] }
  | _ => none }
def keyRowsRow : OpenClaim := { program := "ytkgjpebekcgagaa", sum := "205303c31e0a406155b29d9f3fcdd80a12b788e383d65aeca1650703c4470ef6", func := "cashbook/cashbooklaw03.KeyRows", spec := "keyRows", inPlace := ["internal/bytealg.MakeNoZero", "internal/bytealg.Compare"], apart := false }
def KeyRowsSaid : Prop := keyRowsRow.holds Try.pinned (OpenSpec.ofChange keyRowsSpec)

/-- ITS FALSE NEIGHBOUR: 'it returns false'. Refute it at one input. -/
def keyRowsWrong : ChangeSpec := { name := "keyRows", fn := fun _ => fun
  | [d1, d2, d3] => { results := [.lit (.bool false)], args := [d1, d2, d3] }
  | _ => none }
def KeyRowsWrongFalsely : Prop := keyRowsRow.holds Try.pinned (OpenSpec.ofChange keyRowsWrong)

/-- 'cashbooklaw03.KeyNext': WHATEVER THE INPUT: true; the input reads as it did. -/
def keyNextSpec : ChangeSpec := { name := "keyNext", fn := fun _ => fun
  | [d1, d2] => { results := [.lit (.bool true)], args := [d1, d2] }
  | _ => none }
def keyNextRow : OpenClaim := { program := "ytkgjpebekcgagaa", sum := "205303c31e0a406155b29d9f3fcdd80a12b788e383d65aeca1650703c4470ef6", func := "cashbook/cashbooklaw03.KeyNext", spec := "keyNext", inPlace := ["internal/bytealg.MakeNoZero", "internal/bytealg.Compare"], apart := false }
def KeyNextSaid : Prop := keyNextRow.holds Try.pinned (OpenSpec.ofChange keyNextSpec)

/-- ITS FALSE NEIGHBOUR: 'it returns false'. Refute it at one input. -/
def keyNextWrong : ChangeSpec := { name := "keyNext", fn := fun _ => fun
  | [d1, d2] => { results := [.lit (.bool false)], args := [d1, d2] }
  | _ => none }
def KeyNextWrongFalsely : Prop := keyNextRow.holds Try.pinned (OpenSpec.ofChange keyNextWrong)

/-- 'cashbooklaw03.KeyOrder': WHATEVER THE INPUT: true; the input reads as it did. -/
def keyOrderSpec : ChangeSpec := { name := "keyOrder", fn := fun _ => fun
  | [d1, d2] => { results := [.lit (.bool true)], args := [d1, d2] }
  | _ => none }
def keyOrderRow : OpenClaim := { program := "ytkgjpebekcgagaa", sum := "205303c31e0a406155b29d9f3fcdd80a12b788e383d65aeca1650703c4470ef6", func := "cashbook/cashbooklaw03.KeyOrder", spec := "keyOrder", inPlace := ["internal/bytealg.MakeNoZero", "internal/bytealg.Compare"], unfollowed := true, recurses := true, apart := false }
def KeyOrderSaid : Prop := keyOrderRow.holds Try.pinned (OpenSpec.ofChange keyOrderSpec)

/-- ITS FALSE NEIGHBOUR: 'it returns false'. Refute it at one input. -/
def keyOrderWrong : ChangeSpec := { name := "keyOrder", fn := fun _ => fun
  | [d1, d2] => { results := [.lit (.bool false)], args := [d1, d2] }
  | _ => none }
def KeyOrderWrongFalsely : Prop := keyOrderRow.holds Try.pinned (OpenSpec.ofChange keyOrderWrong)

/-- 'cashbooklaw03.KeyParts': WHATEVER THE INPUT: true; the input reads as it did. -/
def keyPartsSpec : ChangeSpec := { name := "keyParts", fn := fun _ => fun
  | [d1, d2, d3] => { results := [.lit (.bool true)], args := [d1, d2, d3] }
  | _ => none }
def keyPartsRow : OpenClaim := { program := "ytkgjpebekcgagaa", sum := "205303c31e0a406155b29d9f3fcdd80a12b788e383d65aeca1650703c4470ef6", func := "cashbook/cashbooklaw03.KeyParts", spec := "keyParts", inPlace := ["internal/bytealg.MakeNoZero"], unfollowed := true, recurses := true, apart := false }
def KeyPartsSaid : Prop := keyPartsRow.holds Try.pinned (OpenSpec.ofChange keyPartsSpec)

/-- ITS FALSE NEIGHBOUR: 'it returns false'. Refute it at one input. -/
def keyPartsWrong : ChangeSpec := { name := "keyParts", fn := fun _ => fun
  | [d1, d2, d3] => { results := [.lit (.bool false)], args := [d1, d2, d3] }
  | _ => none }
def KeyPartsWrongFalsely : Prop := keyPartsRow.holds Try.pinned (OpenSpec.ofChange keyPartsWrong)

/- THE SECOND FORM. 'bulk': how many values and letters a reading holds, each counted each time it is reached (what is shared counts as often as it is met; a slice's spare places count too). A statement '..UptoSaid' is the law's where the arguments, and the package variables that the reading takes, are together of bulk at most 1048576: NARROWER than '..Said'. Prove '..Said' where nothing that the law and all that it calls make is longer than what came in: it says more and counts as full. Else prove '..UptoSaid'. A law counts once. -/
mutual
def uptoBulk {H : Type} : DataW H → Nat
  | .lit (.string bytes) => bytes.length + 1
  | .lit _ => 1
  | .nil => 1
  | .ptr d => uptoBulk d + 1
  | .slice elems spare => uptoBulkAll elems + uptoBulkAll spare + 1
  | .agg parts => uptoBulkAll parts + 1
  | .iface _ d => uptoBulk d + 1
  | .map entries => uptoBulkEntries entries + 1
  | .held _ => 1
def uptoBulkAll {H : Type} : List (DataW H) → Nat
  | [] => 0
  | d :: r => uptoBulk d + uptoBulkAll r
def uptoBulkEntries {H : Type} : List (Lit × DataW H) → Nat
  | [] => 0
  | x :: r => uptoBulkEntry x + uptoBulkEntries r
def uptoBulkEntry {H : Type} : Lit × DataW H → Nat
  | (.string bytes, d) => bytes.length + uptoBulk d + 1
  | (_, d) => uptoBulk d + 1
 end
def uptoSmall : (H : Type) → List (DataW H) → Bool := fun _ ds => decide (uptoBulkAll ds ≤ 1048576)
def OpenSpec.upto (s : _root_.Go.ChangeSpec) : _root_.Go.OpenSpec := { _root_.Go.OpenSpec.ofChange s with cond := some uptoSmall }

/-- 'cashbooklaw03.KeyRows', WHERE WHAT IT READS IS OF BULK AT MOST 1048576: true; the input reads as it did. -/
def keyRowsUptoRow : OpenClaim := { program := "ytkgjpebekcgagaa", sum := "205303c31e0a406155b29d9f3fcdd80a12b788e383d65aeca1650703c4470ef6", func := "cashbook/cashbooklaw03.KeyRows", spec := "keyRows", inPlace := ["internal/bytealg.MakeNoZero", "internal/bytealg.Compare"], apart := false, narrowed := true }
def KeyRowsUptoSaid : Prop := keyRowsUptoRow.holds Try.pinned (OpenSpec.upto keyRowsSpec)

/-- 'cashbooklaw03.KeyNext', WHERE WHAT IT READS IS OF BULK AT MOST 1048576: true; the input reads as it did. -/
def keyNextUptoRow : OpenClaim := { program := "ytkgjpebekcgagaa", sum := "205303c31e0a406155b29d9f3fcdd80a12b788e383d65aeca1650703c4470ef6", func := "cashbook/cashbooklaw03.KeyNext", spec := "keyNext", inPlace := ["internal/bytealg.MakeNoZero", "internal/bytealg.Compare"], apart := false, narrowed := true }
def KeyNextUptoSaid : Prop := keyNextUptoRow.holds Try.pinned (OpenSpec.upto keyNextSpec)

/-- 'cashbooklaw03.KeyOrder', WHERE WHAT IT READS IS OF BULK AT MOST 1048576: true; the input reads as it did. -/
def keyOrderUptoRow : OpenClaim := { program := "ytkgjpebekcgagaa", sum := "205303c31e0a406155b29d9f3fcdd80a12b788e383d65aeca1650703c4470ef6", func := "cashbook/cashbooklaw03.KeyOrder", spec := "keyOrder", inPlace := ["internal/bytealg.MakeNoZero", "internal/bytealg.Compare"], unfollowed := true, recurses := true, apart := false, narrowed := true }
def KeyOrderUptoSaid : Prop := keyOrderUptoRow.holds Try.pinned (OpenSpec.upto keyOrderSpec)

/-- 'cashbooklaw03.KeyParts', WHERE WHAT IT READS IS OF BULK AT MOST 1048576: true; the input reads as it did. -/
def keyPartsUptoRow : OpenClaim := { program := "ytkgjpebekcgagaa", sum := "205303c31e0a406155b29d9f3fcdd80a12b788e383d65aeca1650703c4470ef6", func := "cashbook/cashbooklaw03.KeyParts", spec := "keyParts", inPlace := ["internal/bytealg.MakeNoZero"], unfollowed := true, recurses := true, apart := false, narrowed := true }
def KeyPartsUptoSaid : Prop := keyPartsUptoRow.holds Try.pinned (OpenSpec.upto keyPartsSpec)

end Rows
end Go.Proofs.Ytkgjpebekcgagaa
