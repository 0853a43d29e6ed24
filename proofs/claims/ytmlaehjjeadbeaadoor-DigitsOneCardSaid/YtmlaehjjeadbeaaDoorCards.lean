/-
  DERIVED. GIVEN WITH THE SEED: THE CARDS: each row of YtmlaehjjeadbeaaDoorRows.lean that lists a variable, with what it lists TIED to the program's text (the seventh form; the later family's looks); each row that meets fmt, with fmt's text TOLD by the authors' own Lean function (tested against real Go, not proved from fmt's source: count such statements apart). THE CARD IS WHAT COUNTS. Prove the row's statement (the work); the ties are given (YtmlaehjjeadbeaaDoorTie.lean); close each card by the builder's one call (the guide's Derived/Test/ToyasCard.lean, 'card_holds'). Laid BY PROGRAM, IN A SANDBOX (cutbox-door.mjs). By AI agents, Wed Nov 11 2026. No macro, syntax, notation, axiom, sorry.
-/
import Derived.Test.YtmlaehjjeadbeaaDoorRows
import GoSem.ClaimSeven
namespace Go.Proofs.YtmlaehjjeadbeaaDoor
namespace Rows

/-- THE TIED CARD OF 'cashbooklaw02.DigitsTexts'. -/
def digitsTextsCard : Claim7 := { stood := { row := digitsTextsRow, standIns := [], harness := (true, "cbb28b6b912fe97238542dcebe28d843a642582cf3c3573c61b236e54f733b1e"), looks := false }, kinds := [], alts := [], laidByText := true, laidKinds := [.data, .data, .data], laidTests := true, laidLooks := .later }
def DigitsTextsCardSaid : Prop := Claim7.holds Tryd.pinned (.plain (OpenSpec.ofChange digitsTextsSpec)) digitsTextsCard

/-- THE TIED CARD OF 'cashbooklaw02.DigitsOne'. -/
def digitsOneCard : Claim7 := { stood := { row := digitsOneRow, standIns := [], harness := (true, "cbb28b6b912fe97238542dcebe28d843a642582cf3c3573c61b236e54f733b1e"), looks := false }, kinds := [], alts := [], laidByText := true, laidKinds := [.data, .data, .data], laidTests := true, laidLooks := .later }
def DigitsOneCardSaid : Prop := Claim7.holds Tryd.pinned (.plain (OpenSpec.ofChange digitsOneSpec)) digitsOneCard

/-- THE SECOND FORM's CARD OF 'cashbooklaw02.DigitsTexts'. -/
def digitsTextsUptoCard : Claim7 := { stood := { row := digitsTextsUptoRow, standIns := [], harness := (true, "cbb28b6b912fe97238542dcebe28d843a642582cf3c3573c61b236e54f733b1e"), looks := false }, kinds := [], alts := [], laidByText := true, laidKinds := [.data, .data, .data], laidTests := true, laidLooks := .later }
def DigitsTextsUptoCardSaid : Prop := Claim7.holds Tryd.pinned (.plain (OpenSpec.upto digitsTextsSpec)) digitsTextsUptoCard

/-- THE SECOND FORM's CARD OF 'cashbooklaw02.DigitsOne'. -/
def digitsOneUptoCard : Claim7 := { stood := { row := digitsOneUptoRow, standIns := [], harness := (true, "cbb28b6b912fe97238542dcebe28d843a642582cf3c3573c61b236e54f733b1e"), looks := false }, kinds := [], alts := [], laidByText := true, laidKinds := [.data, .data, .data], laidTests := true, laidLooks := .later }
def DigitsOneUptoCardSaid : Prop := Claim7.holds Tryd.pinned (.plain (OpenSpec.upto digitsOneSpec)) digitsOneUptoCard
end Rows
end Go.Proofs.YtmlaehjjeadbeaaDoor
