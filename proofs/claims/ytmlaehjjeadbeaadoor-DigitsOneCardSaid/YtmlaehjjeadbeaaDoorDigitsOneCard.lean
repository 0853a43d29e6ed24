/-
  DigitsOne's card (its row tied to the program's text), for every input. No condition.
-/
import Derived.Test.YtmlaehjjeadbeaaDoorDigitsOne
import Derived.Test.YtmlaehjjeadbeaaDoorCards
import Derived.Test.YtmlaehjjeadbeaaDoorTie
namespace Go.Proofs.YtmlaehjjeadbeaaDoor
set_option linter.unusedVariables false
set_option linter.unusedSimpArgs false
open Go

theorem digitsOneCard_holds : Rows.DigitsOneCardSaid :=
  Claim7.holds_tied_plain_at .later [] [.data, .data, .data] true (true, "cbb28b6b912fe97238542dcebe28d843a642582cf3c3573c61b236e54f733b1e") false
    digitsOne_holds (fun _ h => by cases h) (by kernel_rfl) (fun _ h => by cases h) digitsOne_row_tie rfl ⟨rfl, rfl⟩ (by kernel_rfl) rfl
    (fun f fn hf hfn => by
      obtain rfl : f = 4 := Option.some.inj ((show Tryd.prog.funcNamed Rows.digitsOneRow.func = some 4 by kernel_rfl).symm.trans hf) |>.symm
      obtain rfl : fn = Tryd.f4 := (Option.some.inj (Tryd.func4.symm.trans hfn)).symm
      exact ⟨by kernel_rfl, fun j t ht => by
        rw [Tryd.params4] at ht
        have hm : t ∈ [9] := by simpa using Array.mem_of_getElem? ht
        have hall : ([9].all fun u => !Tryd.prog.wantsStandIn u) = true := by kernel_rfl
        exact (show Tryd.prog.wantsStandIn t = false by simpa using List.all_eq_true.1 hall t hm)⟩)
    (by kernel_rfl)
#print axioms digitsOneCard_holds
end Go.Proofs.YtmlaehjjeadbeaaDoor
