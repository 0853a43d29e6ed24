/-
  An argument that is a request, opened.
-/
import Derived.Test.YtncampbmnbhikaaJ24
namespace Go.Proofs.Ytncampbmnbhikaa
set_option linter.unusedVariables false
set_option linter.unusedSimpArgs false
open Go.ChangeShapes Go.WideShapes Go.Deep Go.ChangeAt Go.RowKit

set_option maxRecDepth 100000 in
theorem open_request {H : Type} {enc : TypeId × Value → H} {W : World} {x0 x1 x2 x3 x4 x5 x6 x7 x8 x9 : Value} {d : DataW H} {p : List MemPlace} {b : Nat} {sp : Nat → Bool} {hd : Bool} (h : DataW.Trod enc Try.prog W b sp hd 46 (.agg #[x0, x1, x2, x3, x4, x5, x6, x7, x8, x9]) d p) :
    ∃ (AA TA UA : Option Addr) (an ac tn tc un uc : Nat) (AF TF UF : Nat → Nat → Int), x1 = .slice AA an ac ∧ x2 = .slice TA tn tc ∧ x3 = .slice UA un uc ∧
      (an ≤ maxLen ∧ tn ≤ maxLen ∧ un ≤ maxLen) ∧ (SsIs W AA an 15 (fun i => clA (AF i)) ∧ SsIs W TA tn 16 (fun i => clT (TF i)) ∧ SsIs W UA un 2 (fun i => clU (UF i))) ∧ (∀ i, okA (AF i)) ∧ (∀ i, okT (TF i)) ∧ ∀ i, okU (UF i) := by
  obtain ⟨fuel, hf⟩ := h
  obtain ⟨xs, n, _, _, _, hxl, hfl⟩ := DataW.trod_struct Try.underlying46 hf
  have hs : ∀ j, j < 5 → ∃ y, xs[j]? = some y := fun j hj => ⟨xs[j]'(by rw [hxl]; exact hj), List.getElem?_eq_getElem _⟩
  have g1 := hfl 1 _ rfl
  have g2 := hfl 2 _ rfl
  have g3 := hfl 3 _ rfl
  obtain ⟨y1, r1⟩ := hs 1 (by omega)
  obtain ⟨y2, r2⟩ := hs 2 (by omega)
  obtain ⟨y3, r3⟩ := hs 3 (by omega)
  obtain ⟨AA, an, ac, AF, a0, a1, a2, a3, a4⟩ := open_A (g1.trans r1)
  obtain ⟨TA, tn, tc, TF, t0, t1, t2, t3, t4⟩ := open_T (g2.trans r2)
  obtain ⟨UA, un, uc, UF, u0, u1, u2, u3, u4⟩ := open_U (g3.trans r3)
  refine ⟨AA, TA, UA, an, ac, tn, tc, un, uc, AF, TF, UF, ?_, ?_, ?_, ⟨by omega, by omega, by omega⟩, ⟨a3, t3, u3⟩, a4, t4, u4⟩
  · exact List.head_eq_of_cons_eq ((show [x1] = _ from by first | exact a0 | (rw [← a0]; kernel_rfl)))
  · exact List.head_eq_of_cons_eq ((show [x2] = _ from by first | exact t0 | (rw [← t0]; kernel_rfl)))
  · exact List.head_eq_of_cons_eq ((show [x3] = _ from by first | exact u0 | (rw [← u0]; kernel_rfl)))
end Go.Proofs.Ytncampbmnbhikaa
