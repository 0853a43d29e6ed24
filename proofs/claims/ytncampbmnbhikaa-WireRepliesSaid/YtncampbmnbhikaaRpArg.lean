/-
  An argument that is a reply, opened.
-/
import Derived.Test.YtncampbmnbhikaaJ24
namespace Go.Proofs.Ytncampbmnbhikaa
set_option linter.unusedVariables false
set_option linter.unusedSimpArgs false
open Go.ChangeShapes Go.WideShapes Go.Deep Go.ChangeAt Go.RowKit

set_option maxRecDepth 100000 in
theorem open_reply {H : Type} {enc : TypeId × Value → H} {W : World} {x0 x1 x2 x3 x4 x5 x6 : Value} {d : DataW H} {p : List MemPlace} {b : Nat} {sp : Nat → Bool} {hd : Bool} (h : DataW.Trod enc Try.prog W b sp hd 28 (.agg #[x0, x1, x2, x3, x4, x5, x6]) d p) :
    ∃ (RA AA TA BA : Option Addr) (rn rc an ac tn tc bn bc : Nat) (RF AF TF BF : Nat → Nat → Int), x2 = .slice RA rn rc ∧ x3 = .slice AA an ac ∧ x4 = .slice TA tn tc ∧ x5 = .slice BA bn bc ∧
      (rn ≤ maxLen ∧ an ≤ maxLen ∧ tn ≤ maxLen ∧ bn ≤ maxLen) ∧ (SsIs W RA rn 2 (fun i => clR (RF i)) ∧ SsIs W AA an 15 (fun i => clA (AF i)) ∧ SsIs W TA tn 16 (fun i => clT (TF i)) ∧ SsIs W BA bn 9 (fun i => clB (BF i))) ∧ (∀ i, okR (RF i)) ∧ (∀ i, okA (AF i)) ∧ (∀ i, okT (TF i)) ∧ ∀ i, okB (BF i) := by
  obtain ⟨fuel, hf⟩ := h
  obtain ⟨xs, n, _, _, _, hxl, hfl⟩ := DataW.trod_struct Try.underlying28 hf
  have hs : ∀ j, j < 7 → ∃ y, xs[j]? = some y := fun j hj => ⟨xs[j]'(by rw [hxl]; exact hj), List.getElem?_eq_getElem _⟩
  have g2 := hfl 2 _ rfl
  have g3 := hfl 3 _ rfl
  have g4 := hfl 4 _ rfl
  have g5 := hfl 5 _ rfl
  obtain ⟨y2, r2⟩ := hs 2 (by omega)
  obtain ⟨y3, r3⟩ := hs 3 (by omega)
  obtain ⟨y4, r4⟩ := hs 4 (by omega)
  obtain ⟨y5, r5⟩ := hs 5 (by omega)
  obtain ⟨RA, rn, rc, RF, k0, k1, k2, k3, k4⟩ := open_R (g2.trans r2)
  obtain ⟨AA, an, ac, AF, a0, a1, a2, a3, a4⟩ := open_A (g3.trans r3)
  obtain ⟨TA, tn, tc, TF, t0, t1, t2, t3, t4⟩ := open_T (g4.trans r4)
  obtain ⟨BA, bn, bc, BF, b0, b1, b2, b3, b4⟩ := open_B (g5.trans r5)
  refine ⟨RA, AA, TA, BA, rn, rc, an, ac, tn, tc, bn, bc, RF, AF, TF, BF, ?_, ?_, ?_, ?_, ⟨by omega, by omega, by omega, by omega⟩, ⟨k3, a3, t3, b3⟩, k4, a4, t4, b4⟩
  · exact List.head_eq_of_cons_eq ((show [x2] = _ from by first | exact k0 | (rw [← k0]; kernel_rfl)))
  · exact List.head_eq_of_cons_eq ((show [x3] = _ from by first | exact a0 | (rw [← a0]; kernel_rfl)))
  · exact List.head_eq_of_cons_eq ((show [x4] = _ from by first | exact t0 | (rw [← t0]; kernel_rfl)))
  · exact List.head_eq_of_cons_eq ((show [x5] = _ from by first | exact b0 | (rw [← b0]; kernel_rfl)))
end Go.Proofs.Ytncampbmnbhikaa
