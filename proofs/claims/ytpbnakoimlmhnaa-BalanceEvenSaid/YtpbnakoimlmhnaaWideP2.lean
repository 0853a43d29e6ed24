/-
  Plain laws: what is added is taken away again, and the other way about.
-/
import Derived.Test.YtpbnakoimlmhnaaWideE
namespace Go.Proofs.Ytpbnakoimlmhnaa
set_option linter.unusedVariables false
set_option linter.unusedSimpArgs false
open Go.RowKit

theorem add_comm' (a b c d : Int) : addB c d a b = addB a b c d ∧ addH c d a b = addH a b c d ∧ addL c d a b = addL a b c d := by
  have e : addB c d a b = addB a b c d := by unfold addB; rw [Int.add_comm]
  refine ⟨e, ?_, ?_⟩
  · unfold addH; rw [e, Int.add_comm c a, Int.add_comm d b]
  · unfold addL; rw [e, Int.add_comm d b]
theorem back1 {a b c d : Int} (ha : Wd a) (hb : Wd b) (hc : Wd c) (hd : Wd d) (h : addB a b c d = true) : subB (addH a b c d) (addL a b c d) c d = true ∧ subH (addH a b c d) (addL a b c d) c d = a ∧ subL (addH a b c d) (addL a b c d) c d = b := by
  have e1 : addH a b c d = a + c + (b + d) / 18446744073709551616 := by unfold addH; rw [if_pos h]
  have e2 : addL a b c d = (b + d) % 18446744073709551616 := by unfold addL; rw [if_pos h]
  have k : subB (addH a b c d) (addL a b c d) c d = true := by
    rw [e1, e2]; unfold subB Wd at *; simp; omega
  refine ⟨k, ?_, ?_⟩
  · unfold subH; rw [if_pos k, e1, e2]; unfold Wd at *; split <;> omega
  · unfold subL; rw [if_pos k, e2]; unfold Wd at *; omega
theorem back2 {a b c d : Int} (ha : Wd a) (hb : Wd b) (hc : Wd c) (hd : Wd d) (h : subB a b c d = true) : addB (subH a b c d) (subL a b c d) c d = true ∧ addH (subH a b c d) (subL a b c d) c d = a ∧ addL (subH a b c d) (subL a b c d) c d = b := by
  have e1 : subH a b c d = a - c - (if b < d then 1 else 0) := by unfold subH; rw [if_pos h]
  have e2 : subL a b c d = (b - d) % 18446744073709551616 := by unfold subL; rw [if_pos h]
  have h' : c * 18446744073709551616 + d ≤ a * 18446744073709551616 + b := by simpa [subB] using h
  have k : addB (subH a b c d) (subL a b c d) c d = true := by
    rw [e1, e2]; unfold addB Wd at *; simp only [decide_eq_true_eq]; split <;> omega
  refine ⟨k, ?_, ?_⟩
  · unfold addH; rw [if_pos k, e1, e2]; unfold Wd at *; split <;> omega
  · unfold addL; rw [if_pos k, e2]; unfold Wd at *; omega
theorem cmp_ge {a b c d : Int} (ha : Wd a) (hb : Wd b) (hc : Wd c) (hd : Wd d) : subB a b c d = decide (0 ≤ cmpV a b c d) := by
  rw [cmpV_V hb hd, subB_V]
  unfold cmpI
  split
  · simp; omega
  · split <;> (simp; omega)
theorem rest_lt {a b c d : Int} (ha : Wd a) (hb : Wd b) (hc : Wd c) (hd : Wd d) (h : addB a b c d = false) : cmpV (subH 18446744073709551615 18446744073709551615 a b) (subL 18446744073709551615 18446744073709551615 a b) c d < 0 := by
  have um : Wd 18446744073709551615 := by unfold Wd; omega
  obtain ⟨h1, h2⟩ := sub_u um um ha hb
  rw [cmpV_V h2 hd]
  have k : V a b ≤ V 18446744073709551615 18446744073709551615 := by unfold V Wd at *; omega
  have e : V (subH 18446744073709551615 18446744073709551615 a b) (subL 18446744073709551615 18446744073709551615 a b) = V 18446744073709551615 18446744073709551615 - V a b := by
    rw [subH_V um hb k, subL_V k, V_of]
  rw [e]
  rw [addB_V] at h
  have h' : ¬ V a b + V c d < pw 16 := by simpa using h
  rw [pw_16] at h'
  unfold cmpI
  rw [if_pos]
  · decide
  · rw [show V 18446744073709551615 18446744073709551615 = 340282366920938463463374607431768211455 by decide]; omega

end Go.Proofs.Ytpbnakoimlmhnaa
