/-
  Plain laws of a filter's sides, and of a window that is cut in two.
-/
import Derived.Test.YtmoflbpglkeikaaFilterM
namespace Go.Proofs.Ytmoflbpglkeikaa
set_option linter.unusedVariables false
set_option linter.unusedSimpArgs false
open Go.RowKit

/-- is a stamp in the window of a right filter? -/
def inW (c d s : Int) : Bool := decide (winF true c ≤ s) && decide (s ≤ winT true d)

theorem right_flags {a b c d e f g : Int} (hg : g = 1 ∨ g = 2) (h : rightB a b c d e f = true) : rightB a b c d e g = true := by
  unfold rightB at h ⊢
  have e2 : wr2 g = false := by rcases hg with rfl | rfl <;> decide
  rw [e2]
  simp at h ⊢
  simp [h]
theorem takes_flag1 (c d s : Int) : takesB true c d 1 s 1 = inW c d s := by
  have h : bits .and .u32 1 1 = 1 := by decide
  simp [takesB, inW, h]
theorem takes_flag2 (c d s : Int) : takesB true c d 2 s 2 = inW c d s := by
  have h : bits .and .u32 2 2 = 2 := by decide
  simp [takesB, inW, h]
theorem takes_flag12 (c d s : Int) : takesB true c d 1 s 2 = false := by
  have h : bits .and .u32 1 2 = 0 := by decide
  simp [takesB, h]
theorem takes_flag21 (c d s : Int) : takesB true c d 2 s 1 = false := by
  have h : bits .and .u32 2 1 = 0 := by decide
  simp [takesB, h]
theorem takes_in (c d f s g : Int) (hg : g = 1 ∨ g = 2) : takesB true c d f s g = ((bits .and .u32 f g != 0) && inW c d s) := by
  unfold takesB inW
  rcases hg with rfl | rfl <;> simp
theorem right_low {a b c d e f v : Int} (hc : 0 ≤ c) (hv : 0 ≤ v ∧ v < 18446744073709551616) (h : rightB a b c d e f = true) (h1 : winF true c < v) : rightB a b c (v - 1) e f = true := by
  unfold rightB wr4 wr5 winF at *
  simp at h ⊢
  simp at h1
  obtain ⟨⟨⟨⟨a1, a2⟩, a3⟩, a4, a5⟩, a6⟩ := h
  refine ⟨⟨⟨⟨a1, a2⟩, a3⟩, ?_, ?_⟩, ?_⟩ <;> omega
theorem right_high {a b c d e f v : Int} (hc : 0 ≤ c) (hd : 0 ≤ d ∧ d < 18446744073709551616) (hv : 0 ≤ v ∧ v < 18446744073709551616) (h : rightB a b c d e f = true) (h1 : winF true c < v) (h2 : v ≤ winT true d) : rightB a b v d e f = true := by
  unfold rightB wr4 wr5 winF winT at *
  simp at h ⊢
  simp at h1 h2
  obtain ⟨⟨⟨⟨a1, a2⟩, a3⟩, a4, a5⟩, a6⟩ := h
  split at h2 <;> (refine ⟨⟨⟨⟨a1, a2⟩, a3⟩, ?_, ?_⟩, ?_⟩ <;> omega)
/-- the window is the two parts, which share nothing -/
theorem in_cut {c d s v : Int} (hc : 0 ≤ c) (h1 : winF true c < v) (h2 : v ≤ winT true d) (h3 : v - 1 ≠ 0) :
    (inW c (v - 1) s = true ∧ inW v d s = false ∧ inW c d s = true) ∨ (inW c (v - 1) s = false ∧ inW v d s = true ∧ inW c d s = true) ∨ (inW c (v - 1) s = false ∧ inW v d s = false ∧ inW c d s = false) := by
  have e1 : winT true (v - 1) = v - 1 := by simp [winT, h3]
  have e2 : winF true v = v := rfl
  have e3 : winF true c = c := rfl
  unfold inW
  rw [e1, e2, e3]
  rw [e3] at h1
  generalize winT true d = T at *
  by_cases k1 : c ≤ s <;> by_cases k2 : s ≤ v - 1 <;> by_cases k3 : s ≤ T <;> by_cases k4 : v ≤ s <;> simp [k1, k2, k3, k4] <;> omega
end Go.Proofs.Ytmoflbpglkeikaa
