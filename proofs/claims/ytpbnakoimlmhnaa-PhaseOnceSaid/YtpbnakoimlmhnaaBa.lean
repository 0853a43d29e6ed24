/-
  How much is moved: plain values.
-/
import Derived.Test.YtpbnakoimlmhnaaBv
namespace Go.Proofs.Ytpbnakoimlmhnaa
set_option linter.unusedVariables false
set_option linter.unusedSimpArgs false
open Go.RowKit

def ask1H (b : Bool) (m1 m2 d1 d2 : Int) : Int := if b then lsH m1 m2 d1 d2 else m1
def ask1L (b : Bool) (m1 m2 d1 d2 : Int) : Int := if b then lsL m1 m2 d1 d2 else m2
theorem ask1_u {b : Bool} {m1 m2 d1 d2 : Int} (h1 : Wd m1) (h2 : Wd m2) (h3 : Wd d1) (h4 : Wd d2) : Wd (ask1H b m1 m2 d1 d2) ∧ Wd (ask1L b m1 m2 d1 d2) := by
  unfold ask1H ask1L
  cases b
  · exact ⟨h1, h2⟩
  · exact ls_u h1 h2 h3 h4
/-- how much is moved: balanced by the debited side, and by the credited one -/
def askH (b16 b32 : Bool) (m1 m2 d1 d2 c1 c2 : Int) : Int := ask1H b32 (ask1H b16 m1 m2 d1 d2) (ask1L b16 m1 m2 d1 d2) c1 c2
def askL (b16 b32 : Bool) (m1 m2 d1 d2 c1 c2 : Int) : Int := ask1L b32 (ask1H b16 m1 m2 d1 d2) (ask1L b16 m1 m2 d1 d2) c1 c2
theorem ask_u {b16 b32 : Bool} {m1 m2 d1 d2 c1 c2 : Int} (h1 : Wd m1) (h2 : Wd m2) (h3 : Wd d1) (h4 : Wd d2) (h5 : Wd c1) (h6 : Wd c2) : Wd (askH b16 b32 m1 m2 d1 d2 c1 c2) ∧ Wd (askL b16 b32 m1 m2 d1 d2 c1 c2) := by
  obtain ⟨g1, g2⟩ := ask1_u (b := b16) h1 h2 h3 h4
  exact ask1_u g1 g2 h5 h6
/-- is a flag set? -/
theorem bit_2 {f : Int} (h : 0 ≤ f ∧ f < 65536) : (f / 2 % 2 == 1) = (bits .and .u16 f 2 != 0) := by rw [u16_2 f h.1 h.2]; rw [Bool.eq_iff_iff]; simp; omega
theorem bit_4 {f : Int} (h : 0 ≤ f ∧ f < 65536) : (f / 4 % 2 == 1) = (bits .and .u16 f 4 != 0) := by rw [u16_4 f h.1 h.2]; rw [Bool.eq_iff_iff]; simp; omega
theorem bit_8 {f : Int} (h : 0 ≤ f ∧ f < 65536) : (f / 8 % 2 == 1) = (bits .and .u16 f 8 != 0) := by rw [u16_8 f h.1 h.2]; rw [Bool.eq_iff_iff]; simp; omega
theorem bit_16 {f : Int} (h : 0 ≤ f ∧ f < 65536) : (f / 16 % 2 == 1) = (bits .and .u16 f 16 != 0) := by rw [u16_16 f h.1 h.2]; rw [Bool.eq_iff_iff]; simp; omega
theorem bit_32 {f : Int} (h : 0 ≤ f ∧ f < 65536) : (f / 32 % 2 == 1) = (bits .and .u16 f 32 != 0) := by rw [u16_32 f h.1 h.2]; rw [Bool.eq_iff_iff]; simp; omega
theorem bit_64 {f : Int} (h : 0 ≤ f ∧ f < 65536) : (f / 64 % 2 == 1) = (bits .and .u16 f 64 != 0) := by rw [u16_64 f h.1 h.2]; rw [Bool.eq_iff_iff]; simp; omega
theorem bit_128 {f : Int} (h : 0 ≤ f ∧ f < 65536) : (f / 128 % 2 == 1) = (bits .and .u16 f 128 != 0) := by rw [u16_128 f h.1 h.2]; rw [Bool.eq_iff_iff]; simp; omega
end Go.Proofs.Ytpbnakoimlmhnaa
