/-
  Four bytes put together by shifts and ors are their number.
-/
import Derived.Test.YtbmdnifkjcimcaaWideM
namespace Go.Proofs.Ytbmdnifkjcimcaa
set_option linter.unusedVariables false
set_option linter.unusedSimpArgs false
open Go.RowKit

theorem or_up (x : Int) (y i : Nat) (hx : 0 ≤ x) (h : x * 2 ^ i + y < 4294967296) (hy : y < 2 ^ i) : bits .or .u32 (x * 2 ^ i) (y : Int) = x * 2 ^ i + y := by
  obtain ⟨x, rfl⟩ := Int.eq_ofNat_of_zero_le hx
  have e : ((x : Int) * 2 ^ i) = ((x * 2 ^ i : Nat) : Int) := by push_cast; rfl
  rw [e] at h ⊢
  have h' : x * 2 ^ i + y < 4294967296 := by omega
  rw [u32_or_nat _ _ (by omega) (by omega)]
  have h2 := Nat.shiftLeft_add_eq_or_of_lt (a := x) (b := y) (i := i) hy
  rw [Nat.shiftLeft_eq] at h2
  rw [← h2]
  push_cast; rfl
theorem or4 (y : Nat → Int) (hy : ∀ i, 0 ≤ y i ∧ y i < 256) (s : Nat) : bits .or .u32 (bits .or .u32 (bits .or .u32 (IntKind.u32.wrap (IntKind.u32.wrap (y s) * 16777216)) (IntKind.u32.wrap (IntKind.u32.wrap (y (s + 1)) * 65536))) (IntKind.u32.wrap (IntKind.u32.wrap (y (s + 2)) * 256))) (IntKind.u32.wrap (y (s + 3))) = num y s 4 := by
  have h0 := hy s
  have h1 := hy (s + 1)
  have h2 := hy (s + 2)
  have h3 := hy (s + 3)
  have hn : num y s 4 = (((0 * 256 + y s) * 256 + y (s + 1)) * 256 + y (s + 2)) * 256 + y (s + 3) := rfl
  rw [hn]
  clear hn
  generalize y s = y0 at *
  generalize y (s + 1) = y1 at *
  generalize y (s + 2) = y2 at *
  generalize y (s + 3) = y3 at *
  obtain ⟨a, rfl⟩ := Int.eq_ofNat_of_zero_le h0.1
  obtain ⟨b, rfl⟩ := Int.eq_ofNat_of_zero_le h1.1
  obtain ⟨c, rfl⟩ := Int.eq_ofNat_of_zero_le h2.1
  obtain ⟨d, rfl⟩ := Int.eq_ofNat_of_zero_le h3.1
  have w : ∀ z : Int, 0 ≤ z → z < 4294967296 → IntKind.u32.wrap z = z := fun z q1 q2 => by rw [IntKind.wrap_u32]; omega
  rw [w (a : Int) (by omega) (by omega), w (b : Int) (by omega) (by omega), w (c : Int) (by omega) (by omega), w (d : Int) (by omega) (by omega)]
  rw [w ((a : Int) * 16777216) (by omega) (by omega), w ((b : Int) * 65536) (by omega) (by omega), w ((c : Int) * 256) (by omega) (by omega)]
  have e1 := or_up (a : Int) (b * 65536) 24 (by omega) (by omega) (by omega)
  have e2 := or_up ((a : Int) * 256 + b) (c * 256) 16 (by omega) (by omega) (by omega)
  have e3 := or_up (((a : Int) * 256 + b) * 256 + c) d 8 (by omega) (by omega) (by omega)
  have p1 : (a : Int) * 2 ^ 24 = (a : Int) * 16777216 := by omega
  have p2 : ((a : Int) * 256 + b) * 2 ^ 16 = (a : Int) * 16777216 + ((b * 65536 : Nat) : Int) := by omega
  have p3 : (((a : Int) * 256 + b) * 256 + c) * 2 ^ 8 = ((a : Int) * 256 + b) * 2 ^ 16 + ((c * 256 : Nat) : Int) := by omega
  have q1 : (b : Int) * 65536 = ((b * 65536 : Nat) : Int) := by omega
  have q2 : (c : Int) * 256 = ((c * 256 : Nat) : Int) := by omega
  rw [q1, q2, ← p1, e1, p1, ← p2, e2, ← p3, e3]
  omega
end Go.Proofs.Ytbmdnifkjcimcaa
