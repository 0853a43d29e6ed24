/-
  PostingTwice.
-/
import Derived.Test.YtpbnakoimlmhnaaPt1
import Derived.Test.YtpbnakoimlmhnaaPf1
import Derived.Test.YtpbnakoimlmhnaaPg1
namespace Go.Proofs.Ytpbnakoimlmhnaa
set_option linter.unusedVariables false
set_option linter.unusedSimpArgs false
open Go.RowKit

theorem or_bit (x y i : Nat) : ((x ||| y) / 2 ^ i % 2 == 1) = ((x / 2 ^ i % 2 == 1) || (y / 2 ^ i % 2 == 1)) := by
  have h := Nat.testBit_or x y i
  simp only [Nat.testBit_eq_decide_div_mod_eq] at h
  rw [Bool.eq_iff_iff] at h ⊢
  simpa using h
theorem flagsV_iff (a b c : Bool) : flagsV a b c = 17 ↔ (a || (b && c)) = true := by cases a <;> cases b <;> cases c <;> decide
theorem flagsV_no (a b c : Bool) (h : ¬ flagsV a b c = 17) : flagsV a b c = 0 := by revert h; cases a <;> cases b <;> cases c <;> decide
theorem or_lt {f g : Int} (hf : 0 ≤ f ∧ f < 65536) (hg : 0 ≤ g ∧ g < 65536) : 0 ≤ bits .or .u16 f g ∧ bits .or .u16 f g < 65536 := by
  rw [u16_or f g hf.1 hf.2 hg.1 hg.2]
  have := Nat.or_lt_two_pow (n := 16) (show f.toNat < 2 ^ 16 by omega) (show g.toNat < 2 ^ 16 by omega)
  omega
theorem or_at {f g : Int} (hf : 0 ≤ f ∧ f < 65536) (hg : 0 ≤ g ∧ g < 65536) (i : Nat) (h : (f / ((2 ^ i : Nat) : Int) % 2 == 1) = true) : (bits .or .u16 f g / ((2 ^ i : Nat) : Int) % 2 == 1) = true := by
  rw [u16_or f g hf.1 hf.2 hg.1 hg.2]
  obtain ⟨x, rfl⟩ := Int.eq_ofNat_of_zero_le hf.1
  have e : ∀ n k : Nat, (((n : Int) / (k : Int) % 2 == 1)) = (n / k % 2 == 1) := fun n k => by rw [show ((n : Int) / (k : Int) % 2) = ((n / k % 2 : Nat) : Int) from by simp]; exact int_beq _ 1
  rw [e] at h ⊢
  rw [Int.toNat_natCast, or_bit, h]
  rfl
theorem fl_mono {f g : Int} (hf : 0 ≤ f ∧ f < 65536) (hg : 0 ≤ g ∧ g < 65536)
    (h : flagsV (bits .and .u16 f 12 == 12) (bits .and .u16 f 12 != 0) (bits .and .u16 f 242 != 0) = 17) :
    flagsV (bits .and .u16 (bits .or .u16 f g) 12 == 12) (bits .and .u16 (bits .or .u16 f g) 12 != 0) (bits .and .u16 (bits .or .u16 f g) 242 != 0) = 17 := by
  rw [flagsV_iff] at h ⊢
  obtain ⟨a1, a2, a3⟩ := fl_12 hf
  obtain ⟨b1, b2, b3⟩ := fl_12 (or_lt hf hg)
  rw [a1, a2, a3] at h
  rw [b1, b2, b3]
  have k1 := or_at hf hg 1
  have k2 := or_at hf hg 2
  have k3 := or_at hf hg 3
  have k4 := or_at hf hg 4
  have k5 := or_at hf hg 5
  have k6 := or_at hf hg 6
  have k7 := or_at hf hg 7
  generalize bits .or .u16 f g = m at *
  have k1 : (f / 2 % 2 == 1) = true → (m / 2 % 2 == 1) = true := k1
  have k2 : (f / 4 % 2 == 1) = true → (m / 4 % 2 == 1) = true := k2
  have k3 : (f / 8 % 2 == 1) = true → (m / 8 % 2 == 1) = true := k3
  have k4 : (f / 16 % 2 == 1) = true → (m / 16 % 2 == 1) = true := k4
  have k5 : (f / 32 % 2 == 1) = true → (m / 32 % 2 == 1) = true := k5
  have k6 : (f / 64 % 2 == 1) = true → (m / 64 % 2 == 1) = true := k6
  have k7 : (f / 128 % 2 == 1) = true → (m / 128 % 2 == 1) = true := k7
  clear a1 a2 a3 b1 b2 b3 hf hg
  simp only [Bool.or_eq_true, Bool.and_eq_true] at h ⊢
  rcases h with ⟨h1, h2⟩ | ⟨h1 | h1, h2⟩
  · exact Or.inl ⟨k2 h1, k3 h2⟩
  · refine Or.inr ⟨Or.inl (k2 h1), ?_⟩
    rcases h2 with (((h2 | h2) | h2) | h2) | h2
    · exact Or.inl (Or.inl (Or.inl (Or.inl (k1 h2))))
    · exact Or.inl (Or.inl (Or.inl (Or.inr (k4 h2))))
    · exact Or.inl (Or.inl (Or.inr (k5 h2)))
    · exact Or.inl (Or.inr (k6 h2))
    · exact Or.inr (k7 h2)
  · refine Or.inr ⟨Or.inr (k3 h1), ?_⟩
    rcases h2 with (((h2 | h2) | h2) | h2) | h2
    · exact Or.inl (Or.inl (Or.inl (Or.inl (k1 h2))))
    · exact Or.inl (Or.inl (Or.inl (Or.inr (k4 h2))))
    · exact Or.inl (Or.inl (Or.inr (k5 h2)))
    · exact Or.inl (Or.inr (k6 h2))
    · exact Or.inr (k7 h2)
theorem fl_any {f : Int} (h : flagsV (bits .and .u16 f 12 == 12) (bits .and .u16 f 12 != 0) (bits .and .u16 f 242 != 0) = 17) : (bits .and .u16 f 12 != 0) = true := by
  rw [flagsV_iff, Bool.or_eq_true, Bool.and_eq_true] at h
  rcases h with h | ⟨h, _⟩
  · have e : bits .and .u16 f 12 = 12 := by simpa using h
    rw [e]; decide
  · exact h
theorem postingTwice_any (xi1 xi2 xd1 xd2 xc1 xc2 xm1 xm2 xw1 xw2 xtg xto xlg xcd xfl xst g : Int) (hxfl : 0 ≤ xfl ∧ xfl < 65536) (hg : 0 ≤ g ∧ g < 65536) (w : World) : Calls Try.prog 9 #[.agg #[.int .u64 xi1, .int .u64 xi2, .int .u64 xd1, .int .u64 xd2, .int .u64 xc1, .int .u64 xc2, .int .u64 xm1, .int .u64 xm2, .int .u64 xw1, .int .u64 xw2, .int .u64 xtg, .int .u32 xto, .int .u32 xlg, .int .u16 xcd, .int .u16 xfl, .int .u64 xst], .int .u16 g] w fun r w' => r = .returned (.bool true) ∧ Below w.heap.size w w' :=
  twice_of xi1 xi2 xd1 xd2 xc1 xc2 xm1 xm2 xw1 xw2 xtg xto xlg xcd xfl xst g (flagsV (bits .and .u16 xfl 12 == 12) (bits .and .u16 xfl 12 != 0) (bits .and .u16 xfl 242 != 0)) (flagsV (bits .and .u16 xfl 12 == 12) (bits .and .u16 xfl 12 != 0) (bits .and .u16 xfl 242 != 0)) (flagsV (bits .and .u16 (bits .or .u16 xfl g) 12 == 12) (bits .and .u16 (bits .or .u16 xfl g) 12 != 0) (bits .and .u16 (bits .or .u16 xfl g) 242 != 0)) ((flagsV (bits .and .u16 xfl 12 == 12) (bits .and .u16 xfl 12 != 0) (bits .and .u16 xfl 242 != 0)) == 17) (bits .and .u16 xfl 12 != 0) rfl rfl rfl (fun h => beq_iff_eq.mpr (fl_mono hxfl hg (beq_iff_eq.mp h))) (fun h => fl_any (by simpa using h)) (fun h => flagsV_no _ _ _ (by simpa using h)) fixed19_any (fun w => flags_of xi1 xi2 xd1 xd2 xc1 xc2 xm1 xm2 xw1 xw2 xtg xto xlg xcd xfl xst _ _ _ rfl rfl rfl w) (fun w => flags_of 0 0 0 0 0 0 0 0 0 0 0 0 0 0 xfl 0 _ _ _ rfl rfl rfl w) (fun w => flags_of xi1 xi2 xd1 xd2 xc1 xc2 xm1 xm2 xw1 xw2 xtg xto xlg xcd (bits .or .u16 xfl g) xst _ _ _ rfl rfl rfl w) w
end Go.Proofs.Ytpbnakoimlmhnaa
