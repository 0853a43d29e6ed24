/-
  Plain laws of sixteen digits of 256: sums, differences, order.
-/
import Derived.Test.YtnbfnlpepnbppaaRow
import Derived.Test.YtnbfnlpepnbppaaRef1N
namespace Go.Proofs.Ytnbfnlpepnbppaa
set_option linter.unusedVariables false
set_option linter.unusedSimpArgs false

/-- place e: 256 to the power of e -/
def pw (e : Nat) : Int := 256 ^ e
theorem pw_pos (e : Nat) : 0 < pw e := Int.pow_pos (by omega)
theorem pw_succ (e : Nat) : pw (e + 1) = pw e * 256 := Int.pow_succ _ _
theorem pw_16 : pw 16 = 340282366920938463463374607431768211456 := by decide
theorem pw_8 : pw 8 = 18446744073709551616 := by decide
theorem pw_0 : pw 0 = 1 := by decide

theorem part (A P : Int) (hP : 0 < P) : A = A / P * P + A % P ∧ 0 ≤ A % P ∧ A % P < P :=
  ⟨by have := Int.mul_ediv_add_emod A P; rw [Int.mul_comm] at this; exact this.symm, Int.emod_nonneg _ (by omega), Int.emod_lt_of_pos _ hP⟩
theorem part_eq {A P q r : Int} (hP : 0 < P) (h : A = q * P + r) (h0 : 0 ≤ r) (h1 : r < P) : A / P = q ∧ A % P = r := by
  subst h
  rw [Int.add_comm]
  refine ⟨?_, ?_⟩
  · rw [Int.add_mul_ediv_right _ _ (by omega), Int.ediv_eq_zero_of_lt h0 h1]; omega
  · rw [Int.add_mul_emod_self_right, Int.emod_eq_of_lt h0 h1]
theorem div_place (A P : Int) (hP : 0 < P) : A / P / 256 = A / (P * 256) := by
  rw [Int.ediv_ediv_of_nonneg (by omega)]
theorem mod_place (A P : Int) (hP : 0 < P) : A % (P * 256) = A / P % 256 * P + A % P := by
  obtain ⟨h, h0, h1⟩ := part A P hP
  obtain ⟨g, g0, g1⟩ := part (A / P) 256 (by omega)
  have hb : A / P % 256 * P ≤ 255 * P := Int.mul_le_mul_of_nonneg_right (by omega) (by omega)
  have hc : 0 ≤ A / P % 256 * P := Int.mul_nonneg g0 (by omega)
  refine (part_eq (P := P * 256) (q := A / P / 256) (by omega) ?_ (by omega) (by omega)).2
  have e : A / P * P = A / P / 256 * (P * 256) + A / P % 256 * P := by
    have e1 : A / P * P = (A / P / 256 * 256 + A / P % 256) * P := by rw [← g]
    rw [e1, Int.add_mul, Int.mul_assoc, Int.mul_comm 256 P]
  omega
theorem div_sum (A B P : Int) (hP : 0 < P) : (A + B) / P = A / P + B / P + (A % P + B % P) / P := by
  obtain ⟨h, h0, h1⟩ := part A P hP
  obtain ⟨g, g0, g1⟩ := part B P hP
  have e : A + B = (A % P + B % P) + (A / P + B / P) * P := by rw [Int.add_mul]; omega
  rw [e, Int.add_mul_ediv_right _ _ (by omega)]
  generalize (A % P + B % P) / P = z
  omega
theorem div_diff (A B P : Int) (hP : 0 < P) : (A - B) / P = A / P - B / P - (if A % P < B % P then 1 else 0) := by
  obtain ⟨h, h0, h1⟩ := part A P hP
  obtain ⟨g, g0, g1⟩ := part B P hP
  have e : A - B = (A / P - B / P) * P + (A % P - B % P) := by rw [Int.sub_mul]; omega
  split
  · refine (part_eq (P := P) (r := A % P - B % P + P) hP ?_ (by omega) (by omega)).1
    rw [Int.sub_mul _ 1, Int.one_mul]; omega
  · refine (part_eq (P := P) (r := A % P - B % P) hP ?_ (by omega) (by omega)).1
    rw [Int.sub_mul _ 0, Int.zero_mul]; omega

/-- digit j of the number A -/
def dg (A : Int) (j : Nat) : Int := A / pw (15 - j) % 256
theorem dg_lo (A : Int) (j : Nat) : 0 ≤ dg A j ∧ dg A j < 256 := by unfold dg; omega

/-- the carry behind the places below e -/
def carry (A B : Int) (e : Nat) : Int := (A % pw e + B % pw e) / pw e
theorem carry_0 (A B : Int) : carry A B 0 = 0 := by unfold carry; rw [pw_0]; omega
theorem carry_lo (A B : Int) (e : Nat) : 0 ≤ carry A B e ∧ carry A B e ≤ 1 := by
  unfold carry
  have hP := pw_pos e
  obtain ⟨_, h0, h1⟩ := part A _ hP
  obtain ⟨_, g0, g1⟩ := part B _ hP
  have e1 : 0 ≤ (A % pw e + B % pw e) / pw e := Int.ediv_nonneg (by omega) (by omega)
  have e2 : (A % pw e + B % pw e) / pw e < 2 := Int.ediv_lt_of_lt_mul hP (by omega)
  omega
theorem carry_dg (A B : Int) (e : Nat) (he : e ≤ 15) : (dg A (15 - e) + dg B (15 - e) + carry A B e) % 256 = dg (A + B) (15 - e) := by
  unfold dg carry
  rw [show 15 - (15 - e) = e from by omega, div_sum A B _ (pw_pos e)]
  omega
theorem carry_succ (A B : Int) (e : Nat) (he : e ≤ 15) : (dg A (15 - e) + dg B (15 - e) + carry A B e) / 256 = carry A B (e + 1) := by
  unfold dg carry
  have hP := pw_pos e
  rw [show 15 - (15 - e) = e from by omega, pw_succ, mod_place A _ hP, mod_place B _ hP, ← div_place _ _ hP]
  have h1 : A / pw e % 256 * pw e + A % pw e + (B / pw e % 256 * pw e + B % pw e) = (A % pw e + B % pw e) + (A / pw e % 256 + B / pw e % 256) * pw e := by rw [Int.add_mul]; omega
  rw [h1, Int.add_mul_ediv_right _ _ (by omega)]
  generalize (A % pw e + B % pw e) / pw e = z
  rw [Int.add_comm]
theorem carry_16 (A B : Int) (hA : 0 ≤ A ∧ A < pw 16) (hB : 0 ≤ B ∧ B < pw 16) : carry A B 16 = (A + B) / pw 16 := by
  unfold carry
  rw [Int.emod_eq_of_lt hA.1 hA.2, Int.emod_eq_of_lt hB.1 hB.2]

/-- the loan behind the places below e -/
def loan (A B : Int) (e : Nat) : Int := if A % pw e < B % pw e then 1 else 0
theorem loan_0 (A B : Int) : loan A B 0 = 0 := by unfold loan; rw [pw_0]; simp [Int.emod_one]
theorem loan_lo (A B : Int) (e : Nat) : 0 ≤ loan A B e ∧ loan A B e ≤ 1 := by unfold loan; split <;> omega
theorem loan_dg (A B : Int) (e : Nat) (he : e ≤ 15) : (dg A (15 - e) - dg B (15 - e) - loan A B e) % 256 = dg (A - B) (15 - e) := by
  unfold dg loan
  rw [show 15 - (15 - e) = e from by omega, div_diff A B _ (pw_pos e)]
  omega
theorem loan_succ (A B : Int) (e : Nat) (he : e ≤ 15) : loan A B (e + 1) = if dg A (15 - e) - dg B (15 - e) - loan A B e < 0 then 1 else 0 := by
  unfold dg loan
  have hP := pw_pos e
  rw [show 15 - (15 - e) = e from by omega, pw_succ, mod_place A _ hP, mod_place B _ hP]
  obtain ⟨_, h0, h1⟩ := part A _ hP
  obtain ⟨_, g0, g1⟩ := part B _ hP
  generalize A / pw e % 256 = x
  generalize B / pw e % 256 = y
  generalize A % pw e = a at *
  generalize B % pw e = b at *
  generalize pw e = P at *
  have h2 : (x - y) * P = x * P - y * P := Int.sub_mul _ _ _
  by_cases hab : a < b
  · rw [if_pos hab]
    by_cases hxy : x - y ≤ 0
    · have : (x - y) * P ≤ 0 * P := Int.mul_le_mul_of_nonneg_right hxy (by omega)
      rw [Int.zero_mul] at this
      rw [if_pos (by omega), if_pos (by omega)]
    · have : 1 * P ≤ (x - y) * P := Int.mul_le_mul_of_nonneg_right (by omega) (by omega)
      rw [if_neg (by omega), if_neg (by omega)]
  · rw [if_neg hab]
    by_cases hxy : x - y < 0
    · have : (x - y) * P ≤ (-1) * P := Int.mul_le_mul_of_nonneg_right (by omega) (by omega)
      rw [if_pos (by omega), if_pos (by omega)]
    · have : 0 * P ≤ (x - y) * P := Int.mul_le_mul_of_nonneg_right (by omega) (by omega)
      rw [Int.zero_mul] at this
      rw [if_neg (by omega), if_neg (by omega)]
theorem loan_16 (A B : Int) (hA : 0 ≤ A ∧ A < pw 16) (hB : 0 ≤ B ∧ B < pw 16) : loan A B 16 = if A < B then 1 else 0 := by
  unfold loan
  rw [Int.emod_eq_of_lt hA.1 hA.2, Int.emod_eq_of_lt hB.1 hB.2]

/-- the digits' number -/
theorem num_top (A : Int) (hA : 0 ≤ A ∧ A < pw 16) : ∀ k, k ≤ 16 → num (dg A) 0 k = A / pw (16 - k)
  | 0, _ => by simp only [num]; rw [Int.ediv_eq_zero_of_lt hA.1 hA.2]
  | k + 1, hk => by
    simp only [num]
    rw [num_top A hA k (by omega), Nat.zero_add]
    unfold dg
    rw [show 16 - k = (15 - k) + 1 from by omega, pw_succ, ← div_place _ _ (pw_pos _), show 16 - (k + 1) = 15 - k from by omega]
    generalize A / pw (15 - k) = z
    omega
theorem num_low (A : Int) : ∀ k, k ≤ 8 → num (dg A) 8 k = A / pw (8 - k) % pw k
  | 0, _ => by simp only [num]; rw [pw_0]; omega
  | k + 1, hk => by
    simp only [num]
    rw [num_low A k (by omega)]
    unfold dg
    rw [show 8 - k = (15 - (8 + k)) + 1 from by omega, pw_succ, ← div_place _ _ (pw_pos _), show 8 - (k + 1) = 15 - (8 + k) from by omega, pw_succ]
    generalize A / pw (15 - (8 + k)) = z
    rw [Int.mul_comm (pw k) 256]
    have hP := pw_pos k
    obtain ⟨h, h0, h1⟩ := part (z / 256) (pw k) hP
    refine ((part_eq (P := 256 * pw k) (q := z / 256 / pw k) (by omega) ?_ (by omega) (by omega)).2).symm
    have h3 : z / 256 / pw k * (256 * pw k) = 256 * (z / 256 / pw k * pw k) := by rw [← Int.mul_assoc, Int.mul_comm _ 256, Int.mul_assoc]
    rw [h3]
    generalize z / 256 / pw k * pw k = y at *
    omega
theorem num_eq (A : Int) (hA : 0 ≤ A ∧ A < pw 16) : num (dg A) 0 8 = A / 18446744073709551616 ∧ num (dg A) 8 8 = A % 18446744073709551616 := by
  refine ⟨by rw [num_top A hA 8 (by omega), ← pw_8], ?_⟩
  rw [num_low A 8 (by omega), ← pw_8, show 8 - 8 = 0 from rfl, pw_0, Int.ediv_one]
theorem num_congr {d e : Nat → Int} {s : Nat} : ∀ {k : Nat}, (∀ j, j < k → d (s + j) = e (s + j)) → num d s k = num e s k
  | 0, _ => rfl
  | k + 1, h => by simp only [num]; rw [num_congr (k := k) (fun j hj => h j (by omega)), h k (by omega)]

/-- order, by digits -/
theorem dg_step (A : Int) (k : Nat) (hk : k < 16) : A / pw (15 - k) = A / pw (16 - k) * 256 + dg A k := by
  unfold dg
  rw [show 16 - k = (15 - k) + 1 from by omega, pw_succ, ← div_place _ _ (pw_pos _)]
  omega
theorem dg_same {A B : Int} (hA : 0 ≤ A ∧ A < pw 16) (hB : 0 ≤ B ∧ B < pw 16) : ∀ {k : Nat}, k ≤ 16 → (∀ j, j < k → dg A j = dg B j) → A / pw (16 - k) = B / pw (16 - k)
  | 0, _, _ => by rw [Int.ediv_eq_zero_of_lt hA.1 hA.2, Int.ediv_eq_zero_of_lt hB.1 hB.2]
  | k + 1, hk, h => by
    rw [show 16 - (k + 1) = 15 - k from by omega, dg_step A k (by omega), dg_step B k (by omega), dg_same hA hB (k := k) (by omega) (fun j hj => h j (by omega)), h k (by omega)]
theorem dg_less {A B : Int} (hA : 0 ≤ A ∧ A < pw 16) (hB : 0 ≤ B ∧ B < pw 16) {k : Nat} (hk : k < 16) (h : ∀ j, j < k → dg A j = dg B j) (hlt : dg A k < dg B k) : A < B := by
  rcases Int.lt_or_le A B with hh | hh
  · exact hh
  · have h1 := Int.ediv_le_ediv (pw_pos (15 - k)) hh
    rw [dg_step A k hk, dg_step B k hk, dg_same hA hB (Nat.le_of_lt hk) h] at h1
    omega
theorem dg_all {A B : Int} (hA : 0 ≤ A ∧ A < pw 16) (hB : 0 ≤ B ∧ B < pw 16) (h : ∀ j, j < 16 → dg A j = dg B j) : A = B := by
  have := dg_same hA hB (k := 16) (by omega) h
  rwa [show 16 - 16 = 0 from rfl, pw_0, Int.ediv_one, Int.ediv_one] at this
end Go.Proofs.Ytnbfnlpepnbppaa
