/-
  Plain laws of decimal digits.
-/
import Derived.Test.YtmlaehjjeadbeaaDoorLess
namespace Go.Proofs.YtmlaehjjeadbeaaDoor
set_option linter.unusedVariables false
set_option linter.unusedSimpArgs false
open Go.RowKit

/-- L is how many decimal digits N has (at least one) -/
def DL (N L : Nat) : Prop := 1 ≤ L ∧ N < 10 ^ L ∧ (L = 1 ∨ 10 ^ (L - 1) ≤ N)
def ndF : Nat → Nat → Nat
  | 0, _ => 1
  | k + 1, N => if N < 10 then 1 else ndF k (N / 10) + 1
/-- how many decimal digits a number below 10^40 has -/
def ndg (N : Nat) : Nat := ndF 39 N
theorem ndF_DL : ∀ k N, N < 10 ^ (k + 1) → DL N (ndF k N)
  | 0, N, h => ⟨by unfold ndF; omega, by unfold ndF; simpa using h, Or.inl rfl⟩
  | k + 1, N, h => by
    unfold ndF
    by_cases h1 : N < 10
    · rw [if_pos h1]; exact ⟨by omega, by simpa using h1, Or.inl rfl⟩
    · rw [if_neg h1]
      have h2 : N / 10 < 10 ^ (k + 1) := by rw [Nat.div_lt_iff_lt_mul (by omega), ← Nat.pow_succ]; exact h
      obtain ⟨a, b, c⟩ := ndF_DL k (N / 10) h2
      refine ⟨by omega, ?_, Or.inr ?_⟩
      · rw [Nat.pow_succ]
        omega
      · rcases c with c | c
        · rw [c]; simp; omega
        · have e : ndF k (N / 10) + 1 - 1 = ndF k (N / 10) - 1 + 1 := by omega
          rw [e, Nat.pow_succ]
          omega
theorem DL_uniq {N L M : Nat} (h1 : DL N L) (h2 : DL N M) : L = M := by
  obtain ⟨a1, a2, a3⟩ := h1
  obtain ⟨b1, b2, b3⟩ := h2
  rcases Nat.lt_trichotomy L M with h | h | h
  · rcases b3 with b3 | b3
    · omega
    · have : 10 ^ L ≤ 10 ^ (M - 1) := Nat.pow_le_pow_right (by omega) (by omega)
      omega
  · exact h
  · rcases a3 with a3 | a3
    · omega
    · have : 10 ^ M ≤ 10 ^ (L - 1) := Nat.pow_le_pow_right (by omega) (by omega)
      omega
theorem ndg_DL {N : Nat} (h : N < 10 ^ 40) : DL N (ndg N) := ndF_DL 39 N h
theorem DL_lt {N M L K : Nat} (h1 : DL N L) (h2 : DL M K) (h : L < K) : N < M := by
  obtain ⟨a1, a2, a3⟩ := h1
  obtain ⟨b1, b2, b3⟩ := h2
  rcases b3 with b3 | b3
  · omega
  · have : 10 ^ L ≤ 10 ^ (K - 1) := Nat.pow_le_pow_right (by omega) (by omega)
    omega
/-- digit j of L, the highest first -/
def dtx (N L : Nat) (j : Nat) : Int := 48 + ((N / 10 ^ (L - 1 - j) % 10 : Nat) : Int)
/-- digit j, the lowest first -/
def rdt (N : Nat) (j : Nat) : Int := 48 + ((N / 10 ^ j % 10 : Nat) : Int)
theorem dtx_lo (N L j : Nat) : 48 ≤ dtx N L j ∧ dtx N L j < 58 := by unfold dtx; omega
theorem dtx_ok (N L j : Nat) : 0 ≤ dtx N L j ∧ dtx N L j < 256 := by unfold dtx; omega
/-- the number of k digits -/
def val (d : Nat → Int) : Nat → Int
  | 0 => 0
  | k + 1 => val d k * 10 + (d k - 48)
theorem val_congr {d e : Nat → Int} : ∀ {k : Nat}, (∀ i, i < k → d i = e i) → val d k = val e k
  | 0, _ => rfl
  | k + 1, h => by unfold val; rw [val_congr (fun i hi => h i (by omega)), h k (by omega)]
theorem val_nn {d : Nat → Int} : ∀ {k : Nat}, (∀ i, i < k → 48 ≤ d i ∧ d i < 58) → 0 ≤ val d k ∧ val d k < 10 ^ k
  | 0, _ => by unfold val; simp
  | k + 1, h => by
    have := val_nn (fun i hi => h i (Nat.lt_succ_of_lt hi))
    have := h k (by omega)
    unfold val
    rw [Int.pow_succ]
    omega
theorem val_more {d : Nat → Int} {n : Nat} (h : ∀ i, i < n → 48 ≤ d i ∧ d i < 58) (k : Nat) : ∀ m, k + m ≤ n → val d k * 10 ^ m ≤ val d (k + m) ∧ val d (k + m) < (val d k + 1) * 10 ^ m
  | 0, _ => by simp; omega
  | m + 1, hm => by
    obtain ⟨a, b⟩ := val_more h k m (by omega)
    have := h (k + m) (by omega)
    have e1 : val d k * 10 ^ (m + 1) = val d k * 10 ^ m * 10 := by rw [Int.pow_succ, Int.mul_assoc]
    have e2 : (val d k + 1) * 10 ^ (m + 1) = (val d k + 1) * 10 ^ m * 10 := by rw [Int.pow_succ, Int.mul_assoc]
    have e3 : val d (k + (m + 1)) = val d (k + m) * 10 + (d (k + m) - 48) := rfl
    omega
theorem val_mono {d : Nat → Int} {n k : Nat} (h : ∀ i, i < n → 48 ≤ d i ∧ d i < 58) (hk : k ≤ n) : val d k ≤ val d n := by
  obtain ⟨m, rfl⟩ : ∃ m, n = k + m := ⟨n - k, by omega⟩
  obtain ⟨a, _⟩ := val_more h k m (Nat.le_refl _)
  have b := (val_nn (k := k) (fun i hi => h i (by omega))).1
  have c : (1 : Int) ≤ 10 ^ m := by have := Int.pow_pos (n := 10) (m := m) (by omega); omega
  have : val d k * 1 ≤ val d k * 10 ^ m := Int.mul_le_mul_of_nonneg_left c b
  omega
/-- two rows of digits stand as their numbers do -/
theorem val_less {d e : Nat → Int} {n : Nat} (hd : ∀ i, i < n → 48 ≤ d i ∧ d i < 58) (he : ∀ i, i < n → 48 ≤ e i ∧ e i < 58) (h : rowLess d e n = true) : val d n < val e n := by
  obtain ⟨k, h1, h2, h3⟩ := (rowLess_iff n d e).1 h
  obtain ⟨m, rfl⟩ : ∃ m, n = (k + 1) + m := ⟨n - (k + 1), by omega⟩
  obtain ⟨_, a⟩ := val_more hd (k + 1) m (Nat.le_refl _)
  obtain ⟨b, _⟩ := val_more he (k + 1) m (Nat.le_refl _)
  have c : val d (k + 1) + 1 ≤ val e (k + 1) := by
    unfold val
    rw [val_congr h2]
    omega
  have p := Int.pow_pos (n := 10) (m := m) (by omega)
  have : (val d (k + 1) + 1) * 10 ^ m ≤ val e (k + 1) * 10 ^ m := Int.mul_le_mul_of_nonneg_right c (by omega)
  omega
theorem rowLess_total {d e : Nat → Int} : ∀ {n : Nat}, rowLess d e n = false → rowLess e d n = false → ∀ i, i < n → d i = e i := by
  intro n h1 h2
  have h : ∀ k, k ≤ n → ∀ i, i < k → d i = e i := by
    intro k
    induction k with
    | zero => intro _ i hi; omega
    | succ k ih =>
      intro hk i hi
      by_cases q : i = k
      · subst q
        have ih' := ih (by omega)
        rcases Int.lt_trichotomy (d i) (e i) with g | g | g
        · exact absurd ((rowLess_iff n d e).2 ⟨i, by omega, ih', g⟩) (by rw [h1]; simp)
        · exact g
        · exact absurd ((rowLess_iff n e d).2 ⟨i, by omega, fun j hj => (ih' j hj).symm, g⟩) (by rw [h2]; simp)
      · exact ih (by omega) i (by omega)
  exact h n (Nat.le_refl _)
theorem val_less_iff {d e : Nat → Int} {n : Nat} (hd : ∀ i, i < n → 48 ≤ d i ∧ d i < 58) (he : ∀ i, i < n → 48 ≤ e i ∧ e i < 58) : rowLess d e n = decide (val d n < val e n) := by
  cases h : rowLess d e n with
  | true => exact (decide_eq_true (val_less hd he h)).symm
  | false =>
    refine (decide_eq_false ?_).symm
    cases h2 : rowLess e d n with
    | true => have := val_less he hd h2; omega
    | false => have := val_congr (rowLess_total h h2); omega
/-- the text's number is the number -/
theorem val_dtx (N L : Nat) : ∀ k, k ≤ L → val (dtx N L) k = ((N / 10 ^ (L - k) % 10 ^ k : Nat) : Int)
  | 0, _ => by simp [val, Nat.mod_one]
  | k + 1, h => by
    unfold val
    rw [val_dtx N L k (by omega)]
    unfold dtx
    rw [show L - 1 - k = L - (k + 1) by omega, show L - k = L - (k + 1) + 1 by omega]
    generalize hP : 10 ^ (L - (k + 1)) = P
    rw [Nat.pow_succ, hP, ← Nat.div_div_eq_div_mul]
    generalize N / P = M
    have e : M % 10 ^ (k + 1) = M / 10 % 10 ^ k * 10 + M % 10 := by
      rw [Nat.pow_succ, Nat.mul_comm, Nat.mod_mul]
      omega
    rw [e]
    omega
theorem val_text {N L : Nat} (h : N < 10 ^ L) : val (dtx N L) L = N := by
  rw [val_dtx N L L (Nat.le_refl _), Nat.sub_self, Nat.pow_zero, Nat.div_one, Nat.mod_eq_of_lt h]
/-- digits of the same number, as many, are the same -/
theorem val_inj {d e : Nat → Int} {n : Nat} (hd : ∀ i, i < n → 48 ≤ d i ∧ d i < 58) (he : ∀ i, i < n → 48 ≤ e i ∧ e i < 58) (h : val d n = val e n) : ∀ i, i < n → d i = e i := by
  have a := val_less_iff hd he
  have b := val_less_iff he hd
  rw [h, decide_eq_false (by omega)] at a
  rw [h, decide_eq_false (by omega)] at b
  exact rowLess_total a b
/-- has a row of n bytes the form of a number? -/
def rgt (d : Nat → Int) (n : Nat) : Bool := decide (0 < n) && decide (∀ i, i < n → 48 ≤ d i ∧ d i < 58) && (decide (n = 1) || decide (d 0 ≠ 48))
theorem rgt_iff {d : Nat → Int} {n : Nat} : rgt d n = true ↔ 0 < n ∧ (∀ i, i < n → 48 ≤ d i ∧ d i < 58) ∧ (n = 1 ∨ d 0 ≠ 48) := by
  unfold rgt
  simp only [Bool.and_eq_true, Bool.or_eq_true, decide_eq_true_eq]
  constructor
  · rintro ⟨⟨a, b⟩, c⟩; exact ⟨a, b, c⟩
  · rintro ⟨a, b, c⟩; exact ⟨⟨a, b⟩, c⟩
/-- such a row is its number's text -/
theorem rgt_DL {d : Nat → Int} {n : Nat} (h : rgt d n = true) : DL (val d n).toNat n := by
  obtain ⟨h1, h2, h3⟩ := rgt_iff.1 h
  have b := val_nn h2
  refine ⟨h1, ?_, ?_⟩
  · have : ((val d n).toNat : Int) < ((10 ^ n : Nat) : Int) := by rw [Int.toNat_of_nonneg b.1, Int.natCast_pow]; exact b.2
    omega
  · rcases h3 with h3 | h3
    · exact Or.inl h3
    · right
      obtain ⟨m, rfl⟩ : ∃ m, n = 1 + m := ⟨n - 1, by omega⟩
      obtain ⟨a, _⟩ := val_more h2 1 m (Nat.le_refl _)
      have h0 := h2 0 (by omega)
      have e1 : val d 1 = d 0 - 48 := by unfold val; unfold val; omega
      have p := Int.pow_pos (n := 10) (m := m) (by omega)
      have c : 1 * 10 ^ m ≤ val d 1 * 10 ^ m := Int.mul_le_mul_of_nonneg_right (by omega) (by omega)
      have : ((10 ^ m : Nat) : Int) ≤ ((val d (1 + m)).toNat : Int) := by rw [Int.toNat_of_nonneg b.1, Int.natCast_pow]; show (10 : Int) ^ m ≤ _; omega
      rw [show 1 + m - 1 = m by omega]
      omega
theorem dtx_rgt {N L : Nat} (h : DL N L) : rgt (dtx N L) L = true := by
  obtain ⟨h1, h2, h3⟩ := h
  refine rgt_iff.2 ⟨h1, fun i _ => dtx_lo N L i, ?_⟩
  rcases h3 with h3 | h3
  · exact Or.inl h3
  · right
    unfold dtx
    rw [Nat.sub_zero]
    have e : N / 10 ^ (L - 1) < 10 := by rw [Nat.div_lt_iff_lt_mul (Nat.pow_pos (by omega)), ← Nat.pow_succ', show (L - 1).succ = L by omega]; exact h2
    have e2 : 1 ≤ N / 10 ^ (L - 1) := by rw [Nat.le_div_iff_mul_le (Nat.pow_pos (by omega))]; omega
    omega
theorem rgt_text {d : Nat → Int} {n : Nat} (h : rgt d n = true) : ∀ i, i < n → d i = dtx (val d n).toNat n i := by
  obtain ⟨h1, h2, h3⟩ := rgt_iff.1 h
  have b := val_nn h2
  refine val_inj h2 (fun i _ => dtx_lo _ _ i) ?_
  have c := (rgt_DL h).2.1
  rw [val_text c, Int.toNat_of_nonneg b.1]
end Go.Proofs.YtmlaehjjeadbeaaDoor
