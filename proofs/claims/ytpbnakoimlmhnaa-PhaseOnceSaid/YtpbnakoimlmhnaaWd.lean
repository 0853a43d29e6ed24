/-
  Joined: XWideB XNum XWideV XWideX XWideY XWideC XWideCmp XWideD XWideE XWideF XLst.
-/
import Derived.Test.YtpbnakoimlmhnaaRef1N
import Derived.Test.YtpbnakoimlmhnaaRow
import Derived.Test.YtpbnakoimlmhnaaEq
import Derived.Shelf.Spec.BitsCarry
import Derived.Test.YtpbnakoimlmhnaaSlice
import Derived.Test.YtpbnakoimlmhnaaBlk
-- XWideB
namespace Go.Proofs.Ytpbnakoimlmhnaa
set_option linter.unusedVariables false
set_option linter.unusedSimpArgs false
open Go.RowKit

/-- digit j of the number h, l -/
def dgt (h l : Int) (j : Nat) : Int := if j < 8 then h / 256 ^ (7 - j) % 256 else l / 256 ^ (15 - j) % 256
theorem dgt_lo (h l : Int) (j : Nat) : 0 ≤ dgt h l j ∧ dgt h l j < 256 := by unfold dgt; split <;> omega
theorem dgt_hi (h l : Int) (m : Nat) (hm : m < 8) : dgt h l m = h / 256 ^ (7 - m) % 256 := by simp [dgt, hm]
theorem dgt_low (h l : Int) (m : Nat) (hm : m < 8) : dgt h l (8 + m) = l / 256 ^ (7 - m) % 256 := by
  unfold dgt; rw [if_neg (by omega), show 15 - (8 + m) = 7 - m from by omega]
theorem div_step (h : Int) (n : Nat) : h / 256 ^ n / 256 = h / 256 ^ (n + 1) := by
  rw [Int.pow_succ, Int.ediv_ediv_of_nonneg (by have := Int.pow_pos (n := 256) (m := n) (by omega); omega)]
theorem div_u {h : Int} (hh : Wd h) (n : Nat) : 0 ≤ h / 256 ^ n ∧ h / 256 ^ n < 18446744073709551616 := by
  have hp := Int.pow_pos (n := 256) (m := n) (by omega)
  have h1 := Int.ediv_nonneg hh.1 (Int.le_of_lt hp)
  have h2 := Int.ediv_le_self (256 ^ n) hh.1
  have := hh.2
  omega

set_option maxHeartbeats 1000000 in
theorem digits_any (h l : Int) (hh : Wd h) (hl : Wd l) (w : World) : Calls Try.prog 43 #[.agg #[.int .u64 h, .int .u64 l]] w fun r w' =>
      ∃ g, r = .returned (.slice (some ⟨g, 0, none⟩) 16 16) ∧ w.heap.size ≤ g ∧ w'.rowIs g 3 16 (iV (dgt h l)) ∧ Below w.heap.size w w' := by
  have hmk : ∀ w, (Instr.makeSlice 80 (.int .i64 16) (.int .i64 16)).run Try.prog w = .ok (.slice (some ⟨w.heap.size, 0, none⟩) 16 16) (w.alloc (.cells #[.int .i64 0, .int .i64 0, .int .i64 0, .int .i64 0, .int .i64 0, .int .i64 0, .int .i64 0, .int .i64 0, .int .i64 0, .int .i64 0, .int .i64 0, .int .i64 0, .int .i64 0, .int .i64 0, .int .i64 0, .int .i64 0] 3)) := fun _ => by kernel_rfl
  have H0 := hh
  unfold Wd at H0
  obtain ⟨h0, h1⟩ := H0
  have L0 := hl
  unfold Wd at L0
  obtain ⟨l0, l1⟩ := L0
  replace hh := Lib.hid hh
  replace hl := Lib.hid hl
  go_enter Try.func43, Try.ntmps43
  go_wp2
  go_quiet (fail)
  go_wp2
  have hsz : w.heap.size < w.heap.size + 1 := by omega
  go_loopw [4, 5, 6] (fun a b i wr => ∃ (k : Int) (d : Nat → Int), -1 ≤ k ∧ k ≤ 7 ∧ i = .int .i64 k ∧ a = .int .u64 (h / 256 ^ (7 - k).toNat) ∧ b = .int .u64 (l / 256 ^ (7 - k).toNat) ∧
      Hid (∀ j : Nat, k < j → j < 8 → d j = dgt h l j ∧ d (8 + j) = dgt h l (8 + j)) ∧ Hid (Below w.heap.size w wr) ∧ Hid (wr.rowIs (w.heap.size + 1) 3 16 (iV d))) (fun _ _ i _ => (intOf i + 1).toNat)
  case atStart =>
    refine ⟨7, fun _ => 0, by omega, by omega, rfl, by simp, by simp, fun j h1 h2 => by omega, ?_, ?_⟩
    · show Below _ _ _
      (repeat (first | exact Below.refl _ _ | assumption | refine below_drewN ?_ _ | refine bel_grow ?_ _ | refine Below.drew ?_ | refine bel_alloc ?_ _ | refine bel_set ?_ (by first | exact Nat.le_refl _ | (simp; done) | (simp; omega) | omega) _ | refine bel_trans ?_ (by assumption)))
    · show World.rowIs _ _ _ _ (fun _ => .int .i64 0)
      refine rowIs_drewN (rowIs_zero _ ?_ ?_) _
      · simp
      · rfl
  case round =>
    obtain ⟨k, d, hk0, hk1, rfl, rfl, rfl, hd, hb, hr⟩ := hrel
    by_cases hneg : k = -1
    · subst hneg
      go_wp2
      go_ret
      refine ⟨_, rfl, by omega, hr.out.congr (fun j hj => ?_), hb.out⟩
      unfold iV
      rcases Nat.lt_or_ge j 8 with h8 | h8
      · rw [(hd.out j (by omega) h8).1]
      · obtain ⟨m, rfl⟩ : ∃ m, j = 8 + m := ⟨j - 8, by omega⟩
        rw [(hd.out m (by omega) (by omega)).2]
    · obtain ⟨m, rfl⟩ := Int.eq_ofNat_of_zero_le (show 0 ≤ k by omega)
      have e7 : (7 - (m : Int)).toNat = 7 - m := by omega
      rw [e7] at *
      have q1 := div_u hh.out (7 - m)
      have q2 := div_u hl.out (7 - m)
      have f1 := Lib.hid (div_step h (7 - m))
      have f2 := Lib.hid (div_step l (7 - m))
      have g1 := Lib.hid (dgt_hi h l m (by omega))
      have g2 := Lib.hid (dgt_low h l m (by omega))
      generalize h / 256 ^ (7 - m) = a at *
      generalize l / 256 ^ (7 - m) = b at *
      have c1 := hr.out.cell (i := m) (by omega)
      have c2 := hr.out.cell (i := 8 + m) (by omega)
      have c3 := hr.out.frozen m
      have c4 := hr.out.frozen (8 + m)
      clear e7
      go_wp2
      go_roundw
      case rel =>
        have e : (7 - ((m : Int) - 1)).toNat = 7 - m + 1 := by omega
        refine ⟨(m : Int) - 1, fun j => if j = 8 + m then b % 256 else if j = m then a % 256 else d j, by omega, by omega, rfl, by rw [e, f1.out], by rw [e, f2.out], fun j h1 h2 => ?_, ?_, ?_⟩
        · by_cases ej : j = m
          · subst ej
            exact ⟨by dsimp only; rw [if_neg (by omega), if_pos rfl, g1.out], by dsimp only; rw [if_pos rfl, g2.out]⟩
          · have := hd.out j (by omega) h2
            exact ⟨by dsimp only; rw [if_neg (by omega), if_neg ej, this.1], by dsimp only; rw [if_neg (by omega), if_neg (by omega), this.2]⟩
        · exact (hb.out.setCell (by simp) _).setCell (by simp) _
        · refine ((hr.out.set m _).set (8 + m) _).congr (fun j hj => ?_)
          unfold iV
          by_cases e1 : j = 8 + m <;> by_cases e2 : j = m <;> simp [e1, e2]
      case measure => simp [intOf]
end Go.Proofs.Ytpbnakoimlmhnaa
-- XNum
namespace Go.Proofs.Ytpbnakoimlmhnaa
set_option linter.unusedVariables false
set_option linter.unusedSimpArgs false

/-- place e: 256 to the power of e -/
def pw (e : Nat) : Int := 256 ^ e
theorem pw_pos (e : Nat) : 0 < pw e := Int.pow_pos (by omega)
theorem pw_succ (e : Nat) : pw (e + 1) = pw e * 256 := Int.pow_succ _ _
theorem pw_16 : pw 16 = 340282366920938463463374607431768211456 := by decide
theorem pw_8 : pw 8 = 18446744073709551616 := by decide
theorem pw_0 : pw 0 = 1 := by decide

theorem part (A P : Int) (hP : 0 < P) : A = A / P * P + A % P ∧ 0 ≤ A % P ∧ A % P < P :=
  ⟨by have := Int.mul_ediv_add_emod A P; rw [Int.mul_comm] at this; exact this.symm, Int.emod_nonneg _ (by omega), Int.emod_lt_of_pos _ hP⟩
theorem part_eq {A P q r : Int} (hP : 0 < P) (h : A = q * P + r) (h0 : 0 ≤ r) (h1 : r < P) : A / P = q ∧ A % P = r := by
  subst h
  rw [Int.add_comm]
  refine ⟨?_, ?_⟩
  · rw [Int.add_mul_ediv_right _ _ (by omega), Int.ediv_eq_zero_of_lt h0 h1]; omega
  · rw [Int.add_mul_emod_self_right, Int.emod_eq_of_lt h0 h1]
theorem div_place (A P : Int) (hP : 0 < P) : A / P / 256 = A / (P * 256) := by
  rw [Int.ediv_ediv_of_nonneg (by omega)]
theorem mod_place (A P : Int) (hP : 0 < P) : A % (P * 256) = A / P % 256 * P + A % P := by
  obtain ⟨h, h0, h1⟩ := part A P hP
  obtain ⟨g, g0, g1⟩ := part (A / P) 256 (by omega)
  have hb : A / P % 256 * P ≤ 255 * P := Int.mul_le_mul_of_nonneg_right (by omega) (by omega)
  have hc : 0 ≤ A / P % 256 * P := Int.mul_nonneg g0 (by omega)
  refine (part_eq (P := P * 256) (q := A / P / 256) (by omega) ?_ (by omega) (by omega)).2
  have e : A / P * P = A / P / 256 * (P * 256) + A / P % 256 * P := by
    have e1 : A / P * P = (A / P / 256 * 256 + A / P % 256) * P := by rw [← g]
    rw [e1, Int.add_mul, Int.mul_assoc, Int.mul_comm 256 P]
  omega
theorem div_sum (A B P : Int) (hP : 0 < P) : (A + B) / P = A / P + B / P + (A % P + B % P) / P := by
  obtain ⟨h, h0, h1⟩ := part A P hP
  obtain ⟨g, g0, g1⟩ := part B P hP
  have e : A + B = (A % P + B % P) + (A / P + B / P) * P := by rw [Int.add_mul]; omega
  rw [e, Int.add_mul_ediv_right _ _ (by omega)]
  generalize (A % P + B % P) / P = z
  omega
theorem div_diff (A B P : Int) (hP : 0 < P) : (A - B) / P = A / P - B / P - (if A % P < B % P then 1 else 0) := by
  obtain ⟨h, h0, h1⟩ := part A P hP
  obtain ⟨g, g0, g1⟩ := part B P hP
  have e : A - B = (A / P - B / P) * P + (A % P - B % P) := by rw [Int.sub_mul]; omega
  split
  · refine (part_eq (P := P) (r := A % P - B % P + P) hP ?_ (by omega) (by omega)).1
    rw [Int.sub_mul _ 1, Int.one_mul]; omega
  · refine (part_eq (P := P) (r := A % P - B % P) hP ?_ (by omega) (by omega)).1
    rw [Int.sub_mul _ 0, Int.zero_mul]; omega

/-- digit j of the number A -/
def dg (A : Int) (j : Nat) : Int := A / pw (15 - j) % 256
theorem dg_lo (A : Int) (j : Nat) : 0 ≤ dg A j ∧ dg A j < 256 := by unfold dg; omega

/-- the carry behind the places below e -/
def carry (A B : Int) (e : Nat) : Int := (A % pw e + B % pw e) / pw e
theorem carry_0 (A B : Int) : carry A B 0 = 0 := by unfold carry; rw [pw_0]; omega
theorem carry_lo (A B : Int) (e : Nat) : 0 ≤ carry A B e ∧ carry A B e ≤ 1 := by
  unfold carry
  have hP := pw_pos e
  obtain ⟨_, h0, h1⟩ := part A _ hP
  obtain ⟨_, g0, g1⟩ := part B _ hP
  have e1 : 0 ≤ (A % pw e + B % pw e) / pw e := Int.ediv_nonneg (by omega) (by omega)
  have e2 : (A % pw e + B % pw e) / pw e < 2 := Int.ediv_lt_of_lt_mul hP (by omega)
  omega
theorem carry_dg (A B : Int) (e : Nat) (he : e ≤ 15) : (dg A (15 - e) + dg B (15 - e) + carry A B e) % 256 = dg (A + B) (15 - e) := by
  unfold dg carry
  rw [show 15 - (15 - e) = e from by omega, div_sum A B _ (pw_pos e)]
  omega
theorem carry_succ (A B : Int) (e : Nat) (he : e ≤ 15) : (dg A (15 - e) + dg B (15 - e) + carry A B e) / 256 = carry A B (e + 1) := by
  unfold dg carry
  have hP := pw_pos e
  rw [show 15 - (15 - e) = e from by omega, pw_succ, mod_place A _ hP, mod_place B _ hP, ← div_place _ _ hP]
  have h1 : A / pw e % 256 * pw e + A % pw e + (B / pw e % 256 * pw e + B % pw e) = (A % pw e + B % pw e) + (A / pw e % 256 + B / pw e % 256) * pw e := by rw [Int.add_mul]; omega
  rw [h1, Int.add_mul_ediv_right _ _ (by omega)]
  generalize (A % pw e + B % pw e) / pw e = z
  rw [Int.add_comm]
theorem carry_16 (A B : Int) (hA : 0 ≤ A ∧ A < pw 16) (hB : 0 ≤ B ∧ B < pw 16) : carry A B 16 = (A + B) / pw 16 := by
  unfold carry
  rw [Int.emod_eq_of_lt hA.1 hA.2, Int.emod_eq_of_lt hB.1 hB.2]

/-- the loan behind the places below e -/
def loan (A B : Int) (e : Nat) : Int := if A % pw e < B % pw e then 1 else 0
theorem loan_0 (A B : Int) : loan A B 0 = 0 := by unfold loan; rw [pw_0]; simp [Int.emod_one]
theorem loan_lo (A B : Int) (e : Nat) : 0 ≤ loan A B e ∧ loan A B e ≤ 1 := by unfold loan; split <;> omega
theorem loan_dg (A B : Int) (e : Nat) (he : e ≤ 15) : (dg A (15 - e) - dg B (15 - e) - loan A B e) % 256 = dg (A - B) (15 - e) := by
  unfold dg loan
  rw [show 15 - (15 - e) = e from by omega, div_diff A B _ (pw_pos e)]
  omega
theorem loan_succ (A B : Int) (e : Nat) (he : e ≤ 15) : loan A B (e + 1) = if dg A (15 - e) - dg B (15 - e) - loan A B e < 0 then 1 else 0 := by
  unfold dg loan
  have hP := pw_pos e
  rw [show 15 - (15 - e) = e from by omega, pw_succ, mod_place A _ hP, mod_place B _ hP]
  obtain ⟨_, h0, h1⟩ := part A _ hP
  obtain ⟨_, g0, g1⟩ := part B _ hP
  generalize A / pw e % 256 = x
  generalize B / pw e % 256 = y
  generalize A % pw e = a at *
  generalize B % pw e = b at *
  generalize pw e = P at *
  have h2 : (x - y) * P = x * P - y * P := Int.sub_mul _ _ _
  by_cases hab : a < b
  · rw [if_pos hab]
    by_cases hxy : x - y ≤ 0
    · have : (x - y) * P ≤ 0 * P := Int.mul_le_mul_of_nonneg_right hxy (by omega)
      rw [Int.zero_mul] at this
      rw [if_pos (by omega), if_pos (by omega)]
    · have : 1 * P ≤ (x - y) * P := Int.mul_le_mul_of_nonneg_right (by omega) (by omega)
      rw [if_neg (by omega), if_neg (by omega)]
  · rw [if_neg hab]
    by_cases hxy : x - y < 0
    · have : (x - y) * P ≤ (-1) * P := Int.mul_le_mul_of_nonneg_right (by omega) (by omega)
      rw [if_pos (by omega), if_pos (by omega)]
    · have : 0 * P ≤ (x - y) * P := Int.mul_le_mul_of_nonneg_right (by omega) (by omega)
      rw [Int.zero_mul] at this
      rw [if_neg (by omega), if_neg (by omega)]
theorem loan_16 (A B : Int) (hA : 0 ≤ A ∧ A < pw 16) (hB : 0 ≤ B ∧ B < pw 16) : loan A B 16 = if A < B then 1 else 0 := by
  unfold loan
  rw [Int.emod_eq_of_lt hA.1 hA.2, Int.emod_eq_of_lt hB.1 hB.2]

/-- the digits' number -/
theorem num_top (A : Int) (hA : 0 ≤ A ∧ A < pw 16) : ∀ k, k ≤ 16 → num (dg A) 0 k = A / pw (16 - k)
  | 0, _ => by simp only [num]; rw [Int.ediv_eq_zero_of_lt hA.1 hA.2]
  | k + 1, hk => by
    simp only [num]
    rw [num_top A hA k (by omega), Nat.zero_add]
    unfold dg
    rw [show 16 - k = (15 - k) + 1 from by omega, pw_succ, ← div_place _ _ (pw_pos _), show 16 - (k + 1) = 15 - k from by omega]
    generalize A / pw (15 - k) = z
    omega
theorem num_low (A : Int) : ∀ k, k ≤ 8 → num (dg A) 8 k = A / pw (8 - k) % pw k
  | 0, _ => by simp only [num]; rw [pw_0]; omega
  | k + 1, hk => by
    simp only [num]
    rw [num_low A k (by omega)]
    unfold dg
    rw [show 8 - k = (15 - (8 + k)) + 1 from by omega, pw_succ, ← div_place _ _ (pw_pos _), show 8 - (k + 1) = 15 - (8 + k) from by omega, pw_succ]
    generalize A / pw (15 - (8 + k)) = z
    rw [Int.mul_comm (pw k) 256]
    have hP := pw_pos k
    obtain ⟨h, h0, h1⟩ := part (z / 256) (pw k) hP
    refine ((part_eq (P := 256 * pw k) (q := z / 256 / pw k) (by omega) ?_ (by omega) (by omega)).2).symm
    have h3 : z / 256 / pw k * (256 * pw k) = 256 * (z / 256 / pw k * pw k) := by rw [← Int.mul_assoc, Int.mul_comm _ 256, Int.mul_assoc]
    rw [h3]
    generalize z / 256 / pw k * pw k = y at *
    omega
theorem num_eq (A : Int) (hA : 0 ≤ A ∧ A < pw 16) : num (dg A) 0 8 = A / 18446744073709551616 ∧ num (dg A) 8 8 = A % 18446744073709551616 := by
  refine ⟨by rw [num_top A hA 8 (by omega), ← pw_8], ?_⟩
  rw [num_low A 8 (by omega), ← pw_8, show 8 - 8 = 0 from rfl, pw_0, Int.ediv_one]
theorem num_congr {d e : Nat → Int} {s : Nat} : ∀ {k : Nat}, (∀ j, j < k → d (s + j) = e (s + j)) → num d s k = num e s k
  | 0, _ => rfl
  | k + 1, h => by simp only [num]; rw [num_congr (k := k) (fun j hj => h j (by omega)), h k (by omega)]

/-- order, by digits -/
theorem dg_step (A : Int) (k : Nat) (hk : k < 16) : A / pw (15 - k) = A / pw (16 - k) * 256 + dg A k := by
  unfold dg
  rw [show 16 - k = (15 - k) + 1 from by omega, pw_succ, ← div_place _ _ (pw_pos _)]
  omega
theorem dg_same {A B : Int} (hA : 0 ≤ A ∧ A < pw 16) (hB : 0 ≤ B ∧ B < pw 16) : ∀ {k : Nat}, k ≤ 16 → (∀ j, j < k → dg A j = dg B j) → A / pw (16 - k) = B / pw (16 - k)
  | 0, _, _ => by rw [Int.ediv_eq_zero_of_lt hA.1 hA.2, Int.ediv_eq_zero_of_lt hB.1 hB.2]
  | k + 1, hk, h => by
    rw [show 16 - (k + 1) = 15 - k from by omega, dg_step A k (by omega), dg_step B k (by omega), dg_same hA hB (k := k) (by omega) (fun j hj => h j (by omega)), h k (by omega)]
theorem dg_less {A B : Int} (hA : 0 ≤ A ∧ A < pw 16) (hB : 0 ≤ B ∧ B < pw 16) {k : Nat} (hk : k < 16) (h : ∀ j, j < k → dg A j = dg B j) (hlt : dg A k < dg B k) : A < B := by
  rcases Int.lt_or_le A B with hh | hh
  · exact hh
  · have h1 := Int.ediv_le_ediv (pw_pos (15 - k)) hh
    rw [dg_step A k hk, dg_step B k hk, dg_same hA hB (Nat.le_of_lt hk) h] at h1
    omega
theorem dg_all {A B : Int} (hA : 0 ≤ A ∧ A < pw 16) (hB : 0 ≤ B ∧ B < pw 16) (h : ∀ j, j < 16 → dg A j = dg B j) : A = B := by
  have := dg_same hA hB (k := 16) (by omega) h
  rwa [show 16 - 16 = 0 from rfl, pw_0, Int.ediv_one, Int.ediv_one] at this
end Go.Proofs.Ytpbnakoimlmhnaa
-- XWideV
namespace Go.Proofs.Ytpbnakoimlmhnaa
set_option linter.unusedVariables false
set_option linter.unusedSimpArgs false
open Go.RowKit

/-- how two words stand -/
def cmpI (a b : Int) : Int := if a < b then -1 else if b < a then 1 else 0
/-- how two numbers stand -/
def cmpV (a b c d : Int) : Int := if cmpI a c != 0 then cmpI a c else cmpI b d
/-- the number of two words -/
def V (h l : Int) : Int := h * 18446744073709551616 + l
theorem V_lo {h l : Int} (hh : Wd h) (hl : Wd l) : 0 ≤ V h l ∧ V h l < pw 16 := by unfold V Wd at *; rw [pw_16]; omega
theorem V_div {h l : Int} (hl : Wd l) : V h l / 18446744073709551616 = h := by unfold V Wd at *; omega
theorem V_mod {h l : Int} (hl : Wd l) : V h l % 18446744073709551616 = l := by unfold V Wd at *; omega
theorem pw_add (a b : Nat) : pw (a + b) = pw a * pw b := Int.pow_add ..
theorem dgt_dg {h l : Int} (hl : Wd l) {j : Nat} (hj : j < 16) : dgt h l j = dg (V h l) j := by
  unfold dgt dg
  split
  · rw [show 15 - j = 8 + (7 - j) from by omega, pw_add, ← Int.ediv_ediv_of_nonneg (by rw [pw_8]; omega), pw_8, V_div hl]
    rfl
  · obtain ⟨e, rfl, he⟩ : ∃ e, j = 15 - e ∧ e < 8 := ⟨15 - j, by omega, by omega⟩
    rw [show 15 - (15 - e) = e from by omega]
    have h1 : V h l = l + h * pw (7 - e) * 256 * pw e := by
      unfold V
      rw [← pw_8, show 8 = (7 - e) + 1 + e from by omega, pw_add, pw_succ]
      simp only [Int.mul_assoc]
      omega
    rw [h1, Int.add_mul_ediv_right _ _ (by have := pw_pos e; omega)]
    show l / pw e % 256 = _
    omega

theorem digitsV_any (h l : Int) (hh : Wd h) (hl : Wd l) (w : World) : Calls Try.prog 43 #[.agg #[.int .u64 h, .int .u64 l]] w fun r w' =>
      ∃ g, r = .returned (.slice (some ⟨g, 0, none⟩) 16 16) ∧ w.heap.size ≤ g ∧ w'.rowIs g 3 16 (iV (dg (V h l))) ∧ Below w.heap.size w w' :=
  (digits_any h l hh hl w).mono fun _ _ ⟨g, h1, h2, h3, h4⟩ => ⟨g, h1, h2, h3.congr (fun i hi => by unfold iV; rw [dgt_dg hl hi]), h4⟩

theorem numberV_any (A : Int) (hA : 0 ≤ A ∧ A < pw 16) (d : Nat → Int) (hd : ∀ j, j < 16 → d j = dg A j) (g c : Nat) (w : World) (hr : w.rowIs g 3 16 (iV d)) :
    Calls Try.prog 44 #[.slice (some ⟨g, 0, none⟩) 16 c] w fun r w' =>
      r = .returned (.agg #[.int .u64 (A / 18446744073709551616), .int .u64 (A % 18446744073709551616)]) ∧ Below w.heap.size w w' := by
  have h := number_any (dg A) (dg_lo A) g 0 c w hr.lt (fun i hi => by rw [Nat.zero_add, hr.cell hi]; unfold iV; rw [hd i hi])
  rw [(num_eq A hA).1, (num_eq A hA).2] at h
  exact h

theorem V_of (S : Int) : V (S / 18446744073709551616) (S % 18446744073709551616) = S := by unfold V; omega
theorem Wd_of {S : Int} (h : 0 ≤ S ∧ S < pw 16) : Wd (S / 18446744073709551616) ∧ Wd (S % 18446744073709551616) := by rw [pw_16] at h; unfold Wd; omega

theorem cmpV_V {a b c d : Int} (hb : Wd b) (hd : Wd d) : cmpV a b c d = cmpI (V a b) (V c d) := by
  unfold cmpV cmpI V Wd at *
  by_cases h1 : a < c
  · rw [if_pos h1, if_pos (by decide), if_pos (by omega)]
  · by_cases h2 : c < a
    · rw [if_neg h1, if_pos h2, if_pos (by decide), if_neg (by omega), if_pos (by omega)]
    · rw [if_neg h1, if_neg h2, if_neg (by decide)]
      obtain rfl : a = c := by omega
      by_cases h3 : b < d
      · rw [if_pos h3, if_pos (by omega)]
      · by_cases h4 : d < b
        · rw [if_neg h3, if_pos h4, if_neg (by omega), if_pos (by omega)]
        · rw [if_neg h3, if_neg h4, if_neg (by omega), if_neg (by omega)]

theorem cmp_lt {a b c d : Int} (hb : Wd b) (hd : Wd d) : cmpV a b c d < 0 ↔ V a b < V c d := by
  rw [cmpV_V hb hd]
  unfold cmpI
  split
  · constructor
    · intro _; assumption
    · intro _; decide
  · split
    · constructor
      · intro h; exact absurd h (by decide)
      · intro h; omega
    · constructor
      · intro h; exact absurd h (by decide)
      · intro h; omega
end Go.Proofs.Ytpbnakoimlmhnaa
-- XWideX
namespace Go.Proofs.Ytpbnakoimlmhnaa
set_option linter.unusedVariables false
set_option linter.unusedSimpArgs false
open Go.RowKit

theorem add64 (x y c : Int) (hx : 0 ≤ x) (hy : 0 ≤ y) (hc0 : 0 ≤ c) (hc : c ≤ 1) (w : World) : (callFunc 83 #[.int .u64 x, .int .u64 y, .int .u64 c]).run Try.prog w =
    .ok (.value (.tuple #[.int .u64 ((x + y + c) % 18446744073709551616), .int .u64 ((x + y + c) / 18446744073709551616)])) w := by
  obtain ⟨x, rfl⟩ := Int.eq_ofNat_of_zero_le hx
  obtain ⟨y, rfl⟩ := Int.eq_ofNat_of_zero_le hy
  obtain ⟨c, rfl⟩ := Int.eq_ofNat_of_zero_le hc0
  rw [run_callFunc_extern Try.func83 (by kernel_rfl) (by kernel_rfl) (by kernel_rfl) (e := add64Entry) (by kernel_rfl), run_add64 x y c (by omega) (by omega) (by omega) (by omega)]
  rfl
theorem sub64 (x y b : Int) (hx : 0 ≤ x) (hy : 0 ≤ y) (hy' : y < 18446744073709551616) (hb0 : 0 ≤ b) (hb : b ≤ 1) (w : World) : (callFunc 84 #[.int .u64 x, .int .u64 y, .int .u64 b]).run Try.prog w =
    .ok (.value (.tuple #[.int .u64 ((x - y - b) % 18446744073709551616), .int .u64 (if x < y + b then 1 else 0)])) w := by
  obtain ⟨x, rfl⟩ := Int.eq_ofNat_of_zero_le hx
  obtain ⟨y, rfl⟩ := Int.eq_ofNat_of_zero_le hy
  obtain ⟨b, rfl⟩ := Int.eq_ofNat_of_zero_le hb0
  have e1 : (((x + 18446744073709551616 - y - b) % 18446744073709551616 : Nat) : Int) = ((x : Int) - y - b) % 18446744073709551616 := by omega
  have e2 : ((if x < y + b then 1 else 0 : Nat) : Int) = if (x : Int) < y + b then 1 else 0 := by split <;> split <;> omega
  rw [← e1, ← e2]
  rw [run_callFunc_extern Try.func84 (by kernel_rfl) (by kernel_rfl) (by kernel_rfl) (e := sub64Entry) (by kernel_rfl), run_sub64 x y b (by omega)]
  rfl

theorem add64_0 (x y : Int) (hx : 0 ≤ x) (hy : 0 ≤ y) (w : World) : (callFunc 83 #[.int .u64 x, .int .u64 y, .int .u64 0]).run Try.prog w =
    .ok (.value (.tuple #[.int .u64 ((x + y) % 18446744073709551616), .int .u64 ((x + y) / 18446744073709551616)])) w := by
  simpa using add64 x y 0 hx hy (Int.le_refl 0) (by decide) w
theorem sub64_0 (x y : Int) (hx : 0 ≤ x) (hy : 0 ≤ y) (hy' : y < 18446744073709551616) (w : World) : (callFunc 84 #[.int .u64 x, .int .u64 y, .int .u64 0]).run Try.prog w =
    .ok (.value (.tuple #[.int .u64 ((x - y) % 18446744073709551616), .int .u64 (if x < y then 1 else 0)])) w := by
  simpa using sub64 x y 0 hx hy hy' (Int.le_refl 0) (by decide) w

/-- is there a sum? its halves, 0 if there is none -/
def addB (a b c d : Int) : Bool := decide (a * 18446744073709551616 + b + (c * 18446744073709551616 + d) < 340282366920938463463374607431768211456)
def addH (a b c d : Int) : Int := if addB a b c d then (a + c + (b + d) / 18446744073709551616) else 0
def addL (a b c d : Int) : Int := if addB a b c d then (b + d) % 18446744073709551616 else 0
def subB (a b c d : Int) : Bool := decide (c * 18446744073709551616 + d ≤ a * 18446744073709551616 + b)
def subH (a b c d : Int) : Int := if subB a b c d then (a - c - (if b < d then 1 else 0)) else 0
def subL (a b c d : Int) : Int := if subB a b c d then (b - d) % 18446744073709551616 else 0

theorem add_u {a b c d : Int} (ha : Wd a) (hb : Wd b) (hc : Wd c) (hd : Wd d) : Wd (addH a b c d) ∧ Wd (addL a b c d) := by
  unfold Wd addH addL addB at *
  split
  · rename_i h; simp at h; omega
  · omega
theorem sub_u {a b c d : Int} (ha : Wd a) (hb : Wd b) (hc : Wd c) (hd : Wd d) : Wd (subH a b c d) ∧ Wd (subL a b c d) := by
  unfold Wd subH subL subB at *
  split
  · rename_i h; simp at h; split <;> omega
  · omega

theorem add_any (a b c d : Int) (ha : Wd a) (hb : Wd b) (hc : Wd c) (hd : Wd d) (w : World) : Calls Try.prog 72 #[.agg #[.int .u64 a, .int .u64 b], .agg #[.int .u64 c, .int .u64 d]] w fun r w' =>
      r = .returned (.tuple #[.agg #[.int .u64 (addH a b c d), .int .u64 (addL a b c d)], .bool (addB a b c d)]) ∧ Below w.heap.size w w' := by
  unfold Wd at *
  have h0 : 0 ≤ (b + d) / 18446744073709551616 := by omega
  have h1 : (b + d) / 18446744073709551616 ≤ 1 := by omega
  cases hB : addB a b c d
  · have e1 : addH a b c d = 0 := by simp [addH, hB]
    have e2 : addL a b c d = 0 := by simp [addL, hB]
    rw [e1, e2]
    have k : ((a + c + (b + d) / 18446744073709551616) / 18446744073709551616 != 0) = true := by simp [addB] at hB; rw [bne_iff_ne]; omega
    clear hB e1 e2
    go_enter Try.func72, Try.ntmps72
    go_wp2_with (first | simp only [add64_0 b d hb.1 hd.1] | simp only [add64 a c _ ha.1 hc.1 h0 h1])
    refine bodyPost_ret (v := .tuple #[.agg #[.int .u64 0, .int .u64 0], .bool false]) (by simp [results, Try.results72, go_sem]) rfl ⟨rfl, ?_⟩
    (repeat (first | exact Below.refl _ _ | assumption | refine below_drewN ?_ _ | refine bel_grow ?_ _ | refine Below.drew ?_ | refine bel_alloc ?_ _ | refine bel_set ?_ (by first | exact Nat.le_refl _ | (simp; done) | (simp; omega) | omega) _ | refine bel_trans ?_ (by assumption)))
  · have e1 : addH a b c d = (a + c + (b + d) / 18446744073709551616) % 18446744073709551616 := by simp [addH, hB]; simp [addB] at hB; omega
    have e2 : addL a b c d = (b + d) % 18446744073709551616 := by simp [addL, hB]
    rw [e1, e2]
    have k : ((a + c + (b + d) / 18446744073709551616) / 18446744073709551616 != 0) = false := by simp [addB] at hB; rw [bne_eq_false_iff_eq]; omega
    clear hB e1 e2
    go_enter Try.func72, Try.ntmps72
    go_wp2_with (first | simp only [add64_0 b d hb.1 hd.1] | simp only [add64 a c _ ha.1 hc.1 h0 h1])
    refine bodyPost_ret (v := .tuple #[.agg #[.int .u64 ((a + c + (b + d) / 18446744073709551616) % 18446744073709551616), .int .u64 ((b + d) % 18446744073709551616)], .bool true]) (by simp [results, Try.results72, go_sem]) rfl ⟨rfl, ?_⟩
    (repeat (first | exact Below.refl _ _ | assumption | refine below_drewN ?_ _ | refine bel_grow ?_ _ | refine Below.drew ?_ | refine bel_alloc ?_ _ | refine bel_set ?_ (by first | exact Nat.le_refl _ | (simp; done) | (simp; omega) | omega) _ | refine bel_trans ?_ (by assumption)))

theorem sub_any (a b c d : Int) (ha : Wd a) (hb : Wd b) (hc : Wd c) (hd : Wd d) (w : World) : Calls Try.prog 77 #[.agg #[.int .u64 a, .int .u64 b], .agg #[.int .u64 c, .int .u64 d]] w fun r w' =>
      r = .returned (.tuple #[.agg #[.int .u64 (subH a b c d), .int .u64 (subL a b c d)], .bool (subB a b c d)]) ∧ Below w.heap.size w w' := by
  unfold Wd at *
  obtain ⟨q, hq⟩ : ∃ q : Int, (if b < d then 1 else 0 : Int) = q := ⟨_, rfl⟩
  have h0 : 0 ≤ q := by rw [← hq]; split <;> decide
  have h1 : q ≤ 1 := by rw [← hq]; split <;> decide
  have HS : ∀ w, (callFunc 84 #[.int .u64 b, .int .u64 d, .int .u64 0]).run Try.prog w = .ok (.value (.tuple #[.int .u64 ((b - d) % 18446744073709551616), .int .u64 q])) w := fun w => by rw [sub64_0 b d hb.1 hd.1 hd.2, hq]
  have k0 : (if a < c + q then 1 else 0 : Int) = if subB a b c d then 0 else 1 := by
    rw [← hq]; unfold subB
    by_cases g1 : b < d <;> by_cases g2 : c * 18446744073709551616 + d ≤ a * 18446744073709551616 + b <;> simp [g1, g2] <;> omega
  have HT : ∀ w, (callFunc 84 #[.int .u64 a, .int .u64 c, .int .u64 q]).run Try.prog w = .ok (.value (.tuple #[.int .u64 ((a - c - q) % 18446744073709551616), .int .u64 (if subB a b c d then 0 else 1)])) w := fun w => by rw [sub64 a c q ha.1 hc.1 hc.2 h0 h1, k0]
  have e1 : subB a b c d = true → subH a b c d = (a - c - q) % 18446744073709551616 := by intro h; simp only [subH, h, if_true, hq]; simp [subB] at h; rw [← hq]; split <;> omega
  have e2 : subB a b c d = true → subL a b c d = (b - d) % 18446744073709551616 := by intro h; simp [subL, h]
  have f1 : subB a b c d = false → subH a b c d = 0 := by intro h; simp [subH, h]
  have f2 : subB a b c d = false → subL a b c d = 0 := by intro h; simp [subL, h]
  clear hq k0
  cases hB : subB a b c d
  · rw [f1 hB, f2 hB]
    rw [hB] at HT
    clear e1 e2 f1 f2 hB
    replace HS := Lib.hid HS
    replace HT := Lib.hid HT
    go_enter Try.func77, Try.ntmps77
    go_wp2_with (first | simp only [HS.out] | simp only [HT.out, Bool.false_eq_true, if_false])
    refine bodyPost_ret (v := .tuple #[.agg #[.int .u64 0, .int .u64 0], .bool false]) (by simp [results, Try.results77, go_sem]) rfl ⟨rfl, ?_⟩
    (repeat (first | exact Below.refl _ _ | assumption | refine below_drewN ?_ _ | refine bel_grow ?_ _ | refine Below.drew ?_ | refine bel_alloc ?_ _ | refine bel_set ?_ (by first | exact Nat.le_refl _ | (simp; done) | (simp; omega) | omega) _ | refine bel_trans ?_ (by assumption)))
  · rw [e1 hB, e2 hB]
    rw [hB] at HT
    clear e1 e2 f1 f2 hB
    replace HS := Lib.hid HS
    replace HT := Lib.hid HT
    go_enter Try.func77, Try.ntmps77
    go_wp2_with (first | simp only [HS.out] | simp only [HT.out, if_true])
    refine bodyPost_ret (v := .tuple #[.agg #[.int .u64 ((a - c - q) % 18446744073709551616), .int .u64 ((b - d) % 18446744073709551616)], .bool true]) (by simp [results, Try.results77, go_sem]) rfl ⟨rfl, ?_⟩
    (repeat (first | exact Below.refl _ _ | assumption | refine below_drewN ?_ _ | refine bel_grow ?_ _ | refine Below.drew ?_ | refine bel_alloc ?_ _ | refine bel_set ?_ (by first | exact Nat.le_refl _ | (simp; done) | (simp; omega) | omega) _ | refine bel_trans ?_ (by assumption)))


theorem isnan_any (a : Int) (w : World) : Calls Try.prog 85 #[.int .u64 a] w fun r w' => r = .returned (.bool false) ∧ Below w.heap.size w w' := by
  go_enter Try.func85, Try.ntmps85
  go_wp2
  go_ret
  exact ⟨by simp, (by repeat (first | exact Below.refl _ _ | assumption | refine below_drewN ?_ _ | refine bel_grow ?_ _ | refine Below.drew ?_ | refine bel_alloc ?_ _ | refine bel_set ?_ (by first | exact Nat.le_refl _ | (simp; done) | (simp; omega) | omega) _ | refine bel_trans ?_ (by assumption)))⟩
theorem cmpw_any (a b : Int) (w : World) : Calls Try.prog 80 #[.int .u64 a, .int .u64 b] w fun r w' => r = .returned (.int .i64 (cmpI a b)) ∧ Below w.heap.size w w' := by
  unfold cmpI
  by_cases h : a < b
  · rw [if_pos h]
    go_enter Try.func80, Try.ntmps80
    go_wp2_with (go_at_call 85; first | ((with_reducible refine (grow_call (isnan_any _ _)).mono ?_); rintro e w' ⟨rfl, d1, rfl⟩) | ((with_reducible refine (gro (isnan_any _ _)).mono ?_); rintro e w' ⟨rfl, d1, rfl⟩))
    go_ret
    exact ⟨rfl, (by repeat (first | exact Below.refl _ _ | assumption | refine below_drewN ?_ _ | refine bel_grow ?_ _ | refine Below.drew ?_ | refine bel_alloc ?_ _ | refine bel_set ?_ (by first | exact Nat.le_refl _ | (simp; done) | (simp; omega) | omega) _ | refine bel_trans ?_ (by assumption)))⟩
  · rw [if_neg h]
    by_cases h2 : b < a
    · rw [if_pos h2]
      go_enter Try.func80, Try.ntmps80
      go_wp2_with (go_at_call 85; first | ((with_reducible refine (grow_call (isnan_any _ _)).mono ?_); rintro e w' ⟨rfl, d1, rfl⟩) | ((with_reducible refine (gro (isnan_any _ _)).mono ?_); rintro e w' ⟨rfl, d1, rfl⟩))
      go_ret
      exact ⟨rfl, (by repeat (first | exact Below.refl _ _ | assumption | refine below_drewN ?_ _ | refine bel_grow ?_ _ | refine Below.drew ?_ | refine bel_alloc ?_ _ | refine bel_set ?_ (by first | exact Nat.le_refl _ | (simp; done) | (simp; omega) | omega) _ | refine bel_trans ?_ (by assumption)))⟩
    · rw [if_neg h2]
      go_enter Try.func80, Try.ntmps80
      go_wp2_with (go_at_call 85; first | ((with_reducible refine (grow_call (isnan_any _ _)).mono ?_); rintro e w' ⟨rfl, d1, rfl⟩) | ((with_reducible refine (gro (isnan_any _ _)).mono ?_); rintro e w' ⟨rfl, d1, rfl⟩))
      go_ret
      exact ⟨rfl, (by repeat (first | exact Below.refl _ _ | assumption | refine below_drewN ?_ _ | refine bel_grow ?_ _ | refine Below.drew ?_ | refine bel_alloc ?_ _ | refine bel_set ?_ (by first | exact Nat.le_refl _ | (simp; done) | (simp; omega) | omega) _ | refine bel_trans ?_ (by assumption)))⟩
theorem cmp_any (a b c d : Int) (w : World) : Calls Try.prog 54 #[.agg #[.int .u64 a, .int .u64 b], .agg #[.int .u64 c, .int .u64 d]] w fun r w' =>
      r = .returned (.int .i64 (cmpV a b c d)) ∧ Below w.heap.size w w' := by
  have H1 := Lib.hid (fun w => cmpw_any a c w)
  have H2 := Lib.hid (fun w => cmpw_any b d w)
  unfold cmpV
  generalize cmpI a c = x at *
  generalize cmpI b d = y at *
  cases hx : (x != 0)
  · go_enter Try.func54, Try.ntmps54
    go_wp2_with (go_at_call 80; first | ((with_reducible refine (gro (H1.out _)).mono ?_); rintro e w' ⟨rfl, d1, rfl⟩) | ((with_reducible refine (grow_call (H2.out _)).mono ?_); rintro e w' ⟨rfl, d1, rfl⟩))
    go_ret
    exact ⟨rfl, (by repeat (first | exact Below.refl _ _ | assumption | refine below_drewN ?_ _ | refine bel_grow ?_ _ | refine Below.drew ?_ | refine bel_alloc ?_ _ | refine bel_set ?_ (by first | exact Nat.le_refl _ | (simp; done) | (simp; omega) | omega) _ | refine bel_trans ?_ (by assumption)))⟩
  · go_enter Try.func54, Try.ntmps54
    go_wp2_with (go_at_call 80; first | ((with_reducible refine (gro (H1.out _)).mono ?_); rintro e w' ⟨rfl, d1, rfl⟩) | ((with_reducible refine (grow_call (H2.out _)).mono ?_); rintro e w' ⟨rfl, d1, rfl⟩))
    go_ret
    exact ⟨rfl, (by repeat (first | exact Below.refl _ _ | assumption | refine below_drewN ?_ _ | refine bel_grow ?_ _ | refine Below.drew ?_ | refine bel_alloc ?_ _ | refine bel_set ?_ (by first | exact Nat.le_refl _ | (simp; done) | (simp; omega) | omega) _ | refine bel_trans ?_ (by assumption)))⟩
end Go.Proofs.Ytpbnakoimlmhnaa
-- XWideY
namespace Go.Proofs.Ytpbnakoimlmhnaa
set_option linter.unusedVariables false
set_option linter.unusedSimpArgs false
open Go.RowKit

theorem rest_any (a b c d : Int) (ha : Wd a) (hb : Wd b) (hc : Wd c) (hd : Wd d) (w : World) : Calls Try.prog 78 #[.agg #[.int .u64 a, .int .u64 b], .agg #[.int .u64 c, .int .u64 d]] w fun r w' =>
      r = .returned (.agg #[.int .u64 (subH a b c d), .int .u64 (subL a b c d)]) ∧ Below w.heap.size w w' := by
  have HS := Lib.hid (fun w => sub_any a b c d ha hb hc hd w)
  clear ha hb hc hd
  go_enter Try.func78, Try.ntmps78
  go_wp2_with (go_at_call 77; refine (gro (HS.out _)).mono ?_; rintro e w' ⟨rfl, d1, rfl⟩)
  refine bodyPost_ret (v := .agg #[.int .u64 (subH a b c d), .int .u64 (subL a b c d)]) (by simp [results, Try.results78, go_sem]) rfl ⟨rfl, ?_⟩
  (repeat (first | exact Below.refl _ _ | assumption | refine below_drewN ?_ _ | refine bel_grow ?_ _ | refine Below.drew ?_ | refine bel_alloc ?_ _ | refine bel_set ?_ (by first | exact Nat.le_refl _ | (simp; done) | (simp; omega) | omega) _ | refine bel_trans ?_ (by assumption)))

end Go.Proofs.Ytpbnakoimlmhnaa
-- XWideC
namespace Go.Proofs.Ytpbnakoimlmhnaa
set_option linter.unusedVariables false
set_option linter.unusedSimpArgs false
open Go.RowKit

theorem addB_V (a b c d : Int) : addB a b c d = decide (V a b + V c d < pw 16) := by
  rw [pw_16]; rfl
theorem addH_V {a b c d : Int} (h : V a b + V c d < pw 16) : addH a b c d = (V a b + V c d) / 18446744073709551616 := by
  unfold addH
  rw [addB_V, if_pos (by simpa using h)]
  unfold V
  omega
theorem addL_V {a b c d : Int} (h : V a b + V c d < pw 16) : addL a b c d = (V a b + V c d) % 18446744073709551616 := by
  unfold addL
  rw [addB_V, if_pos (by simpa using h)]
  unfold V
  omega
theorem addH_no {a b c d : Int} (h : ¬ V a b + V c d < pw 16) : addH a b c d = 0 ∧ addL a b c d = 0 := by
  unfold addH addL
  rw [addB_V, if_neg (by simpa using h), if_neg (by simpa using h)]
  exact ⟨rfl, rfl⟩

set_option maxHeartbeats 1000000 in
theorem refadd_any (a b c d : Int) (ha : Wd a) (hb : Wd b) (hc : Wd c) (hd : Wd d) (w : World) : Calls Try.prog 24 #[.agg #[.int .u64 a, .int .u64 b], .agg #[.int .u64 c, .int .u64 d]] w fun r w' =>
      r = .returned (.tuple #[.agg #[.int .u64 (addH a b c d), .int .u64 (addL a b c d)], .bool (addB a b c d)]) ∧ Below w.heap.size w w' := by
  have HX := Lib.hid (fun w => digitsV_any a b ha hb w)
  have HY := Lib.hid (fun w => digitsV_any c d hc hd w)
  have hA := Lib.hid (V_lo ha hb)
  have hB := Lib.hid (V_lo hc hd)
  have K1 := Lib.hid (addB_V a b c d)
  have K2 := Lib.hid (@addH_V a b c d)
  have K3 := Lib.hid (@addL_V a b c d)
  have K4 := Lib.hid (@addH_no a b c d)
  generalize V a b = A at *
  generalize V c d = B at *
  generalize addB a b c d = ok at *
  generalize addH a b c d = oh at *
  generalize addL a b c d = ol at *
  go_enter Try.func24, Try.ntmps24
  go_wp2
  go_region_held3 (fun w' => w'.cell? ⟨w.heap.size, 0, none⟩ = some (.int .u64 a) ∧ w'.cell? ⟨w.heap.size, 1, none⟩ = some (.int .u64 b) ∧ w'.cell? ⟨w.heap.size + 1, 0, none⟩ = some (.int .u64 c) ∧ w'.cell? ⟨w.heap.size + 1, 1, none⟩ = some (.int .u64 d)) (first | (simp [go_sem]; done) | (go_split_ands; refine ⟨?_, ?_, ?_, ?_⟩ <;> first | exact keepc hby (by assumption) | exact keepc hbx (by assumption)))
    (first
      | (go_at_call 43; (with_reducible refine (HX.out _).mono ?_); rintro e w1 ⟨gx, rfl, hgx, hrx, hbx⟩)
      | (go_at_call 43; (with_reducible refine (HY.out _).mono ?_); rintro e w2 ⟨gy, rfl, hgy, hry, hby⟩))
  go_wp2
  have z0 := hbx.size
  have z1 := hby.size
  have z2 := hrx.lt
  have z3 := hry.lt
  simp at z0 hgx
  have hx := Lib.hid (rowIs_below hrx hby hrx.lt)
  have hy := Lib.hid hry
  have hres : w2.rowIs (w.heap.size + 1 + 1) 24 2 (fun _ => .int .u64 0) := by
    refine rowIs_below (rowIs_below (World.rowIs.drew (rowIs_zero (w := (w.alloc _).alloc _) (c := #[.int .u64 0, .int .u64 0]) _ ?_ ?_)) hbx ?_) hby ?_
    · simp
    · rfl
    · simp
    · omega
  replace hres := Lib.hid hres
  have hb : Below w.heap.size w w2 := (by repeat (first | exact Below.refl _ _ | assumption | refine below_drewN ?_ _ | refine bel_grow ?_ _ | refine Below.drew ?_ | refine bel_alloc ?_ _ | refine bel_set ?_ (by first | exact Nat.le_refl _ | (simp; done) | (simp; omega) | omega) _ | refine bel_trans ?_ (by assumption)))
  replace hb := Lib.hid hb
  clear hrx hry hbx hby
  go_loopw [8, 9] (fun c i wr => ∃ (k : Int) (d : Nat → Int), -1 ≤ k ∧ k ≤ 15 ∧ i = .int .i64 k ∧ c = .int .i64 (carry A B (15 - k).toNat) ∧ Hid (∀ j : Nat, j ≤ k → d j = dg A j) ∧ Hid (∀ j : Nat, k < j → j < 16 → d j = dg (A + B) j) ∧
      Hid (Below w.heap.size w wr) ∧ Hid (wr.rowIs gx 3 16 (iV d)) ∧ Hid (wr.rowIs gy 3 16 (iV (dg B))) ∧ Hid (wr.rowIs (w.heap.size + 1 + 1) 24 2 (fun _ => .int .u64 0))) (fun _ i _ => (intOf i + 1).toNat)
  case atStart => exact ⟨15, dg A, by omega, by omega, rfl, by rw [show (15 - (15 : Int)).toNat = 0 from rfl, carry_0], fun j _ => rfl, fun j h1 h2 => by omega, hb, hx, hy, hres⟩
  case round =>
    clear hx hy hres hb
    obtain ⟨k, d, hk0, hk1, rfl, rfl, hd0, hd1, hb, hx, hy, hres⟩ := hrel
    by_cases hneg : k = -1
    · subst hneg
      have hcar := carry_16 A B hA.out hB.out
      rw [show (15 - (-1 : Int)).toNat = 16 from rfl]
      have r0 := hres.out.cell (i := 0) (by omega)
      have r1 := hres.out.cell (i := 1) (by omega)
      have r2 := hres.out.frozen 0
      have r3 := hres.out.frozen 1
      have lt := hres.out.lt
      have hA' := hA.out
      have hB' := hB.out
      by_cases hov : A + B < pw 16
      · have e0 : carry A B 16 = 0 := by rw [hcar, Int.ediv_eq_zero_of_lt (by omega) hov]
        rw [e0]
        obtain rfl := K2.out hov
        obtain rfl := K3.out hov
        have e1 : ok = true := by rw [K1.out]; simpa using hov
        subst e1
        have HN := Lib.hid (fun w hr => numberV_any (A + B) ⟨by omega, hov⟩ d (fun j hj => hd1.out j (by omega) hj) gx 16 w hr)
        clear hcar e0 hA' hB' hov
        go_wp2_with (go_at_call 44; (with_reducible refine (gro (HN.out _ hx.out)).mono ?_); rintro e w3 ⟨rfl, d1, rfl⟩)
        refine bodyPost_ret (v := .tuple #[.agg #[.int .u64 ((A + B) / 18446744073709551616), .int .u64 ((A + B) % 18446744073709551616)], .bool true]) (by simp [results, Try.results24, go_sem, r0, r1, lt]) rfl ⟨rfl, ?_⟩
        refine Below.setCell (Below.setCell (Below.trans hb.out ((grow_below _ _).mono hb.out.size)) ?_ _) ?_ _ <;> (dsimp only; omega)
      · have h1 := carry_lo A B 16
        have e0 : carry A B 16 = 1 := by
          have : 1 ≤ (A + B) / pw 16 := Int.le_ediv_of_mul_le (pw_pos 16) (by omega)
          omega
        rw [e0]
        obtain ⟨rfl, rfl⟩ := K4.out (by omega)
        have e1 : ok = false := by rw [K1.out]; simpa using hov
        subst e1
        clear hcar e0 hA' hB' hov h1
        go_wp2
        refine bodyPost_ret (v := .tuple #[.agg #[.int .u64 0, .int .u64 0], .bool false]) (by simp [results, Try.results24, go_sem, r0, r1]) rfl ⟨rfl, ?_⟩
        refine Below.setCell (Below.setCell hb.out ?_ _) ?_ _ <;> (dsimp only; omega)
    · obtain ⟨m, rfl⟩ := Int.eq_ofNat_of_zero_le (show 0 ≤ k by omega)
      have c1 := hx.out.cell (i := m) (by omega)
      have c2 := hy.out.cell (i := m) (by omega)
      have c3 := hx.out.frozen m
      have e1 : iV d m = .int .i64 (dg A m) := by unfold iV; rw [hd0.out m (by omega)]
      rw [e1] at c1
      have e2 : iV (dg B) m = .int .i64 (dg B m) := rfl
      rw [e2] at c2
      have f0 := carry_lo A B (15 - m)
      have f1 := Lib.hid (carry_dg A B (15 - m) (by omega))
      have f2 := Lib.hid (carry_succ A B (15 - m) (by omega))
      rw [show (15 - (m : Int)).toNat = 15 - m from by omega]
      rw [show 15 - (15 - m) = m from by omega] at f1 f2
      have q1 := dg_lo A m
      have q2 := dg_lo B m
      clear e1 e2
      generalize dg A m = p at *
      generalize dg B m = q at *
      generalize carry A B (15 - m) = r at *
      go_wp2
      go_quiet (fail)
      go_wp2
      go_roundw
      case rel =>
        refine ⟨(m : Int) - 1, fun j => if j = m then (p + q + r) % 256 else d j, by omega, by omega, rfl, ?_, fun j hj => ?_, fun j h1 h2 => ?_, ?_, ?_, ?_, ?_⟩
        · rw [show (15 - ((m : Int) - 1)).toNat = 15 - m + 1 from by omega, ← f2.out]
        · dsimp only; rw [if_neg (by omega)]; exact hd0.out j (by omega)
        · by_cases ej : j = m
          · subst ej; dsimp only; rw [if_pos rfl]; exact f1.out
          · dsimp only; rw [if_neg ej]; exact hd1.out j (by omega) h2
        · exact Below.setCell (p := ⟨gx, m, none⟩) (Below.drewN hb.out _) (by dsimp only; omega) _
        · exact ((rowIs_drewN hx.out _).set m _).congr (fun j hj => by unfold iV; by_cases e2 : j = m <;> simp [e2])
        · exact (rowIs_drewN hy.out _).setOther (by dsimp only; omega) _
        · exact (rowIs_drewN hres.out _).setOther (by dsimp only; omega) _
      case measure => simp [intOf]
end Go.Proofs.Ytpbnakoimlmhnaa
-- XWideCmp
namespace Go.Proofs.Ytpbnakoimlmhnaa
set_option linter.unusedVariables false
set_option linter.unusedSimpArgs false
open Go.RowKit

set_option maxHeartbeats 1000000 in
theorem refcmp_any (a b c d : Int) (ha : Wd a) (hb : Wd b) (hc : Wd c) (hd : Wd d) (w : World) : Calls Try.prog 25 #[.agg #[.int .u64 a, .int .u64 b], .agg #[.int .u64 c, .int .u64 d]] w fun r w' =>
      r = .returned (.int .i64 (cmpV a b c d)) ∧ Below w.heap.size w w' := by
  have HX := Lib.hid (fun w => digitsV_any a b ha hb w)
  have HY := Lib.hid (fun w => digitsV_any c d hc hd w)
  have hA := Lib.hid (V_lo ha hb)
  have hB := Lib.hid (V_lo hc hd)
  rw [cmpV_V hb hd]
  generalize V a b = A at *
  generalize V c d = B at *
  go_enter Try.func25, Try.ntmps25
  go_wp2
  go_region_held3 (fun w' => w'.cell? ⟨w.heap.size, 0, none⟩ = some (.int .u64 a) ∧ w'.cell? ⟨w.heap.size, 1, none⟩ = some (.int .u64 b) ∧ w'.cell? ⟨w.heap.size + 1, 0, none⟩ = some (.int .u64 c) ∧ w'.cell? ⟨w.heap.size + 1, 1, none⟩ = some (.int .u64 d)) (first | (simp [go_sem]; done) | (go_split_ands; refine ⟨?_, ?_, ?_, ?_⟩ <;> first | exact keepc hby (by assumption) | exact keepc hbx (by assumption)))
    (first
      | (go_at_call 43; (with_reducible refine (HX.out _).mono ?_); rintro e w1 ⟨gx, rfl, hgx, hrx, hbx⟩)
      | (go_at_call 43; (with_reducible refine (HY.out _).mono ?_); rintro e w2 ⟨gy, rfl, hgy, hry, hby⟩))
  go_wp2
  have hx := Lib.hid (rowIs_below hrx hby hrx.lt)
  have hy := Lib.hid hry
  have hb' : Below w.heap.size w w2 := (by repeat (first | exact Below.refl _ _ | assumption | refine below_drewN ?_ _ | refine bel_grow ?_ _ | refine Below.drew ?_ | refine bel_alloc ?_ _ | refine bel_set ?_ (by first | exact Nat.le_refl _ | (simp; done) | (simp; omega) | omega) _ | refine bel_trans ?_ (by assumption)))
  replace hb' := Lib.hid hb'
  clear hrx hry hbx hby
  go_loopw [7] (fun i wr => ∃ (k : Nat), k ≤ 16 ∧ i = .int .i64 k ∧ Hid (∀ j, j < k → dg A j = dg B j) ∧ ∃ n, wr = w2.drewN n) (fun i _ => 16 - (intOf i).toNat)
  case atStart => exact ⟨0, by omega, rfl, fun j hj => by omega, 0, rfl⟩
  case round =>
    obtain ⟨k, hk, rfl, hd, n, rfl⟩ := hrel
    by_cases hlt : k < 16
    · have c1 := hx.out.cell (i := k) (by omega)
      have c2 := hy.out.cell (i := k) (by omega)
      have e1 : iV (dg A) k = .int .i64 (dg A k) := rfl
      have e2 : iV (dg B) k = .int .i64 (dg B k) := rfl
      rw [e1] at c1
      rw [e2] at c2
      clear e1 e2
      have f1 := Lib.hid (fun h => dg_less hA.out hB.out hlt hd.out h)
      have f2 := Lib.hid (fun h => dg_less hB.out hA.out hlt (fun j hj => (hd.out j hj).symm) h)
      have f3 : dg A k = dg B k → ∀ j, j < k + 1 → dg A j = dg B j := fun e j hj => by
        by_cases ej : j = k
        · rw [ej]; exact e
        · exact hd.out j (by omega)
      replace f3 := Lib.hid f3
      generalize dg A k = p at *
      generalize dg B k = q at *
      by_cases h1 : p < q
      · have hv : cmpI A B = -1 := by unfold cmpI; rw [if_pos (f1.out h1)]
        replace hv := Lib.hid hv
        go_wp2
        go_quiet (fail)
        go_wp2
        go_ret
        exact ⟨by rw [hv.out]; rfl, by have hb2 := hb'.out; (repeat (first | exact Below.refl _ _ | assumption | refine below_drewN ?_ _ | refine bel_grow ?_ _ | refine Below.drew ?_ | refine bel_alloc ?_ _ | refine bel_set ?_ (by first | exact Nat.le_refl _ | (simp; done) | (simp; omega) | omega) _ | refine bel_trans ?_ (by assumption)))⟩
      · by_cases h2 : q < p
        · have hv : cmpI A B = 1 := by unfold cmpI; rw [if_neg (by have := f2.out h2; omega), if_pos (f2.out h2)]
          replace hv := Lib.hid hv
          go_wp2
          go_quiet (fail)
          go_wp2
          go_quiet (fail)
          go_wp2
          go_ret
          exact ⟨by rw [hv.out]; rfl, by have hb2 := hb'.out; (repeat (first | exact Below.refl _ _ | assumption | refine below_drewN ?_ _ | refine bel_grow ?_ _ | refine Below.drew ?_ | refine bel_alloc ?_ _ | refine bel_set ?_ (by first | exact Nat.le_refl _ | (simp; done) | (simp; omega) | omega) _ | refine bel_trans ?_ (by assumption)))⟩
        · go_wp2
          go_quiet (fail)
          go_wp2
          go_quiet (fail)
          go_wp2
          go_roundw
          case rel => exact ⟨k + 1, by omega, by go_num, f3.out (by omega), _, rfl⟩
          case measure => simp [intOf]; omega
    · obtain rfl : k = 16 := by omega
      have e := dg_all hA.out hB.out hd.out
      have hv : cmpI A B = 0 := by rw [e]; simp [cmpI]
      replace hv := Lib.hid hv
      clear e
      go_wp2
      go_ret
      exact ⟨by rw [hv.out]; rfl, by have hb2 := hb'.out; (repeat (first | exact Below.refl _ _ | assumption | refine below_drewN ?_ _ | refine bel_grow ?_ _ | refine Below.drew ?_ | refine bel_alloc ?_ _ | refine bel_set ?_ (by first | exact Nat.le_refl _ | (simp; done) | (simp; omega) | omega) _ | refine bel_trans ?_ (by assumption)))⟩
end Go.Proofs.Ytpbnakoimlmhnaa
-- XWideD
namespace Go.Proofs.Ytpbnakoimlmhnaa
set_option linter.unusedVariables false
set_option linter.unusedSimpArgs false
open Go.RowKit

theorem subB_V (a b c d : Int) : subB a b c d = decide (V c d ≤ V a b) := rfl
theorem subH_V {a b c d : Int} (hb : Wd b) (hd : Wd d) (h : V c d ≤ V a b) : subH a b c d = (V a b - V c d) / 18446744073709551616 := by
  unfold subH
  rw [subB_V, if_pos (by simpa using h)]
  unfold V Wd at *
  split <;> omega
theorem subL_V {a b c d : Int} (h : V c d ≤ V a b) : subL a b c d = (V a b - V c d) % 18446744073709551616 := by
  unfold subL
  rw [subB_V, if_pos (by simpa using h)]
  unfold V
  omega
theorem subH_no {a b c d : Int} (h : ¬ V c d ≤ V a b) : subH a b c d = 0 ∧ subL a b c d = 0 := by
  unfold subH subL
  rw [subB_V, if_neg (by simpa using h), if_neg (by simpa using h)]
  exact ⟨rfl, rfl⟩

set_option maxHeartbeats 1000000 in
theorem refsub_any (a b c d : Int) (ha : Wd a) (hb : Wd b) (hc : Wd c) (hd : Wd d) (w : World) : Calls Try.prog 16 #[.agg #[.int .u64 a, .int .u64 b], .agg #[.int .u64 c, .int .u64 d]] w fun r w' =>
      r = .returned (.tuple #[.agg #[.int .u64 (subH a b c d), .int .u64 (subL a b c d)], .bool (subB a b c d)]) ∧ Below w.heap.size w w' := by
  have HX := Lib.hid (fun w => digitsV_any a b ha hb w)
  have HY := Lib.hid (fun w => digitsV_any c d hc hd w)
  have hA := Lib.hid (V_lo ha hb)
  have hB := Lib.hid (V_lo hc hd)
  have K1 := Lib.hid (subB_V a b c d)
  have K2 := Lib.hid (@subH_V a b c d hb hd)
  have K3 := Lib.hid (@subL_V a b c d)
  have K4 := Lib.hid (@subH_no a b c d)
  generalize V a b = A at *
  generalize V c d = B at *
  generalize subB a b c d = ok at *
  generalize subH a b c d = oh at *
  generalize subL a b c d = ol at *
  go_enter Try.func16, Try.ntmps16
  go_wp2
  go_region_held3 (fun w' => w'.cell? ⟨w.heap.size, 0, none⟩ = some (.int .u64 a) ∧ w'.cell? ⟨w.heap.size, 1, none⟩ = some (.int .u64 b) ∧ w'.cell? ⟨w.heap.size + 1, 0, none⟩ = some (.int .u64 c) ∧ w'.cell? ⟨w.heap.size + 1, 1, none⟩ = some (.int .u64 d)) (first | (simp [go_sem]; done) | (go_split_ands; refine ⟨?_, ?_, ?_, ?_⟩ <;> first | exact keepc hby (by assumption) | exact keepc hbx (by assumption)))
    (first
      | (go_at_call 43; (with_reducible refine (HX.out _).mono ?_); rintro e w1 ⟨gx, rfl, hgx, hrx, hbx⟩)
      | (go_at_call 43; (with_reducible refine (HY.out _).mono ?_); rintro e w2 ⟨gy, rfl, hgy, hry, hby⟩))
  go_wp2
  have z0 := hbx.size
  have z1 := hby.size
  have z2 := hrx.lt
  have z3 := hry.lt
  simp at z0 hgx
  have hx := Lib.hid (rowIs_below hrx hby hrx.lt)
  have hy := Lib.hid hry
  have hres : w2.rowIs (w.heap.size + 1 + 1) 24 2 (fun _ => .int .u64 0) := by
    refine rowIs_below (rowIs_below (World.rowIs.drew (rowIs_zero (w := (w.alloc _).alloc _) (c := #[.int .u64 0, .int .u64 0]) _ ?_ ?_)) hbx ?_) hby ?_
    · simp
    · rfl
    · simp
    · omega
  replace hres := Lib.hid hres
  have hb : Below w.heap.size w w2 := (by repeat (first | exact Below.refl _ _ | assumption | refine below_drewN ?_ _ | refine bel_grow ?_ _ | refine Below.drew ?_ | refine bel_alloc ?_ _ | refine bel_set ?_ (by first | exact Nat.le_refl _ | (simp; done) | (simp; omega) | omega) _ | refine bel_trans ?_ (by assumption)))
  replace hb := Lib.hid hb
  clear hrx hry hbx hby
  go_loopw [8, 9] (fun c i wr => ∃ (k : Int) (d : Nat → Int), -1 ≤ k ∧ k ≤ 15 ∧ i = .int .i64 k ∧ c = .int .i64 (loan A B (15 - k).toNat) ∧ Hid (∀ j : Nat, j ≤ k → d j = dg A j) ∧ Hid (∀ j : Nat, k < j → j < 16 → d j = dg (A - B) j) ∧
      Hid (Below w.heap.size w wr) ∧ Hid (wr.rowIs gx 3 16 (iV d)) ∧ Hid (wr.rowIs gy 3 16 (iV (dg B))) ∧ Hid (wr.rowIs (w.heap.size + 1 + 1) 24 2 (fun _ => .int .u64 0))) (fun _ i _ => (intOf i + 1).toNat)
  case atStart => exact ⟨15, dg A, by omega, by omega, rfl, by rw [show (15 - (15 : Int)).toNat = 0 from rfl, loan_0], fun j _ => rfl, fun j h1 h2 => by omega, hb, hx, hy, hres⟩
  case round =>
    clear hx hy hres hb
    obtain ⟨k, d, hk0, hk1, rfl, rfl, hd0, hd1, hb, hx, hy, hres⟩ := hrel
    by_cases hneg : k = -1
    · subst hneg
      have hcar := loan_16 A B hA.out hB.out
      rw [show (15 - (-1 : Int)).toNat = 16 from rfl]
      have r0 := hres.out.cell (i := 0) (by omega)
      have r1 := hres.out.cell (i := 1) (by omega)
      have r2 := hres.out.frozen 0
      have r3 := hres.out.frozen 1
      have lt := hres.out.lt
      have hA' := hA.out
      have hB' := hB.out
      by_cases hov : B ≤ A
      · have e0 : loan A B 16 = 0 := by rw [hcar, if_neg (by omega)]
        rw [e0]
        obtain rfl := K2.out hov
        obtain rfl := K3.out hov
        have e1 : ok = true := by rw [K1.out]; simpa using hov
        subst e1
        have HN := Lib.hid (fun w hr => numberV_any (A - B) ⟨by omega, by omega⟩ d (fun j hj => hd1.out j (by omega) hj) gx 16 w hr)
        clear hcar e0 hA' hB' hov
        go_wp2_with (go_at_call 44; (with_reducible refine (gro (HN.out _ hx.out)).mono ?_); rintro e w3 ⟨rfl, d1, rfl⟩)
        refine bodyPost_ret (v := .tuple #[.agg #[.int .u64 ((A - B) / 18446744073709551616), .int .u64 ((A - B) % 18446744073709551616)], .bool true]) (by simp [results, Try.results16, go_sem, r0, r1, lt]) rfl ⟨rfl, ?_⟩
        refine Below.setCell (Below.setCell (Below.trans hb.out ((grow_below _ _).mono hb.out.size)) ?_ _) ?_ _ <;> (dsimp only; omega)
      · have e0 : loan A B 16 = 1 := by rw [hcar, if_pos (by omega)]
        rw [e0]
        obtain ⟨rfl, rfl⟩ := K4.out (by omega)
        have e1 : ok = false := by rw [K1.out]; simpa using hov
        subst e1
        clear hcar e0 hA' hB' hov
        go_wp2
        refine bodyPost_ret (v := .tuple #[.agg #[.int .u64 0, .int .u64 0], .bool false]) (by simp [results, Try.results16, go_sem, r0, r1]) rfl ⟨rfl, ?_⟩
        refine Below.setCell (Below.setCell hb.out ?_ _) ?_ _ <;> (dsimp only; omega)
    · obtain ⟨m, rfl⟩ := Int.eq_ofNat_of_zero_le (show 0 ≤ k by omega)
      have c1 := hx.out.cell (i := m) (by omega)
      have c2 := hy.out.cell (i := m) (by omega)
      have c3 := hx.out.frozen m
      have e1 : iV d m = .int .i64 (dg A m) := by unfold iV; rw [hd0.out m (by omega)]
      rw [e1] at c1
      have e2 : iV (dg B) m = .int .i64 (dg B m) := rfl
      rw [e2] at c2
      have f0 := loan_lo A B (15 - m)
      have f1 := Lib.hid (loan_dg A B (15 - m) (by omega))
      have f2 := Lib.hid (loan_succ A B (15 - m) (by omega))
      rw [show (15 - (m : Int)).toNat = 15 - m from by omega]
      rw [show 15 - (15 - m) = m from by omega] at f1 f2
      have q1 := dg_lo A m
      have q2 := dg_lo B m
      clear e1 e2
      generalize dg A m = p at *
      generalize dg B m = q at *
      generalize loan A B (15 - m) = r at *
      by_cases hneg : p - q - r < 0
      · have e3 : p - q - r + 256 = (p - q - r) % 256 := by omega
        replace e3 := Lib.hid e3
        have f3 : loan A B (15 - m + 1) = 1 := by rw [f2.out, if_pos hneg]
        replace f3 := Lib.hid f3
        have hneg' : decide (p - q - r < 0) = true := by simpa using hneg
        go_wp2
        go_quiet (fail)
        go_wp2
        go_roundw
        case rel =>
          refine ⟨(m : Int) - 1, fun j => if j = m then (p - q - r) % 256 else d j, by omega, by omega, rfl, ?_, fun j hj => ?_, fun j h1 h2 => ?_, ?_, ?_, ?_, ?_⟩
          · rw [show (15 - ((m : Int) - 1)).toNat = 15 - m + 1 from by omega, f3.out]
          · dsimp only; rw [if_neg (by omega)]; exact hd0.out j (by omega)
          · by_cases ej : j = m
            · subst ej; dsimp only; rw [if_pos rfl]; exact f1.out
            · dsimp only; rw [if_neg ej]; exact hd1.out j (by omega) h2
          · exact Below.setCell (p := ⟨gx, m, none⟩) (Below.drewN hb.out _) (by dsimp only; omega) _
          · rw [e3.out]; exact ((rowIs_drewN hx.out _).set m _).congr (fun j hj => by unfold iV; by_cases e2 : j = m <;> simp [e2])
          · exact (rowIs_drewN hy.out _).setOther (by dsimp only; omega) _
          · exact (rowIs_drewN hres.out _).setOther (by dsimp only; omega) _
        case measure => simp [intOf]
      · have e3 : p - q - r = (p - q - r) % 256 := by omega
        replace e3 := Lib.hid e3
        have f3 : loan A B (15 - m + 1) = 0 := by rw [f2.out, if_neg hneg]
        replace f3 := Lib.hid f3
        go_wp2
        go_quiet (fail)
        go_wp2
        go_roundw
        case rel =>
          refine ⟨(m : Int) - 1, fun j => if j = m then p - q - r else d j, by omega, by omega, rfl, ?_, fun j hj => ?_, fun j h1 h2 => ?_, ?_, ?_, ?_, ?_⟩
          · rw [show (15 - ((m : Int) - 1)).toNat = 15 - m + 1 from by omega, f3.out]
          · dsimp only; rw [if_neg (by omega)]; exact hd0.out j (by omega)
          · by_cases ej : j = m
            · subst ej; dsimp only; rw [if_pos rfl]; exact e3.out.trans f1.out
            · dsimp only; rw [if_neg ej]; exact hd1.out j (by omega) h2
          · exact Below.setCell (p := ⟨gx, m, none⟩) (Below.drewN hb.out _) (by dsimp only; omega) _
          · exact ((rowIs_drewN hx.out _).set m _).congr (fun j hj => by unfold iV; by_cases e2 : j = m <;> simp [e2])
          · exact (rowIs_drewN hy.out _).setOther (by dsimp only; omega) _
          · exact (rowIs_drewN hres.out _).setOther (by dsimp only; omega) _
        case measure => simp [intOf]

end Go.Proofs.Ytpbnakoimlmhnaa
-- XWideE
namespace Go.Proofs.Ytpbnakoimlmhnaa
set_option linter.unusedVariables false
set_option linter.unusedSimpArgs false
open Go.RowKit

/-- the sum of the first n numbers -/
def tot (h l : Nat → Int) : Nat → Int
  | 0 => 0
  | n + 1 => tot h l n + V (h n) (l n)
theorem V_nn {h l : Int} (hh : Wd h) (hl : Wd l) : 0 ≤ V h l := (V_lo hh hl).1
theorem tot_nn {h l : Nat → Int} {n : Nat} (hd : ∀ i, i < n → Wd (h i) ∧ Wd (l i)) : 0 ≤ tot h l n := by
  induction n with
  | zero => simp [tot]
  | succ n ih => have := ih (fun i hi => hd i (by omega)); have := V_nn (hd n (by omega)).1 (hd n (by omega)).2; simp only [tot]; omega
theorem tot_mono {h l : Nat → Int} {k n : Nat} (hk : k ≤ n) (hd : ∀ i, i < n → Wd (h i) ∧ Wd (l i)) : tot h l k ≤ tot h l n := by
  induction n with
  | zero => obtain rfl : k = 0 := by omega
            exact Int.le_refl _
  | succ n ih =>
    by_cases e : k = n + 1
    · subst e; exact Int.le_refl _
    · have := ih (by omega) (fun i hi => hd i (by omega)); have := V_nn (hd n (by omega)).1 (hd n (by omega)).2; simp only [tot]; omega
def sumB (h l : Nat → Int) (n : Nat) : Bool := decide (tot h l n < pw 16)
def sumH (h l : Nat → Int) (n : Nat) : Int := if sumB h l n then tot h l n / 18446744073709551616 else 0
def sumL (h l : Nat → Int) (n : Nat) : Int := if sumB h l n then tot h l n % 18446744073709551616 else 0
/-- the cells of pairs of words -/
def pV (h l : Nat → Int) (j : Nat) : Value := .int .u64 (if j % 2 = 0 then h (j / 2) else l (j / 2))
theorem pV_0 (h l : Nat → Int) (k : Nat) : pV h l (k * 2) = .int .u64 (h k) := by unfold pV; rw [if_pos (by omega), show k * 2 / 2 = k from by omega]
theorem pV_1 (h l : Nat → Int) (k : Nat) : pV h l (k * 2 + 1) = .int .u64 (l k) := by unfold pV; rw [if_neg (by omega), show (k * 2 + 1) / 2 = k from by omega]

set_option maxHeartbeats 1000000 in
theorem sum_any (A : Option Addr) (n c : Nat) (h l : Nat → Int) (hn : n ≤ 1000000) (hd : ∀ i, i < n → Wd (h i) ∧ Wd (l i)) (w : World) (hs : SlIs w A (n * 2) (pV h l)) :
    Calls Try.prog 79 #[.slice A n c] w fun r w' =>
      r = .returned (.tuple #[.agg #[.int .u64 (sumH h l n), .int .u64 (sumL h l n)], .bool (sumB h l n)]) ∧ Below w.heap.size w w' := by
  replace hs := Lib.hid hs
  replace hd := Lib.hid hd
  go_enter Try.func79, Try.ntmps79
  go_wp2
  go_loopw [11] (fun i wr => ∃ (k : Nat), k ≤ n ∧ i = .int .i64 k ∧ Hid (tot h l k < pw 16) ∧ Hid (Below w.heap.size w wr) ∧ Hid (wr.rowIs w.heap.size 24 2 (fun _ => .int .u64 0)) ∧
    Hid (wr.rowIs (w.heap.size + 1) 24 2 (pV (fun _ => tot h l k / 18446744073709551616) (fun _ => tot h l k % 18446744073709551616)))) (fun i _ => n - (intOf i).toNat)
  case atStart =>
    refine ⟨0, by omega, rfl, by rw [pw_16]; simp [tot, Hid], ?_, ?_, ?_⟩
    · show Below _ _ _
      (repeat (first | exact Below.refl _ _ | assumption | refine below_drewN ?_ _ | refine bel_grow ?_ _ | refine Below.drew ?_ | refine bel_alloc ?_ _ | refine bel_set ?_ (by first | exact Nat.le_refl _ | (simp; done) | (simp; omega) | omega) _ | refine bel_trans ?_ (by assumption)))
    · show World.rowIs _ _ _ _ _
      refine World.rowIs.alloc (rowIs_zero _ ?_ ?_) _
      · rfl
      · rfl
    · show World.rowIs _ _ _ _ _
      refine (rowIs_zero (.int .u64 0) ?_ ?_).congr (fun i hi => ?_)
      · simp
      · rfl
      · simp [pV, tot]
  case round =>
    obtain ⟨k, hk, rfl, ht, hb, hr, ho⟩ := hrel
    by_cases hlt : k < n
    · obtain ⟨b, o, rfl, hbl, hc⟩ := hs.out (by omega)
      have c0 := keepc hb.out (hc (k * 2) (by omega))
      have c1 := keepc hb.out (hc (k * 2 + 1) (by omega))
      rw [pV_0] at c0
      rw [pV_1, ← Nat.add_assoc] at c1
      have bl : b < wr.heap.size := Nat.lt_of_lt_of_le hbl hb.out.size
      have o0 := ho.out.cell (i := 0) (by omega)
      have o1 := ho.out.cell (i := 1) (by omega)
      have o2 := ho.out.frozen 0
      have o3 := ho.out.frozen 1
      have ol := ho.out.lt
      have e0 : pV (fun _ => tot h l k / 18446744073709551616) (fun _ => tot h l k % 18446744073709551616) 0 = .int .u64 (tot h l k / 18446744073709551616) := rfl
      have e1 : pV (fun _ => tot h l k / 18446744073709551616) (fun _ => tot h l k % 18446744073709551616) 1 = .int .u64 (tot h l k % 18446744073709551616) := rfl
      rw [e0] at o0
      rw [e1] at o1
      clear e0 e1 hc
      have hS : 0 ≤ tot h l k ∧ tot h l k < pw 16 := ⟨tot_nn (fun i hi => hd.out i (by omega)), ht.out⟩
      obtain ⟨hx, hy⟩ := hd.out k hlt
      have HA := Lib.hid (fun w => add_any (tot h l k / 18446744073709551616) (tot h l k % 18446744073709551616) (h k) (l k) (Wd_of hS).1 (Wd_of hS).2 hx hy w)
      have B1 := Lib.hid (addB_V (tot h l k / 18446744073709551616) (tot h l k % 18446744073709551616) (h k) (l k))
      have B2 := Lib.hid (@addH_V (tot h l k / 18446744073709551616) (tot h l k % 18446744073709551616) (h k) (l k))
      have B3 := Lib.hid (@addL_V (tot h l k / 18446744073709551616) (tot h l k % 18446744073709551616) (h k) (l k))
      rw [V_of, show tot h l k + V (h k) (l k) = tot h l (k + 1) from rfl] at B1 B2 B3
      have hmono := tot_mono (h := h) (l := l) (k := k + 1) (n := n) (by omega) hd.out
      replace hmono := Lib.hid hmono
      have hS' := Lib.hid hS
      clear hS hx hy
      generalize addB (tot h l k / 18446744073709551616) (tot h l k % 18446744073709551616) (h k) (l k) = ok at *
      generalize addH (tot h l k / 18446744073709551616) (tot h l k % 18446744073709551616) (h k) (l k) = nh at *
      generalize addL (tot h l k / 18446744073709551616) (tot h l k % 18446744073709551616) (h k) (l k) = nl at *
      cases ok
      · have hov : ¬ tot h l (k + 1) < pw 16 := by simpa using B1.out.symm
        have f1 : sumB h l n = false := by unfold sumB; have := hmono.out; simp; omega
        have f2 : sumH h l n = 0 := by unfold sumH; rw [f1]; rfl
        have f3 : sumL h l n = 0 := by unfold sumL; rw [f1]; rfl
        have r0 := hr.out.cell (i := 0) (by omega)
        have r1 := hr.out.cell (i := 1) (by omega)
        have r2 := hr.out.frozen 0
        have r3 := hr.out.frozen 1
        have rl := hr.out.lt
        replace hov := Lib.hid hov
        replace f1 := Lib.hid f1
        replace f2 := Lib.hid f2
        replace f3 := Lib.hid f3
        go_wp2_with (go_at_call 72; (with_reducible refine (gro_to (W := wr) (bel_alloc (Below.refl _ _) _) (HA.out _)).mono ?_); rintro e w3 ⟨rfl, d1, rfl⟩)
        refine bodyPost_ret (v := .tuple #[.agg #[.int .u64 0, .int .u64 0], .bool false]) (by simp [results, Try.results79, go_sem, r0, r1, rl]) rfl ⟨by rw [f1.out, f2.out, f3.out], ?_⟩
        have hb2 := hb.out
        (repeat (first | exact Below.refl _ _ | assumption | refine below_drewN ?_ _ | refine bel_grow ?_ _ | refine Below.drew ?_ | refine bel_alloc ?_ _ | refine bel_set ?_ (by first | exact Nat.le_refl _ | (simp; done) | (simp; omega) | omega) _ | refine bel_trans ?_ (by assumption)))
      · have hov : tot h l (k + 1) < pw 16 := by simpa using B1.out.symm
        have f2 := Lib.hid (B2.out hov)
        have f3 := Lib.hid (B3.out hov)
        replace hov := Lib.hid hov
        go_wp2_with (go_at_call 72; (with_reducible refine (gro_to (W := wr) (bel_alloc (Below.refl _ _) _) (HA.out _)).mono ?_); rintro e w3 ⟨rfl, d1, rfl⟩)
        go_roundw
        case rel =>
          have hb2 := hb.out
          have hr2 := hr.out
          have ho2 := ho.out
          refine ⟨k + 1, by omega, by go_num, hov.out, ?_, ?_, ?_⟩
          · show Below _ _ _
            (repeat (first | exact Below.refl _ _ | assumption | refine below_drewN ?_ _ | refine bel_grow ?_ _ | refine Below.drew ?_ | refine bel_alloc ?_ _ | refine bel_set ?_ (by first | exact Nat.le_refl _ | (simp; done) | (simp; omega) | omega) _ | refine bel_trans ?_ (by assumption)))
          · show World.rowIs _ _ _ _ _
            (repeat (first | with_reducible assumption | with_reducible refine World.rowIs.alloc ?_ _ | with_reducible refine rowIs_grow ?_ | with_reducible refine World.rowIs.drew ?_ | with_reducible refine rowIs_drewN ?_ _ | with_reducible refine World.rowIs.setOther ?_ (by first | (dsimp only; omega) | (simp; omega)) _))
          · show World.rowIs _ _ _ _ _
            refine World.rowIs.alloc ?_ _
            refine rowIs_two (f := _) (rowIs_grow ho2) ?_ ?_
            · show _ = Value.int _ _
              rw [f2.out]; rfl
            · show _ = Value.int _ _
              rw [f3.out]; rfl
        case measure => simp [intOf]; omega
    · obtain rfl : k = n := by omega
      have f1 : sumB h l k = true := by unfold sumB; simpa using ht.out
      have f2 : sumH h l k = tot h l k / 18446744073709551616 := by unfold sumH; rw [f1]; rfl
      have f3 : sumL h l k = tot h l k % 18446744073709551616 := by unfold sumL; rw [f1]; rfl
      have r0 := hr.out.cell (i := 0) (by omega)
      have r1 := hr.out.cell (i := 1) (by omega)
      have r2 := hr.out.frozen 0
      have r3 := hr.out.frozen 1
      have rl := hr.out.lt
      have o0 := ho.out.cell (i := 0) (by omega)
      have o1 := ho.out.cell (i := 1) (by omega)
      have e0 : pV (fun _ => tot h l k / 18446744073709551616) (fun _ => tot h l k % 18446744073709551616) 0 = .int .u64 (tot h l k / 18446744073709551616) := rfl
      have e1 : pV (fun _ => tot h l k / 18446744073709551616) (fun _ => tot h l k % 18446744073709551616) 1 = .int .u64 (tot h l k % 18446744073709551616) := rfl
      rw [e0] at o0
      rw [e1] at o1
      clear e0 e1
      replace f1 := Lib.hid f1
      replace f2 := Lib.hid f2
      replace f3 := Lib.hid f3
      go_wp2
      refine bodyPost_ret (v := .tuple #[.agg #[.int .u64 (tot h l k / 18446744073709551616), .int .u64 (tot h l k % 18446744073709551616)], .bool true]) (by simp [results, Try.results79, go_sem, r0, r1, rl]) rfl ⟨by rw [f1.out, f2.out, f3.out], ?_⟩
      have hb2 := hb.out
      (repeat (first | exact Below.refl _ _ | assumption | refine below_drewN ?_ _ | refine bel_grow ?_ _ | refine Below.drew ?_ | refine bel_alloc ?_ _ | refine bel_set ?_ (by first | exact Nat.le_refl _ | (simp; done) | (simp; omega) | omega) _ | refine bel_trans ?_ (by assumption)))
end Go.Proofs.Ytpbnakoimlmhnaa
-- XWideF
namespace Go.Proofs.Ytpbnakoimlmhnaa
set_option linter.unusedVariables false
set_option linter.unusedSimpArgs false
open Go.RowKit

set_option maxHeartbeats 2000000 in
theorem refsum_any (A : Option Addr) (n c : Nat) (h l : Nat → Int) (hn : n ≤ 1000000) (hd : ∀ i, i < n → Wd (h i) ∧ Wd (l i)) (w : World) (hs : SlIs w A (n * 2) (pV h l)) :
    Calls Try.prog 56 #[.slice A n c] w fun r w' =>
      r = .returned (.tuple #[.agg #[.int .u64 (sumH h l n), .int .u64 (sumL h l n)], .bool (sumB h l n)]) ∧ Below w.heap.size w w' := by
  replace hs := Lib.hid hs
  replace hd := Lib.hid hd
  go_enter Try.func56, Try.ntmps56
  go_wp2
  go_loopw [5] (fun i wr => ∃ (k : Nat), k ≤ n ∧ i = .int .i64 k ∧ Hid (tot h l k < pw 16) ∧ Hid (Below w.heap.size w wr) ∧ Hid (Blk wr w.heap.size 24 #[.int .u64 0, .int .u64 0]) ∧
    Hid (Blk wr (w.heap.size + 1) 24 #[.int .u64 (tot h l k / 18446744073709551616), .int .u64 (tot h l k % 18446744073709551616)])) (fun i _ => n - (intOf i).toNat)
  case atStart =>
    refine ⟨0, by omega, rfl, by rw [pw_16]; simp [tot, Hid], ?_, ?_, ?_⟩
    · show Below _ _ _
      (repeat (first | exact Below.refl _ _ | assumption | refine below_drewN ?_ _ | refine bel_grow ?_ _ | refine Below.drew ?_ | refine bel_alloc ?_ _ | refine bel_set ?_ (by first | exact Nat.le_refl _ | (simp; done) | (simp; omega) | omega) _ | refine bel_trans ?_ (by assumption)))
    · show Blk _ _ _ _
      (repeat (first | with_reducible assumption | (with_reducible refine Blk.new' ?_; first | with_reducible rfl | (simp; done)) | with_reducible refine Blk.alloc ?_ _ | with_reducible refine Blk.grow ?_ _ | with_reducible refine Blk.drew ?_ | with_reducible refine Blk.drewN ?_ _ | (with_reducible refine Blk.far ?_ (by first | (dsimp only; omega) | (simp; omega)) _) | (with_reducible apply Blk.two) | (with_reducible refine Blk.set' ?_ _ _ ?_) | (with_reducible rfl) | rfl))
    · rw [show tot h l 0 / 18446744073709551616 = 0 by simp [tot], show tot h l 0 % 18446744073709551616 = 0 by simp [tot]]
      show Blk _ _ _ _
      (repeat (first | with_reducible assumption | (with_reducible refine Blk.new' ?_; first | with_reducible rfl | (simp; done)) | with_reducible refine Blk.alloc ?_ _ | with_reducible refine Blk.grow ?_ _ | with_reducible refine Blk.drew ?_ | with_reducible refine Blk.drewN ?_ _ | (with_reducible refine Blk.far ?_ (by first | (dsimp only; omega) | (simp; omega)) _) | (with_reducible apply Blk.two) | (with_reducible refine Blk.set' ?_ _ _ ?_) | (with_reducible rfl) | rfl))
  case round =>
    obtain ⟨k, hk, rfl, ht, hb, hr, ho⟩ := hrel
    have r0 := (hr.out).cell 0
    have r1 := (hr.out).cell 1
    have rf0 := (hr.out).frozen 0
    have rf1 := (hr.out).frozen 1
    have rl := (hr.out).lt
    have o0 := (ho.out).cell 0
    have o1 := (ho.out).cell 1
    have of0 := (ho.out).frozen 0
    have of1 := (ho.out).frozen 1
    have ol := (ho.out).lt
    by_cases hlt : k < n
    · obtain ⟨b, o, rfl, hbl, hc⟩ := hs.out (by omega)
      have c0 := keepc hb.out (hc (k * 2) (by omega))
      have c1 := keepc hb.out (hc (k * 2 + 1) (by omega))
      rw [pV_0] at c0
      rw [pV_1, ← Nat.add_assoc] at c1
      have bl : b < wr.heap.size := Nat.lt_of_lt_of_le hbl hb.out.size
      clear hc
      have hS : 0 ≤ tot h l k ∧ tot h l k < pw 16 := ⟨tot_nn (fun i hi => hd.out i (by omega)), ht.out⟩
      obtain ⟨hx, hy⟩ := hd.out k hlt
      have HA := Lib.hid (fun w => refadd_any (tot h l k / 18446744073709551616) (tot h l k % 18446744073709551616) (h k) (l k) (Wd_of hS).1 (Wd_of hS).2 hx hy w)
      have B1 := Lib.hid (addB_V (tot h l k / 18446744073709551616) (tot h l k % 18446744073709551616) (h k) (l k))
      have B2 := Lib.hid (@addH_V (tot h l k / 18446744073709551616) (tot h l k % 18446744073709551616) (h k) (l k))
      have B3 := Lib.hid (@addL_V (tot h l k / 18446744073709551616) (tot h l k % 18446744073709551616) (h k) (l k))
      rw [V_of, show tot h l k + V (h k) (l k) = tot h l (k + 1) from rfl] at B1 B2 B3
      have hmono := tot_mono (h := h) (l := l) (k := k + 1) (n := n) (by omega) hd.out
      replace hmono := Lib.hid hmono
      clear hS hx hy
      generalize addB (tot h l k / 18446744073709551616) (tot h l k % 18446744073709551616) (h k) (l k) = ok at *
      generalize addH (tot h l k / 18446744073709551616) (tot h l k % 18446744073709551616) (h k) (l k) = nh at *
      generalize addL (tot h l k / 18446744073709551616) (tot h l k % 18446744073709551616) (h k) (l k) = nl at *
      go_wp2
      go_region_held3 (fun w' => w'.cell? ⟨w.heap.size + 1, 0, none⟩ = some (.int .u64 (tot h l k / 18446744073709551616)) ∧ w'.cell? ⟨w.heap.size + 1, 1, none⟩ = some (.int .u64 (tot h l k % 18446744073709551616)) ∧ w'.cell? ⟨b, o + k * 2, none⟩ = some (.int .u64 (h k)) ∧ w'.cell? ⟨b, o + k * 2 + 1, none⟩ = some (.int .u64 (l k)))
        (first | ((try go_split_ands); refine ⟨?_, ?_, ?_, ?_⟩ <;> first | assumption | exact keepc (grow_below _ _) (by assumption) | exact keepc (bel_alloc (Below.refl _ _) _) (by assumption) | ((repeat (refine keeps (by dsimp only; omega) ?_)); assumption) | (simp [go_sem]; done) | (apply keepa; (have h9 := grow_size (wr) d1; have h10 : (wr).heap.size ≤ (Grow (wr).drew d1).heap.size := grow_size (wr).drew d1; dsimp only; omega); assumption) | (simp [go_sem, o0, o1, c0, c1]; done)))
        (first | (go_at_call 24; (with_reducible refine (gro (HA.out _)).mono ?_); rintro e w3 ⟨rfl, d1, rfl⟩))
      all_goals (
      have hb2 := hb.out
      have hr2 := hr.out
      have ho2 := ho.out
      have z1 := grow_size wr.drew d1
      have z2 : wr.heap.size ≤ (Grow wr.drew d1).heap.size := z1
      first
        | (refine abs_exit (fun X => Below w.heap.size w X ∧ Blk X w.heap.size 24 #[.int .u64 0, .int .u64 0] ∧ Blk X (w.heap.size + 1) 24 #[.int .u64 (tot h l k / 18446744073709551616), .int .u64 (tot h l k % 18446744073709551616)] ∧ Blk X (Grow wr.drew d1).heap.size 24 #[.int .u64 nh, .int .u64 nl]) ?_ ?_
           · refine ⟨?_, ?_, ?_, ?_⟩
             · ((repeat (first | exact Below.refl _ _ | assumption | refine below_drewN ?_ _ | refine bel_grow ?_ _ | refine Below.drew ?_ | refine bel_alloc ?_ _ | refine bel_set ?_ (by first | exact Nat.le_refl _ | (simp; done) | (simp; omega) | omega) _ | refine bel_trans ?_ (by assumption))); done)
             · ((repeat (first | with_reducible assumption | (with_reducible refine Blk.new' ?_; first | with_reducible rfl | (simp; done)) | with_reducible refine Blk.alloc ?_ _ | with_reducible refine Blk.grow ?_ _ | with_reducible refine Blk.drew ?_ | with_reducible refine Blk.drewN ?_ _ | (with_reducible refine Blk.far ?_ (by first | (dsimp only; omega) | (simp; omega)) _) | (with_reducible apply Blk.two) | (with_reducible refine Blk.set' ?_ _ _ ?_) | (with_reducible rfl) | rfl)); done)
             · ((repeat (first | with_reducible assumption | (with_reducible refine Blk.new' ?_; first | with_reducible rfl | (simp; done)) | with_reducible refine Blk.alloc ?_ _ | with_reducible refine Blk.grow ?_ _ | with_reducible refine Blk.drew ?_ | with_reducible refine Blk.drewN ?_ _ | (with_reducible refine Blk.far ?_ (by first | (dsimp only; omega) | (simp; omega)) _) | (with_reducible apply Blk.two) | (with_reducible refine Blk.set' ?_ _ _ ?_) | (with_reducible rfl) | rfl)); done)
             · ((repeat (first | with_reducible assumption | (with_reducible refine Blk.new' ?_; first | with_reducible rfl | (simp; done)) | with_reducible refine Blk.alloc ?_ _ | with_reducible refine Blk.grow ?_ _ | with_reducible refine Blk.drew ?_ | with_reducible refine Blk.drewN ?_ _ | (with_reducible refine Blk.far ?_ (by first | (dsimp only; omega) | (simp; omega)) _) | (with_reducible apply Blk.two) | (with_reducible refine Blk.set' ?_ _ _ ?_) | (with_reducible rfl) | rfl)); done)
           generalize (Grow wr.drew d1).heap.size = g at *)
        | (refine abs_exit (fun X => Below w.heap.size w X ∧ Blk X w.heap.size 24 #[.int .u64 0, .int .u64 0] ∧ Blk X (w.heap.size + 1) 24 #[.int .u64 (tot h l k / 18446744073709551616), .int .u64 (tot h l k % 18446744073709551616)] ∧ Blk X wr.heap.size 24 #[.int .u64 nh, .int .u64 nl]) ?_ ?_
           · refine ⟨?_, ?_, ?_, ?_⟩
             · ((repeat (first | exact Below.refl _ _ | assumption | refine below_drewN ?_ _ | refine bel_grow ?_ _ | refine Below.drew ?_ | refine bel_alloc ?_ _ | refine bel_set ?_ (by first | exact Nat.le_refl _ | (simp; done) | (simp; omega) | omega) _ | refine bel_trans ?_ (by assumption))); done)
             · ((repeat (first | with_reducible assumption | (with_reducible refine Blk.new' ?_; first | with_reducible rfl | (simp; done)) | with_reducible refine Blk.alloc ?_ _ | with_reducible refine Blk.grow ?_ _ | with_reducible refine Blk.drew ?_ | with_reducible refine Blk.drewN ?_ _ | (with_reducible refine Blk.far ?_ (by first | (dsimp only; omega) | (simp; omega)) _) | (with_reducible apply Blk.two) | (with_reducible refine Blk.set' ?_ _ _ ?_) | (with_reducible rfl) | rfl)); done)
             · ((repeat (first | with_reducible assumption | (with_reducible refine Blk.new' ?_; first | with_reducible rfl | (simp; done)) | with_reducible refine Blk.alloc ?_ _ | with_reducible refine Blk.grow ?_ _ | with_reducible refine Blk.drew ?_ | with_reducible refine Blk.drewN ?_ _ | (with_reducible refine Blk.far ?_ (by first | (dsimp only; omega) | (simp; omega)) _) | (with_reducible apply Blk.two) | (with_reducible refine Blk.set' ?_ _ _ ?_) | (with_reducible rfl) | rfl)); done)
             · ((repeat (first | with_reducible assumption | (with_reducible refine Blk.new' ?_; first | with_reducible rfl | (simp; done)) | with_reducible refine Blk.alloc ?_ _ | with_reducible refine Blk.grow ?_ _ | with_reducible refine Blk.drew ?_ | with_reducible refine Blk.drewN ?_ _ | (with_reducible refine Blk.far ?_ (by first | (dsimp only; omega) | (simp; omega)) _) | (with_reducible apply Blk.two) | (with_reducible refine Blk.set' ?_ _ _ ?_) | (with_reducible rfl) | rfl)); done)
           generalize wr.heap.size = g at *)
      rintro X ⟨xb, xr, xo, xg⟩
      clear r0 r1 rf0 rf1 rl o0 o1 of0 of1 ol c0 c1 bl hb hr ho hb2 hr2 ho2
      have r0 := (xr).cell 0
      have r1 := (xr).cell 1
      have rf0 := (xr).frozen 0
      have rf1 := (xr).frozen 1
      have rl := (xr).lt
      have o0 := (xo).cell 0
      have o1 := (xo).cell 1
      have of0 := (xo).frozen 0
      have of1 := (xo).frozen 1
      have ol := (xo).lt
      have g0 := (xg).cell 0
      have g1 := (xg).cell 1
      have gf0 := (xg).frozen 0
      have gf1 := (xg).frozen 1
      have gl := (xg).lt
      replace xb := Lib.hid xb
      replace xr := Lib.hid xr
      replace xo := Lib.hid xo
      replace xg := Lib.hid xg
      cases ok
      · have hov : ¬ tot h l (k + 1) < pw 16 := by simpa using B1.out.symm
        have f1 : sumB h l n = false := by unfold sumB; have := hmono.out; simp; omega
        have f2 : sumH h l n = 0 := by unfold sumH; rw [f1]; rfl
        have f3 : sumL h l n = 0 := by unfold sumL; rw [f1]; rfl
        replace hov := Lib.hid hov
        replace f1 := Lib.hid f1
        replace f2 := Lib.hid f2
        replace f3 := Lib.hid f3
        go_wp2
        refine bodyPost_ret (v := .tuple #[.agg #[.int .u64 0, .int .u64 0], .bool false]) (by simp [results, Try.results56, go_sem, r0, r1, rl]) rfl ⟨by rw [f1.out, f2.out, f3.out], ?_⟩
        have hb2 := xb.out
        (repeat (first | exact Below.refl _ _ | assumption | refine below_drewN ?_ _ | refine bel_grow ?_ _ | refine Below.drew ?_ | refine bel_alloc ?_ _ | refine bel_set ?_ (by first | exact Nat.le_refl _ | (simp; done) | (simp; omega) | omega) _ | refine bel_trans ?_ (by assumption)))
      · have hov : tot h l (k + 1) < pw 16 := by simpa using B1.out.symm
        have f2 := Lib.hid (B2.out hov)
        have f3 := Lib.hid (B3.out hov)
        replace hov := Lib.hid hov
        go_wp2
        go_roundw
        case rel =>
          have hb2 := xb.out
          have hr2 := xr.out
          have ho2 := xo.out
          refine ⟨k + 1, by omega, by go_num, hov.out, ?_, ?_, ?_⟩
          · show Below _ _ _
            (repeat (first | exact Below.refl _ _ | assumption | refine below_drewN ?_ _ | refine bel_grow ?_ _ | refine Below.drew ?_ | refine bel_alloc ?_ _ | refine bel_set ?_ (by first | exact Nat.le_refl _ | (simp; done) | (simp; omega) | omega) _ | refine bel_trans ?_ (by assumption)))
          · show Blk _ _ _ _
            (repeat (first | with_reducible assumption | (with_reducible refine Blk.new' ?_; first | with_reducible rfl | (simp; done)) | with_reducible refine Blk.alloc ?_ _ | with_reducible refine Blk.grow ?_ _ | with_reducible refine Blk.drew ?_ | with_reducible refine Blk.drewN ?_ _ | (with_reducible refine Blk.far ?_ (by first | (dsimp only; omega) | (simp; omega)) _) | (with_reducible apply Blk.two) | (with_reducible refine Blk.set' ?_ _ _ ?_) | (with_reducible rfl) | rfl))
          · rw [← f2.out, ← f3.out]
            show Blk _ _ _ _
            (repeat (first | with_reducible assumption | (with_reducible refine Blk.new' ?_; first | with_reducible rfl | (simp; done)) | with_reducible refine Blk.alloc ?_ _ | with_reducible refine Blk.grow ?_ _ | with_reducible refine Blk.drew ?_ | with_reducible refine Blk.drewN ?_ _ | (with_reducible refine Blk.far ?_ (by first | (dsimp only; omega) | (simp; omega)) _) | (with_reducible apply Blk.two) | (with_reducible refine Blk.set' ?_ _ _ ?_) | (with_reducible rfl) | rfl))
        case measure => simp [intOf]; omega)
    · obtain rfl : k = n := by omega
      have f1 : sumB h l k = true := by unfold sumB; simpa using ht.out
      have f2 : sumH h l k = tot h l k / 18446744073709551616 := by unfold sumH; rw [f1]; rfl
      have f3 : sumL h l k = tot h l k % 18446744073709551616 := by unfold sumL; rw [f1]; rfl
      replace f1 := Lib.hid f1
      replace f2 := Lib.hid f2
      replace f3 := Lib.hid f3
      go_wp2
      refine bodyPost_ret (v := .tuple #[.agg #[.int .u64 (tot h l k / 18446744073709551616), .int .u64 (tot h l k % 18446744073709551616)], .bool true]) (by simp [results, Try.results56, go_sem, r0, r1, rl]) rfl ⟨by rw [f1.out, f2.out, f3.out], ?_⟩
      have hb2 := hb.out
      (repeat (first | exact Below.refl _ _ | assumption | refine below_drewN ?_ _ | refine bel_grow ?_ _ | refine Below.drew ?_ | refine bel_alloc ?_ _ | refine bel_set ?_ (by first | exact Nat.le_refl _ | (simp; done) | (simp; omega) | omega) _ | refine bel_trans ?_ (by assumption)))
end Go.Proofs.Ytpbnakoimlmhnaa
-- XLst
namespace Go.Proofs.Ytpbnakoimlmhnaa
set_option linter.unusedVariables false
set_option linter.unusedSimpArgs false
open Go.RowKit

/-- the least of the first n numbers -/
def lst (h l : Nat → Int) : Nat → Int × Int
  | 0 => (18446744073709551615, 18446744073709551615)
  | n + 1 => if cmpV (h n) (l n) (lst h l n).1 (lst h l n).2 < 0 then (h n, l n) else lst h l n
theorem lst_u {h l : Nat → Int} : ∀ {n : Nat}, (∀ i, i < n → Wd (h i) ∧ Wd (l i)) → Wd (lst h l n).1 ∧ Wd (lst h l n).2
  | 0, _ => by unfold lst Wd; decide
  | n + 1, hd => by
    unfold lst
    split
    · exact hd n (by omega)
    · exact lst_u (fun i hi => hd i (by omega))
theorem lst_le {h l : Nat → Int} : ∀ {n : Nat}, (∀ i, i < n → Wd (h i) ∧ Wd (l i)) → ∀ i, i < n → V (lst h l n).1 (lst h l n).2 ≤ V (h i) (l i)
  | 0, _, i, hi => by omega
  | n + 1, hd, i, hi => by
    have hu := lst_u (h := h) (l := l) (n := n) (fun i hi => hd i (by omega))
    have ih := lst_le (h := h) (l := l) (n := n) (fun i hi => hd i (by omega)) i
    unfold lst
    split
    · rename_i hc
      rw [cmp_lt (hd n (by omega)).2 hu.2] at hc
      by_cases e : i = n
      · subst e; exact Int.le_refl _
      · have := ih (by omega); dsimp only; omega
    · rename_i hc
      rw [cmp_lt (hd n (by omega)).2 hu.2] at hc
      by_cases e : i = n
      · subst e; omega
      · exact ih (by omega)
theorem V_top {a b : Int} (ha : Wd a) (hb : Wd b) (h : V 18446744073709551615 18446744073709551615 ≤ V a b) : a = 18446744073709551615 ∧ b = 18446744073709551615 := by
  unfold V Wd at *; omega
theorem lst_in {h l : Nat → Int} : ∀ {n : Nat}, (∀ i, i < n → Wd (h i) ∧ Wd (l i)) → 0 < n → ∃ i, i < n ∧ h i = (lst h l n).1 ∧ l i = (lst h l n).2
  | 0, _, h0 => by omega
  | n + 1, hd, _ => by
    have hu := lst_u (h := h) (l := l) (n := n) (fun i hi => hd i (by omega))
    unfold lst
    split
    · exact ⟨n, by omega, rfl, rfl⟩
    · rename_i hc
      rw [cmp_lt (hd n (by omega)).2 hu.2] at hc
      by_cases e : n = 0
      · subst e
        have := V_top (hd 0 (by omega)).1 (hd 0 (by omega)).2 (by simpa [lst] using hc)
        exact ⟨0, by omega, by simpa [lst] using this.1, by simpa [lst] using this.2⟩
      · obtain ⟨i, hi, e1, e2⟩ := lst_in (h := h) (l := l) (n := n) (fun i hi => hd i (by omega)) (by omega)
        exact ⟨i, by omega, e1, e2⟩

set_option maxHeartbeats 2000000 in
theorem least_any (A : Option Addr) (n c : Nat) (h l : Nat → Int) (hn : n ≤ 1000000) (w : World) (hs : SlIs w A (n * 2) (pV h l)) :
    Calls Try.prog 48 #[.slice A n c] w fun r w' =>
      r = .returned (.agg #[.int .u64 (lst h l n).1, .int .u64 (lst h l n).2]) ∧ Below w.heap.size w w' := by
  replace hs := Lib.hid hs
  have hb0 := Below.refl w.heap.size w
  go_enter Try.func48, Try.ntmps48
  replace hb0 := Lib.hid hb0
  go_wp2_with fail
  refine (wtop_any _).mono ?_
  rintro e w_1 ⟨rfl, hb_1⟩
  have z_1 := hb_1.size
  try simp at z_1
  have t_ := hb0.out
  have hB_1 := bel_eld (w := w) (X := _) (by first | ((repeat (first | with_reducible exact Below.refl _ _ | with_reducible assumption | (with_reducible refine bel_set ?_ (by first | exact Nat.le_refl _ | (simp; done) | (simp; omega) | omega) _) | with_reducible refine bel_grow ?_ _ | with_reducible refine Below.drew ?_ | with_reducible refine below_drewN ?_ _ | with_reducible refine bel_alloc ?_ _ | with_reducible refine bel_trans ?_ (by assumption))); done) | (repeat (first | exact Below.refl _ _ | assumption | refine below_drewN ?_ _ | refine bel_grow ?_ _ | refine Below.drew ?_ | refine bel_alloc ?_ _ | refine bel_set ?_ (by first | exact Nat.le_refl _ | (simp; done) | (simp; omega) | omega) _ | refine bel_trans ?_ (by assumption)))) hb_1
  clear t_
  have g_r : Blk w_1 (w.heap.size) 24 #[.int .u64 0, .int .u64 0] := by
    refine Blk.kept ?_ hb_1
    (repeat (first | with_reducible assumption | (with_reducible refine Blk.new' ?_; first | with_reducible rfl | (simp; done)) | with_reducible refine Blk.alloc ?_ _ | with_reducible refine Blk.grow ?_ _ | with_reducible refine Blk.drew ?_ | with_reducible refine Blk.drewN ?_ _ | (with_reducible refine Blk.far ?_ (by first | (dsimp only; omega) | (simp; omega)) _) | (with_reducible apply Blk.two) | (with_reducible refine Blk.set' ?_ _ _ ?_) | (with_reducible rfl) | rfl))
  clear hb0 hb_1
  have f_r := g_r
  clear g_r
  have r_0 : w_1.cell? ⟨w.heap.size, 0, none⟩ = some (.int .u64 0) := (f_r).cell 0
  have r_1 : w_1.cell? ⟨w.heap.size, 1, none⟩ = some (.int .u64 0) := (f_r).cell 1
  have r_f0 := (f_r).frozen 0
  have r_f1 := (f_r).frozen 1
  have r_l := (f_r).lt
  replace f_r := Lib.hid f_r
  replace hB_1 := Lib.hid hB_1
  go_wp2_with fail
  go_loopw [9] (fun i wr => ∃ (k : Nat), k ≤ n ∧ i = .int .i64 k ∧ Hid (Below w.heap.size w wr) ∧ Hid (Blk wr w.heap.size 24 #[.int .u64 0, .int .u64 0]) ∧
    Hid (Blk wr w_1.heap.size 24 #[.int .u64 (lst h l k).1, .int .u64 (lst h l k).2])) (fun i _ => n - (intOf i).toNat)
  case atStart =>
    have t1 := hB_1.out
    have t2 := f_r.out
    refine ⟨0, by omega, rfl, ?_, ?_, ?_⟩
    · show Below _ _ _
      (repeat (first | exact Below.refl _ _ | assumption | refine below_drewN ?_ _ | refine bel_grow ?_ _ | refine Below.drew ?_ | refine bel_alloc ?_ _ | refine bel_set ?_ (by first | exact Nat.le_refl _ | (simp; done) | (simp; omega) | omega) _ | refine bel_trans ?_ (by assumption)))
    · show Blk _ _ _ _
      (repeat (first | with_reducible assumption | (with_reducible refine Blk.new' ?_; first | with_reducible rfl | (simp; done)) | with_reducible refine Blk.alloc ?_ _ | with_reducible refine Blk.grow ?_ _ | with_reducible refine Blk.drew ?_ | with_reducible refine Blk.drewN ?_ _ | (with_reducible refine Blk.far ?_ (by first | (dsimp only; omega) | (simp; omega)) _) | (with_reducible apply Blk.two) | (with_reducible refine Blk.set' ?_ _ _ ?_) | (with_reducible rfl) | rfl))
    · show Blk _ _ _ #[.int .u64 18446744073709551615, .int .u64 18446744073709551615]
      (repeat (first | with_reducible assumption | (with_reducible refine Blk.new' ?_; first | with_reducible rfl | (simp; done)) | with_reducible refine Blk.alloc ?_ _ | with_reducible refine Blk.grow ?_ _ | with_reducible refine Blk.drew ?_ | with_reducible refine Blk.drewN ?_ _ | (with_reducible refine Blk.far ?_ (by first | (dsimp only; omega) | (simp; omega)) _) | (with_reducible apply Blk.two) | (with_reducible refine Blk.set' ?_ _ _ ?_) | (with_reducible rfl) | rfl))
  case round =>
    clear r_0 r_1 r_f0 r_f1 f_r hB_1
    obtain ⟨k, hk, rfl, hb, hr, ho⟩ := hrel
    have r0 := (hr.out).cell 0
    have r1 := (hr.out).cell 1
    have rf0 := (hr.out).frozen 0
    have rf1 := (hr.out).frozen 1
    have rl := (hr.out).lt
    have o0 := (ho.out).cell 0
    have o1 := (ho.out).cell 1
    have of0 := (ho.out).frozen 0
    have of1 := (ho.out).frozen 1
    have ol := (ho.out).lt
    by_cases hlt : k < n
    · obtain ⟨b, o, rfl, hbl, hc⟩ := hs.out (by omega)
      have c0 := keepc hb.out (hc (k * 2) (by omega))
      have c1 := keepc hb.out (hc (k * 2 + 1) (by omega))
      rw [pV_0] at c0
      rw [pV_1, ← Nat.add_assoc] at c1
      have bl : b < wr.heap.size := Nat.lt_of_lt_of_le hbl hb.out.size
      clear hc
      have HC := Lib.hid (fun w => cmp_any (h k) (l k) (lst h l k).1 (lst h l k).2 w)
      have e1 : cmpV (h k) (l k) (lst h l k).1 (lst h l k).2 < 0 → lst h l (k + 1) = (h k, l k) := fun e => by rw [lst, if_pos e]
      have e2 : ¬ cmpV (h k) (l k) (lst h l k).1 (lst h l k).2 < 0 → lst h l (k + 1) = lst h l k := fun e => by rw [lst, if_neg e]
      replace e1 := Lib.hid e1
      replace e2 := Lib.hid e2
      generalize cmpV (h k) (l k) (lst h l k).1 (lst h l k).2 = cc at *
      have f_o := ho.out
      have f_r := hr.out
      have hB := hb.out
      by_cases hcc : cc < 0
      · have hcc' : decide (cc < 0) = true := by simpa using hcc
        replace e1 := Lib.hid (e1.out hcc)
        clear e2 o0 o1 of0 of1 r0 r1 rf0 rf1 ol rl
        have r_0 : wr.cell? ⟨w.heap.size, 0, none⟩ = some (.int .u64 0) := (f_r).cell 0
        have r_1 : wr.cell? ⟨w.heap.size, 1, none⟩ = some (.int .u64 0) := (f_r).cell 1
        have r_f0 := (f_r).frozen 0
        have r_f1 := (f_r).frozen 1
        have r_l := (f_r).lt
        replace f_r := Lib.hid f_r
        have o_0 : wr.cell? ⟨w_1.heap.size, 0, none⟩ = some (.int .u64 (lst h l k).1) := (f_o).cell 0
        have o_1 : wr.cell? ⟨w_1.heap.size, 1, none⟩ = some (.int .u64 (lst h l k).2) := (f_o).cell 1
        have o_f0 := (f_o).frozen 0
        have o_f1 := (f_o).frozen 1
        have o_l := (f_o).lt
        replace f_o := Lib.hid f_o
        replace hB := Lib.hid hB
        go_wp2_with fail
        refine (HC.out _).mono ?_
        rintro e w_6 ⟨rfl, hb_6⟩
        have z_6 := hb_6.size
        try simp at z_6
        have t_ := hB.out
        have hB_6 := bel_eld (w := w) (X := _) (by first | ((repeat (first | with_reducible exact Below.refl _ _ | with_reducible assumption | (with_reducible refine bel_set ?_ (by first | exact Nat.le_refl _ | (simp; done) | (simp; omega) | omega) _) | with_reducible refine bel_grow ?_ _ | with_reducible refine Below.drew ?_ | with_reducible refine below_drewN ?_ _ | with_reducible refine bel_alloc ?_ _ | with_reducible refine bel_trans ?_ (by assumption))); done) | (repeat (first | exact Below.refl _ _ | assumption | refine below_drewN ?_ _ | refine bel_grow ?_ _ | refine Below.drew ?_ | refine bel_alloc ?_ _ | refine bel_set ?_ (by first | exact Nat.le_refl _ | (simp; done) | (simp; omega) | omega) _ | refine bel_trans ?_ (by assumption)))) hb_6
        clear t_
        have t_r := f_r.out
        have t_o := f_o.out
        have g_r : Blk w_6 (w.heap.size) 24 #[.int .u64 0, .int .u64 0] := by
          refine Blk.kept ?_ hb_6
          (repeat (first | with_reducible assumption | (with_reducible refine Blk.new' ?_; first | with_reducible rfl | (simp; done)) | with_reducible refine Blk.alloc ?_ _ | with_reducible refine Blk.grow ?_ _ | with_reducible refine Blk.drew ?_ | with_reducible refine Blk.drewN ?_ _ | (with_reducible refine Blk.far ?_ (by first | (dsimp only; omega) | (simp; omega)) _) | (with_reducible apply Blk.two) | (with_reducible refine Blk.set' ?_ _ _ ?_) | (with_reducible rfl) | rfl))
        have g_o : Blk w_6 (w_1.heap.size) 24 #[.int .u64 (lst h l k).1, .int .u64 (lst h l k).2] := by
          refine Blk.kept ?_ hb_6
          (repeat (first | with_reducible assumption | (with_reducible refine Blk.new' ?_; first | with_reducible rfl | (simp; done)) | with_reducible refine Blk.alloc ?_ _ | with_reducible refine Blk.grow ?_ _ | with_reducible refine Blk.drew ?_ | with_reducible refine Blk.drewN ?_ _ | (with_reducible refine Blk.far ?_ (by first | (dsimp only; omega) | (simp; omega)) _) | (with_reducible apply Blk.two) | (with_reducible refine Blk.set' ?_ _ _ ?_) | (with_reducible rfl) | rfl))
        have g_x : Blk w_6 (wr.heap.size) 24 #[.int .u64 (h k), .int .u64 (l k)] := by
          refine Blk.kept ?_ hb_6
          (repeat (first | with_reducible assumption | (with_reducible refine Blk.new' ?_; first | with_reducible rfl | (simp; done)) | with_reducible refine Blk.alloc ?_ _ | with_reducible refine Blk.grow ?_ _ | with_reducible refine Blk.drew ?_ | with_reducible refine Blk.drewN ?_ _ | (with_reducible refine Blk.far ?_ (by first | (dsimp only; omega) | (simp; omega)) _) | (with_reducible apply Blk.two) | (with_reducible refine Blk.set' ?_ _ _ ?_) | (with_reducible rfl) | rfl))
        clear f_r r_l r_0 r_1 r_f0 r_f1 f_o o_l o_0 o_1 o_f0 o_f1 t_r t_o hB hb_6
        have f_r := g_r
        clear g_r
        have f_o := g_o
        clear g_o
        have f_x := g_x
        clear g_x
        have r_0 : w_6.cell? ⟨w.heap.size, 0, none⟩ = some (.int .u64 0) := (f_r).cell 0
        have r_1 : w_6.cell? ⟨w.heap.size, 1, none⟩ = some (.int .u64 0) := (f_r).cell 1
        have r_f0 := (f_r).frozen 0
        have r_f1 := (f_r).frozen 1
        have r_l := (f_r).lt
        replace f_r := Lib.hid f_r
        have o_0 : w_6.cell? ⟨w_1.heap.size, 0, none⟩ = some (.int .u64 (lst h l k).1) := (f_o).cell 0
        have o_1 : w_6.cell? ⟨w_1.heap.size, 1, none⟩ = some (.int .u64 (lst h l k).2) := (f_o).cell 1
        have o_f0 := (f_o).frozen 0
        have o_f1 := (f_o).frozen 1
        have o_l := (f_o).lt
        replace f_o := Lib.hid f_o
        have x_0 : w_6.cell? ⟨wr.heap.size, 0, none⟩ = some (.int .u64 (h k)) := (f_x).cell 0
        have x_1 : w_6.cell? ⟨wr.heap.size, 1, none⟩ = some (.int .u64 (l k)) := (f_x).cell 1
        have x_f0 := (f_x).frozen 0
        have x_f1 := (f_x).frozen 1
        have x_l := (f_x).lt
        replace f_x := Lib.hid f_x
        replace hB_6 := Lib.hid hB_6
        go_wp2_with fail
        go_roundw
        case rel =>
          have t1 := hB_6.out
          have t2 := f_r.out
          have t3 := f_o.out
          refine ⟨k + 1, by omega, by go_num, ?_, ?_, ?_⟩
          · show Below _ _ _
            (repeat (first | exact Below.refl _ _ | assumption | refine below_drewN ?_ _ | refine bel_grow ?_ _ | refine Below.drew ?_ | refine bel_alloc ?_ _ | refine bel_set ?_ (by first | exact Nat.le_refl _ | (simp; done) | (simp; omega) | omega) _ | refine bel_trans ?_ (by assumption)))
          · show Blk _ _ _ _
            (repeat (first | with_reducible assumption | (with_reducible refine Blk.new' ?_; first | with_reducible rfl | (simp; done)) | with_reducible refine Blk.alloc ?_ _ | with_reducible refine Blk.grow ?_ _ | with_reducible refine Blk.drew ?_ | with_reducible refine Blk.drewN ?_ _ | (with_reducible refine Blk.far ?_ (by first | (dsimp only; omega) | (simp; omega)) _) | (with_reducible apply Blk.two) | (with_reducible refine Blk.set' ?_ _ _ ?_) | (with_reducible rfl) | rfl))
          · rw [e1.out]
            show Blk _ _ _ _
            (repeat (first | with_reducible assumption | (with_reducible refine Blk.new' ?_; first | with_reducible rfl | (simp; done)) | with_reducible refine Blk.alloc ?_ _ | with_reducible refine Blk.grow ?_ _ | with_reducible refine Blk.drew ?_ | with_reducible refine Blk.drewN ?_ _ | (with_reducible refine Blk.far ?_ (by first | (dsimp only; omega) | (simp; omega)) _) | (with_reducible apply Blk.two) | (with_reducible refine Blk.set' ?_ _ _ ?_) | (with_reducible rfl) | rfl))
        case measure => simp [intOf]; omega
      · have hcc' : decide (cc < 0) = false := by simpa using hcc
        replace e2 := Lib.hid (e2.out hcc)
        clear e1 o0 o1 of0 of1 r0 r1 rf0 rf1 ol rl
        have r_0 : wr.cell? ⟨w.heap.size, 0, none⟩ = some (.int .u64 0) := (f_r).cell 0
        have r_1 : wr.cell? ⟨w.heap.size, 1, none⟩ = some (.int .u64 0) := (f_r).cell 1
        have r_f0 := (f_r).frozen 0
        have r_f1 := (f_r).frozen 1
        have r_l := (f_r).lt
        replace f_r := Lib.hid f_r
        have o_0 : wr.cell? ⟨w_1.heap.size, 0, none⟩ = some (.int .u64 (lst h l k).1) := (f_o).cell 0
        have o_1 : wr.cell? ⟨w_1.heap.size, 1, none⟩ = some (.int .u64 (lst h l k).2) := (f_o).cell 1
        have o_f0 := (f_o).frozen 0
        have o_f1 := (f_o).frozen 1
        have o_l := (f_o).lt
        replace f_o := Lib.hid f_o
        replace hB := Lib.hid hB
        go_wp2_with fail
        refine (HC.out _).mono ?_
        rintro e w_6 ⟨rfl, hb_6⟩
        have z_6 := hb_6.size
        try simp at z_6
        have t_ := hB.out
        have hB_6 := bel_eld (w := w) (X := _) (by first | ((repeat (first | with_reducible exact Below.refl _ _ | with_reducible assumption | (with_reducible refine bel_set ?_ (by first | exact Nat.le_refl _ | (simp; done) | (simp; omega) | omega) _) | with_reducible refine bel_grow ?_ _ | with_reducible refine Below.drew ?_ | with_reducible refine below_drewN ?_ _ | with_reducible refine bel_alloc ?_ _ | with_reducible refine bel_trans ?_ (by assumption))); done) | (repeat (first | exact Below.refl _ _ | assumption | refine below_drewN ?_ _ | refine bel_grow ?_ _ | refine Below.drew ?_ | refine bel_alloc ?_ _ | refine bel_set ?_ (by first | exact Nat.le_refl _ | (simp; done) | (simp; omega) | omega) _ | refine bel_trans ?_ (by assumption)))) hb_6
        clear t_
        have t_r := f_r.out
        have t_o := f_o.out
        have g_r : Blk w_6 (w.heap.size) 24 #[.int .u64 0, .int .u64 0] := by
          refine Blk.kept ?_ hb_6
          (repeat (first | with_reducible assumption | (with_reducible refine Blk.new' ?_; first | with_reducible rfl | (simp; done)) | with_reducible refine Blk.alloc ?_ _ | with_reducible refine Blk.grow ?_ _ | with_reducible refine Blk.drew ?_ | with_reducible refine Blk.drewN ?_ _ | (with_reducible refine Blk.far ?_ (by first | (dsimp only; omega) | (simp; omega)) _) | (with_reducible apply Blk.two) | (with_reducible refine Blk.set' ?_ _ _ ?_) | (with_reducible rfl) | rfl))
        have g_o : Blk w_6 (w_1.heap.size) 24 #[.int .u64 (lst h l k).1, .int .u64 (lst h l k).2] := by
          refine Blk.kept ?_ hb_6
          (repeat (first | with_reducible assumption | (with_reducible refine Blk.new' ?_; first | with_reducible rfl | (simp; done)) | with_reducible refine Blk.alloc ?_ _ | with_reducible refine Blk.grow ?_ _ | with_reducible refine Blk.drew ?_ | with_reducible refine Blk.drewN ?_ _ | (with_reducible refine Blk.far ?_ (by first | (dsimp only; omega) | (simp; omega)) _) | (with_reducible apply Blk.two) | (with_reducible refine Blk.set' ?_ _ _ ?_) | (with_reducible rfl) | rfl))
        have g_x : Blk w_6 (wr.heap.size) 24 #[.int .u64 (h k), .int .u64 (l k)] := by
          refine Blk.kept ?_ hb_6
          (repeat (first | with_reducible assumption | (with_reducible refine Blk.new' ?_; first | with_reducible rfl | (simp; done)) | with_reducible refine Blk.alloc ?_ _ | with_reducible refine Blk.grow ?_ _ | with_reducible refine Blk.drew ?_ | with_reducible refine Blk.drewN ?_ _ | (with_reducible refine Blk.far ?_ (by first | (dsimp only; omega) | (simp; omega)) _) | (with_reducible apply Blk.two) | (with_reducible refine Blk.set' ?_ _ _ ?_) | (with_reducible rfl) | rfl))
        clear f_r r_l r_0 r_1 r_f0 r_f1 f_o o_l o_0 o_1 o_f0 o_f1 t_r t_o hB hb_6
        have f_r := g_r
        clear g_r
        have f_o := g_o
        clear g_o
        have f_x := g_x
        clear g_x
        have r_0 : w_6.cell? ⟨w.heap.size, 0, none⟩ = some (.int .u64 0) := (f_r).cell 0
        have r_1 : w_6.cell? ⟨w.heap.size, 1, none⟩ = some (.int .u64 0) := (f_r).cell 1
        have r_f0 := (f_r).frozen 0
        have r_f1 := (f_r).frozen 1
        have r_l := (f_r).lt
        replace f_r := Lib.hid f_r
        have o_0 : w_6.cell? ⟨w_1.heap.size, 0, none⟩ = some (.int .u64 (lst h l k).1) := (f_o).cell 0
        have o_1 : w_6.cell? ⟨w_1.heap.size, 1, none⟩ = some (.int .u64 (lst h l k).2) := (f_o).cell 1
        have o_f0 := (f_o).frozen 0
        have o_f1 := (f_o).frozen 1
        have o_l := (f_o).lt
        replace f_o := Lib.hid f_o
        have x_0 : w_6.cell? ⟨wr.heap.size, 0, none⟩ = some (.int .u64 (h k)) := (f_x).cell 0
        have x_1 : w_6.cell? ⟨wr.heap.size, 1, none⟩ = some (.int .u64 (l k)) := (f_x).cell 1
        have x_f0 := (f_x).frozen 0
        have x_f1 := (f_x).frozen 1
        have x_l := (f_x).lt
        replace f_x := Lib.hid f_x
        replace hB_6 := Lib.hid hB_6
        go_wp2_with fail
        go_roundw
        case rel =>
          have t1 := hB_6.out
          have t2 := f_r.out
          have t3 := f_o.out
          refine ⟨k + 1, by omega, by go_num, ?_, ?_, ?_⟩
          · show Below _ _ _
            (repeat (first | exact Below.refl _ _ | assumption | refine below_drewN ?_ _ | refine bel_grow ?_ _ | refine Below.drew ?_ | refine bel_alloc ?_ _ | refine bel_set ?_ (by first | exact Nat.le_refl _ | (simp; done) | (simp; omega) | omega) _ | refine bel_trans ?_ (by assumption)))
          · show Blk _ _ _ _
            (repeat (first | with_reducible assumption | (with_reducible refine Blk.new' ?_; first | with_reducible rfl | (simp; done)) | with_reducible refine Blk.alloc ?_ _ | with_reducible refine Blk.grow ?_ _ | with_reducible refine Blk.drew ?_ | with_reducible refine Blk.drewN ?_ _ | (with_reducible refine Blk.far ?_ (by first | (dsimp only; omega) | (simp; omega)) _) | (with_reducible apply Blk.two) | (with_reducible refine Blk.set' ?_ _ _ ?_) | (with_reducible rfl) | rfl))
          · rw [e2.out]
            show Blk _ _ _ _
            (repeat (first | with_reducible assumption | (with_reducible refine Blk.new' ?_; first | with_reducible rfl | (simp; done)) | with_reducible refine Blk.alloc ?_ _ | with_reducible refine Blk.grow ?_ _ | with_reducible refine Blk.drew ?_ | with_reducible refine Blk.drewN ?_ _ | (with_reducible refine Blk.far ?_ (by first | (dsimp only; omega) | (simp; omega)) _) | (with_reducible apply Blk.two) | (with_reducible refine Blk.set' ?_ _ _ ?_) | (with_reducible rfl) | rfl))
        case measure => simp [intOf]; omega
    · obtain rfl : k = n := by omega
      go_wp2
      refine bodyPost_ret (v := .agg #[.int .u64 (lst h l k).1, .int .u64 (lst h l k).2]) (by simp [results, Try.results48, go_sem, r0, r1, rl]) rfl ⟨rfl, ?_⟩
      have hb2 := hb.out
      (repeat (first | exact Below.refl _ _ | assumption | refine below_drewN ?_ _ | refine bel_grow ?_ _ | refine Below.drew ?_ | refine bel_alloc ?_ _ | refine bel_set ?_ (by first | exact Nat.le_refl _ | (simp; done) | (simp; omega) | omega) _ | refine bel_trans ?_ (by assumption)))
end Go.Proofs.Ytpbnakoimlmhnaa
