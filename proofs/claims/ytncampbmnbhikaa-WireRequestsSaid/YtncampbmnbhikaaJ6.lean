/-
  Joined: Num WideV RecB.
-/
import Derived.Test.YtncampbmnbhikaaJ1
import Derived.Test.YtncampbmnbhikaaJ5
import Derived.Test.YtncampbmnbhikaaJ4
-- Num
namespace Go.Proofs.Ytncampbmnbhikaa
set_option linter.unusedVariables false
set_option linter.unusedSimpArgs false

/-- place e: 256 to the power of e -/
def pw (e : Nat) : Int := 256 ^ e
theorem pw_pos (e : Nat) : 0 < pw e := Int.pow_pos (by omega)
theorem pw_succ (e : Nat) : pw (e + 1) = pw e * 256 := Int.pow_succ _ _
theorem pw_16 : pw 16 = 340282366920938463463374607431768211456 := by decide
theorem pw_8 : pw 8 = 18446744073709551616 := by decide
theorem pw_0 : pw 0 = 1 := by decide

theorem part (A P : Int) (hP : 0 < P) : A = A / P * P + A % P ∧ 0 ≤ A % P ∧ A % P < P :=
  ⟨by have := Int.mul_ediv_add_emod A P; rw [Int.mul_comm] at this; exact this.symm, Int.emod_nonneg _ (by omega), Int.emod_lt_of_pos _ hP⟩
theorem part_eq {A P q r : Int} (hP : 0 < P) (h : A = q * P + r) (h0 : 0 ≤ r) (h1 : r < P) : A / P = q ∧ A % P = r := by
  subst h
  rw [Int.add_comm]
  refine ⟨?_, ?_⟩
  · rw [Int.add_mul_ediv_right _ _ (by omega), Int.ediv_eq_zero_of_lt h0 h1]; omega
  · rw [Int.add_mul_emod_self_right, Int.emod_eq_of_lt h0 h1]
theorem div_place (A P : Int) (hP : 0 < P) : A / P / 256 = A / (P * 256) := by
  rw [Int.ediv_ediv_of_nonneg (by omega)]
theorem mod_place (A P : Int) (hP : 0 < P) : A % (P * 256) = A / P % 256 * P + A % P := by
  obtain ⟨h, h0, h1⟩ := part A P hP
  obtain ⟨g, g0, g1⟩ := part (A / P) 256 (by omega)
  have hb : A / P % 256 * P ≤ 255 * P := Int.mul_le_mul_of_nonneg_right (by omega) (by omega)
  have hc : 0 ≤ A / P % 256 * P := Int.mul_nonneg g0 (by omega)
  refine (part_eq (P := P * 256) (q := A / P / 256) (by omega) ?_ (by omega) (by omega)).2
  have e : A / P * P = A / P / 256 * (P * 256) + A / P % 256 * P := by
    have e1 : A / P * P = (A / P / 256 * 256 + A / P % 256) * P := by rw [← g]
    rw [e1, Int.add_mul, Int.mul_assoc, Int.mul_comm 256 P]
  omega
theorem div_sum (A B P : Int) (hP : 0 < P) : (A + B) / P = A / P + B / P + (A % P + B % P) / P := by
  obtain ⟨h, h0, h1⟩ := part A P hP
  obtain ⟨g, g0, g1⟩ := part B P hP
  have e : A + B = (A % P + B % P) + (A / P + B / P) * P := by rw [Int.add_mul]; omega
  rw [e, Int.add_mul_ediv_right _ _ (by omega)]
  generalize (A % P + B % P) / P = z
  omega
theorem div_diff (A B P : Int) (hP : 0 < P) : (A - B) / P = A / P - B / P - (if A % P < B % P then 1 else 0) := by
  obtain ⟨h, h0, h1⟩ := part A P hP
  obtain ⟨g, g0, g1⟩ := part B P hP
  have e : A - B = (A / P - B / P) * P + (A % P - B % P) := by rw [Int.sub_mul]; omega
  split
  · refine (part_eq (P := P) (r := A % P - B % P + P) hP ?_ (by omega) (by omega)).1
    rw [Int.sub_mul _ 1, Int.one_mul]; omega
  · refine (part_eq (P := P) (r := A % P - B % P) hP ?_ (by omega) (by omega)).1
    rw [Int.sub_mul _ 0, Int.zero_mul]; omega

/-- digit j of the number A -/
def dg (A : Int) (j : Nat) : Int := A / pw (15 - j) % 256
theorem dg_lo (A : Int) (j : Nat) : 0 ≤ dg A j ∧ dg A j < 256 := by unfold dg; omega

/-- the carry behind the places below e -/
def carry (A B : Int) (e : Nat) : Int := (A % pw e + B % pw e) / pw e
theorem carry_0 (A B : Int) : carry A B 0 = 0 := by unfold carry; rw [pw_0]; omega
theorem carry_lo (A B : Int) (e : Nat) : 0 ≤ carry A B e ∧ carry A B e ≤ 1 := by
  unfold carry
  have hP := pw_pos e
  obtain ⟨_, h0, h1⟩ := part A _ hP
  obtain ⟨_, g0, g1⟩ := part B _ hP
  have e1 : 0 ≤ (A % pw e + B % pw e) / pw e := Int.ediv_nonneg (by omega) (by omega)
  have e2 : (A % pw e + B % pw e) / pw e < 2 := Int.ediv_lt_of_lt_mul hP (by omega)
  omega
theorem carry_dg (A B : Int) (e : Nat) (he : e ≤ 15) : (dg A (15 - e) + dg B (15 - e) + carry A B e) % 256 = dg (A + B) (15 - e) := by
  unfold dg carry
  rw [show 15 - (15 - e) = e from by omega, div_sum A B _ (pw_pos e)]
  omega
theorem carry_succ (A B : Int) (e : Nat) (he : e ≤ 15) : (dg A (15 - e) + dg B (15 - e) + carry A B e) / 256 = carry A B (e + 1) := by
  unfold dg carry
  have hP := pw_pos e
  rw [show 15 - (15 - e) = e from by omega, pw_succ, mod_place A _ hP, mod_place B _ hP, ← div_place _ _ hP]
  have h1 : A / pw e % 256 * pw e + A % pw e + (B / pw e % 256 * pw e + B % pw e) = (A % pw e + B % pw e) + (A / pw e % 256 + B / pw e % 256) * pw e := by rw [Int.add_mul]; omega
  rw [h1, Int.add_mul_ediv_right _ _ (by omega)]
  generalize (A % pw e + B % pw e) / pw e = z
  rw [Int.add_comm]
theorem carry_16 (A B : Int) (hA : 0 ≤ A ∧ A < pw 16) (hB : 0 ≤ B ∧ B < pw 16) : carry A B 16 = (A + B) / pw 16 := by
  unfold carry
  rw [Int.emod_eq_of_lt hA.1 hA.2, Int.emod_eq_of_lt hB.1 hB.2]

/-- the loan behind the places below e -/
def loan (A B : Int) (e : Nat) : Int := if A % pw e < B % pw e then 1 else 0
theorem loan_0 (A B : Int) : loan A B 0 = 0 := by unfold loan; rw [pw_0]; simp [Int.emod_one]
theorem loan_lo (A B : Int) (e : Nat) : 0 ≤ loan A B e ∧ loan A B e ≤ 1 := by unfold loan; split <;> omega
theorem loan_dg (A B : Int) (e : Nat) (he : e ≤ 15) : (dg A (15 - e) - dg B (15 - e) - loan A B e) % 256 = dg (A - B) (15 - e) := by
  unfold dg loan
  rw [show 15 - (15 - e) = e from by omega, div_diff A B _ (pw_pos e)]
  omega
theorem loan_succ (A B : Int) (e : Nat) (he : e ≤ 15) : loan A B (e + 1) = if dg A (15 - e) - dg B (15 - e) - loan A B e < 0 then 1 else 0 := by
  unfold dg loan
  have hP := pw_pos e
  rw [show 15 - (15 - e) = e from by omega, pw_succ, mod_place A _ hP, mod_place B _ hP]
  obtain ⟨_, h0, h1⟩ := part A _ hP
  obtain ⟨_, g0, g1⟩ := part B _ hP
  generalize A / pw e % 256 = x
  generalize B / pw e % 256 = y
  generalize A % pw e = a at *
  generalize B % pw e = b at *
  generalize pw e = P at *
  have h2 : (x - y) * P = x * P - y * P := Int.sub_mul _ _ _
  by_cases hab : a < b
  · rw [if_pos hab]
    by_cases hxy : x - y ≤ 0
    · have : (x - y) * P ≤ 0 * P := Int.mul_le_mul_of_nonneg_right hxy (by omega)
      rw [Int.zero_mul] at this
      rw [if_pos (by omega), if_pos (by omega)]
    · have : 1 * P ≤ (x - y) * P := Int.mul_le_mul_of_nonneg_right (by omega) (by omega)
      rw [if_neg (by omega), if_neg (by omega)]
  · rw [if_neg hab]
    by_cases hxy : x - y < 0
    · have : (x - y) * P ≤ (-1) * P := Int.mul_le_mul_of_nonneg_right (by omega) (by omega)
      rw [if_pos (by omega), if_pos (by omega)]
    · have : 0 * P ≤ (x - y) * P := Int.mul_le_mul_of_nonneg_right (by omega) (by omega)
      rw [Int.zero_mul] at this
      rw [if_neg (by omega), if_neg (by omega)]
theorem loan_16 (A B : Int) (hA : 0 ≤ A ∧ A < pw 16) (hB : 0 ≤ B ∧ B < pw 16) : loan A B 16 = if A < B then 1 else 0 := by
  unfold loan
  rw [Int.emod_eq_of_lt hA.1 hA.2, Int.emod_eq_of_lt hB.1 hB.2]

/-- the digits' number -/
theorem num_top (A : Int) (hA : 0 ≤ A ∧ A < pw 16) : ∀ k, k ≤ 16 → num (dg A) 0 k = A / pw (16 - k)
  | 0, _ => by simp only [num]; rw [Int.ediv_eq_zero_of_lt hA.1 hA.2]
  | k + 1, hk => by
    simp only [num]
    rw [num_top A hA k (by omega), Nat.zero_add]
    unfold dg
    rw [show 16 - k = (15 - k) + 1 from by omega, pw_succ, ← div_place _ _ (pw_pos _), show 16 - (k + 1) = 15 - k from by omega]
    generalize A / pw (15 - k) = z
    omega
theorem num_low (A : Int) : ∀ k, k ≤ 8 → num (dg A) 8 k = A / pw (8 - k) % pw k
  | 0, _ => by simp only [num]; rw [pw_0]; omega
  | k + 1, hk => by
    simp only [num]
    rw [num_low A k (by omega)]
    unfold dg
    rw [show 8 - k = (15 - (8 + k)) + 1 from by omega, pw_succ, ← div_place _ _ (pw_pos _), show 8 - (k + 1) = 15 - (8 + k) from by omega, pw_succ]
    generalize A / pw (15 - (8 + k)) = z
    rw [Int.mul_comm (pw k) 256]
    have hP := pw_pos k
    obtain ⟨h, h0, h1⟩ := part (z / 256) (pw k) hP
    refine ((part_eq (P := 256 * pw k) (q := z / 256 / pw k) (by omega) ?_ (by omega) (by omega)).2).symm
    have h3 : z / 256 / pw k * (256 * pw k) = 256 * (z / 256 / pw k * pw k) := by rw [← Int.mul_assoc, Int.mul_comm _ 256, Int.mul_assoc]
    rw [h3]
    generalize z / 256 / pw k * pw k = y at *
    omega
theorem num_eq (A : Int) (hA : 0 ≤ A ∧ A < pw 16) : num (dg A) 0 8 = A / 18446744073709551616 ∧ num (dg A) 8 8 = A % 18446744073709551616 := by
  refine ⟨by rw [num_top A hA 8 (by omega), ← pw_8], ?_⟩
  rw [num_low A 8 (by omega), ← pw_8, show 8 - 8 = 0 from rfl, pw_0, Int.ediv_one]
theorem num_congr {d e : Nat → Int} {s : Nat} : ∀ {k : Nat}, (∀ j, j < k → d (s + j) = e (s + j)) → num d s k = num e s k
  | 0, _ => rfl
  | k + 1, h => by simp only [num]; rw [num_congr (k := k) (fun j hj => h j (by omega)), h k (by omega)]

/-- order, by digits -/
theorem dg_step (A : Int) (k : Nat) (hk : k < 16) : A / pw (15 - k) = A / pw (16 - k) * 256 + dg A k := by
  unfold dg
  rw [show 16 - k = (15 - k) + 1 from by omega, pw_succ, ← div_place _ _ (pw_pos _)]
  omega
theorem dg_same {A B : Int} (hA : 0 ≤ A ∧ A < pw 16) (hB : 0 ≤ B ∧ B < pw 16) : ∀ {k : Nat}, k ≤ 16 → (∀ j, j < k → dg A j = dg B j) → A / pw (16 - k) = B / pw (16 - k)
  | 0, _, _ => by rw [Int.ediv_eq_zero_of_lt hA.1 hA.2, Int.ediv_eq_zero_of_lt hB.1 hB.2]
  | k + 1, hk, h => by
    rw [show 16 - (k + 1) = 15 - k from by omega, dg_step A k (by omega), dg_step B k (by omega), dg_same hA hB (k := k) (by omega) (fun j hj => h j (by omega)), h k (by omega)]
theorem dg_less {A B : Int} (hA : 0 ≤ A ∧ A < pw 16) (hB : 0 ≤ B ∧ B < pw 16) {k : Nat} (hk : k < 16) (h : ∀ j, j < k → dg A j = dg B j) (hlt : dg A k < dg B k) : A < B := by
  rcases Int.lt_or_le A B with hh | hh
  · exact hh
  · have h1 := Int.ediv_le_ediv (pw_pos (15 - k)) hh
    rw [dg_step A k hk, dg_step B k hk, dg_same hA hB (Nat.le_of_lt hk) h] at h1
    omega
theorem dg_all {A B : Int} (hA : 0 ≤ A ∧ A < pw 16) (hB : 0 ≤ B ∧ B < pw 16) (h : ∀ j, j < 16 → dg A j = dg B j) : A = B := by
  have := dg_same hA hB (k := 16) (by omega) h
  rwa [show 16 - 16 = 0 from rfl, pw_0, Int.ediv_one, Int.ediv_one] at this
end Go.Proofs.Ytncampbmnbhikaa
-- WideV
namespace Go.Proofs.Ytncampbmnbhikaa
set_option linter.unusedVariables false
set_option linter.unusedSimpArgs false
open Go.RowKit

/-- how two words stand -/
def cmpI (a b : Int) : Int := if a < b then -1 else if b < a then 1 else 0
/-- how two numbers stand -/
def cmpV (a b c d : Int) : Int := if cmpI a c != 0 then cmpI a c else cmpI b d
/-- the number of two words -/
def V (h l : Int) : Int := h * 18446744073709551616 + l
theorem V_lo {h l : Int} (hh : Wd h) (hl : Wd l) : 0 ≤ V h l ∧ V h l < pw 16 := by unfold V Wd at *; rw [pw_16]; omega
theorem V_div {h l : Int} (hl : Wd l) : V h l / 18446744073709551616 = h := by unfold V Wd at *; omega
theorem V_mod {h l : Int} (hl : Wd l) : V h l % 18446744073709551616 = l := by unfold V Wd at *; omega
theorem pw_add (a b : Nat) : pw (a + b) = pw a * pw b := Int.pow_add ..
theorem dgt_dg {h l : Int} (hl : Wd l) {j : Nat} (hj : j < 16) : dgt h l j = dg (V h l) j := by
  unfold dgt dg
  split
  · rw [show 15 - j = 8 + (7 - j) from by omega, pw_add, ← Int.ediv_ediv_of_nonneg (by rw [pw_8]; omega), pw_8, V_div hl]
    rfl
  · obtain ⟨e, rfl, he⟩ : ∃ e, j = 15 - e ∧ e < 8 := ⟨15 - j, by omega, by omega⟩
    rw [show 15 - (15 - e) = e from by omega]
    have h1 : V h l = l + h * pw (7 - e) * 256 * pw e := by
      unfold V
      rw [← pw_8, show 8 = (7 - e) + 1 + e from by omega, pw_add, pw_succ]
      simp only [Int.mul_assoc]
      omega
    rw [h1, Int.add_mul_ediv_right _ _ (by have := pw_pos e; omega)]
    show l / pw e % 256 = _
    omega

theorem digitsV_any (h l : Int) (hh : Wd h) (hl : Wd l) (w : World) : Calls Try.prog 65 #[.agg #[.int .u64 h, .int .u64 l]] w fun r w' =>
      ∃ g, r = .returned (.slice (some ⟨g, 0, none⟩) 16 16) ∧ w.heap.size ≤ g ∧ w'.rowIs g 3 16 (iV (dg (V h l))) ∧ Below w.heap.size w w' :=
  (digits_any h l hh hl w).mono fun _ _ ⟨g, h1, h2, h3, h4⟩ => ⟨g, h1, h2, h3.congr (fun i hi => by unfold iV; rw [dgt_dg hl hi]), h4⟩

theorem numberV_any (A : Int) (hA : 0 ≤ A ∧ A < pw 16) (d : Nat → Int) (hd : ∀ j, j < 16 → d j = dg A j) (g c : Nat) (w : World) (hr : w.rowIs g 3 16 (iV d)) :
    Calls Try.prog 69 #[.slice (some ⟨g, 0, none⟩) 16 c] w fun r w' =>
      r = .returned (.agg #[.int .u64 (A / 18446744073709551616), .int .u64 (A % 18446744073709551616)]) ∧ Below w.heap.size w w' := by
  have h := number_any (dg A) (dg_lo A) g 0 c w hr.lt (fun i hi => by rw [Nat.zero_add, hr.cell hi]; unfold iV; rw [hd i hi])
  rw [(num_eq A hA).1, (num_eq A hA).2] at h
  exact h

theorem V_of (S : Int) : V (S / 18446744073709551616) (S % 18446744073709551616) = S := by unfold V; omega
theorem Wd_of {S : Int} (h : 0 ≤ S ∧ S < pw 16) : Wd (S / 18446744073709551616) ∧ Wd (S % 18446744073709551616) := by rw [pw_16] at h; unfold Wd; omega

theorem cmpV_V {a b c d : Int} (hb : Wd b) (hd : Wd d) : cmpV a b c d = cmpI (V a b) (V c d) := by
  unfold cmpV cmpI V Wd at *
  by_cases h1 : a < c
  · rw [if_pos h1, if_pos (by decide), if_pos (by omega)]
  · by_cases h2 : c < a
    · rw [if_neg h1, if_pos h2, if_pos (by decide), if_neg (by omega), if_pos (by omega)]
    · rw [if_neg h1, if_neg h2, if_neg (by decide)]
      obtain rfl : a = c := by omega
      by_cases h3 : b < d
      · rw [if_pos h3, if_pos (by omega)]
      · by_cases h4 : d < b
        · rw [if_neg h3, if_pos h4, if_neg (by omega), if_pos (by omega)]
        · rw [if_neg h3, if_neg h4, if_neg (by omega), if_neg (by omega)]

theorem cmp_lt {a b c d : Int} (hb : Wd b) (hd : Wd d) : cmpV a b c d < 0 ↔ V a b < V c d := by
  rw [cmpV_V hb hd]
  unfold cmpI
  split
  · constructor
    · intro _; assumption
    · intro _; decide
  · split
    · constructor
      · intro h; exact absurd h (by decide)
      · intro h; omega
    · constructor
      · intro h; exact absurd h (by decide)
      · intro h; omega
end Go.Proofs.Ytncampbmnbhikaa
-- RecB
namespace Go.Proofs.Ytncampbmnbhikaa
set_option linter.unusedVariables false
set_option linter.unusedSimpArgs false
open Go.RowKit

theorem grownBy_below {w w' : World} (h : Below w.heap.size w w') (row : Option Nat) : w.grownBy w' row := ⟨h.os, h.tape, h.output, h.size, fun i hi _ => h.block i hi⟩
theorem own_below {w w' : World} {base : Nat} {e : TypeId} {size : Nat} {v : Value} {n : Nat} {xs : List Value} (h : w.ownsRow base e size v n xs) (hb : Below w.heap.size w w') : w'.ownsRow base e size v n xs :=
  h.kept (grownBy_below hb none) (by cases v.ownBlock <;> simp)
theorem news_row {w : World} {g : Nat} {t : TypeId} {d : Nat → Int} {n m : Nat} (h : w.rowIs g t n (yV d)) (hm : m ≤ n) : ∀ j u, (yL d m)[j]? = some u → w.cell? ((⟨g, 0, none⟩ : Addr).add j) = some u := by
  intro j u hu
  have hj : j < m := by
    rcases Nat.lt_or_ge j m with h1 | h1
    · exact h1
    · rw [List.getElem?_eq_none (by rw [yL_len]; exact h1)] at hu; cases hu
  have e : (⟨g, 0, none⟩ : Addr).add j = ⟨g, j, none⟩ := by unfold Addr.add; split <;> simp_all
  rw [e, h.cell (by omega), yL_at d m j u hu]
theorem yL_one' (d : Nat → Int) : ∀ m, ∀ u ∈ yL d m, u.oneCell' = true
  | 0, u, h => by simp [yL] at h
  | m + 1, u, h => by
    simp only [yL, List.mem_append, List.mem_singleton] at h
    rcases h with h | h
    · exact yL_one' d m u h
    · rw [h]; rfl
/-- the cells of pairs of words -/
def pV (h l : Nat → Int) (j : Nat) : Value := .int .u64 (if j % 2 = 0 then h (j / 2) else l (j / 2))
theorem pV_0 (h l : Nat → Int) (k : Nat) : pV h l (k * 2) = .int .u64 (h k) := by unfold pV; rw [if_pos (by omega), show k * 2 / 2 = k from by omega]
theorem pV_1 (h l : Nat → Int) (k : Nat) : pV h l (k * 2 + 1) = .int .u64 (l k) := by unfold pV; rw [if_neg (by omega), show (k * 2 + 1) / 2 = k from by omega]

/-- n bytes d, and k wide numbers behind -/
def wcat (d : Nat → Int) (n : Nat) (h l : Nat → Int) : Nat → Nat → Int
  | 0 => d
  | k + 1 => cat (wcat d n h l k) (n + k * 16) (dgt (h k) (l k))

set_option maxRecDepth 8000 in
set_option maxHeartbeats 2000000 in
theorem wides_any (v : Value) (n0 : Nat) (d : Nat → Int) (A : Option Addr) (k c base : Nat) (h l : Nat → Int) (hu : ∀ i, i < k → Wd (h i) ∧ Wd (l i)) (hk : k ≤ 1000) (hn : n0 ≤ 1000000) (w : World) (hbase : base ≤ w.heap.size) (ho : OwnB w base v n0 d)
    (w0 : World) (hw0 : Below w0.heap.size w0 w) (hb0 : w0.heap.size ≤ base) (hs : SlIs w0 A (k * 2) (pV h l)) :
    Calls Try.prog 54 #[v, .slice A k c] w fun r w' => ∃ v', r = .returned v' ∧ OwnB w' base v' (n0 + k * 16) (wcat d n0 h l k) ∧ Below base w w' := by
  obtain ⟨i0, hi0, hz0, hz1, hz2⟩ := info_parts info_u8
  replace hi0 := Lib.hid hi0
  replace hz0 := Lib.hid hz0
  replace hz1 := Lib.hid hz1
  replace hz2 := Lib.hid hz2
  unfold OwnB at *
  replace ho := Lib.hid ho
  replace hs := Lib.hid hs
  replace hw0 := Lib.hid hw0
  replace hu := Lib.hid hu
  go_enter Try.func54, Try.ntmps54
  go_wp2
  go_loopw [0, 9] (fun u i wr => ∃ (m : Nat), m ≤ k ∧ i = .int .i64 m ∧ Hid (wr.ownsRow base 5 1 u (n0 + m * 16) (yL (wcat d n0 h l m) (n0 + m * 16))) ∧ Hid (Below base w wr)) (fun _ i _ => k - (intOf i).toNat)
  case atStart => exact ⟨0, by omega, rfl, ho.out, Below.refl _ _⟩
  case round =>
    clear ho
    obtain ⟨m, hm, rfl, hown, hb⟩ := hrel
    by_cases hlt : m < k
    · obtain ⟨b, o, rfl, hbl, hc⟩ := hs.out (by omega)
      have hB : Below w0.heap.size w0 wr := hw0.out.trans (hb.out.mono hb0)
      have c0 := keepc hB (hc (m * 2) (by omega))
      have c1 := keepc hB (hc (m * 2 + 1) (by omega))
      rw [pV_0] at c0
      rw [pV_1, ← Nat.add_assoc] at c1
      have hsz := hb.out.size
      have bl : b < wr.heap.size := by omega
      have HX := Lib.hid (fun w => bytes_any (h m) (l m) (hu.out m hlt).1 (hu.out m hlt).2 w)
      have eL : yL (wcat d n0 h l (m + 1)) (n0 + (m + 1) * 16) = yL (wcat d n0 h l m) (n0 + m * 16) ++ yL (dgt (h m) (l m)) 16 := by
        rw [show n0 + (m + 1) * 16 = n0 + m * 16 + 16 by omega]
        exact yL_cat _ _ _ _
      replace eL := Lib.hid eL
      clear hc hB
      go_wp2_with fail
      refine (HX.out _).mono ?_
      rintro e w1 ⟨g, rfl, hg, hrow, hb1⟩
      have hown1 := own_below (hown.out.alloc _) hb1
      have hn1 := news_row hrow (Nat.le_refl 16)
      have hb2 : Below base w w1 := (Below.alloc hb.out (by omega) _).trans (hb1.mono (by simp; omega))
      have hsz1 := hb2.size
      replace hown1 := Lib.hid hown1
      replace hn1 := Lib.hid hn1
      replace hb2 := Lib.hid hb2
      clear hrow hb1 hg c0 c1
      go_wp2_with (at_builtin; refine wpList_append_own _ rfl (.tmp 13) (.tmp 15) _ rfl base 5 i0 _ 1 1 Try.underlying31 hi0.out hz0.out hz1.out hz2.out rfl (by omega) u0 (n0 + m * 16) (yL (wcat d n0 h l m) (n0 + m * 16)) rfl hown1.out ⟨g, 0, none⟩ 16 16 (yL (dgt (h m) (l m)) 16) rfl ?c0 ?c1 ?c2 ?c3 ?c4 ?c5 ?_; rotate_right; intro v' w2 hown2 hg2 _)
      case c0 => rw [yL_len]
      case c1 => exact hn1.out
      case c2 => exact yL_one' _ _
      case c3 => simp only [maxLen]; omega
      case c4 => omega
      case c5 => omega
      go_roundw
      case rel =>
        refine ⟨m + 1, by omega, by go_num, ?_, ?_⟩
        · rw [eL.out, show n0 + (m + 1) * 16 = n0 + m * 16 + 16 by omega]
          exact hown2
        · exact Below.grown hb2.out hg2 (by omega) (fun j hj => (hown1.out.lt j hj).1)
      case measure => simp [intOf]; omega
    · obtain rfl : m = k := by omega
      go_wp2
      go_ret
      exact ⟨_, rfl, hown.out, hb.out⟩
end Go.Proofs.Ytncampbmnbhikaa
