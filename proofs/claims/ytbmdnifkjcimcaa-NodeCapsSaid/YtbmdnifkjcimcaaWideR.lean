/-
  What any bytes are read as; bytes stand to one another as their numbers do.
-/
import Derived.Test.YtbmdnifkjcimcaaWideM
import Derived.Test.YtbmdnifkjcimcaaWideV
import Derived.Test.YtbmdnifkjcimcaaJ2
namespace Go.Proofs.Ytbmdnifkjcimcaa
set_option linter.unusedVariables false
set_option linter.unusedSimpArgs false
open Go.RowKit

theorem num_dgt {h l : Int} (hh : Wd h) (hl : Wd l) : num (dgt h l) 0 8 = h ∧ num (dgt h l) 8 8 = l := by
  have hV := num_eq (V h l) (V_lo hh hl)
  rw [V_div hl, V_mod hl] at hV
  refine ⟨?_, ?_⟩
  · exact (num_congr (fun j hj => by rw [Nat.zero_add]; exact dgt_dg hl (by omega))).trans hV.1
  · exact (num_congr (fun j hj => dgt_dg hl (by omega))).trans hV.2
theorem dgt_less {a b c d : Int} (ha : Wd a) (hb : Wd b) (hc : Wd c) (hd : Wd d) : rowLess (dgt a b) (dgt c d) 16 = decide (cmpV a b c d < 0) := by
  rw [Bool.eq_iff_iff, rowLess_iff, decide_eq_true_eq, cmp_lt hb hd]
  have hA := V_lo ha hb
  have hB := V_lo hc hd
  constructor
  · rintro ⟨k, hk, h1, h2⟩
    rw [dgt_dg hb hk, dgt_dg hd hk] at h2
    exact dg_less hA hB hk (fun j hj => by rw [← dgt_dg hb (by omega), ← dgt_dg hd (by omega)]; exact h1 j hj) h2
  · intro hlt
    apply Classical.byContradiction
    intro hno
    have hall : ∀ k, k ≤ 16 → ∀ j, j < k → dg (V a b) j = dg (V c d) j := by
      intro k
      induction k with
      | zero => intro _ j hj; omega
      | succ k ih =>
        intro hk j hj
        by_cases e : j = k
        · subst e
          rcases Int.lt_trichotomy (dg (V a b) j) (dg (V c d) j) with h | h | h
          · exact absurd ⟨j, by omega, fun i hi => by rw [dgt_dg hb (by omega), dgt_dg hd (by omega)]; exact ih (by omega) i hi, by rw [dgt_dg hb (by omega), dgt_dg hd (by omega)]; exact h⟩ hno
          · exact h
          · have := dg_less hB hA (k := j) (by omega) (fun i hi => (ih (by omega) i hi).symm) h
            omega
        · exact ih (by omega) j (by omega)
    have := dg_all hA hB (hall 16 (by omega))
    omega
theorem dgt_eq {a b c d : Int} (ha : Wd a) (hb : Wd b) (hc : Wd c) (hd : Wd d) : decide (16 = 16 ∧ ∀ i, i < 16 → dgt a b i = dgt c d i) = (a == c && b == d) := by
  rw [Bool.eq_iff_iff, decide_eq_true_eq, Bool.and_eq_true, beq_iff_eq, beq_iff_eq]
  constructor
  · rintro ⟨_, h⟩
    have h1 := num_dgt ha hb
    have h2 := num_dgt hc hd
    exact ⟨h1.1.symm.trans ((num_congr (fun j hj => h _ (by omega))).trans h2.1), h1.2.symm.trans ((num_congr (fun j hj => h _ (by omega))).trans h2.2)⟩
  · rintro ⟨rfl, rfl⟩; exact ⟨rfl, fun _ _ => rfl⟩
theorem dgt_less_at {a b c d : Int} (ha : Wd a) (hb : Wd b) (hc : Wd c) (hd : Wd d) : Op.bytesLess (strF (dgt a b) 16).toList (strF (dgt c d) 16).toList = decide (cmpV a b c d < 0) := by
  rw [strF_less (fun i _ => dgt_lo a b i) (fun i _ => dgt_lo c d i), dgt_less ha hb hc hd]
theorem dgt_eq_at {a b c d : Int} (ha : Wd a) (hb : Wd b) (hc : Wd c) (hd : Wd d) : ((strF (dgt a b) 16).toList == (strF (dgt c d) 16).toList) = (a == c && b == d) := by
  rw [strF_eq (fun i _ => dgt_lo a b i) (fun i _ => dgt_lo c d i), ← dgt_eq ha hb hc hd]

/-- what n bytes are read as -/
def rdH (d : Nat → Int) (n : Nat) : Int := if n = 16 then num d 0 8 else 0
def rdL (d : Nat → Int) (n : Nat) : Int := if n = 16 then num d 8 8 else 0

end Go.Proofs.Ytbmdnifkjcimcaa
