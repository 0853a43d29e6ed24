/-
  Rows of as many bytes each, one behind another, by their index.
-/
import Derived.Test.YtbmdnifkjcimcaaJ2
namespace Go.Proofs.Ytbmdnifkjcimcaa
set_option linter.unusedVariables false
set_option linter.unusedSimpArgs false
open Go.RowKit

/-- rows of s bytes each: the i-th is f i -/
def rowsF (s : Nat) (f : Nat → Nat → Int) (j : Nat) : Int := f (j / s) (j % s)
theorem rowsF_at {s : Nat} {f : Nat → Nat → Int} {i r : Nat} (hr : r < s) : rowsF s f (i * s + r) = f i r := by
  unfold rowsF
  have h0 : 0 < s := by omega
  rw [Nat.mul_comm i s, Nat.mul_add_div h0, Nat.div_eq_of_lt hr, Nat.add_zero, Nat.mul_add_mod, Nat.mod_eq_of_lt hr]
theorem rowsF_step {s : Nat} {f : Nat → Nat → Int} {i n : Nat} (hn : n = i * s) : ∀ j, j < n + s → cat (rowsF s f) n (f i) j = rowsF s f j := by
  subst hn
  intro j hj
  by_cases h : j < i * s
  · rw [cat_lo h]
  · obtain ⟨r, rfl⟩ : ∃ r, j = i * s + r := ⟨j - i * s, by omega⟩
    rw [cat_hi, rowsF_at (by omega)]
/-- behind a head of h bytes -/
theorem rowsF_cat {d : Nat → Int} {h s : Nat} {f : Nat → Nat → Int} {i n : Nat} (hn : n = i * s) : ∀ j, j < h + n + s → cat (cat d h (rowsF s f)) (h + n) (f i) j = cat d h (rowsF s f) j := by
  intro j hj
  by_cases h1 : j < h + n
  · rw [cat_lo h1]
  · obtain ⟨r, rfl⟩ : ∃ r, j = h + n + r := ⟨j - (h + n), by omega⟩
    rw [cat_hi, Nat.add_assoc, cat_hi, hn, rowsF_at (by omega)]
theorem rowsF_congr {s : Nat} {f g : Nat → Nat → Int} {n : Nat} (h : ∀ i, i < n → ∀ r, r < s → f i r = g i r) : ∀ j, j < n * s → rowsF s f j = rowsF s g j := by
  intro j hj
  have h0 : 0 < s := by
    rcases Nat.eq_zero_or_pos s with e | e
    · subst e; omega
    · exact e
  exact h (j / s) ((Nat.div_lt_iff_lt_mul h0).2 hj) (j % s) (Nat.mod_lt _ h0)
theorem rowsF_ok {s : Nat} {f : Nat → Nat → Int} (h : ∀ i r, 0 ≤ f i r ∧ f i r < 256) (j : Nat) : 0 ≤ rowsF s f j ∧ rowsF s f j < 256 := h _ _
end Go.Proofs.Ytbmdnifkjcimcaa
