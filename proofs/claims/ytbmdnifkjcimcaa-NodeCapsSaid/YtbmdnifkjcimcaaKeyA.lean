/-
  Keys of stamps and numbers: the program's, walked.
-/
import Derived.Test.YtbmdnifkjcimcaaRecC
namespace Go.Proofs.Ytbmdnifkjcimcaa
set_option linter.unusedVariables false
set_option linter.unusedSimpArgs false
open Go.RowKit

theorem Wd0 : Wd 0 := by unfold Wd; decide



/-- the cells of a slice that begins at off in a row of bytes -/
theorem cells_from {w : World} {g : Nat} {t : TypeId} {d : Nat → Int} {n m off : Nat} (h : w.rowIs g t n (yV d)) (hm : off + m ≤ n) : ∀ j u, (yL (fun i => d (off + i)) m)[j]? = some u → w.cell? ((⟨g, off, none⟩ : Addr).add j) = some u := by
  intro j u hu
  have hj : j < m := by
    rcases Nat.lt_or_ge j m with h1 | h1
    · exact h1
    · rw [List.getElem?_eq_none (by rw [yL_len]; exact h1)] at hu; cases hu
  have e : (⟨g, off, none⟩ : Addr).add j = ⟨g, off + j, none⟩ := by unfold Addr.add; split <;> simp_all
  rw [e, h.cell (by omega), yL_at _ m j u hu]
  rfl
theorem stamp_nb (n : Int) (i : Nat) (hi : i < 8) : dgt 0 n (8 + i) = nb 8 n i := by
  rw [dgt_low 0 n i hi]; unfold nb; rw [show 8 - 1 - i = 7 - i by omega]



end Go.Proofs.Ytbmdnifkjcimcaa
