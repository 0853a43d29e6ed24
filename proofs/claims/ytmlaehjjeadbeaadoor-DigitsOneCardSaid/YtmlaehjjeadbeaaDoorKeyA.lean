/-
  Keys of stamps and numbers: the program's, walked.
-/
import Derived.Test.YtmlaehjjeadbeaaDoorRecC
namespace Go.Proofs.YtmlaehjjeadbeaaDoor
set_option linter.unusedVariables false
set_option linter.unusedSimpArgs false
open Go.RowKit

theorem of_any (a : Int) (w : World) : Calls Tryd.prog 25 #[.int .u64 a] w fun r w' =>
      r = .returned (.agg #[.int .u64 0, .int .u64 a]) ∧ Below w.heap.size w w' := by
  go_enter Tryd.func25, Tryd.ntmps25
  go_wp2
  refine bodyPost_ret (v := .agg #[.int .u64 0, .int .u64 a]) (by simp [results, Tryd.results25, go_sem]) rfl ⟨rfl, ?_⟩
  (repeat (first | exact Below.refl _ _ | assumption | refine below_drewN ?_ _ | refine bel_grow ?_ _ | refine Below.drew ?_ | refine bel_alloc ?_ _ | refine bel_set ?_ (by first | exact Nat.le_refl _ | (simp; done) | (simp; omega) | omega) _ | refine bel_trans ?_ (by assumption)))
theorem Wd0 : Wd 0 := by unfold Wd; decide



/-- the cells of a slice that begins at off in a row of bytes -/
theorem cells_from {w : World} {g : Nat} {t : TypeId} {d : Nat → Int} {n m off : Nat} (h : w.rowIs g t n (yV d)) (hm : off + m ≤ n) : ∀ j u, (yL (fun i => d (off + i)) m)[j]? = some u → w.cell? ((⟨g, off, none⟩ : Addr).add j) = some u := by
  intro j u hu
  have hj : j < m := by
    rcases Nat.lt_or_ge j m with h1 | h1
    · exact h1
    · rw [List.getElem?_eq_none (by rw [yL_len]; exact h1)] at hu; cases hu
  have e : (⟨g, off, none⟩ : Addr).add j = ⟨g, off + j, none⟩ := by unfold Addr.add; split <;> simp_all
  rw [e, h.cell (by omega), yL_at _ m j u hu]
  rfl
theorem stamp_nb (n : Int) (i : Nat) (hi : i < 8) : dgt 0 n (8 + i) = nb 8 n i := by
  rw [dgt_low 0 n i hi]; unfold nb; rw [show 8 - 1 - i = 7 - i by omega]



end Go.Proofs.YtmlaehjjeadbeaaDoor
