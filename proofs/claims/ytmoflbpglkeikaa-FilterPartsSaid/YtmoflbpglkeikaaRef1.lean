/-
  The greatest number: the document's, walked.
-/
import Derived.Test.YtmoflbpglkeikaaRef1N
namespace Go.Proofs.Ytmoflbpglkeikaa
set_option linter.unusedVariables false
set_option linter.unusedSimpArgs false
open Go.RowKit

def m64 : Int := 18446744073709551615

set_option maxHeartbeats 1000000 in
theorem top_any (w : World) : Calls Try.prog 20 #[] w fun r w' =>
      r = .returned (.agg #[.int .u64 18446744073709551615, .int .u64 18446744073709551615]) ∧ Below w.heap.size w w' := by
  have hmk : ∀ w, (Instr.makeSlice 42 (.int .i64 16) (.int .i64 16)).run Try.prog w = .ok (.slice (some ⟨w.heap.size, 0, none⟩) 16 16) (w.alloc (.cells #[.int .i64 0, .int .i64 0, .int .i64 0, .int .i64 0, .int .i64 0, .int .i64 0, .int .i64 0, .int .i64 0, .int .i64 0, .int .i64 0, .int .i64 0, .int .i64 0, .int .i64 0, .int .i64 0, .int .i64 0, .int .i64 0] 3)) := fun _ => by kernel_rfl
  go_enter Try.func20, Try.ntmps20
  go_wp2
  refine wp_loop_rounds 17 ?_
  iterate 17 (rw [rounds_succ]; go_wp2_with fail)
  refine (number_any (fun _ => 255) (fun _ => by omega) (w.heap.size + 1) 0 16 _ (by simp) ?_).mono ?_
  · intro i hi
    rcases (by omega : i = 0 ∨ i = 1 ∨ i = 2 ∨ i = 3 ∨ i = 4 ∨ i = 5 ∨ i = 6 ∨ i = 7 ∨ i = 8 ∨ i = 9 ∨ i = 10 ∨ i = 11 ∨ i = 12 ∨ i = 13 ∨ i = 14 ∨ i = 15) with rfl | rfl | rfl | rfl | rfl | rfl | rfl | rfl | rfl | rfl | rfl | rfl | rfl | rfl | rfl | rfl <;> simp [go_sem]
  rintro e w' ⟨rfl, hb⟩
  obtain ⟨hc, hf⟩ := bcell hb
  have r0 : w'.cell? ⟨w.heap.size, 0, none⟩ = some (.int .u64 0) := by rw [hc _ _ (by simp; omega)]; simp [go_sem]
  have r1 : w'.cell? ⟨w.heap.size, 1, none⟩ = some (.int .u64 0) := by rw [hc _ _ (by simp; omega)]; simp [go_sem]
  have r2 : w'.frozen? ⟨w.heap.size, 0, none⟩ = false := by rw [hf _ _ (by simp; omega)]; simp [go_sem]
  have r3 : w'.frozen? ⟨w.heap.size, 1, none⟩ = false := by rw [hf _ _ (by simp; omega)]; simp [go_sem]
  clear hc hf
  have e1 : num (fun _ => 255) 0 8 = 18446744073709551615 := by decide
  have e2 : num (fun _ => 255) 8 8 = 18446744073709551615 := by decide
  rw [e1, e2]
  clear e1 e2
  go_wp2
  refine bodyPost_ret (v := .agg #[.int .u64 18446744073709551615, .int .u64 18446744073709551615]) (by simp [results, Try.results20, go_sem, r0, r1]) rfl ⟨rfl, ?_⟩
  (repeat (first | exact Below.refl _ _ | assumption | refine below_drewN ?_ _ | refine bel_grow ?_ _ | refine Below.drew ?_ | refine bel_alloc ?_ _ | refine bel_set ?_ (by first | exact Nat.le_refl _ | (simp; done) | (simp; omega) | omega) _ | refine bel_trans ?_ (by assumption)))
end Go.Proofs.Ytmoflbpglkeikaa
