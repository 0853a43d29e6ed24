/-
  The ways in which a filter isn't right, one by one.
-/
import Derived.Test.YtmoflbpglkeikaaEq
namespace Go.Proofs.Ytmoflbpglkeikaa
set_option linter.unusedVariables false
set_option linter.unusedSimpArgs false
open Go.RowKit

def wr1 (a b : Int) : Bool := (a == 0 && b == 0) || (a == 18446744073709551615 && b == 18446744073709551615)
def wr2 (f : Int) : Bool := (bits .and .u32 f 3 == 0) || decide (7 < f)
def wr3 (e : Int) : Bool := e == 0
def wr4 (c d : Int) : Bool := (c == 18446744073709551615) || (d == 18446744073709551615)
def wr5 (c d : Int) : Bool := d != 0 && decide (d < c)

theorem w1_any (a b c d e f : Int) (w : World) : Calls Try.prog 22 #[.agg #[.int .u64 a, .int .u64 b, .int .u64 c, .int .u64 d, .int .u32 e, .int .u32 f]] w fun r w' => r = .returned (.bool (wr1 a b)) ∧ Below w.heap.size w w' := by
  by_cases h : (a == 0 && b == 0) = true
  · go_enter Try.func22, Try.ntmps22
    go_wp2
    refine wp_region_grow (by kernel_rfl) (by kernel_rfl) ?_
    repeat (go_big_quiet_step (fail))
    refine wpQuiet_nil ?_
    intro w1 hb
    go_wp2
    go_ret
    exact ⟨by simp [wr1, h], (by repeat (first | exact Below.refl _ _ | assumption | refine below_drewN ?_ _ | refine bel_grow ?_ _ | refine Below.drew ?_ | refine bel_alloc ?_ _ | refine bel_set ?_ (by first | exact Nat.le_refl _ | (simp; done) | (simp; omega) | omega) _ | refine bel_trans ?_ (by assumption)))⟩
  · have h : (a == 0 && b == 0) = false := by simpa using h
    go_enter Try.func22, Try.ntmps22
    go_wp2
    refine wp_region_grow (by kernel_rfl) (by kernel_rfl) ?_
    repeat (go_big_quiet_step ((go_at_call 23; exact grow_call (wtop_any _))))
    refine wpQuiet_nil ?_
    intro w1 hb
    go_wp2
    go_ret
    exact ⟨by simp [wr1, h], (by repeat (first | exact Below.refl _ _ | assumption | refine below_drewN ?_ _ | refine bel_grow ?_ _ | refine Below.drew ?_ | refine bel_alloc ?_ _ | refine bel_set ?_ (by first | exact Nat.le_refl _ | (simp; done) | (simp; omega) | omega) _ | refine bel_trans ?_ (by assumption)))⟩
theorem w2_any (a b c d e f : Int) (w : World) : Calls Try.prog 24 #[.agg #[.int .u64 a, .int .u64 b, .int .u64 c, .int .u64 d, .int .u32 e, .int .u32 f]] w fun r w' => r = .returned (.bool (wr2 f)) ∧ Below w.heap.size w w' := by
  by_cases h : (bits .and .u32 f 3 == 0) = true
  · go_enter Try.func24, Try.ntmps24
    go_wp2
    go_ret
    exact ⟨by simp [wr2, h], (by repeat (first | exact Below.refl _ _ | assumption | refine below_drewN ?_ _ | refine bel_grow ?_ _ | refine Below.drew ?_ | refine bel_alloc ?_ _ | refine bel_set ?_ (by first | exact Nat.le_refl _ | (simp; done) | (simp; omega) | omega) _ | refine bel_trans ?_ (by assumption)))⟩
  · have h : (bits .and .u32 f 3 == 0) = false := by simpa using h
    go_enter Try.func24, Try.ntmps24
    go_wp2
    go_ret
    exact ⟨by simp [wr2, h], (by repeat (first | exact Below.refl _ _ | assumption | refine below_drewN ?_ _ | refine bel_grow ?_ _ | refine Below.drew ?_ | refine bel_alloc ?_ _ | refine bel_set ?_ (by first | exact Nat.le_refl _ | (simp; done) | (simp; omega) | omega) _ | refine bel_trans ?_ (by assumption)))⟩
theorem w3_any (a b c d e f : Int) (w : World) : Calls Try.prog 25 #[.agg #[.int .u64 a, .int .u64 b, .int .u64 c, .int .u64 d, .int .u32 e, .int .u32 f]] w fun r w' => r = .returned (.bool (wr3 e)) ∧ Below w.heap.size w w' := by
  go_enter Try.func25, Try.ntmps25
  go_wp2
  go_ret
  exact ⟨by simp [wr3], (by repeat (first | exact Below.refl _ _ | assumption | refine below_drewN ?_ _ | refine bel_grow ?_ _ | refine Below.drew ?_ | refine bel_alloc ?_ _ | refine bel_set ?_ (by first | exact Nat.le_refl _ | (simp; done) | (simp; omega) | omega) _ | refine bel_trans ?_ (by assumption)))⟩
theorem w4_any (a b c d e f : Int) (w : World) : Calls Try.prog 26 #[.agg #[.int .u64 a, .int .u64 b, .int .u64 c, .int .u64 d, .int .u32 e, .int .u32 f]] w fun r w' => r = .returned (.bool (wr4 c d)) ∧ Below w.heap.size w w' := by
  by_cases h : (c == 18446744073709551615) = true
  · go_enter Try.func26, Try.ntmps26
    go_wp2
    go_ret
    exact ⟨by simp [wr4, h], (by repeat (first | exact Below.refl _ _ | assumption | refine below_drewN ?_ _ | refine bel_grow ?_ _ | refine Below.drew ?_ | refine bel_alloc ?_ _ | refine bel_set ?_ (by first | exact Nat.le_refl _ | (simp; done) | (simp; omega) | omega) _ | refine bel_trans ?_ (by assumption)))⟩
  · have h : (c == 18446744073709551615) = false := by simpa using h
    go_enter Try.func26, Try.ntmps26
    go_wp2
    go_ret
    exact ⟨by simp [wr4, h], (by repeat (first | exact Below.refl _ _ | assumption | refine below_drewN ?_ _ | refine bel_grow ?_ _ | refine Below.drew ?_ | refine bel_alloc ?_ _ | refine bel_set ?_ (by first | exact Nat.le_refl _ | (simp; done) | (simp; omega) | omega) _ | refine bel_trans ?_ (by assumption)))⟩
theorem w5_any (a b c d e f : Int) (w : World) : Calls Try.prog 27 #[.agg #[.int .u64 a, .int .u64 b, .int .u64 c, .int .u64 d, .int .u32 e, .int .u32 f]] w fun r w' => r = .returned (.bool (wr5 c d)) ∧ Below w.heap.size w w' := by
  by_cases h : (d != 0) = true
  · go_enter Try.func27, Try.ntmps27
    go_wp2
    go_ret
    exact ⟨by simp [wr5, h], (by repeat (first | exact Below.refl _ _ | assumption | refine below_drewN ?_ _ | refine bel_grow ?_ _ | refine Below.drew ?_ | refine bel_alloc ?_ _ | refine bel_set ?_ (by first | exact Nat.le_refl _ | (simp; done) | (simp; omega) | omega) _ | refine bel_trans ?_ (by assumption)))⟩
  · have h : (d != 0) = false := by simpa using h
    go_enter Try.func27, Try.ntmps27
    go_wp2
    go_ret
    exact ⟨by simp [wr5, h], (by repeat (first | exact Below.refl _ _ | assumption | refine below_drewN ?_ _ | refine bel_grow ?_ _ | refine Below.drew ?_ | refine bel_alloc ?_ _ | refine bel_set ?_ (by first | exact Nat.le_refl _ | (simp; done) | (simp; omega) | omega) _ | refine bel_trans ?_ (by assumption)))⟩
end Go.Proofs.Ytmoflbpglkeikaa
