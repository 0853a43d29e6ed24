/-
  The window of a filter, how many are answered at most, in which order: the program's answers and the document's.
-/
import Derived.Test.YtmoflbpglkeikaaFilterC
namespace Go.Proofs.Ytmoflbpglkeikaa
set_option linter.unusedVariables false
set_option linter.unusedSimpArgs false
open Go.RowKit

def winF (x : Bool) (c : Int) : Int := if x then c else 0
def winT (x : Bool) (d : Int) : Int := if x then (if d == 0 then 18446744073709551614 else d) else 0
def mostV (x : Bool) (e : Int) : Int := if x then (if 30 < e then 30 else e) else 0
def downB (x : Bool) (f : Int) : Bool := x && (bits .and .u32 f 4 != 0)

theorem right_is {a b c d e f : Int} {x : Bool} (hx : rightB a b c d e f = x) (w : World) : Calls Try.prog 10 #[.agg #[.int .u64 a, .int .u64 b, .int .u64 c, .int .u64 d, .int .u32 e, .int .u32 f]] w fun r w' => r = .returned (.bool x) ∧ Below w.heap.size w w' := hx ▸ right_any a b c d e f w
theorem refr_is {a b c d e f : Int} (hf : 0 ≤ f) {x : Bool} (hx : refR a b c d e f = x) (w : World) : Calls Try.prog 11 #[.agg #[.int .u64 a, .int .u64 b, .int .u64 c, .int .u64 d, .int .u32 e, .int .u32 f]] w fun r w' => r = .returned (.bool x) ∧ Below w.heap.size w w' := hx ▸ refr_any a b c d e f hf w

theorem window_any (a b c d e f : Int) (x : Bool) (hx : rightB a b c d e f = x) (w : World) : Calls Try.prog 7 #[.agg #[.int .u64 a, .int .u64 b, .int .u64 c, .int .u64 d, .int .u32 e, .int .u32 f]] w fun r w' => r = .returned (.tuple #[.int .u64 (winF x c), .int .u64 (winT x d)]) ∧ Below w.heap.size w w' := by
  have HR := Lib.hid hx
  clear hx
  cases x
  · go_enter Try.func7, Try.ntmps7
    go_wp2_with (go_at_call 10; refine (gro (right_is HR.out _)).mono ?_; rintro e w' ⟨rfl, d1, rfl⟩)
    go_ret2
    exact ⟨rfl, (by repeat (first | exact Below.refl _ _ | assumption | refine below_drewN ?_ _ | refine bel_grow ?_ _ | refine Below.drew ?_ | refine bel_alloc ?_ _ | refine bel_set ?_ (by first | exact Nat.le_refl _ | (simp; done) | (simp; omega) | omega) _ | refine bel_trans ?_ (by assumption)))⟩
  · by_cases hd : (d == 0) = true
    · go_enter Try.func7, Try.ntmps7
      go_wp2_with (go_at_call 10; refine (gro (right_is HR.out _)).mono ?_; rintro e w' ⟨rfl, d1, rfl⟩)
      go_ret2
      exact ⟨by simp [winF, winT, hd], (by repeat (first | exact Below.refl _ _ | assumption | refine below_drewN ?_ _ | refine bel_grow ?_ _ | refine Below.drew ?_ | refine bel_alloc ?_ _ | refine bel_set ?_ (by first | exact Nat.le_refl _ | (simp; done) | (simp; omega) | omega) _ | refine bel_trans ?_ (by assumption)))⟩
    · have hd : (d == 0) = false := by simpa using hd
      go_enter Try.func7, Try.ntmps7
      go_wp2_with (go_at_call 10; refine (gro (right_is HR.out _)).mono ?_; rintro e w' ⟨rfl, d1, rfl⟩)
      refine wp_region_grow (by kernel_rfl) (by kernel_rfl) ?_
      repeat (go_big_quiet_step (fail))
      refine wpQuiet_nil ?_
      intro w1 hb
      go_wp2
      go_ret2
      exact ⟨by simp [winF, winT, hd], (by repeat (first | exact Below.refl _ _ | assumption | refine below_drewN ?_ _ | refine bel_grow ?_ _ | refine Below.drew ?_ | refine bel_alloc ?_ _ | refine bel_set ?_ (by first | exact Nat.le_refl _ | (simp; done) | (simp; omega) | omega) _ | refine bel_trans ?_ (by assumption)))⟩
theorem refwindow_any (a b c d e f : Int) (hf : 0 ≤ f) (x : Bool) (hx : refR a b c d e f = x) (w : World) : Calls Try.prog 8 #[.agg #[.int .u64 a, .int .u64 b, .int .u64 c, .int .u64 d, .int .u32 e, .int .u32 f]] w fun r w' => r = .returned (.tuple #[.int .u64 (winF x c), .int .u64 (winT x d)]) ∧ Below w.heap.size w w' := by
  have HR := Lib.hid hx
  clear hx
  cases x
  · go_enter Try.func8, Try.ntmps8
    go_wp2_with (go_at_call 11; refine (gro (refr_is hf HR.out _)).mono ?_; rintro e w' ⟨rfl, d1, rfl⟩)
    go_ret2
    exact ⟨rfl, (by repeat (first | exact Below.refl _ _ | assumption | refine below_drewN ?_ _ | refine bel_grow ?_ _ | refine Below.drew ?_ | refine bel_alloc ?_ _ | refine bel_set ?_ (by first | exact Nat.le_refl _ | (simp; done) | (simp; omega) | omega) _ | refine bel_trans ?_ (by assumption)))⟩
  · by_cases hd : (d == 0) = true
    · go_enter Try.func8, Try.ntmps8
      go_wp2_with (go_at_call 11; refine (gro (refr_is hf HR.out _)).mono ?_; rintro e w' ⟨rfl, d1, rfl⟩)
      go_ret2
      exact ⟨by simp [winF, winT, hd], (by repeat (first | exact Below.refl _ _ | assumption | refine below_drewN ?_ _ | refine bel_grow ?_ _ | refine Below.drew ?_ | refine bel_alloc ?_ _ | refine bel_set ?_ (by first | exact Nat.le_refl _ | (simp; done) | (simp; omega) | omega) _ | refine bel_trans ?_ (by assumption)))⟩
    · have hd : (d == 0) = false := by simpa using hd
      go_enter Try.func8, Try.ntmps8
      go_wp2_with (go_at_call 11; refine (gro (refr_is hf HR.out _)).mono ?_; rintro e w' ⟨rfl, d1, rfl⟩)
      refine wp_region_grow (by kernel_rfl) (by kernel_rfl) ?_
      repeat (go_big_quiet_step (fail))
      refine wpQuiet_nil ?_
      intro w1 hb
      go_wp2
      go_ret2
      exact ⟨by simp [winF, winT, hd], (by repeat (first | exact Below.refl _ _ | assumption | refine below_drewN ?_ _ | refine bel_grow ?_ _ | refine Below.drew ?_ | refine bel_alloc ?_ _ | refine bel_set ?_ (by first | exact Nat.le_refl _ | (simp; done) | (simp; omega) | omega) _ | refine bel_trans ?_ (by assumption)))⟩
end Go.Proofs.Ytmoflbpglkeikaa
