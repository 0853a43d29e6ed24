/-
  How many are answered at most, in which order, and what is taken: the program's answers and the document's.
-/
import Derived.Test.YtmoflbpglkeikaaFilterD
namespace Go.Proofs.Ytmoflbpglkeikaa
set_option linter.unusedVariables false
set_option linter.unusedSimpArgs false
open Go.RowKit

theorem most_any (a b c d e f : Int) (he : 0 ≤ e ∧ e < 4294967296) (x : Bool) (hx : rightB a b c d e f = x) (w : World) : Calls Try.prog 12 #[.agg #[.int .u64 a, .int .u64 b, .int .u64 c, .int .u64 d, .int .u32 e, .int .u32 f]] w fun r w' => r = .returned (.int .i64 (mostV x e)) ∧ Below w.heap.size w w' := by
  have HR := Lib.hid hx
  clear hx
  cases x
  · go_enter Try.func12, Try.ntmps12
    go_wp2_with (go_at_call 10; refine (gro (right_is HR.out _)).mono ?_; rintro e w' ⟨rfl, d1, rfl⟩)
    go_ret
    exact ⟨rfl, (by repeat (first | exact Below.refl _ _ | assumption | refine below_drewN ?_ _ | refine bel_grow ?_ _ | refine Below.drew ?_ | refine bel_alloc ?_ _ | refine bel_set ?_ (by first | exact Nat.le_refl _ | (simp; done) | (simp; omega) | omega) _ | refine bel_trans ?_ (by assumption)))⟩
  · by_cases h30 : 30 < e
    · go_enter Try.func12, Try.ntmps12
      go_wp2_with (go_at_call 10; refine (gro (right_is HR.out _)).mono ?_; rintro e w' ⟨rfl, d1, rfl⟩)
      go_ret
      exact ⟨by simp [mostV, h30], (by repeat (first | exact Below.refl _ _ | assumption | refine below_drewN ?_ _ | refine bel_grow ?_ _ | refine Below.drew ?_ | refine bel_alloc ?_ _ | refine bel_set ?_ (by first | exact Nat.le_refl _ | (simp; done) | (simp; omega) | omega) _ | refine bel_trans ?_ (by assumption)))⟩
    · go_enter Try.func12, Try.ntmps12
      go_wp2_with (go_at_call 10; refine (gro (right_is HR.out _)).mono ?_; rintro e w' ⟨rfl, d1, rfl⟩)
      go_ret
      exact ⟨by simp [mostV]; omega, (by repeat (first | exact Below.refl _ _ | assumption | refine below_drewN ?_ _ | refine bel_grow ?_ _ | refine Below.drew ?_ | refine bel_alloc ?_ _ | refine bel_set ?_ (by first | exact Nat.le_refl _ | (simp; done) | (simp; omega) | omega) _ | refine bel_trans ?_ (by assumption)))⟩
theorem refmost_any (a b c d e f : Int) (hf : 0 ≤ f) (he : 0 ≤ e ∧ e < 4294967296) (x : Bool) (hx : refR a b c d e f = x) (w : World) : Calls Try.prog 13 #[.agg #[.int .u64 a, .int .u64 b, .int .u64 c, .int .u64 d, .int .u32 e, .int .u32 f]] w fun r w' => r = .returned (.int .i64 (mostV x e)) ∧ Below w.heap.size w w' := by
  have HR := Lib.hid hx
  clear hx
  cases x
  · go_enter Try.func13, Try.ntmps13
    go_wp2_with (go_at_call 11; refine (gro (refr_is hf HR.out _)).mono ?_; rintro e w' ⟨rfl, d1, rfl⟩)
    go_ret
    exact ⟨rfl, (by repeat (first | exact Below.refl _ _ | assumption | refine below_drewN ?_ _ | refine bel_grow ?_ _ | refine Below.drew ?_ | refine bel_alloc ?_ _ | refine bel_set ?_ (by first | exact Nat.le_refl _ | (simp; done) | (simp; omega) | omega) _ | refine bel_trans ?_ (by assumption)))⟩
  · by_cases h30 : 30 < e
    · go_enter Try.func13, Try.ntmps13
      go_wp2_with (go_at_call 11; refine (gro (refr_is hf HR.out _)).mono ?_; rintro e w' ⟨rfl, d1, rfl⟩)
      go_ret
      exact ⟨by simp [mostV, h30], (by repeat (first | exact Below.refl _ _ | assumption | refine below_drewN ?_ _ | refine bel_grow ?_ _ | refine Below.drew ?_ | refine bel_alloc ?_ _ | refine bel_set ?_ (by first | exact Nat.le_refl _ | (simp; done) | (simp; omega) | omega) _ | refine bel_trans ?_ (by assumption)))⟩
    · go_enter Try.func13, Try.ntmps13
      go_wp2_with (go_at_call 11; refine (gro (refr_is hf HR.out _)).mono ?_; rintro e w' ⟨rfl, d1, rfl⟩)
      go_ret
      exact ⟨by simp [mostV]; omega, (by repeat (first | exact Below.refl _ _ | assumption | refine below_drewN ?_ _ | refine bel_grow ?_ _ | refine Below.drew ?_ | refine bel_alloc ?_ _ | refine bel_set ?_ (by first | exact Nat.le_refl _ | (simp; done) | (simp; omega) | omega) _ | refine bel_trans ?_ (by assumption)))⟩
theorem down_any (a b c d e f : Int) (x : Bool) (hx : rightB a b c d e f = x) (w : World) : Calls Try.prog 14 #[.agg #[.int .u64 a, .int .u64 b, .int .u64 c, .int .u64 d, .int .u32 e, .int .u32 f]] w fun r w' => r = .returned (.bool (downB x f)) ∧ Below w.heap.size w w' := by
  have HR := Lib.hid hx
  clear hx
  cases x
  · go_enter Try.func14, Try.ntmps14
    go_wp2_with (go_at_call 10; refine (gro (right_is HR.out _)).mono ?_; rintro e w' ⟨rfl, d1, rfl⟩)
    go_ret
    exact ⟨rfl, (by repeat (first | exact Below.refl _ _ | assumption | refine below_drewN ?_ _ | refine bel_grow ?_ _ | refine Below.drew ?_ | refine bel_alloc ?_ _ | refine bel_set ?_ (by first | exact Nat.le_refl _ | (simp; done) | (simp; omega) | omega) _ | refine bel_trans ?_ (by assumption)))⟩
  · go_enter Try.func14, Try.ntmps14
    go_wp2_with (go_at_call 10; refine (gro (right_is HR.out _)).mono ?_; rintro e w' ⟨rfl, d1, rfl⟩)
    go_ret
    exact ⟨by simp [downB], (by repeat (first | exact Below.refl _ _ | assumption | refine below_drewN ?_ _ | refine bel_grow ?_ _ | refine Below.drew ?_ | refine bel_alloc ?_ _ | refine bel_set ?_ (by first | exact Nat.le_refl _ | (simp; done) | (simp; omega) | omega) _ | refine bel_trans ?_ (by assumption)))⟩

/-- what a filter takes -/
def takesB (x : Bool) (c d f s g : Int) : Bool := x && (g == 1 || g == 2) && (bits .and .u32 f g != 0) && (decide (winF x c ≤ s) && decide (s ≤ winT x d))
def reftB (x : Bool) (c d f s g : Int) : Bool := x && decide (winF x c ≤ s) && decide (s ≤ winT x d) && (if g == 1 then f % 2 == 1 else g == 2 && f / 2 % 2 == 1)

set_option maxHeartbeats 1000000 in
theorem takes_any (a b c d e f s g : Int) (hg : 0 ≤ g ∧ g < 256) (x : Bool) (hx : rightB a b c d e f = x) (w : World) : Calls Try.prog 15 #[.agg #[.int .u64 a, .int .u64 b, .int .u64 c, .int .u64 d, .int .u32 e, .int .u32 f], .int .u64 s, .int .u8 g] w fun r w' => r = .returned (.bool (takesB x c d f s g)) ∧ Below w.heap.size w w' := by
  have HR := Lib.hid hx
  clear hx
  cases x
  · go_enter Try.func15, Try.ntmps15
    go_wp2_with (go_at_call 10; refine (gro (right_is HR.out _)).mono ?_; rintro e w' ⟨rfl, d1, rfl⟩)
    go_ret
    exact ⟨rfl, (by repeat (first | exact Below.refl _ _ | assumption | refine below_drewN ?_ _ | refine bel_grow ?_ _ | refine Below.drew ?_ | refine bel_alloc ?_ _ | refine bel_set ?_ (by first | exact Nat.le_refl _ | (simp; done) | (simp; omega) | omega) _ | refine bel_trans ?_ (by assumption)))⟩
  · have HW := fun w => window_any a b c d e f true HR.out w
    generalize hF : winF true c = F at *
    generalize hT : winT true d = T at *
    have HF := Lib.hid hF
    have HT := Lib.hid hT
    clear hF hT
    replace HW := Lib.hid HW
    go_enter Try.func15, Try.ntmps15
    go_wp2_with (first | (go_at_call 10; refine (gro (right_is HR.out _)).mono ?_; rintro e w' ⟨rfl, d1, rfl⟩) | (go_at_call 7; refine (grow_call (HW.out _)).mono ?_; rintro e w' ⟨rfl, d2, rfl⟩))
    all_goals (
      go_ret
      refine ⟨congrArg (fun x => Ending.returned (Value.bool x)) ?_, (by repeat (first | exact Below.refl _ _ | assumption | refine below_drewN ?_ _ | refine bel_grow ?_ _ | refine Below.drew ?_ | refine bel_alloc ?_ _ | refine bel_set ?_ (by first | exact Nat.le_refl _ | (simp; done) | (simp; omega) | omega) _ | refine bel_trans ?_ (by assumption)))⟩
      simp only [takesB, HF.out, HT.out]
      simp_all)
    all_goals first | (intros; omega) | (rw [Int.tdiv_eq_ediv_of_nonneg hf])

set_option maxHeartbeats 1000000 in
theorem reftakes_any (a b c d e f s g : Int) (hf : 0 ≤ f) (hg : 0 ≤ g ∧ g < 256) (x : Bool) (hx : refR a b c d e f = x) (w : World) : Calls Try.prog 16 #[.agg #[.int .u64 a, .int .u64 b, .int .u64 c, .int .u64 d, .int .u32 e, .int .u32 f], .int .u64 s, .int .u8 g] w fun r w' => r = .returned (.bool (reftB x c d f s g)) ∧ Below w.heap.size w w' := by
  have HR := Lib.hid hx
  clear hx
  have HW := fun w => refwindow_any a b c d e f hf x HR.out w
  generalize hF : winF x c = F at *
  generalize hT : winT x d = T at *
  have HF := Lib.hid hF
  have HT := Lib.hid hT
  clear hF hT
  replace HW := Lib.hid HW
  cases x
  · go_enter Try.func16, Try.ntmps16
    go_wp2_with (first | (go_at_call 11; refine (grow_call (refr_is hf HR.out _)).mono ?_; rintro e w' ⟨rfl, d1, rfl⟩) | (go_at_call 8; refine (gro (HW.out _)).mono ?_; rintro e w' ⟨rfl, d2, rfl⟩))
    go_ret
    exact ⟨rfl, (by repeat (first | exact Below.refl _ _ | assumption | refine below_drewN ?_ _ | refine bel_grow ?_ _ | refine Below.drew ?_ | refine bel_alloc ?_ _ | refine bel_set ?_ (by first | exact Nat.le_refl _ | (simp; done) | (simp; omega) | omega) _ | refine bel_trans ?_ (by assumption)))⟩
  · go_enter Try.func16, Try.ntmps16
    go_wp2_with (first | (go_at_call 11; refine (grow_call (refr_is hf HR.out _)).mono ?_; rintro e w' ⟨rfl, d1, rfl⟩) | (go_at_call 8; refine (gro (HW.out _)).mono ?_; rintro e w' ⟨rfl, d2, rfl⟩))
    all_goals (
      go_ret
      refine ⟨congrArg (fun x => Ending.returned (Value.bool x)) ?_, (by repeat (first | exact Below.refl _ _ | assumption | refine below_drewN ?_ _ | refine bel_grow ?_ _ | refine Below.drew ?_ | refine bel_alloc ?_ _ | refine bel_set ?_ (by first | exact Nat.le_refl _ | (simp; done) | (simp; omega) | omega) _ | refine bel_trans ?_ (by assumption)))⟩
      simp only [reftB, HF.out, HT.out]
      simp_all)
    all_goals first | (intros; omega) | (rw [Int.tdiv_eq_ediv_of_nonneg hf])
end Go.Proofs.Ytmoflbpglkeikaa
