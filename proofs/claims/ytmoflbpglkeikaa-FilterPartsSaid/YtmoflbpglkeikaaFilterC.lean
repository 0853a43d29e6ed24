/-
  Whether a filter is right: the document's answer; what else is asked of a filter.
-/
import Derived.Test.YtmoflbpglkeikaaFilterB
import Derived.Test.YtmoflbpglkeikaaRef1
namespace Go.Proofs.Ytmoflbpglkeikaa
set_option linter.unusedVariables false
set_option linter.unusedSimpArgs false
open Go.RowKit

def refR (a b c d e f : Int) : Bool := !(wr1 a b) && !(decide (7 < f) || f % 4 == 0 || wr3 e) && !(wr4 c d) && (d == 0 || decide (c ≤ d))

set_option maxHeartbeats 2000000 in
theorem refr_any (a b c d e f : Int) (hf : 0 ≤ f) (w : World) : Calls Try.prog 11 #[.agg #[.int .u64 a, .int .u64 b, .int .u64 c, .int .u64 d, .int .u32 e, .int .u32 f]] w fun r w' => r = .returned (.bool (refR a b c d e f)) ∧ Below w.heap.size w w' := by
  by_cases h1 : (a == 0) = true
  · by_cases h2 : (b == 0) = true
    · go_enter Try.func11, Try.ntmps11
      go_wp2
      refine wp_region_grow (by kernel_rfl) (by kernel_rfl) ?_
      repeat (go_big_quiet_step (fail))
      refine wpQuiet_nil ?_
      intro w1 hb
      obtain ⟨d1, rfl⟩ : ∃ d1, w1 = Grow _ d1 := ⟨_, grow_of hb⟩
      clear hb
      go_wp2
      all_goals (go_ret; refine ⟨congrArg (fun x => Ending.returned (Value.bool x)) ?_, (by repeat (first | exact Below.refl _ _ | assumption | refine below_drewN ?_ _ | refine bel_grow ?_ _ | refine Below.drew ?_ | refine bel_alloc ?_ _ | refine bel_set ?_ (by first | exact Nat.le_refl _ | (simp; done) | (simp; omega) | omega) _ | refine bel_trans ?_ (by assumption)))⟩; simp only [refR, wr1, wr3, wr4]; simp_all)
    · have h2 : (b == 0) = false := by simpa using h2
      have h4 : (a == 18446744073709551615 && b == 18446744073709551615) = false := by simp at h1; simp [h1]
      go_enter Try.func11, Try.ntmps11
      go_wp2
      refine wp_region_grow (by kernel_rfl) (by kernel_rfl) ?_
      repeat (go_big_quiet_step ((go_at_call 20; exact grow_call (top_any _))))
      refine wpQuiet_nil ?_
      intro w1 hb
      obtain ⟨d1, rfl⟩ : ∃ d1, w1 = Grow _ d1 := ⟨_, grow_of hb⟩
      clear hb
      go_wp2
      all_goals (
        go_ret
        refine ⟨congrArg (fun x => Ending.returned (Value.bool x)) ?_, (by repeat (first | exact Below.refl _ _ | assumption | refine below_drewN ?_ _ | refine bel_grow ?_ _ | refine Below.drew ?_ | refine bel_alloc ?_ _ | refine bel_set ?_ (by first | exact Nat.le_refl _ | (simp; done) | (simp; omega) | omega) _ | refine bel_trans ?_ (by assumption)))⟩
        simp only [refR, wr1, wr3, wr4]
        simp_all
        all_goals omega)
  · have h1 : (a == 0) = false := by simpa using h1
    by_cases h4 : (a == 18446744073709551615 && b == 18446744073709551615) = true
    · go_enter Try.func11, Try.ntmps11
      go_wp2
      refine wp_region_grow (by kernel_rfl) (by kernel_rfl) ?_
      repeat (go_big_quiet_step ((go_at_call 20; exact grow_call (top_any _))))
      refine wpQuiet_nil ?_
      intro w1 hb
      obtain ⟨d1, rfl⟩ : ∃ d1, w1 = Grow _ d1 := ⟨_, grow_of hb⟩
      clear hb
      go_wp2
      all_goals (
        go_ret
        refine ⟨congrArg (fun x => Ending.returned (Value.bool x)) ?_, (by repeat (first | exact Below.refl _ _ | assumption | refine below_drewN ?_ _ | refine bel_grow ?_ _ | refine Below.drew ?_ | refine bel_alloc ?_ _ | refine bel_set ?_ (by first | exact Nat.le_refl _ | (simp; done) | (simp; omega) | omega) _ | refine bel_trans ?_ (by assumption)))⟩
        simp only [refR, wr1, wr3, wr4]
        simp_all
        all_goals omega)
    · have h4 : (a == 18446744073709551615 && b == 18446744073709551615) = false := by simpa using h4
      go_enter Try.func11, Try.ntmps11
      go_wp2
      refine wp_region_grow (by kernel_rfl) (by kernel_rfl) ?_
      repeat (go_big_quiet_step ((go_at_call 20; exact grow_call (top_any _))))
      refine wpQuiet_nil ?_
      intro w1 hb
      obtain ⟨d1, rfl⟩ : ∃ d1, w1 = Grow _ d1 := ⟨_, grow_of hb⟩
      clear hb
      go_wp2
      all_goals (
        go_ret
        refine ⟨congrArg (fun x => Ending.returned (Value.bool x)) ?_, (by repeat (first | exact Below.refl _ _ | assumption | refine below_drewN ?_ _ | refine bel_grow ?_ _ | refine Below.drew ?_ | refine bel_alloc ?_ _ | refine bel_set ?_ (by first | exact Nat.le_refl _ | (simp; done) | (simp; omega) | omega) _ | refine bel_trans ?_ (by assumption)))⟩
        simp only [refR, wr1, wr3, wr4]
        simp_all
        all_goals omega)
end Go.Proofs.Ytmoflbpglkeikaa
