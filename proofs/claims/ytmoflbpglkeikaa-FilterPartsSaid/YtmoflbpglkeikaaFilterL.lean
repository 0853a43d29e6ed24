/-
  The chapter's examples hold; the walks of the two statements FilterRight and FilterTakes.
-/
import Derived.Test.YtmoflbpglkeikaaFilterP
namespace Go.Proofs.Ytmoflbpglkeikaa
set_option linter.unusedVariables false
set_option linter.unusedSimpArgs false
open Go.RowKit

theorem fx1 : rightB 0 1 5 0 1 1 = true := by decide
theorem fx2 : rightB 0 1 5 4 1 1 = false := by decide

theorem fixed_any (w : World) : Calls Try.prog 9 #[] w fun r w' => r = .returned (.bool true) ∧ Below w.heap.size w w' := by
  go_enter Try.func9, Try.ntmps9
  go_wp2_with fail
  refine (gro (window_any 0 1 5 0 1 1 true fx1 _)).mono ?_
  rintro e w' ⟨rfl, d1, rfl⟩
  go_wp2_with fail
  refine (grow_call (right_is fx1 _)).mono ?_
  rintro e w' ⟨rfl, d2, rfl⟩
  have e1 : winF true 5 = 5 := rfl
  have e2 : winT true 0 = 18446744073709551614 := rfl
  rw [e1, e2]
  clear e1 e2
  go_wp2_with fail
  refine (grow_call (right_is fx2 _)).mono ?_
  rintro e w' ⟨rfl, d3, rfl⟩
  go_wp2
  go_ret
  exact ⟨rfl, (by repeat (first | exact Below.refl _ _ | assumption | refine below_drewN ?_ _ | refine bel_grow ?_ _ | refine Below.drew ?_ | refine bel_alloc ?_ _ | refine bel_set ?_ (by first | exact Nat.le_refl _ | (simp; done) | (simp; omega) | omega) _ | refine bel_trans ?_ (by assumption)))⟩

set_option maxHeartbeats 1000000 in
theorem filterTakes_walk (a b c d e f s g : Int) (hf : 0 ≤ f ∧ f < 4294967296) (hg : 0 ≤ g ∧ g < 256) (w : World) : Calls Try.prog 4 #[.agg #[.int .u64 a, .int .u64 b, .int .u64 c, .int .u64 d, .int .u32 e, .int .u32 f], .int .u64 s, .int .u8 g] w fun r w' => r = .returned (.bool true) ∧ Below w.heap.size w w' := by
  have HT := fun w => takes_any a b c d e f s g hg _ rfl w
  have HU := fun w => reftakes_any a b c d e f s g hf.1 hg _ rfl w
  rw [← right_ref a b c d e f hf.1 hf.2, ← takes_ref _ c d f s g hf.1 hf.2] at HU
  generalize takesB (rightB a b c d e f) c d f s g = x at *
  replace HT := Lib.hid HT
  replace HU := Lib.hid HU
  cases x
  all_goals (
    go_enter Try.func4, Try.ntmps4
    go_wp2
    refine wp_region_grow (by kernel_rfl) (by kernel_rfl) ?_
    repeat (go_big_quiet_step ((first | (go_at_call 9; exact grow_call (fixed_any _)) | (go_at_call 15; exact grow_call (HT.out _)) | (go_at_call 16; exact grow_call (HU.out _)))))
    refine wpQuiet_nil ?_
    intro w1 hb
    go_wp2
    go_ret
    exact ⟨rfl, (by repeat (first | exact Below.refl _ _ | assumption | refine below_drewN ?_ _ | refine bel_grow ?_ _ | refine Below.drew ?_ | refine bel_alloc ?_ _ | refine bel_set ?_ (by first | exact Nat.le_refl _ | (simp; done) | (simp; omega) | omega) _ | refine bel_trans ?_ (by assumption)))⟩)

set_option maxHeartbeats 2000000 in
theorem filterRight_walk (a b c d e f : Int) (he : 0 ≤ e ∧ e < 4294967296) (hf : 0 ≤ f ∧ f < 4294967296) (w : World) : Calls Try.prog 3 #[.agg #[.int .u64 a, .int .u64 b, .int .u64 c, .int .u64 d, .int .u32 e, .int .u32 f]] w fun r w' => r = .returned (.bool true) ∧ Below w.heap.size w w' := by
  have hr := right_ref a b c d e f hf.1 hf.2
  have HW := fun w => window_any a b c d e f _ rfl w
  have HV := fun w => refwindow_any a b c d e f hf.1 _ hr.symm w
  have HR := fun w => right_any a b c d e f w
  have HQ := fun w => refr_any a b c d e f hf.1 w
  have HM := fun w => most_any a b c d e f he _ rfl w
  have HN := fun w => refmost_any a b c d e f hf.1 he _ hr.symm w
  have HD := fun w => down_any a b c d e f _ rfl w
  rw [down_ref _ rfl hf.1 hf.2] at HD
  rw [← hr] at HQ
  clear hr
  generalize rightB a b c d e f = x at *
  generalize winF x c = F at *
  generalize winT x d = T at *
  generalize mostV x e = M at *
  replace HW := Lib.hid HW
  replace HV := Lib.hid HV
  replace HR := Lib.hid HR
  replace HQ := Lib.hid HQ
  replace HM := Lib.hid HM
  replace HN := Lib.hid HN
  replace HD := Lib.hid HD
  cases x
  case false =>
    go_enter Try.func3, Try.ntmps3
    go_wp2_with fail
    refine (gro (HW.out _)).mono ?_
    rintro e w' ⟨rfl, d1, rfl⟩
    go_wp2_with fail
    refine (grow_call (HV.out _)).mono ?_
    rintro e w' ⟨rfl, d1, rfl⟩
    go_wp2_with fail
    refine wp_region_grow (by kernel_rfl) (by kernel_rfl) ?_
    repeat (go_big_quiet_step ((first | (go_at_call 9; exact grow_call (fixed_any _)) | (go_at_call 10; exact grow_call (HR.out _)) | (go_at_call 11; exact grow_call (HQ.out _)) | (go_at_call 12; exact grow_call (HM.out _)) | (go_at_call 13; exact grow_call (HN.out _)) | (go_at_call 14; exact grow_call (HD.out _)))))
    refine wpQuiet_nil ?_
    intro w1 hb
    go_wp2
    go_ret
    exact ⟨rfl, (by repeat (first | exact Below.refl _ _ | assumption | refine below_drewN ?_ _ | refine bel_grow ?_ _ | refine Below.drew ?_ | refine bel_alloc ?_ _ | refine bel_set ?_ (by first | exact Nat.le_refl _ | (simp; done) | (simp; omega) | omega) _ | refine bel_trans ?_ (by assumption)))⟩
  case true =>
    by_cases h4 : 4 ≤ f
    · have h4' : decide (4 ≤ f) = true := by simpa using h4
      go_enter Try.func3, Try.ntmps3
      go_wp2_with fail
      refine (gro (HW.out _)).mono ?_
      rintro e w' ⟨rfl, d1, rfl⟩
      go_wp2_with fail
      refine (grow_call (HV.out _)).mono ?_
      rintro e w' ⟨rfl, d1, rfl⟩
      go_wp2_with fail
      refine wp_region_grow (by kernel_rfl) (by kernel_rfl) ?_
      repeat (go_big_quiet_step ((first | (go_at_call 9; exact grow_call (fixed_any _)) | (go_at_call 10; exact grow_call (HR.out _)) | (go_at_call 11; exact grow_call (HQ.out _)) | (go_at_call 12; exact grow_call (HM.out _)) | (go_at_call 13; exact grow_call (HN.out _)) | (go_at_call 14; exact grow_call (HD.out _)))))
      refine wpQuiet_nil ?_
      intro w1 hb
      go_wp2
      go_ret
      exact ⟨rfl, (by repeat (first | exact Below.refl _ _ | assumption | refine below_drewN ?_ _ | refine bel_grow ?_ _ | refine Below.drew ?_ | refine bel_alloc ?_ _ | refine bel_set ?_ (by first | exact Nat.le_refl _ | (simp; done) | (simp; omega) | omega) _ | refine bel_trans ?_ (by assumption)))⟩
    · have h4' : decide (4 ≤ f) = false := by simpa using h4
      go_enter Try.func3, Try.ntmps3
      go_wp2_with fail
      refine (gro (HW.out _)).mono ?_
      rintro e w' ⟨rfl, d1, rfl⟩
      go_wp2_with fail
      refine (grow_call (HV.out _)).mono ?_
      rintro e w' ⟨rfl, d1, rfl⟩
      go_wp2_with fail
      refine wp_region_grow (by kernel_rfl) (by kernel_rfl) ?_
      repeat (go_big_quiet_step ((first | (go_at_call 9; exact grow_call (fixed_any _)) | (go_at_call 10; exact grow_call (HR.out _)) | (go_at_call 11; exact grow_call (HQ.out _)) | (go_at_call 12; exact grow_call (HM.out _)) | (go_at_call 13; exact grow_call (HN.out _)) | (go_at_call 14; exact grow_call (HD.out _)))))
      refine wpQuiet_nil ?_
      intro w1 hb
      go_wp2
      go_ret
      exact ⟨rfl, (by repeat (first | exact Below.refl _ _ | assumption | refine below_drewN ?_ _ | refine bel_grow ?_ _ | refine Below.drew ?_ | refine bel_alloc ?_ _ | refine bel_set ?_ (by first | exact Nat.le_refl _ | (simp; done) | (simp; omega) | omega) _ | refine bel_trans ?_ (by assumption)))⟩
end Go.Proofs.Ytmoflbpglkeikaa
