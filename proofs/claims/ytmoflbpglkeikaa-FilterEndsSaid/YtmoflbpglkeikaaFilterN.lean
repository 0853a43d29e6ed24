/-
  The walk of the statement FilterEnds.
-/
import Derived.Test.YtmoflbpglkeikaaFilterM
namespace Go.Proofs.Ytmoflbpglkeikaa
set_option linter.unusedVariables false
set_option linter.unusedSimpArgs false
open Go.RowKit

set_option maxHeartbeats 4000000 in
theorem filterEnds_walk (a b c d e f s l : Int) (hc : 0 ≤ c ∧ c < 18446744073709551616) (he : 0 ≤ e ∧ e < 4294967296) (hf : 0 ≤ f ∧ f < 4294967296) (hl : 0 ≤ l ∧ l < 4294967296) (w : World) : Calls Try.prog 6 #[.agg #[.int .u64 a, .int .u64 b, .int .u64 c, .int .u64 d, .int .u32 e, .int .u32 f], .int .u64 s, .int .u32 l] w fun r w' => r = .returned (.bool true) ∧ Below w.heap.size w w' := by
  have HR : ∀ w, Calls Try.prog 10 #[.agg #[.int .u64 a, .int .u64 b, .int .u64 c, .int .u64 0, .int .u32 e, .int .u32 f]] w fun r w' => r = .returned (.bool (rightB a b c 0 e f)) ∧ Below w.heap.size w w' := fun w => right_any a b c 0 e f w
  have HRG : ∀ w, Calls Try.prog 10 #[.agg #[.int .u64 a, .int .u64 b, .int .u64 c, .int .u64 18446744073709551614, .int .u32 e, .int .u32 f]] w fun r w' => r = .returned (.bool (rightB a b c 0 e f)) ∧ Below w.heap.size w w' := fun w => right_end a b c e f hc ▸ right_any a b c 18446744073709551614 e f w
  have HW : ∀ w, Calls Try.prog 7 #[.agg #[.int .u64 a, .int .u64 b, .int .u64 c, .int .u64 0, .int .u32 e, .int .u32 f]] w fun r w' => r = .returned (.tuple #[.int .u64 (winF (rightB a b c 0 e f) c), .int .u64 (winT (rightB a b c 0 e f) 0)]) ∧ Below w.heap.size w w' := fun w => window_any a b c 0 e f _ rfl w
  have HWG : ∀ w, Calls Try.prog 7 #[.agg #[.int .u64 a, .int .u64 b, .int .u64 c, .int .u64 18446744073709551614, .int .u32 e, .int .u32 f]] w fun r w' => r = .returned (.tuple #[.int .u64 (winF (rightB a b c 0 e f) c), .int .u64 (winT (rightB a b c 0 e f) 0)]) ∧ Below w.heap.size w w' := fun w => winT_end (rightB a b c 0 e f) ▸ window_any a b c 18446744073709551614 e f _ (right_end a b c e f hc) w
  have HM : ∀ w, Calls Try.prog 12 #[.agg #[.int .u64 a, .int .u64 b, .int .u64 c, .int .u64 0, .int .u32 e, .int .u32 f]] w fun r w' => r = .returned (.int .i64 (mostV (rightB a b c 0 e f) e)) ∧ Below w.heap.size w w' := fun w => most_any a b c 0 e f he _ rfl w
  have HMG : ∀ w, Calls Try.prog 12 #[.agg #[.int .u64 a, .int .u64 b, .int .u64 c, .int .u64 18446744073709551614, .int .u32 e, .int .u32 f]] w fun r w' => r = .returned (.int .i64 (mostV (rightB a b c 0 e f) e)) ∧ Below w.heap.size w w' := fun w => most_any a b c 18446744073709551614 e f he _ (right_end a b c e f hc) w
  have HT : ∀ g w, 0 ≤ g ∧ g < 256 → Calls Try.prog 15 #[.agg #[.int .u64 a, .int .u64 b, .int .u64 c, .int .u64 0, .int .u32 e, .int .u32 f], .int .u64 s, .int .u8 g] w fun r w' => r = .returned (.bool (takesB (rightB a b c 0 e f) c 0 f s g)) ∧ Below w.heap.size w w' := fun g w hg => takes_any a b c 0 e f s g hg _ rfl w
  have HTG : ∀ g w, 0 ≤ g ∧ g < 256 → Calls Try.prog 15 #[.agg #[.int .u64 a, .int .u64 b, .int .u64 c, .int .u64 18446744073709551614, .int .u32 e, .int .u32 f], .int .u64 s, .int .u8 g] w fun r w' => r = .returned (.bool (takesB (rightB a b c 0 e f) c 0 f s g)) ∧ Below w.heap.size w w' := fun g w hg => takes_end (rightB a b c 0 e f) c f s g ▸ takes_any a b c 18446744073709551614 e f s g hg _ (right_end a b c e f hc) w
  have HTH : rightB a b c 0 e f = true → ∀ g w, 0 ≤ g ∧ g < 256 → Calls Try.prog 15 #[.agg #[.int .u64 a, .int .u64 b, .int .u64 c, .int .u64 0, .int .u32 (1 + l / 2), .int .u32 (bits .xor .u32 f 4)], .int .u64 s, .int .u8 g] w fun r w' => r = .returned (.bool (takesB true c 0 f s g)) ∧ Below w.heap.size w w' := fun h g w hg => takes_other (s := s) (g := g) hf.1 hf.2 h ▸ takes_any a b c 0 (1 + l / 2) _ s g hg _ (right_other hf.1 hf.2 hl h) w
  have HD : ∀ w, Calls Try.prog 14 #[.agg #[.int .u64 a, .int .u64 b, .int .u64 c, .int .u64 0, .int .u32 e, .int .u32 f]] w fun r w' => r = .returned (.bool (downB (rightB a b c 0 e f) f)) ∧ Below w.heap.size w w' := fun w => down_any a b c 0 e f _ rfl w
  have HDH : rightB a b c 0 e f = true → ∀ w, Calls Try.prog 14 #[.agg #[.int .u64 a, .int .u64 b, .int .u64 c, .int .u64 0, .int .u32 (1 + l / 2), .int .u32 (bits .xor .u32 f 4)]] w fun r w' => r = .returned (.bool (!downB true f)) ∧ Below w.heap.size w w' := fun h w => down_other hf.1 hf.2 h ▸ down_any a b c 0 (1 + l / 2) _ _ (right_other hf.1 hf.2 hl h) w
  clear hc he
  generalize hx : rightB a b c 0 e f = x at *
  have HX := Lib.hid hx
  clear hx
  generalize winF x c = F at *
  generalize winT x 0 = T at *
  generalize mostV x e = M at *
  generalize hY : (fun g => takesB x c 0 f s g) = Y at *
  replace HT : ∀ g w, 0 ≤ g ∧ g < 256 → Calls Try.prog 15 #[.agg #[.int .u64 a, .int .u64 b, .int .u64 c, .int .u64 0, .int .u32 e, .int .u32 f], .int .u64 s, .int .u8 g] w fun r w' => r = .returned (.bool (Y g)) ∧ Below w.heap.size w w' := by subst hY; exact HT
  replace HTG : ∀ g w, 0 ≤ g ∧ g < 256 → Calls Try.prog 15 #[.agg #[.int .u64 a, .int .u64 b, .int .u64 c, .int .u64 18446744073709551614, .int .u32 e, .int .u32 f], .int .u64 s, .int .u8 g] w fun r w' => r = .returned (.bool (Y g)) ∧ Below w.heap.size w w' := by subst hY; exact HTG
  replace HTH : x = true → ∀ g w, 0 ≤ g ∧ g < 256 → Calls Try.prog 15 #[.agg #[.int .u64 a, .int .u64 b, .int .u64 c, .int .u64 0, .int .u32 (1 + l / 2), .int .u32 (bits .xor .u32 f 4)], .int .u64 s, .int .u8 g] w fun r w' => r = .returned (.bool (Y g)) ∧ Below w.heap.size w w' := by intro h; subst hY; subst h; exact HTH rfl
  clear hY HX
  generalize hy : downB x f = y at *
  replace HDH : x = true → ∀ w, Calls Try.prog 14 #[.agg #[.int .u64 a, .int .u64 b, .int .u64 c, .int .u64 0, .int .u32 (1 + l / 2), .int .u32 (bits .xor .u32 f 4)]] w fun r w' => r = .returned (.bool (!y)) ∧ Below w.heap.size w w' := by intro h; subst hy; subst h; exact HDH rfl
  clear hy
  replace HR := Lib.hid HR
  replace HRG := Lib.hid HRG
  replace HW := Lib.hid HW
  replace HWG := Lib.hid HWG
  replace HM := Lib.hid HM
  replace HMG := Lib.hid HMG
  replace HT := Lib.hid HT
  replace HTG := Lib.hid HTG
  replace HTH := Lib.hid HTH
  replace HD := Lib.hid HD
  replace HDH := Lib.hid HDH
  cases x
  · skip
    go_enter Try.func6, Try.ntmps6
    go_wp2_with fail
    refine (gro (HW.out _)).mono ?_
    rintro e w' ⟨rfl, d1, rfl⟩
    go_wp2_with fail
    refine (grow_call (HWG.out _)).mono ?_
    rintro e w' ⟨rfl, d1, rfl⟩
    go_wp2_with fail
    first | (with_reducible refine rgrow2 (by kernel_rfl) (by kernel_rfl) ?_) | (refine rgrow (by kernel_rfl) (by kernel_rfl) ?_)
    repeat (go_big_quiet_step ((first | (go_at_call 10; first | (with_reducible exact grow_call (HR.out _)) | (with_reducible exact grow_call (HRG.out _))) | (go_at_call 12; first | (with_reducible exact grow_call (HM.out _)) | (with_reducible exact grow_call (HMG.out _))))))
    refine wpQuiet_nil ?_
    intro dr
    go_wp2_with fail
    go_region
    go_wp2_with fail
    refine wp_loop_rounds 5 ?_
    rw [rounds_succ]
    go_wp2_with fail
    first | (with_reducible refine rgrow2 (by kernel_rfl) (by kernel_rfl) ?_) | (refine rgrow (by kernel_rfl) (by kernel_rfl) ?_)
    repeat (go_big_quiet_step ((first | (go_at_call 10; first | (with_reducible exact grow_call (HR.out _))) | (go_at_call 15; first | (with_reducible exact grow_call (HT.out _ _ (by omega))) | (with_reducible exact grow_call (HTG.out _ _ (by omega)))))))
    refine wpQuiet_nil ?_
    intro dr
    go_wp2_with fail
    rw [rounds_succ]
    go_wp2_with fail
    first | (with_reducible refine rgrow2 (by kernel_rfl) (by kernel_rfl) ?_) | (refine rgrow (by kernel_rfl) (by kernel_rfl) ?_)
    repeat (go_big_quiet_step ((first | (go_at_call 10; first | (with_reducible exact grow_call (HR.out _))) | (go_at_call 15; first | (with_reducible exact grow_call (HT.out _ _ (by omega))) | (with_reducible exact grow_call (HTG.out _ _ (by omega)))))))
    refine wpQuiet_nil ?_
    intro dr
    go_wp2_with fail
    rw [rounds_succ]
    go_wp2_with fail
    first | (with_reducible refine rgrow2 (by kernel_rfl) (by kernel_rfl) ?_) | (refine rgrow (by kernel_rfl) (by kernel_rfl) ?_)
    repeat (go_big_quiet_step ((first | (go_at_call 10; first | (with_reducible exact grow_call (HR.out _))) | (go_at_call 15; first | (with_reducible exact grow_call (HT.out _ _ (by omega))) | (with_reducible exact grow_call (HTG.out _ _ (by omega)))))))
    refine wpQuiet_nil ?_
    intro dr
    go_wp2_with fail
    rw [rounds_succ]
    go_wp2_with fail
    first | (with_reducible refine rgrow2 (by kernel_rfl) (by kernel_rfl) ?_) | (refine rgrow (by kernel_rfl) (by kernel_rfl) ?_)
    repeat (go_big_quiet_step ((first | (go_at_call 10; first | (with_reducible exact grow_call (HR.out _))) | (go_at_call 15; first | (with_reducible exact grow_call (HT.out _ _ (by omega))) | (with_reducible exact grow_call (HTG.out _ _ (by omega)))))))
    refine wpQuiet_nil ?_
    intro dr
    go_wp2_with fail
    rw [rounds_succ]
    go_wp2_with fail
    first | (with_reducible refine rgrow2 (by kernel_rfl) (by kernel_rfl) ?_) | (refine rgrow (by kernel_rfl) (by kernel_rfl) ?_)
    repeat (go_big_quiet_step ((first | (go_at_call 10; first | (with_reducible exact grow_call (HR.out _))) | (go_at_call 9; exact grow_call (fixed_any _)) | (go_at_call 14; first | (with_reducible exact grow_call (HD.out _))))))
    refine wpQuiet_nil ?_
    intro dr
    go_wp2
    go_ret
    exact ⟨rfl, (by repeat (first | exact Below.refl _ _ | assumption | refine below_drewN ?_ _ | refine bel_grow ?_ _ | refine Below.drew ?_ | refine bel_alloc ?_ _ | refine bel_set ?_ (by first | exact Nat.le_refl _ | (simp; done) | (simp; omega) | omega) _ | refine bel_trans ?_ (by assumption)))⟩
  · replace HTH := Lib.hid (HTH.out rfl)
    replace HDH := Lib.hid (HDH.out rfl)
    go_enter Try.func6, Try.ntmps6
    go_wp2_with fail
    refine (gro (HW.out _)).mono ?_
    rintro e w' ⟨rfl, d1, rfl⟩
    go_wp2_with fail
    refine (grow_call (HWG.out _)).mono ?_
    rintro e w' ⟨rfl, d1, rfl⟩
    go_wp2_with fail
    first | (with_reducible refine rgrow2 (by kernel_rfl) (by kernel_rfl) ?_) | (refine rgrow (by kernel_rfl) (by kernel_rfl) ?_)
    repeat (go_big_quiet_step ((first | (go_at_call 10; first | (with_reducible exact grow_call (HR.out _)) | (with_reducible exact grow_call (HRG.out _))) | (go_at_call 12; first | (with_reducible exact grow_call (HM.out _)) | (with_reducible exact grow_call (HMG.out _))))))
    refine wpQuiet_nil ?_
    intro dr
    go_wp2_with fail
    go_region
    go_wp2_with fail
    refine wp_loop_rounds 5 ?_
    rw [rounds_succ]
    go_wp2_with fail
    first | (with_reducible refine rgrow2 (by kernel_rfl) (by kernel_rfl) ?_) | (refine rgrow (by kernel_rfl) (by kernel_rfl) ?_)
    repeat (go_big_quiet_step ((first | (go_at_call 10; first | (with_reducible exact grow_call (HR.out _))) | (go_at_call 15; first | (with_reducible exact grow_call (HT.out _ _ (by omega))) | (with_reducible exact grow_call (HTG.out _ _ (by omega))) | (with_reducible exact grow_call (HTH.out _ _ (by omega)))))))
    refine wpQuiet_nil ?_
    intro dr
    go_wp2_with fail
    rw [rounds_succ]
    go_wp2_with fail
    first | (with_reducible refine rgrow2 (by kernel_rfl) (by kernel_rfl) ?_) | (refine rgrow (by kernel_rfl) (by kernel_rfl) ?_)
    repeat (go_big_quiet_step ((first | (go_at_call 10; first | (with_reducible exact grow_call (HR.out _))) | (go_at_call 15; first | (with_reducible exact grow_call (HT.out _ _ (by omega))) | (with_reducible exact grow_call (HTG.out _ _ (by omega))) | (with_reducible exact grow_call (HTH.out _ _ (by omega)))))))
    refine wpQuiet_nil ?_
    intro dr
    go_wp2_with fail
    rw [rounds_succ]
    go_wp2_with fail
    first | (with_reducible refine rgrow2 (by kernel_rfl) (by kernel_rfl) ?_) | (refine rgrow (by kernel_rfl) (by kernel_rfl) ?_)
    repeat (go_big_quiet_step ((first | (go_at_call 10; first | (with_reducible exact grow_call (HR.out _))) | (go_at_call 15; first | (with_reducible exact grow_call (HT.out _ _ (by omega))) | (with_reducible exact grow_call (HTG.out _ _ (by omega))) | (with_reducible exact grow_call (HTH.out _ _ (by omega)))))))
    refine wpQuiet_nil ?_
    intro dr
    go_wp2_with fail
    rw [rounds_succ]
    go_wp2_with fail
    first | (with_reducible refine rgrow2 (by kernel_rfl) (by kernel_rfl) ?_) | (refine rgrow (by kernel_rfl) (by kernel_rfl) ?_)
    repeat (go_big_quiet_step ((first | (go_at_call 10; first | (with_reducible exact grow_call (HR.out _))) | (go_at_call 15; first | (with_reducible exact grow_call (HT.out _ _ (by omega))) | (with_reducible exact grow_call (HTG.out _ _ (by omega))) | (with_reducible exact grow_call (HTH.out _ _ (by omega)))))))
    refine wpQuiet_nil ?_
    intro dr
    go_wp2_with fail
    rw [rounds_succ]
    go_wp2_with fail
    first | (with_reducible refine rgrow2 (by kernel_rfl) (by kernel_rfl) ?_) | (refine rgrow (by kernel_rfl) (by kernel_rfl) ?_)
    repeat (go_big_quiet_step ((first | (go_at_call 10; first | (with_reducible exact grow_call (HR.out _))) | (go_at_call 9; exact grow_call (fixed_any _)) | (go_at_call 14; first | (with_reducible exact grow_call (HD.out _)) | (with_reducible exact grow_call (HDH.out _))))))
    refine wpQuiet_nil ?_
    intro dr
    go_wp2
    go_ret
    exact ⟨rfl, (by repeat (first | exact Below.refl _ _ | assumption | refine below_drewN ?_ _ | refine bel_grow ?_ _ | refine Below.drew ?_ | refine bel_alloc ?_ _ | refine bel_set ?_ (by first | exact Nat.le_refl _ | (simp; done) | (simp; omega) | omega) _ | refine bel_trans ?_ (by assumption)))⟩
end Go.Proofs.Ytmoflbpglkeikaa
