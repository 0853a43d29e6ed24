/-
  What was opened exists, if it is handed in again: the walk of the statement OpeningAgain.
-/
import Derived.Test.YtplhdiomedbhnaaOpenG
namespace Go.Proofs.Ytplhdiomedbhnaa
set_option linter.unusedVariables false
set_option linter.unusedSimpArgs false
open Go.RowKit

theorem again_is {ai1 ai2 ap1 ap2 aq1 aq2 ar1 ar2 as1 as2 atg alg acd afl ast oi1 oi2 op1 op2 oq1 oq2 or1 or2 os1 os2 otg olg ocd ofl ost k1 k2 k3 k4 k5 k6 k7 k8 k9 k10 k11 : Int} (hst : 0 ≤ ast) (hfl : 0 ≤ afl ∧ afl < 65536) (hofl : 0 ≤ ofl ∧ ofl < 65536) (h : chkV false ai1 ai2 ap1 ap2 aq1 aq2 ar1 ar2 as1 as2 atg alg acd afl ast oi1 oi2 op1 op2 oq1 oq2 or1 or2 os1 os2 otg olg ocd ofl ost = 0) {g : Int} (hg : g = afl ∨ g = bits .or .u16 afl 16) :
    chkV true ai1 ai2 ap1 ap2 aq1 aq2 ar1 ar2 as1 as2 atg alg acd afl ast k1 k2 k3 k4 k5 k6 k7 k8 k9 k10 atg alg acd g k11 = 16 := by
  rw [chk_ref false ai1 ai2 ap1 ap2 aq1 aq2 ar1 ar2 as1 as2 atg alg acd afl ast oi1 oi2 op1 op2 oq1 oq2 or1 or2 os1 os2 otg olg ocd ofl ost hst hfl hofl] at h
  have hb : 0 ≤ g ∧ g < 65536 ∧ (afl < 16 → (if (g / 16 % 2 == 1) = true then (g - 16) % 65536 else g) = afl) := by
    rcases hg with rfl | rfl
    · refine ⟨hfl.1, hfl.2, fun h => ?_⟩
      rw [if_neg (by simp; omega)]
    · rw [u16_or16 afl hfl.1 hfl.2]
      refine ⟨by omega, by omega, fun h => ?_⟩
      split
      · omega
      · rename_i h'; simp at h'; omega
  rw [chk_ref true ai1 ai2 ap1 ap2 aq1 aq2 ar1 ar2 as1 as2 atg alg acd afl ast k1 k2 k3 k4 k5 k6 k7 k8 k9 k10 atg alg acd g k11 hst hfl ⟨hb.1, hb.2.1⟩]
  unfold refV at h ⊢
  by_cases n1 : 0 < ast
  · rw [if_pos n1] at h; cases h
  rw [if_neg n1] at h ⊢
  by_cases n2 : 15 < afl
  · rw [if_pos n2] at h; cases h
  rw [if_neg n2] at h ⊢
  by_cases n3 : (ai1 == 0 && ai2 == 0) = true
  · rw [if_pos n3] at h; cases h
  rw [if_neg n3] at h ⊢
  by_cases n4 : (ai1 == 18446744073709551615 && ai2 == 18446744073709551615) = true
  · rw [if_pos n4] at h; cases h
  rw [if_neg n4] at h ⊢
  simp only [if_true, ref2V]
  rw [hb.2.2 (by omega)]
  simp

set_option maxHeartbeats 4000000 in
theorem openingAgain_walk (ai1 ai2 ap1 ap2 aq1 aq2 ar1 ar2 as1 as2 atg alg acd afl ast oi1 oi2 op1 op2 oq1 oq2 or1 or2 os1 os2 otg olg ocd ofl ost ts : Int) (tc : Bool) (hst : 0 ≤ ast) (hfl : 0 ≤ afl ∧ afl < 65536) (hofl : 0 ≤ ofl ∧ ofl < 65536) (w : World) :
    Calls Try.prog 6 #[.agg #[.int .u64 ai1, .int .u64 ai2, .int .u64 ap1, .int .u64 ap2, .int .u64 aq1, .int .u64 aq2, .int .u64 ar1, .int .u64 ar2, .int .u64 as1, .int .u64 as2, .int .u64 atg, .int .u32 alg, .int .u16 acd, .int .u16 afl, .int .u64 ast], .agg #[.int .u64 oi1, .int .u64 oi2, .int .u64 op1, .int .u64 op2, .int .u64 oq1, .int .u64 oq2, .int .u64 or1, .int .u64 or2, .int .u64 os1, .int .u64 os2, .int .u64 otg, .int .u32 olg, .int .u16 ocd, .int .u16 ofl, .int .u64 ost], .agg #[.int .u64 ts, .bool tc]] w fun r w' => r = .returned (.bool true) ∧ Below w.heap.size w w' := by
  have H1 : ∀ w, Calls Try.prog 7 #[.agg #[.int .u64 ai1, .int .u64 ai2, .int .u64 ap1, .int .u64 ap2, .int .u64 aq1, .int .u64 aq2, .int .u64 ar1, .int .u64 ar2, .int .u64 as1, .int .u64 as2, .int .u64 atg, .int .u32 alg, .int .u16 acd, .int .u16 afl, .int .u64 ast], .agg #[.int .u64 oi1, .int .u64 oi2, .int .u64 op1, .int .u64 op2, .int .u64 oq1, .int .u64 oq2, .int .u64 or1, .int .u64 or2, .int .u64 os1, .int .u64 os2, .int .u64 otg, .int .u32 olg, .int .u16 ocd, .int .u16 ofl, .int .u64 ost], .bool false] w fun r w' => r = .returned (.int .u32 (chkV false ai1 ai2 ap1 ap2 aq1 aq2 ar1 ar2 as1 as2 atg alg acd afl ast oi1 oi2 op1 op2 oq1 oq2 or1 or2 os1 os2 otg olg ocd ofl ost)) ∧ Below w.heap.size w w' := fun w => check_any ai1 ai2 ap1 ap2 aq1 aq2 ar1 ar2 as1 as2 atg alg acd afl ast oi1 oi2 op1 op2 oq1 oq2 or1 or2 os1 os2 otg olg ocd ofl ost false w
  have HO := Lib.hid (fun w => opened_any ai1 ai2 ap1 ap2 aq1 aq2 ar1 ar2 as1 as2 atg alg acd afl ast ts w)
  have H2 : chkV false ai1 ai2 ap1 ap2 aq1 aq2 ar1 ar2 as1 as2 atg alg acd afl ast oi1 oi2 op1 op2 oq1 oq2 or1 or2 os1 os2 otg olg ocd ofl ost = 0 → ∀ w, Calls Try.prog 7 #[.agg #[.int .u64 ai1, .int .u64 ai2, .int .u64 ap1, .int .u64 ap2, .int .u64 aq1, .int .u64 aq2, .int .u64 ar1, .int .u64 ar2, .int .u64 as1, .int .u64 as2, .int .u64 atg, .int .u32 alg, .int .u16 acd, .int .u16 afl, .int .u64 ast], .agg #[.int .u64 ai1, .int .u64 ai2, .int .u64 op1, .int .u64 op2, .int .u64 oq1, .int .u64 oq2, .int .u64 or1, .int .u64 or2, .int .u64 os1, .int .u64 os2, .int .u64 atg, .int .u32 alg, .int .u16 acd, .int .u16 afl, .int .u64 ts], .bool true] w fun r w' => r = .returned (.int .u32 16) ∧ Below w.heap.size w w' := fun h w => chk_is (again_is hst hfl hofl h (Or.inl rfl)) w
  have H3 : chkV false ai1 ai2 ap1 ap2 aq1 aq2 ar1 ar2 as1 as2 atg alg acd afl ast oi1 oi2 op1 op2 oq1 oq2 or1 or2 os1 os2 otg olg ocd ofl ost = 0 → ∀ w, Calls Try.prog 7 #[.agg #[.int .u64 ai1, .int .u64 ai2, .int .u64 ap1, .int .u64 ap2, .int .u64 aq1, .int .u64 aq2, .int .u64 ar1, .int .u64 ar2, .int .u64 as1, .int .u64 as2, .int .u64 atg, .int .u32 alg, .int .u16 acd, .int .u16 afl, .int .u64 ast], .agg #[.int .u64 ai1, .int .u64 ai2, .int .u64 op1, .int .u64 op2, .int .u64 oq1, .int .u64 oq2, .int .u64 or1, .int .u64 or2, .int .u64 os1, .int .u64 os2, .int .u64 atg, .int .u32 alg, .int .u16 acd, .int .u16 (bits .or .u16 afl 16), .int .u64 ts], .bool true] w fun r w' => r = .returned (.int .u32 16) ∧ Below w.heap.size w w' := fun h w => chk_is (again_is hst hfl hofl h (Or.inr rfl)) w
  generalize chkV false ai1 ai2 ap1 ap2 aq1 aq2 ar1 ar2 as1 as2 atg alg acd afl ast oi1 oi2 op1 op2 oq1 oq2 or1 or2 os1 os2 otg olg ocd ofl ost = V at *
  replace H1 := Lib.hid H1
  clear hst hofl
  by_cases hV : V = 0
  · replace H2 := Lib.hid (H2 hV)
    replace H3 := Lib.hid (H3 hV)
    subst hV
    cases tc
    all_goals (
      go_enter Try.func6, Try.ntmps6
      go_wp2_with (first | (go_at_call 7; refine (gro (H1.out _)).mono ?_; rintro e w' ⟨rfl, d1, rfl⟩) | (go_at_call 10; refine (grow_call (HO.out _)).mono ?_; rintro e w' ⟨rfl, d1, rfl⟩))
      go_region
      go_wp2_with (first | (go_at_call 9; refine (gro (fixed17_any _)).mono ?_; rintro e w' ⟨rfl, d3, rfl⟩) | (go_at_call 7; first | ((with_reducible refine (grow_call (H2.out _)).mono ?_); rintro e w' ⟨rfl, d1, rfl⟩) | ((with_reducible refine (grow_call (H3.out _)).mono ?_); rintro e w' ⟨rfl, d1, rfl⟩)))
      go_ret
      exact ⟨rfl, (by repeat (first | exact Below.refl _ _ | assumption | refine below_drewN ?_ _ | refine bel_grow ?_ _ | refine Below.drew ?_ | refine bel_alloc ?_ _ | refine bel_set ?_ (by first | exact Nat.le_refl _ | (simp; done) | (simp; omega) | omega) _ | refine bel_trans ?_ (by assumption)))⟩)
  · have hV : (V != 0) = true := by simpa using hV
    clear H2 H3
    go_enter Try.func6, Try.ntmps6
    go_wp2_with (first | (go_at_call 7; refine (gro (H1.out _)).mono ?_; rintro e w' ⟨rfl, d1, rfl⟩) | (go_at_call 9; refine (grow_call (fixed17_any _)).mono ?_; rintro e w' ⟨rfl, d3, rfl⟩))
    go_ret
    exact ⟨rfl, (by repeat (first | exact Below.refl _ _ | assumption | refine below_drewN ?_ _ | refine bel_grow ?_ _ | refine Below.drew ?_ | refine bel_alloc ?_ _ | refine bel_set ?_ (by first | exact Nat.le_refl _ | (simp; done) | (simp; omega) | omega) _ | refine bel_trans ?_ (by assumption)))⟩
end Go.Proofs.Ytplhdiomedbhnaa
