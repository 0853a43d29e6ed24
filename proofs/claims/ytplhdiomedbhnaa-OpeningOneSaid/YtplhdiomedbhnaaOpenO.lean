/-
  Of an account that is there one that is unlike in one thing is refused for just that: the walk of the statement OpeningOne.
-/
import Derived.Test.YtplhdiomedbhnaaOpenG
namespace Go.Proofs.Ytplhdiomedbhnaa
set_option linter.unusedVariables false
set_option linter.unusedSimpArgs false
open Go.RowKit

theorem xor16 : ∀ a : Fin 16, ∀ b : Fin 16, a.val ^^^ b.val < 16 ∧ (b.val ≠ 0 → a.val ^^^ b.val ≠ a.val) := by decide +kernel
theorem good_flags {ai1 ai2 ap1 ap2 aq1 aq2 ar1 ar2 as1 as2 atg alg acd afl ast oi1 oi2 op1 op2 oq1 oq2 or1 or2 os1 os2 otg olg ocd ofl ost : Int} (hst : 0 ≤ ast) (hfl : 0 ≤ afl ∧ afl < 65536) (hofl : 0 ≤ ofl ∧ ofl < 65536) (h : chkV false ai1 ai2 ap1 ap2 aq1 aq2 ar1 ar2 as1 as2 atg alg acd afl ast oi1 oi2 op1 op2 oq1 oq2 or1 or2 os1 os2 otg olg ocd ofl ost = 0) :
    ¬ 0 < ast ∧ afl < 16 ∧ ¬ (ai1 == 0 && ai2 == 0) = true ∧ ¬ (ai1 == 18446744073709551615 && ai2 == 18446744073709551615) = true := by
  rw [chk_ref false ai1 ai2 ap1 ap2 aq1 aq2 ar1 ar2 as1 as2 atg alg acd afl ast oi1 oi2 op1 op2 oq1 oq2 or1 or2 os1 os2 otg olg ocd ofl ost hst hfl hofl] at h
  unfold refV at h
  by_cases n1 : 0 < ast
  · rw [if_pos n1] at h; cases h
  rw [if_neg n1] at h
  by_cases n2 : 15 < afl
  · rw [if_pos n2] at h; cases h
  rw [if_neg n2] at h
  by_cases n3 : (ai1 == 0 && ai2 == 0) = true
  · rw [if_pos n3] at h; cases h
  rw [if_neg n3] at h
  by_cases n4 : (ai1 == 18446744073709551615 && ai2 == 18446744073709551615) = true
  · rw [if_pos n4] at h; cases h
  exact ⟨n1, by omega, n3, n4⟩
/-- the verdict of one that is there, of the same flags below 16 -/
theorem one_is {ai1 ai2 ap1 ap2 aq1 aq2 ar1 ar2 as1 as2 btg blg bcd bfl ast k1 k2 k3 k4 k5 k6 k7 k8 k9 k10 atg alg acd afl k11 : Int} (n1 : ¬ 0 < ast) (hf : 0 ≤ afl ∧ afl < 16) (hb : 0 ≤ bfl ∧ bfl < 16) (n0 : 0 ≤ ast)
    (n3 : ¬ (ai1 == 0 && ai2 == 0) = true) (n4 : ¬ (ai1 == 18446744073709551615 && ai2 == 18446744073709551615) = true) :
    chkV true ai1 ai2 ap1 ap2 aq1 aq2 ar1 ar2 as1 as2 btg blg bcd bfl ast k1 k2 k3 k4 k5 k6 k7 k8 k9 k10 atg alg acd afl k11 = if bfl ≠ afl then 7 else if btg ≠ atg then 13 else if blg ≠ alg then 14 else if bcd ≠ acd then 15 else 16 := by
  rw [chk_ref true _ _ _ _ _ _ _ _ _ _ _ _ _ _ _ _ _ _ _ _ _ _ _ _ _ _ _ _ _ _ n0 ⟨hb.1, by omega⟩ ⟨hf.1, by omega⟩]
  unfold refV
  rw [if_neg n1, if_neg (by omega), if_neg n3, if_neg n4]
  simp only [if_true, ref2V]
  have e : (if (afl / 16 % 2 == 1) = true then (afl - 16) % 65536 else afl) = afl := by rw [if_neg (by simp; omega)]
  rw [e]

set_option maxHeartbeats 8000000 in
theorem openingOne_walk (ai1 ai2 ap1 ap2 aq1 aq2 ar1 ar2 as1 as2 atg alg acd afl ast by_ : Int) (hst : 0 ≤ ast) (hfl : 0 ≤ afl ∧ afl < 65536) (htg : 0 ≤ atg ∧ atg < 18446744073709551616) (hlg : 0 ≤ alg ∧ alg < 4294967296) (hcd : 0 ≤ acd ∧ acd < 65536) (hby : 0 ≤ by_ ∧ by_ < 65536) (w : World) :
    Calls Try.prog 4 #[.agg #[.int .u64 ai1, .int .u64 ai2, .int .u64 ap1, .int .u64 ap2, .int .u64 aq1, .int .u64 aq2, .int .u64 ar1, .int .u64 ar2, .int .u64 as1, .int .u64 as2, .int .u64 atg, .int .u32 alg, .int .u16 acd, .int .u16 afl, .int .u64 ast], .int .u16 by_] w fun r w' => r = .returned (.bool true) ∧ Below w.heap.size w w' := by
  have H1 : ∀ w, Calls Try.prog 7 #[.agg #[.int .u64 ai1, .int .u64 ai2, .int .u64 ap1, .int .u64 ap2, .int .u64 aq1, .int .u64 aq2, .int .u64 ar1, .int .u64 ar2, .int .u64 as1, .int .u64 as2, .int .u64 atg, .int .u32 alg, .int .u16 acd, .int .u16 afl, .int .u64 ast], .agg #[.int .u64 0, .int .u64 0, .int .u64 0, .int .u64 0, .int .u64 0, .int .u64 0, .int .u64 0, .int .u64 0, .int .u64 0, .int .u64 0, .int .u64 0, .int .u32 0, .int .u16 0, .int .u16 0, .int .u64 0], .bool false] w fun r w' => r = .returned (.int .u32 (chkV false ai1 ai2 ap1 ap2 aq1 aq2 ar1 ar2 as1 as2 atg alg acd afl ast 0 0 0 0 0 0 0 0 0 0 0 0 0 0 0)) ∧ Below w.heap.size w w' := fun w => check_any ai1 ai2 ap1 ap2 aq1 aq2 ar1 ar2 as1 as2 atg alg acd afl ast 0 0 0 0 0 0 0 0 0 0 0 0 0 0 0 false w
  have HG := fun h => good_flags (ai1 := ai1) (ai2 := ai2) (ap1 := ap1) (ap2 := ap2) (aq1 := aq1) (aq2 := aq2) (ar1 := ar1) (ar2 := ar2) (as1 := as1) (as2 := as2) (atg := atg) (alg := alg) (acd := acd) (afl := afl) (ast := ast) (oi1 := 0) (oi2 := 0) (op1 := 0) (op2 := 0) (oq1 := 0) (oq2 := 0) (or1 := 0) (or2 := 0) (os1 := 0) (os2 := 0) (otg := 0) (olg := 0) (ocd := 0) (ofl := 0) (ost := 0) hst hfl (by omega) h
  generalize chkV false ai1 ai2 ap1 ap2 aq1 aq2 ar1 ar2 as1 as2 atg alg acd afl ast 0 0 0 0 0 0 0 0 0 0 0 0 0 0 0 = V at *
  replace H1 := Lib.hid H1
  by_cases hV : V = 0
  · obtain ⟨n1, hf, n3, n4⟩ := HG hV
    clear HG
    subst hV
    by_cases hb0 : by_ = 0
    · subst hb0
      clear n1 n3 n4 hf hby hst hfl htg hlg hcd
      go_enter Try.func4, Try.ntmps4
      go_wp2_with (first | (go_at_call 7; refine (gro (H1.out _)).mono ?_; rintro e w' ⟨rfl, d1, rfl⟩) | (go_at_call 9; refine (grow_call (fixed17_any _)).mono ?_; rintro e w' ⟨rfl, d3, rfl⟩))
      go_ret
      exact ⟨rfl, (by repeat (first | exact Below.refl _ _ | assumption | refine below_drewN ?_ _ | refine bel_grow ?_ _ | refine Below.drew ?_ | refine bel_alloc ?_ _ | refine bel_set ?_ (by first | exact Nat.le_refl _ | (simp; done) | (simp; omega) | omega) _ | refine bel_trans ?_ (by assumption)))⟩
    · have hb1 : (by_ == 0) = false := by simpa using hb0
      have e1 : IntKind.u64.wrap (atg + by_) ≠ atg := by rw [show IntKind.u64.wrap (atg + by_) = (atg + by_) % 18446744073709551616 from by simp [IntKind.wrap, IntKind.bits, IntKind.signed]]; omega
      have e2 : (alg + by_) % 4294967296 ≠ alg := by omega
      have e3 : IntKind.u16.wrap (acd + by_) ≠ acd := by rw [IntKind.wrap_u16]; omega
      have e4 : 0 ≤ (bits .xor .u16 afl (1 + by_ % 15)) ∧ (bits .xor .u16 afl (1 + by_ % 15)) < 16 ∧ (bits .xor .u16 afl (1 + by_ % 15)) ≠ afl := by
        rw [u16_xor afl _ hfl.1 hfl.2 (by omega) (by omega)]
        have := xor16 ⟨afl.toNat, by omega⟩ ⟨(1 + by_ % 15).toNat, by omega⟩
        simp only at this
        have h2 := this.2 (by omega)
        omega
      have HB := Lib.hid (fun w => chk_is (one_is (ap1 := ap1) (ap2 := ap2) (aq1 := aq1) (aq2 := aq2) (ar1 := ar1) (ar2 := ar2) (as1 := as1) (as2 := as2) (k1 := ai1) (k2 := ai2) (k3 := ap1) (k4 := ap2) (k5 := aq1) (k6 := aq2) (k7 := ar1) (k8 := ar2) (k9 := as1) (k10 := as2) (k11 := ast) (btg := (IntKind.u64.wrap (atg + by_))) (blg := alg) (bcd := acd) (bfl := afl) (atg := atg) (alg := alg) (acd := acd) n1 ⟨hfl.1, hf⟩ ⟨hfl.1, hf⟩ hst n3 n4 |>.trans (show _ = 13 by simp [e1])) w)
      have HC := Lib.hid (fun w => chk_is (one_is (ap1 := ap1) (ap2 := ap2) (aq1 := aq1) (aq2 := aq2) (ar1 := ar1) (ar2 := ar2) (as1 := as1) (as2 := as2) (k1 := ai1) (k2 := ai2) (k3 := ap1) (k4 := ap2) (k5 := aq1) (k6 := aq2) (k7 := ar1) (k8 := ar2) (k9 := as1) (k10 := as2) (k11 := ast) (btg := atg) (blg := ((alg + by_) % 4294967296)) (bcd := acd) (bfl := afl) (atg := atg) (alg := alg) (acd := acd) n1 ⟨hfl.1, hf⟩ ⟨hfl.1, hf⟩ hst n3 n4 |>.trans (show _ = 14 by simp [e2])) w)
      have HD := Lib.hid (fun w => chk_is (one_is (ap1 := ap1) (ap2 := ap2) (aq1 := aq1) (aq2 := aq2) (ar1 := ar1) (ar2 := ar2) (as1 := as1) (as2 := as2) (k1 := ai1) (k2 := ai2) (k3 := ap1) (k4 := ap2) (k5 := aq1) (k6 := aq2) (k7 := ar1) (k8 := ar2) (k9 := as1) (k10 := as2) (k11 := ast) (btg := atg) (blg := alg) (bcd := (IntKind.u16.wrap (acd + by_))) (bfl := afl) (atg := atg) (alg := alg) (acd := acd) n1 ⟨hfl.1, hf⟩ ⟨hfl.1, hf⟩ hst n3 n4 |>.trans (show _ = 15 by simp [e3])) w)
      have HE := Lib.hid (fun w => chk_is (one_is (ap1 := ap1) (ap2 := ap2) (aq1 := aq1) (aq2 := aq2) (ar1 := ar1) (ar2 := ar2) (as1 := as1) (as2 := as2) (k1 := ai1) (k2 := ai2) (k3 := ap1) (k4 := ap2) (k5 := aq1) (k6 := aq2) (k7 := ar1) (k8 := ar2) (k9 := as1) (k10 := as2) (k11 := ast) (btg := atg) (blg := alg) (bcd := acd) (bfl := (bits .xor .u16 afl (1 + by_ % 15))) (atg := atg) (alg := alg) (acd := acd) n1 ⟨hfl.1, hf⟩ ⟨e4.1, e4.2.1⟩ hst n3 n4 |>.trans (show _ = 7 by simp [e4.2.2])) w)
      clear e1 e2 e3 e4 n1 n3 n4 hf hst hb0
      go_enter Try.func4, Try.ntmps4
      go_wp2_with (go_at_call 7; refine (gro (H1.out _)).mono ?_; rintro e w' ⟨rfl, d1, rfl⟩)
      go_region
      all_goals (
        go_wp2_with (first | (go_at_call 9; first | ((with_reducible refine (grow_call (fixed17_any _)).mono ?_); rintro e w' ⟨rfl, d3, rfl⟩) | (refine (gro (fixed17_any _)).mono ?_; rintro e w' ⟨rfl, d3, rfl⟩)) | (go_at_call 7; first | ((with_reducible refine (grow_call (HB.out _)).mono ?_); rintro e w' ⟨rfl, d4, rfl⟩) | ((with_reducible refine (gro (HB.out _)).mono ?_); rintro e w' ⟨rfl, d4, rfl⟩) | ((with_reducible refine (grow_call (HC.out _)).mono ?_); rintro e w' ⟨rfl, d5, rfl⟩) | ((with_reducible refine (gro (HC.out _)).mono ?_); rintro e w' ⟨rfl, d5, rfl⟩) | ((with_reducible refine (grow_call (HD.out _)).mono ?_); rintro e w' ⟨rfl, d6, rfl⟩) | ((with_reducible refine (gro (HD.out _)).mono ?_); rintro e w' ⟨rfl, d6, rfl⟩) | ((with_reducible refine (grow_call (HE.out _)).mono ?_); rintro e w' ⟨rfl, d7, rfl⟩) | ((with_reducible refine (gro (HE.out _)).mono ?_); rintro e w' ⟨rfl, d7, rfl⟩)))
        go_ret
        exact ⟨rfl, (by repeat (first | exact Below.refl _ _ | assumption | refine below_drewN ?_ _ | refine bel_grow ?_ _ | refine Below.drew ?_ | refine bel_alloc ?_ _ | refine bel_set ?_ (by first | exact Nat.le_refl _ | (simp; done) | (simp; omega) | omega) _ | refine bel_trans ?_ (by assumption)))⟩)
  · have hV : (V != 0) = true := by simpa using hV
    clear HG hst hfl htg hlg hcd hby
    go_enter Try.func4, Try.ntmps4
    go_wp2_with (first | (go_at_call 7; refine (gro (H1.out _)).mono ?_; rintro e w' ⟨rfl, d1, rfl⟩) | (go_at_call 9; refine (grow_call (fixed17_any _)).mono ?_; rintro e w' ⟨rfl, d3, rfl⟩))
    go_ret
    exact ⟨rfl, (by repeat (first | exact Below.refl _ _ | assumption | refine below_drewN ?_ _ | refine bel_grow ?_ _ | refine Below.drew ?_ | refine bel_alloc ?_ _ | refine bel_set ?_ (by first | exact Nat.le_refl _ | (simp; done) | (simp; omega) | omega) _ | refine bel_trans ?_ (by assumption)))⟩
end Go.Proofs.Ytplhdiomedbhnaa
