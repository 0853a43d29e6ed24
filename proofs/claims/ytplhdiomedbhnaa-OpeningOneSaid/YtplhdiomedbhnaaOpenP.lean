/-
  Plain laws of opening: the program's verdict is the document's.
-/
import Derived.Test.YtplhdiomedbhnaaOpenC
import Derived.Test.YtplhdiomedbhnaaBits
namespace Go.Proofs.Ytplhdiomedbhnaa
set_option linter.unusedVariables false
set_option linter.unusedSimpArgs false
open Go.RowKit

theorem chk_ref (x : Bool) (ai1 ai2 ap1 ap2 aq1 aq2 ar1 ar2 as1 as2 atg alg acd afl ast oi1 oi2 op1 op2 oq1 oq2 or1 or2 os1 os2 otg olg ocd ofl ost : Int) (hst : 0 ≤ ast) (hfl : 0 ≤ afl ∧ afl < 65536) (hofl : 0 ≤ ofl ∧ ofl < 65536) :
    chkV x ai1 ai2 ap1 ap2 aq1 aq2 ar1 ar2 as1 as2 atg alg acd afl ast oi1 oi2 op1 op2 oq1 oq2 or1 or2 os1 os2 otg olg ocd ofl ost = refV x ai1 ai2 ap1 ap2 aq1 aq2 ar1 ar2 as1 as2 atg alg acd afl ast oi1 oi2 op1 op2 oq1 oq2 or1 or2 os1 os2 otg olg ocd ofl ost := by
  have e1 : chkV1 ai1 ai2 afl ast = ref1V ai1 ai2 afl ast := by
    unfold chkV1 ref1V
    rw [firstV4, u16_not15 afl hfl.1 hfl.2]
    by_cases k1 : 0 < ast
    · have : (ast != 0) = true := by simp; omega
      simp [k1, this]
    · obtain rfl : ast = 0 := by omega
      by_cases k2 : 15 < afl
      · have : (afl / 16 * 16 != 0) = true := by simp; omega
        simp [k2, this]
      · have : (afl / 16 * 16 != 0) = false := by simp; omega
        simp [k2, this]
  have e2 : chkV2 atg alg acd afl otg olg ocd ofl = ref2V atg alg acd afl otg olg ocd ofl := by
    unfold chkV2 ref2V
    rw [firstV5, u16_not16 ofl hofl.1 hofl.2]
    have e : (if (ofl / 16 % 2 == 1) = true then (ofl - 16) % 65536 else ofl) = ofl - ofl / 16 % 2 * 16 := by
      split
      · rename_i h; simp at h; omega
      · rename_i h; simp at h; omega
    rw [e]
    simp
  have e3 : chkV3 (bits .and .u16 afl 2 != 0) (bits .and .u16 afl 4 != 0) ap1 ap2 aq1 aq2 ar1 ar2 as1 as2 alg acd = ref3V (afl / 2 % 2 == 1) (afl / 4 % 2 == 1) ap1 ap2 aq1 aq2 ar1 ar2 as1 as2 alg acd := by
    unfold chkV3 ref3V
    rw [firstV4, u16_2 afl hfl.1 hfl.2, u16_4 afl hfl.1 hfl.2]
    have e4 : (afl / 2 % 2 * 2 != 0) = (afl / 2 % 2 == 1) := by rw [Bool.eq_iff_iff]; simp; omega
    have e5 : (afl / 4 % 2 * 4 != 0) = (afl / 4 % 2 == 1) := by rw [Bool.eq_iff_iff]; simp; omega
    rw [e4, e5]
    simp
  unfold chkV refV
  rw [e1, e2, e3]
  unfold ref1V
  by_cases k1 : 0 < ast
  · simp [k1]
  by_cases k2 : 15 < afl
  · simp [k1, k2]
  by_cases k3 : (ai1 == 0 && ai2 == 0) = true
  · simp only [if_neg k1, if_neg k2, if_pos k3]; rfl
  by_cases k4 : (ai1 == 18446744073709551615 && ai2 == 18446744073709551615) = true
  · simp only [if_neg k1, if_neg k2, if_neg k3, if_pos k4]; rfl
  · simp only [if_neg k1, if_neg k2, if_neg k3, if_neg k4]; rfl
end Go.Proofs.Ytplhdiomedbhnaa
