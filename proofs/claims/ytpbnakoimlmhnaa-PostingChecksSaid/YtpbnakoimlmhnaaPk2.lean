/-
  PostingChecks: plain laws.
-/
import Derived.Test.YtpbnakoimlmhnaaPw1
import Derived.Test.YtpbnakoimlmhnaaPw2
import Derived.Test.YtpbnakoimlmhnaaPw3
import Derived.Test.YtpbnakoimlmhnaaPc1
import Derived.Test.YtpbnakoimlmhnaaBa
import Derived.Test.YtpbnakoimlmhnaaBv
import Derived.Test.YtpbnakoimlmhnaaWd
namespace Go.Proofs.Ytpbnakoimlmhnaa
set_option linter.unusedVariables false
set_option linter.unusedSimpArgs false
open Go.RowKit

theorem refcheck_of (xi1 xi2 xd1 xd2 xc1 xc2 xm1 xm2 xw1 xw2 xtg xto xlg xcd xfl xst ss ai1 ai2 ap1 ap2 aq1 aq2 ar1 ar2 as1 as2 atg alg acd afl ast ei1 ei2 ep1 ep2 eq1 eq2 er1 er2 es1 es2 etg elg ecd efl est n1 n2 rv wv a1 a2 : Int) (hd hc lu lt da ca x0 x42 nt : Bool) (hto : 0 ≤ xto ∧ xto < 4294967296) (hlu : (alg != elg) = lu) (hlt : (xlg != alg) = lt) (hx0 : decide (0 < rv) = x0) (hx42 : decide (rv < 42) = x42)
    (HW : ∀ w, Calls Try.prog 61 #[.agg #[.int .u64 xi1, .int .u64 xi2, .int .u64 xd1, .int .u64 xd2, .int .u64 xc1, .int .u64 xc2, .int .u64 xm1, .int .u64 xm2, .int .u64 xw1, .int .u64 xw2, .int .u64 xtg, .int .u32 xto, .int .u32 xlg, .int .u16 xcd, .int .u16 xfl, .int .u64 xst]] w fun r w' => r = .returned (.int .i64 wv) ∧ Below w.heap.size w w')
    (HBa : ∀ w, Calls Try.prog 45 #[.int .u16 afl, .int .u16 16] w fun r w' => r = .returned (.bool da) ∧ Below w.heap.size w w')
    (HBe : ∀ w, Calls Try.prog 45 #[.int .u16 efl, .int .u16 16] w fun r w' => r = .returned (.bool ca) ∧ Below w.heap.size w w')
    (HA : ∀ w, Calls Try.prog 21 #[.agg #[.int .u64 xi1, .int .u64 xi2, .int .u64 xd1, .int .u64 xd2, .int .u64 xc1, .int .u64 xc2, .int .u64 xm1, .int .u64 xm2, .int .u64 xw1, .int .u64 xw2, .int .u64 xtg, .int .u32 xto, .int .u32 xlg, .int .u16 xcd, .int .u16 xfl, .int .u64 xst], .agg #[.int .u64 ai1, .int .u64 ai2, .int .u64 ap1, .int .u64 ap2, .int .u64 aq1, .int .u64 aq2, .int .u64 ar1, .int .u64 ar2, .int .u64 as1, .int .u64 as2, .int .u64 atg, .int .u32 alg, .int .u16 acd, .int .u16 afl, .int .u64 ast, .int .u64 ei1, .int .u64 ei2, .int .u64 ep1, .int .u64 ep2, .int .u64 eq1, .int .u64 eq2, .int .u64 er1, .int .u64 er2, .int .u64 es1, .int .u64 es2, .int .u64 etg, .int .u32 elg, .int .u16 ecd, .int .u16 efl, .int .u64 est, .bool hd, .bool hc]] w fun r w' => r = .returned (.agg #[.int .u64 n1, .int .u64 n2]) ∧ Below w.heap.size w w')
    (HR : ∀ w, Calls Try.prog 23 #[.agg #[.int .u64 xi1, .int .u64 xi2, .int .u64 xd1, .int .u64 xd2, .int .u64 xc1, .int .u64 xc2, .int .u64 xm1, .int .u64 xm2, .int .u64 xw1, .int .u64 xw2, .int .u64 xtg, .int .u32 xto, .int .u32 xlg, .int .u16 xcd, .int .u16 xfl, .int .u64 xst], .agg #[.int .u64 n1, .int .u64 n2], .agg #[.int .u64 ai1, .int .u64 ai2, .int .u64 ap1, .int .u64 ap2, .int .u64 aq1, .int .u64 aq2, .int .u64 ar1, .int .u64 ar2, .int .u64 as1, .int .u64 as2, .int .u64 atg, .int .u32 alg, .int .u16 acd, .int .u16 afl, .int .u64 ast, .int .u64 ei1, .int .u64 ei2, .int .u64 ep1, .int .u64 ep2, .int .u64 eq1, .int .u64 eq2, .int .u64 er1, .int .u64 er2, .int .u64 es1, .int .u64 es2, .int .u64 etg, .int .u32 elg, .int .u16 ecd, .int .u16 efl, .int .u64 est, .bool hd, .bool hc]] w fun r w' => r = .returned (.int .i64 rv) ∧ Below w.heap.size w w')
    (HD : ∀ w, Calls Try.prog 24 #[.agg #[.int .u64 18446744073709551615, .int .u64 ss], .agg #[.int .u64 0, .int .u64 xto]] w fun r w' => r = .returned (.tuple #[.agg #[.int .u64 a1, .int .u64 a2], .bool nt]) ∧ Below w.heap.size w w')
    (w : World) : Calls Try.prog 27 #[.agg #[.int .u64 xi1, .int .u64 xi2, .int .u64 xd1, .int .u64 xd2, .int .u64 xc1, .int .u64 xc2, .int .u64 xm1, .int .u64 xm2, .int .u64 xw1, .int .u64 xw2, .int .u64 xtg, .int .u32 xto, .int .u32 xlg, .int .u16 xcd, .int .u16 xfl, .int .u64 xst], .int .u64 ss, .agg #[.int .u64 ai1, .int .u64 ai2, .int .u64 ap1, .int .u64 ap2, .int .u64 aq1, .int .u64 aq2, .int .u64 ar1, .int .u64 ar2, .int .u64 as1, .int .u64 as2, .int .u64 atg, .int .u32 alg, .int .u16 acd, .int .u16 afl, .int .u64 ast, .int .u64 ei1, .int .u64 ei2, .int .u64 ep1, .int .u64 ep2, .int .u64 eq1, .int .u64 eq2, .int .u64 er1, .int .u64 er2, .int .u64 es1, .int .u64 es2, .int .u64 etg, .int .u32 elg, .int .u16 ecd, .int .u16 efl, .int .u64 est, .bool hd, .bool hc]] w fun r w' => r = .returned (res19i (rchk19 wv (paccV hd hc lu lt da ca) (rsumsV rv x0 x42 nt)) n1 n2) ∧ Below w.heap.size w w' := by
  cases hd
  · exact refcheck_hd xi1 xi2 xd1 xd2 xc1 xc2 xm1 xm2 xw1 xw2 xtg xto xlg xcd xfl xst ss ai1 ai2 ap1 ap2 aq1 aq2 ar1 ar2 as1 as2 atg alg acd afl ast ei1 ei2 ep1 ep2 eq1 eq2 er1 er2 es1 es2 etg elg ecd efl est n1 n2 rv wv a1 a2 hc lu lt da ca x0 x42 nt hto hlu hlt hx0 hx42 HW w
  · cases hc
    · exact refcheck_hc xi1 xi2 xd1 xd2 xc1 xc2 xm1 xm2 xw1 xw2 xtg xto xlg xcd xfl xst ss ai1 ai2 ap1 ap2 aq1 aq2 ar1 ar2 as1 as2 atg alg acd afl ast ei1 ei2 ep1 ep2 eq1 eq2 er1 er2 es1 es2 etg elg ecd efl est n1 n2 rv wv a1 a2 lu lt da ca x0 x42 nt hto hlu hlt hx0 hx42 HW w
    · exact refcheck_tt xi1 xi2 xd1 xd2 xc1 xc2 xm1 xm2 xw1 xw2 xtg xto xlg xcd xfl xst ss ai1 ai2 ap1 ap2 aq1 aq2 ar1 ar2 as1 as2 atg alg acd afl ast ei1 ei2 ep1 ep2 eq1 eq2 er1 er2 es1 es2 etg elg ecd efl est n1 n2 rv wv a1 a2 lu lt da ca x0 x42 nt hto hlu hlt hx0 hx42 HW HBa HBe HA HR HD w
theorem nf2b : (List.range 256).all (fun y => decide ((y &&& 192 != 0) = (y / 64 % 2 == 1 || y / 128 % 2 == 1))) = true := by kernel_rfl
theorem nf2 (x : Nat) : (x &&& 192 != 0) = (x / 64 % 2 == 1 || x / 128 % 2 == 1) := by
  have h : ((x % 256) &&& 192 != 0) = ((x % 256) / 64 % 2 == 1 || (x % 256) / 128 % 2 == 1) := of_decide_eq_true (List.all_eq_true.mp nf2b (x % 256) (List.mem_range.mpr (by omega)))
  have a192 : (x % 256) &&& 192 = x &&& 192 := by rw [← show x &&& 255 = x % 256 from Nat.and_two_pow_sub_one_eq_mod x 8, Nat.and_assoc]; rfl
  have d64 : (x % 256) / 64 % 2 = x / 64 % 2 := by omega
  have d128 : (x % 256) / 128 % 2 = x / 128 % 2 := by omega
  rw [a192, d64, d128] at h
  exact h
theorem int_beq' (a b : Nat) : (((a : Int)) == ((b : Int))) = (a == b) := by rw [Bool.eq_iff_iff]; simp; omega
theorem fl_192 {f : Int} (h : 0 ≤ f ∧ f < 65536) : (bits .and .u16 f 192 != 0) = ((f / 64 % 2 == 1) || (f / 128 % 2 == 1)) := by
  obtain ⟨x, rfl⟩ := Int.eq_ofNat_of_zero_le h.1
  have e : ∀ k : Nat, (((x : Int) / (k : Int) % 2 == 1)) = (x / k % 2 == 1) := fun k => by rw [show ((x : Int) / (k : Int) % 2) = ((x / k % 2 : Nat) : Int) from by simp]; exact int_beq' _ 1
  have e64 : ((x : Int) / 64 % 2 == 1) = (x / 64 % 2 == 1) := e 64
  have e128 : ((x : Int) / 128 % 2 == 1) = (x / 128 % 2 == 1) := e 128
  rw [u16_and (x : Int) 192 (by omega) (by omega) (by omega) (by omega), Int.toNat_natCast, show (192 : Int).toNat = 192 from rfl]
  rw [e64, e128, ← nf2]
  rw [bne, bne]; exact congrArg _ (int_beq' _ 0)
theorem roomV_le (p a b c d e f : Bool) : 0 ≤ roomV p a b c d e f ∧ roomV p a b c d e f ≤ 43 := by cases p <;> cases a <;> cases b <;> cases c <;> cases d <;> cases e <;> cases f <;> decide
theorem rsums_eq (rv : Int) (ot nt : Bool) (h : 0 ≤ rv ∧ rv ≤ 43) (hnt : nt = !ot) : rsumsV rv (decide (0 < rv)) (decide (rv < 42)) nt = psumsV rv (rv == 42) (rv == 43) ot := by
  subst hnt
  have hh : rv = 0 ∨ (0 < rv ∧ rv < 42) ∨ rv = 42 ∨ rv = 43 := by omega
  rcases hh with rfl | ⟨h1, h2⟩ | rfl | rfl
  · cases ot <;> decide
  · have a1 : (rv == 42) = false := by simp; omega
    have a2 : (rv == 43) = false := by simp; omega
    have a3 : rv ≠ 0 := by omega
    simp [rsumsV, psumsV, h1, h2, a1, a2, a3]
  · cases ot <;> decide
  · cases ot <;> decide
theorem chk_eq (a b c r : Int) : rchk19 (pwordsV a b) c r = chk19 a b c r := by
  unfold rchk19 pwordsV chk19
  by_cases ha : a = 0
  · simp [ha]
  · simp [ha]
theorem pnames_le (a b c d e : Bool) : 0 ≤ pnamesV a b c d e ∧ pnamesV a b c d e < 100 := by cases a <;> cases b <;> cases c <;> cases d <;> cases e <;> decide
theorem pfields_le (a b c d e f : Bool) : 0 ≤ pfieldsV a b c d e f ∧ pfieldsV a b c d e f < 100 := by cases a <;> cases b <;> cases c <;> cases d <;> cases e <;> cases f <;> decide
theorem pacc_le (a b c d e f : Bool) : 0 ≤ paccV a b c d e f ∧ paccV a b c d e f < 100 := by cases a <;> cases b <;> cases c <;> cases d <;> cases e <;> cases f <;> decide
theorem psums_le (rv : Int) (a b o : Bool) (h : 0 ≤ rv ∧ rv ≤ 43) : 0 ≤ psumsV rv a b o ∧ psumsV rv a b o < 100 := by
  unfold psumsV
  split
  · omega
  · split <;> omega
theorem chk_le {a b c d : Int} (ha : 0 ≤ a ∧ a < 100) (hb : 0 ≤ b ∧ b < 100) (hc : 0 ≤ c ∧ c < 100) (hd : 0 ≤ d ∧ d < 100) : 0 ≤ chk19 a b c d ∧ chk19 a b c d < 100 := by
  unfold chk19
  split
  · exact ha
  · split
    · exact hb
    · split
      · exact hc
      · exact hd
theorem add_top {s t : Int} (hs : 0 ≤ s ∧ s < 18446744073709551616) (ht : 0 ≤ t ∧ t < 4294967296) : addB 18446744073709551615 s 0 t = !(decide (18446744073709551615 - s < t)) := by
  unfold addB
  rw [Bool.eq_iff_iff]
  simp
  omega
end Go.Proofs.Ytpbnakoimlmhnaa
