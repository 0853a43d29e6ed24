/-
  PostingAgain, for every input.
-/
import Derived.Test.YtpbnakoimlmhnaaPr1
import Derived.Test.YtpbnakoimlmhnaaPr2
import Derived.Test.YtpbnakoimlmhnaaPq6
import Derived.Test.YtpbnakoimlmhnaaPg1
import Derived.Test.YtpbnakoimlmhnaaBits
namespace Go.Proofs.Ytpbnakoimlmhnaa
set_option linter.unusedVariables false
set_option linter.unusedSimpArgs false
open Go.RowKit

attribute [local go_sem] bK_is
attribute [local go_sem ↓] load_Kept store_Kept build_Kept
theorem xor_ne64 {a b : Int} (ha : 0 ≤ a ∧ a < 18446744073709551616) (hb : 0 < b ∧ b < 18446744073709551616) : (bits .xor .u64 a b == a) = false := by
  rw [beq_eq_false_iff_ne, u64_xor a b ha.1 ha.2 (by omega) hb.2]
  intro h
  have h1 : a.toNat ^^^ b.toNat = a.toNat := by omega
  have h2 := congrArg (fun z => a.toNat ^^^ z) h1
  simp only [← Nat.xor_assoc, Nat.xor_self, Nat.zero_xor] at h2
  omega
theorem xor_ne32 {a b : Int} (ha : 0 ≤ a ∧ a < 4294967296) (hb : 0 < b ∧ b < 4294967296) : (bits .xor .u32 a b == a) = false := by
  rw [beq_eq_false_iff_ne, u32_xor a b ha.1 ha.2 (by omega) hb.2]
  intro h
  have h1 : a.toNat ^^^ b.toNat = a.toNat := by omega
  have h2 := congrArg (fun z => a.toNat ^^^ z) h1
  simp only [← Nat.xor_assoc, Nat.xor_self, Nat.zero_xor] at h2
  omega
theorem eiV_self (f z : Bool) (a : Int) : eiV f z a a = a := by unfold eiV; split <;> rfl
theorem agE0 (xi1 xi2 xd1 xd2 xc1 xc2 xm1 xm2 xw1 xw2 xtg xto xlg xcd xfl xst n1 n2 fr : Int) : (againV (xfl != xfl) (xw1 == xw1 && xw2 == xw2) (xto != xto) ((eiV (bits .and .u16 xfl 12 != 0) (xd1 == 0 && xd2 == 0) xd1 xd1) == xd1 && (eiV (bits .and .u16 xfl 12 != 0) (xd1 == 0 && xd2 == 0) xd2 xd2) == xd2) ((eiV (bits .and .u16 xfl 12 != 0) (xc1 == 0 && xc2 == 0) xc1 xc1) == xc1 && (eiV (bits .and .u16 xfl 12 != 0) (xc1 == 0 && xc2 == 0) xc2 xc2) == xc2) (xm1 == xm1 && xm2 == xm2) (xtg != xtg) ((eiV (bits .and .u16 xfl 12 != 0) (xlg == 0) xlg xlg) != xlg) ((eiV (bits .and .u16 xfl 12 != 0) (xcd == 0) xcd xcd) != xcd)) = 16 := by simp [againV, eiV_self]
theorem agEA (xi1 xi2 xd1 xd2 xc1 xc2 xm1 xm2 xw1 xw2 xtg xto xlg xcd xfl xst n1 n2 fr qa : Int) (hq : (qa == xm2) = false) : (againV (xfl != xfl) (xw1 == xw1 && xw2 == xw2) (xto != xto) ((eiV (bits .and .u16 xfl 12 != 0) (xd1 == 0 && xd2 == 0) xd1 xd1) == xd1 && (eiV (bits .and .u16 xfl 12 != 0) (xd1 == 0 && xd2 == 0) xd2 xd2) == xd2) ((eiV (bits .and .u16 xfl 12 != 0) (xc1 == 0 && xc2 == 0) xc1 xc1) == xc1 && (eiV (bits .and .u16 xfl 12 != 0) (xc1 == 0 && xc2 == 0) xc2 xc2) == xc2) (xm1 == xm1 && qa == xm2) (xtg != xtg) ((eiV (bits .and .u16 xfl 12 != 0) (xlg == 0) xlg xlg) != xlg) ((eiV (bits .and .u16 xfl 12 != 0) (xcd == 0) xcd xcd) != xcd)) = 12 := by
  have hq' : ¬ qa = xm2 := by simpa using hq
  simp [againV, eiV_self, hq, hq', bne]
theorem agEB (xi1 xi2 xd1 xd2 xc1 xc2 xm1 xm2 xw1 xw2 xtg xto xlg xcd xfl xst n1 n2 fr qb : Int) (hq : (qb == xtg) = false) : (againV (xfl != xfl) (xw1 == xw1 && xw2 == xw2) (xto != xto) ((eiV (bits .and .u16 xfl 12 != 0) (xd1 == 0 && xd2 == 0) xd1 xd1) == xd1 && (eiV (bits .and .u16 xfl 12 != 0) (xd1 == 0 && xd2 == 0) xd2 xd2) == xd2) ((eiV (bits .and .u16 xfl 12 != 0) (xc1 == 0 && xc2 == 0) xc1 xc1) == xc1 && (eiV (bits .and .u16 xfl 12 != 0) (xc1 == 0 && xc2 == 0) xc2 xc2) == xc2) (xm1 == xm1 && xm2 == xm2) (qb != xtg) ((eiV (bits .and .u16 xfl 12 != 0) (xlg == 0) xlg xlg) != xlg) ((eiV (bits .and .u16 xfl 12 != 0) (xcd == 0) xcd xcd) != xcd)) = 13 := by
  have hq' : ¬ qb = xtg := by simpa using hq
  simp [againV, eiV_self, hq, hq', bne]
theorem agEC (xi1 xi2 xd1 xd2 xc1 xc2 xm1 xm2 xw1 xw2 xtg xto xlg xcd xfl xst n1 n2 fr qc : Int) (hq : (qc == xto) = false) : (againV (xfl != xfl) (xw1 == xw1 && xw2 == xw2) (qc != xto) ((eiV (bits .and .u16 xfl 12 != 0) (xd1 == 0 && xd2 == 0) xd1 xd1) == xd1 && (eiV (bits .and .u16 xfl 12 != 0) (xd1 == 0 && xd2 == 0) xd2 xd2) == xd2) ((eiV (bits .and .u16 xfl 12 != 0) (xc1 == 0 && xc2 == 0) xc1 xc1) == xc1 && (eiV (bits .and .u16 xfl 12 != 0) (xc1 == 0 && xc2 == 0) xc2 xc2) == xc2) (xm1 == xm1 && xm2 == xm2) (xtg != xtg) ((eiV (bits .and .u16 xfl 12 != 0) (xlg == 0) xlg xlg) != xlg) ((eiV (bits .and .u16 xfl 12 != 0) (xcd == 0) xcd xcd) != xcd)) = 9 := by
  have hq' : ¬ qc = xto := by simpa using hq
  simp [againV, eiV_self, hq, hq', bne]
theorem agED (xi1 xi2 xd1 xd2 xc1 xc2 xm1 xm2 xw1 xw2 xtg xto xlg xcd xfl xst n1 n2 fr qd : Int) (hq : (qd == xw1) = false) : (againV (xfl != xfl) (qd == xw1 && xw2 == xw2) (xto != xto) ((eiV (bits .and .u16 xfl 12 != 0) (xd1 == 0 && xd2 == 0) xd1 xd1) == xd1 && (eiV (bits .and .u16 xfl 12 != 0) (xd1 == 0 && xd2 == 0) xd2 xd2) == xd2) ((eiV (bits .and .u16 xfl 12 != 0) (xc1 == 0 && xc2 == 0) xc1 xc1) == xc1 && (eiV (bits .and .u16 xfl 12 != 0) (xc1 == 0 && xc2 == 0) xc2 xc2) == xc2) (xm1 == xm1 && xm2 == xm2) (xtg != xtg) ((eiV (bits .and .u16 xfl 12 != 0) (xlg == 0) xlg xlg) != xlg) ((eiV (bits .and .u16 xfl 12 != 0) (xcd == 0) xcd xcd) != xcd)) = 8 := by
  have hq' : ¬ qd = xw1 := by simpa using hq
  simp [againV, eiV_self, hq, hq', bne]
set_option maxRecDepth 8000 in
theorem postingAgain_any (xi1 xi2 xd1 xd2 xc1 xc2 xm1 xm2 xw1 xw2 xtg xto xlg xcd xfl xst n1 n2 fa fb fr tv lm fg : Int) (hxm2 : 0 ≤ xm2 ∧ xm2 < 18446744073709551616) (hxtg : 0 ≤ xtg ∧ xtg < 18446744073709551616) (hxto : 0 ≤ xto ∧ xto < 4294967296) (hxw1 : 0 ≤ xw1 ∧ xw1 < 18446744073709551616) (htv : 0 ≤ tv ∧ tv < 18446744073709551616) (hlm : 0 ≤ lm ∧ lm < 4294967296) (hfg : 0 ≤ fg ∧ fg < 4294967296) (w : World) : Calls Try.prog 11 #[.agg #[.int .u64 xi1, .int .u64 xi2, .int .u64 xd1, .int .u64 xd2, .int .u64 xc1, .int .u64 xc2, .int .u64 xm1, .int .u64 xm2, .int .u64 xw1, .int .u64 xw2, .int .u64 xtg, .int .u32 xto, .int .u32 xlg, .int .u16 xcd, .int .u16 xfl, .int .u64 xst], .agg #[.int .u64 n1, .int .u64 n2], .agg #[.int .u64 fa, .int .u64 fb, .int .u64 fr, .int .u64 tv, .int .u32 lm, .int .u32 fg]] w fun r w' => r = .returned (.bool true) ∧ Below w.heap.size w w' := by
  have nHA : ((bits .xor .u64 xm2 (1 + lm)) == xm2) = false := xor_ne64 (by omega) (by omega)
  generalize hqa : (bits .xor .u64 xm2 (1 + lm)) = qa at nHA
  have nHB : ((bits .xor .u64 xtg (1 + fg)) == xtg) = false := xor_ne64 (by omega) (by omega)
  generalize hqb : (bits .xor .u64 xtg (1 + fg)) = qb at nHB
  have nHC : ((bits .xor .u32 xto (1 + fg / 2)) == xto) = false := xor_ne32 (by omega) (by omega)
  generalize hqc : (bits .xor .u32 xto (1 + fg / 2)) = qc at nHC
  have nHD : ((bits .xor .u64 xw1 (1 + tv / 2)) == xw1) = false := xor_ne64 (by omega) (by omega)
  generalize hqd : (bits .xor .u64 xw1 (1 + tv / 2)) = qd at nHD
  exact pagain_of xi1 xi2 xd1 xd2 xc1 xc2 xm1 xm2 xw1 xw2 xtg xto xlg xcd xfl xst n1 n2 fa fb fr tv lm fg qa qb qc qd (by simp [IntKind.wrap, IntKind.bits, IntKind.signed]; omega) (by simp [IntKind.wrap, IntKind.bits, IntKind.signed]; omega) (by simp [IntKind.wrap, IntKind.bits, IntKind.signed]; omega) (by simp [IntKind.wrap, IntKind.bits, IntKind.signed]; omega) (by rw [Int.tdiv_eq_ediv_of_nonneg hfg.1]; simp [IntKind.wrap, IntKind.bits, IntKind.signed]; omega) (by simp [IntKind.wrap, IntKind.bits, IntKind.signed]; omega) (by rw [Int.tdiv_eq_ediv_of_nonneg htv.1]; simp [IntKind.wrap, IntKind.bits, IntKind.signed]; omega) (by simp [IntKind.wrap, IntKind.bits, IntKind.signed]; omega) hqa hqb hqc hqd fixed19_any (fun w => made19_any xi1 xi2 xd1 xd2 xc1 xc2 xm1 xm2 xw1 xw2 xtg xto xlg xcd xfl xst n1 n2 fr w) (fun w => by have h := again_any xi1 xi2 xd1 xd2 xc1 xc2 xm1 xm2 xw1 xw2 xtg xto xlg xcd xfl xst xi1 xi2 xd1 xd2 xc1 xc2 n1 n2 xw1 xw2 xtg xto xlg xcd xfl fr xm1 xm2 w; rw [agE0 xi1 xi2 xd1 xd2 xc1 xc2 xm1 xm2 xw1 xw2 xtg xto xlg xcd xfl xst n1 n2 fr] at h; exact h) (fun w => by have h := again_any xi1 xi2 xd1 xd2 xc1 xc2 xm1 qa xw1 xw2 xtg xto xlg xcd xfl xst xi1 xi2 xd1 xd2 xc1 xc2 n1 n2 xw1 xw2 xtg xto xlg xcd xfl fr xm1 xm2 w; rw [agEA xi1 xi2 xd1 xd2 xc1 xc2 xm1 xm2 xw1 xw2 xtg xto xlg xcd xfl xst n1 n2 fr qa nHA] at h; exact h) (fun w => by have h := again_any xi1 xi2 xd1 xd2 xc1 xc2 xm1 xm2 xw1 xw2 qb xto xlg xcd xfl xst xi1 xi2 xd1 xd2 xc1 xc2 n1 n2 xw1 xw2 xtg xto xlg xcd xfl fr xm1 xm2 w; rw [agEB xi1 xi2 xd1 xd2 xc1 xc2 xm1 xm2 xw1 xw2 xtg xto xlg xcd xfl xst n1 n2 fr qb nHB] at h; exact h) (fun w => by have h := again_any xi1 xi2 xd1 xd2 xc1 xc2 xm1 xm2 xw1 xw2 xtg qc xlg xcd xfl xst xi1 xi2 xd1 xd2 xc1 xc2 n1 n2 xw1 xw2 xtg xto xlg xcd xfl fr xm1 xm2 w; rw [agEC xi1 xi2 xd1 xd2 xc1 xc2 xm1 xm2 xw1 xw2 xtg xto xlg xcd xfl xst n1 n2 fr qc nHC] at h; exact h) (fun w => by have h := again_any xi1 xi2 xd1 xd2 xc1 xc2 xm1 xm2 qd xw2 xtg xto xlg xcd xfl xst xi1 xi2 xd1 xd2 xc1 xc2 n1 n2 xw1 xw2 xtg xto xlg xcd xfl fr xm1 xm2 w; rw [agED xi1 xi2 xd1 xd2 xc1 xc2 xm1 xm2 xw1 xw2 xtg xto xlg xcd xfl xst n1 n2 fr qd nHD] at h; exact h) w
end Go.Proofs.Ytpbnakoimlmhnaa
