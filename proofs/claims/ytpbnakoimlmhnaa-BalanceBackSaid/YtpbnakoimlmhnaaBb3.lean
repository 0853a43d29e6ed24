/-
  BalanceBack, for every input.
-/
import Derived.Test.YtpbnakoimlmhnaaBb1
import Derived.Test.YtpbnakoimlmhnaaBb2
import Derived.Test.YtpbnakoimlmhnaaBf1
import Derived.Test.YtpbnakoimlmhnaaBp
import Derived.Test.YtpbnakoimlmhnaaBj6
namespace Go.Proofs.Ytpbnakoimlmhnaa
set_option linter.unusedVariables false
set_option linter.unusedSimpArgs false
open Go.RowKit

theorem nb1 (x : Nat) (hx : x < 65536) : (x ||| 2) &&& 2 = 2 := of_decide_eq_true (all16 (fun x => decide ((x ||| 2) &&& 2 = 2)) (by kernel_rfl) x hx)
theorem nb2 (x : Nat) (hx : x < 65536) : ((x ||| 2) &&& 65533) &&& 2 = 0 := of_decide_eq_true (all16 (fun x => decide (((x ||| 2) &&& 65533) &&& 2 = 0)) (by kernel_rfl) x hx)
theorem nb3 (x : Nat) (hx : x < 65536) : ((x ||| 2) &&& 65533) &&& 64 = (x ||| 2) &&& 64 := of_decide_eq_true (all16 (fun x => decide (((x ||| 2) &&& 65533) &&& 64 = (x ||| 2) &&& 64)) (by kernel_rfl) x hx)
theorem nb4 (x : Nat) (hx : x < 65536) : ((x ||| 2) &&& 65533) &&& 128 = (x ||| 2) &&& 128 := of_decide_eq_true (all16 (fun x => decide (((x ||| 2) &&& 65533) &&& 128 = (x ||| 2) &&& 128)) (by kernel_rfl) x hx)
theorem nb5 (x : Nat) (hx : x < 65536) : (x ||| 16) &&& 65519 = x &&& 65519 := of_decide_eq_true (all16 (fun x => decide ((x ||| 16) &&& 65519 = x &&& 65519)) (by kernel_rfl) x hx)
theorem fl_2 {f : Int} (h : 0 ≤ f ∧ f < 65536) : (0 ≤ bits .or .u16 f 2 ∧ bits .or .u16 f 2 < 65536) ∧ (bits .and .u16 (bits .or .u16 f 2) 2 != 0) = true ∧ (bits .and .u16 (bits .andNot .u16 (bits .or .u16 f 2) 2) 2 != 0) = false ∧ (bits .and .u16 (bits .andNot .u16 (bits .or .u16 f 2) 2) 64 != 0) = (bits .and .u16 (bits .or .u16 f 2) 64 != 0) ∧ (bits .and .u16 (bits .andNot .u16 (bits .or .u16 f 2) 2) 128 != 0) = (bits .and .u16 (bits .or .u16 f 2) 128 != 0) := by
  have hlt : f.toNat < 65536 := by omega
  have b1 : f.toNat ||| 2 < 65536 := Nat.or_lt_two_pow (n := 16) (by omega) (by omega)
  have n1 := nb1 f.toNat hlt
  have n2 := nb2 f.toNat hlt
  have n3 := nb3 f.toNat hlt
  have n4 := nb4 f.toNat hlt
  rw [u16_or f 2 h.1 h.2 (by omega) (by omega), show (2 : Int).toNat = 2 from rfl]
  generalize f.toNat ||| 2 = y at *
  have b2 : y &&& 65533 < 65536 := Nat.lt_of_le_of_lt Nat.and_le_left b1
  rw [u16_andNot (y : Int) 2 (by omega) (by omega) (by omega) (by omega), Int.toNat_natCast, show 65535 - (2 : Int).toNat = 65533 from rfl]
  rw [u16_and (y : Int) 2 (by omega) (by omega) (by omega) (by omega), u16_and (y : Int) 64 (by omega) (by omega) (by omega) (by omega), u16_and (y : Int) 128 (by omega) (by omega) (by omega) (by omega), Int.toNat_natCast, show (2 : Int).toNat = 2 from rfl, show (64 : Int).toNat = 64 from rfl, show (128 : Int).toNat = 128 from rfl]
  generalize y &&& 65533 = z at *
  rw [u16_and (z : Int) 2 (by omega) (by omega) (by omega) (by omega), u16_and (z : Int) 64 (by omega) (by omega) (by omega) (by omega), u16_and (z : Int) 128 (by omega) (by omega) (by omega) (by omega), Int.toNat_natCast, show (2 : Int).toNat = 2 from rfl, show (64 : Int).toNat = 64 from rfl, show (128 : Int).toNat = 128 from rfl, n1, n2, n3, n4]
  exact ⟨⟨by omega, by omega⟩, rfl, rfl, rfl, rfl⟩
theorem fl_back {f : Int} (h : 0 ≤ f ∧ f < 65536) (b : Bool) : (if b = true then bits .andNot .u16 (if b = true then bits .or .u16 f 16 else f) 16 else (if b = true then bits .or .u16 f 16 else f)) = (if b = true then bits .andNot .u16 f 16 else f) := by
  cases b
  · rfl
  · simp only [if_true]
    have hlt : f.toNat < 65536 := by omega
    have b1 : f.toNat ||| 16 < 65536 := Nat.or_lt_two_pow (n := 16) (by omega) (by omega)
    have n := nb5 f.toNat hlt
    rw [u16_or f 16 h.1 h.2 (by omega) (by omega), show (16 : Int).toNat = 16 from rfl]
    generalize f.toNat ||| 16 = y at *
    rw [u16_andNot (y : Int) 16 (by omega) (by omega) (by omega) (by omega), u16_andNot f 16 h.1 h.2 (by omega) (by omega), Int.toNat_natCast, show 65535 - (16 : Int).toNat = 65519 from rfl, n]
set_option maxRecDepth 8000 in
theorem balanceBack_any (xi1 xi2 xd1 xd2 xc1 xc2 xm1 xm2 xw1 xw2 xtg xto xlg xcd xfl xst ai1 ai2 ap1 ap2 aq1 aq2 ar1 ar2 as1 as2 atg alg acd afl ast ei1 ei2 ep1 ep2 eq1 eq2 er1 er2 es1 es2 etg elg ecd efl est : Int) (hd hc : Bool) (hxm1 : Wd xm1) (hxm2 : Wd xm2) (hap1 : Wd ap1) (hap2 : Wd ap2) (haq1 : Wd aq1) (haq2 : Wd aq2) (har1 : Wd ar1) (har2 : Wd ar2) (has1 : Wd as1) (has2 : Wd as2) (hep1 : Wd ep1) (hep2 : Wd ep2) (heq1 : Wd eq1) (heq2 : Wd eq2) (her1 : Wd er1) (her2 : Wd er2) (hes1 : Wd es1) (hes2 : Wd es2) (hxfl : 0 ≤ xfl ∧ xfl < 65536) (hafl : 0 ≤ afl ∧ afl < 65536) (hefl : 0 ≤ efl ∧ efl < 65536) (w : World) : Calls Try.prog 5 #[.agg #[.int .u64 xi1, .int .u64 xi2, .int .u64 xd1, .int .u64 xd2, .int .u64 xc1, .int .u64 xc2, .int .u64 xm1, .int .u64 xm2, .int .u64 xw1, .int .u64 xw2, .int .u64 xtg, .int .u32 xto, .int .u32 xlg, .int .u16 xcd, .int .u16 xfl, .int .u64 xst], .agg #[.int .u64 ai1, .int .u64 ai2, .int .u64 ap1, .int .u64 ap2, .int .u64 aq1, .int .u64 aq2, .int .u64 ar1, .int .u64 ar2, .int .u64 as1, .int .u64 as2, .int .u64 atg, .int .u32 alg, .int .u16 acd, .int .u16 afl, .int .u64 ast, .int .u64 ei1, .int .u64 ei2, .int .u64 ep1, .int .u64 ep2, .int .u64 eq1, .int .u64 eq2, .int .u64 er1, .int .u64 er2, .int .u64 es1, .int .u64 es2, .int .u64 etg, .int .u32 elg, .int .u16 ecd, .int .u16 efl, .int .u64 est, .bool hd, .bool hc]] w fun r w' => r = .returned (.bool true) ∧ Below w.heap.size w w' := by
  obtain ⟨hf, g1, g2, g3, g4⟩ := fl_2 hxfl
  obtain ⟨u1, u2⟩ := add_u hap1 hap2 hxm1 hxm2
  obtain ⟨u3, u4⟩ := add_u her1 her2 hxm1 hxm2
  cases hok : (addB ap1 ap2 xm1 xm2 && addB er1 er2 xm1 xm2)
  · exact back_no xi1 xi2 xd1 xd2 xc1 xc2 xm1 xm2 xw1 xw2 xtg xto xlg xcd xfl xst ai1 ai2 ap1 ap2 aq1 aq2 ar1 ar2 as1 as2 atg alg acd afl ast ei1 ei2 ep1 ep2 eq1 eq2 er1 er2 es1 es2 etg elg ecd efl est hd hc fixed18_any (fun w => by have h := move_any_true xi1 xi2 xd1 xd2 xc1 xc2 xm1 xm2 xw1 xw2 xtg xto xlg xcd (bits .or .u16 xfl 2) xst xm1 xm2 ai1 ai2 ap1 ap2 aq1 aq2 ar1 ar2 as1 as2 atg alg acd afl ast ei1 ei2 ep1 ep2 eq1 eq2 er1 er2 es1 es2 etg elg ecd efl est hd hc hxm1 hxm2 hap1 hap2 haq1 haq2 har1 har2 has1 has2 hep1 hep2 heq1 heq2 her1 her2 hes1 hes2 g1 w; rw [hok] at h; exact h) w
  · obtain ⟨k1, k2⟩ : addB ap1 ap2 xm1 xm2 = true ∧ addB er1 er2 xm1 xm2 = true := by simpa using hok
    obtain ⟨b1, b2, b3⟩ := back1 hap1 hap2 hxm1 hxm2 k1
    obtain ⟨b4, b5, b6⟩ := back1 her1 her2 hxm1 hxm2 k2
    exact back_yes xi1 xi2 xd1 xd2 xc1 xc2 xm1 xm2 xw1 xw2 xtg xto xlg xcd xfl xst ai1 ai2 ap1 ap2 aq1 aq2 ar1 ar2 as1 as2 atg alg acd afl ast ei1 ei2 ep1 ep2 eq1 eq2 er1 er2 es1 es2 etg elg ecd efl est _ _ _ _ _ _ _ _ _ _ _ _ _ _ _ _ _ _ _ _ _ _ _ _ _ _ _ _ _ _ _ _ _ _ _ _ _ _ hd hc _ _ _ _ _ rfl rfl rfl rfl fixed18_any (fun w => by have h := move_any_true xi1 xi2 xd1 xd2 xc1 xc2 xm1 xm2 xw1 xw2 xtg xto xlg xcd (bits .or .u16 xfl 2) xst xm1 xm2 ai1 ai2 ap1 ap2 aq1 aq2 ar1 ar2 as1 as2 atg alg acd afl ast ei1 ei2 ep1 ep2 eq1 eq2 er1 er2 es1 es2 etg elg ecd efl est hd hc hxm1 hxm2 hap1 hap2 haq1 haq2 har1 har2 has1 has2 hep1 hep2 heq1 heq2 her1 her2 hes1 hes2 g1 w; rw [hok] at h; exact h) (fun w => by have h := settle_any_false xi1 xi2 xd1 xd2 xc1 xc2 xm1 xm2 xw1 xw2 xtg xto xlg xcd (bits .or .u16 xfl 2) xst xm1 xm2 ai1 ai2 (addH ap1 ap2 xm1 xm2) (addL ap1 ap2 xm1 xm2) aq1 aq2 ar1 ar2 as1 as2 atg alg acd (if (bits .and .u16 (bits .or .u16 xfl 2) 64 != 0) = true then bits .or .u16 afl 16 else afl) ast ei1 ei2 ep1 ep2 eq1 eq2 (addH er1 er2 xm1 xm2) (addL er1 er2 xm1 xm2) es1 es2 etg elg ecd (if (bits .and .u16 (bits .or .u16 xfl 2) 128 != 0) = true then bits .or .u16 efl 16 else efl) est hd hc hxm1 hxm2 hxm1 hxm2 u1 u2 haq1 haq2 har1 har2 has1 has2 hep1 hep2 heq1 heq2 u3 u4 hes1 hes2 w; rw [b1, b2, b3, b4, b5, b6, fl_back hafl, fl_back hefl] at h; exact h) (fun w => by have h := settle_any_true xi1 xi2 xd1 xd2 xc1 xc2 xm1 xm2 xw1 xw2 xtg xto xlg xcd (bits .or .u16 xfl 2) xst xm1 xm2 ai1 ai2 (addH ap1 ap2 xm1 xm2) (addL ap1 ap2 xm1 xm2) aq1 aq2 ar1 ar2 as1 as2 atg alg acd (if (bits .and .u16 (bits .or .u16 xfl 2) 64 != 0) = true then bits .or .u16 afl 16 else afl) ast ei1 ei2 ep1 ep2 eq1 eq2 (addH er1 er2 xm1 xm2) (addL er1 er2 xm1 xm2) es1 es2 etg elg ecd (if (bits .and .u16 (bits .or .u16 xfl 2) 128 != 0) = true then bits .or .u16 efl 16 else efl) est hd hc hxm1 hxm2 hxm1 hxm2 u1 u2 haq1 haq2 har1 har2 has1 has2 hep1 hep2 heq1 heq2 u3 u4 hes1 hes2 w; rw [b1, b2, b3, b4, b5, b6, Bool.true_and, Bool.true_and, ret_cells] at h; exact h) (fun w => by have h := move_any_false xi1 xi2 xd1 xd2 xc1 xc2 xm1 xm2 xw1 xw2 xtg xto xlg xcd (bits .andNot .u16 (bits .or .u16 xfl 2) 2) xst xm1 xm2 ai1 ai2 ap1 ap2 aq1 aq2 ar1 ar2 as1 as2 atg alg acd afl ast ei1 ei2 ep1 ep2 eq1 eq2 er1 er2 es1 es2 etg elg ecd efl est hd hc hxm1 hxm2 hap1 hap2 haq1 haq2 har1 har2 has1 has2 hep1 hep2 heq1 heq2 her1 her2 hes1 hes2 g2 w; rw [g3, g4, ret_cells] at h; exact h) w
end Go.Proofs.Ytpbnakoimlmhnaa
