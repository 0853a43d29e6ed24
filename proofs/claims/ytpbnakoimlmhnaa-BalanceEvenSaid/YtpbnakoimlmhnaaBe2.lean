/-
  BalanceEven, for every input.
-/
import Derived.Test.YtpbnakoimlmhnaaBe1
import Derived.Test.YtpbnakoimlmhnaaBf1
import Derived.Test.YtpbnakoimlmhnaaBp2
namespace Go.Proofs.Ytpbnakoimlmhnaa
set_option linter.unusedVariables false
set_option linter.unusedSimpArgs false
open Go.RowKit

attribute [local go_sem] loadV_ptr storeV_ptr one_func drew_hs ext_deb ext_cre ext_cols ext_acc
attribute [local go_sem ↓] load_Cols store_Cols load_Transfer store_Transfer load_Parties store_Parties load_Acct store_Acct
set_option maxRecDepth 8000 in
set_option maxHeartbeats 8000000 in
theorem even_no (xi1 xi2 xd1 xd2 xc1 xc2 xm1 xm2 xw1 xw2 xtg xto xlg xcd xfl xst n1 n2 ai1 ai2 ap1 ap2 aq1 aq2 ar1 ar2 as1 as2 atg alg acd afl ast ei1 ei2 ep1 ep2 eq1 eq2 er1 er2 es1 es2 etg elg ecd efl est : Int) (hd hc : Bool)
    (HX : ∀ w, Calls Try.prog 15 #[] w fun r w' => r = .returned (.bool true) ∧ Below w.heap.size w w')
    (HM : ∀ w, Calls Try.prog 14 #[.agg #[.int .u64 xi1, .int .u64 xi2, .int .u64 xd1, .int .u64 xd2, .int .u64 xc1, .int .u64 xc2, .int .u64 xm1, .int .u64 xm2, .int .u64 xw1, .int .u64 xw2, .int .u64 xtg, .int .u32 xto, .int .u32 xlg, .int .u16 xcd, .int .u16 xfl, .int .u64 xst], .agg #[.int .u64 n1, .int .u64 n2], .agg #[.int .u64 ai1, .int .u64 ai2, .int .u64 ap1, .int .u64 ap2, .int .u64 aq1, .int .u64 aq2, .int .u64 ar1, .int .u64 ar2, .int .u64 as1, .int .u64 as2, .int .u64 atg, .int .u32 alg, .int .u16 acd, .int .u16 afl, .int .u64 ast, .int .u64 ei1, .int .u64 ei2, .int .u64 ep1, .int .u64 ep2, .int .u64 eq1, .int .u64 eq2, .int .u64 er1, .int .u64 er2, .int .u64 es1, .int .u64 es2, .int .u64 etg, .int .u32 elg, .int .u16 ecd, .int .u16 efl, .int .u64 est, .bool hd, .bool hc]] w fun r w' => r = .returned (.tuple #[.agg #[.int .u64 0, .int .u64 0, .int .u64 0, .int .u64 0, .int .u64 0, .int .u64 0, .int .u64 0, .int .u64 0, .int .u64 0, .int .u64 0, .int .u64 0, .int .u32 0, .int .u16 0, .int .u16 0, .int .u64 0, .int .u64 0, .int .u64 0, .int .u64 0, .int .u64 0, .int .u64 0, .int .u64 0, .int .u64 0, .int .u64 0, .int .u64 0, .int .u64 0, .int .u64 0, .int .u32 0, .int .u16 0, .int .u16 0, .int .u64 0, .bool false, .bool false], .bool false]) ∧ Below w.heap.size w w')
    (w : World) : Calls Try.prog 3 #[.agg #[.int .u64 xi1, .int .u64 xi2, .int .u64 xd1, .int .u64 xd2, .int .u64 xc1, .int .u64 xc2, .int .u64 xm1, .int .u64 xm2, .int .u64 xw1, .int .u64 xw2, .int .u64 xtg, .int .u32 xto, .int .u32 xlg, .int .u16 xcd, .int .u16 xfl, .int .u64 xst], .agg #[.int .u64 n1, .int .u64 n2], .agg #[.int .u64 ai1, .int .u64 ai2, .int .u64 ap1, .int .u64 ap2, .int .u64 aq1, .int .u64 aq2, .int .u64 ar1, .int .u64 ar2, .int .u64 as1, .int .u64 as2, .int .u64 atg, .int .u32 alg, .int .u16 acd, .int .u16 afl, .int .u64 ast, .int .u64 ei1, .int .u64 ei2, .int .u64 ep1, .int .u64 ep2, .int .u64 eq1, .int .u64 eq2, .int .u64 er1, .int .u64 er2, .int .u64 es1, .int .u64 es2, .int .u64 etg, .int .u32 elg, .int .u16 ecd, .int .u16 efl, .int .u64 est, .bool hd, .bool hc]] w fun r w' => r = .returned (.bool true) ∧ Below w.heap.size w w' := by
  replace HX := Lib.hid HX
  replace HM := Lib.hid HM
  have hb0 := Below.refl w.heap.size w
  go_enter Try.func3, Try.ntmps3
  replace hb0 := Lib.hid hb0
  go_wp2_with fail
  refine (HM.out _).mono ?_
  rintro e w_1 ⟨rfl, hb_1⟩
  have z_1 := hb_1.size
  try simp at z_1
  have t_ := hb0.out
  have hB_1 := bel_eld (w := w) (X := _) (by first | ((repeat (first | with_reducible exact Below.refl _ _ | with_reducible assumption | (with_reducible refine bel_set ?_ (by first | exact Nat.le_refl _ | (simp; done) | (simp; omega) | omega) _) | with_reducible refine bel_grow ?_ _ | with_reducible refine Below.drew ?_ | with_reducible refine below_drewN ?_ _ | with_reducible refine bel_alloc ?_ _ | with_reducible refine bel_trans ?_ (by assumption))); done) | (repeat (first | exact Below.refl _ _ | assumption | refine below_drewN ?_ _ | refine bel_grow ?_ _ | refine Below.drew ?_ | refine bel_alloc ?_ _ | refine bel_set ?_ (by first | exact Nat.le_refl _ | (simp; done) | (simp; omega) | omega) _ | refine bel_trans ?_ (by assumption)))) hb_1
  clear t_
  clear hb0 hb_1
  replace hB_1 := Lib.hid hB_1
  go_wp2_with fail
  refine (HX.out _).mono ?_
  rintro e w_2 ⟨rfl, hb_2⟩
  have z_2 := hb_2.size
  try simp at z_2
  have t_ := hB_1.out
  have hB_2 := bel_eld (w := w) (X := _) (by first | ((repeat (first | with_reducible exact Below.refl _ _ | with_reducible assumption | (with_reducible refine bel_set ?_ (by first | exact Nat.le_refl _ | (simp; done) | (simp; omega) | omega) _) | with_reducible refine bel_grow ?_ _ | with_reducible refine Below.drew ?_ | with_reducible refine below_drewN ?_ _ | with_reducible refine bel_alloc ?_ _ | with_reducible refine bel_trans ?_ (by assumption))); done) | (repeat (first | exact Below.refl _ _ | assumption | refine below_drewN ?_ _ | refine bel_grow ?_ _ | refine Below.drew ?_ | refine bel_alloc ?_ _ | refine bel_set ?_ (by first | exact Nat.le_refl _ | (simp; done) | (simp; omega) | omega) _ | refine bel_trans ?_ (by assumption)))) hb_2
  clear t_
  clear hB_1 hb_2
  replace hB_2 := Lib.hid hB_2
  go_wp2_with fail
  go_ret
  exact ⟨rfl, by have t_B := hB_2.out; (repeat (first | with_reducible exact Below.refl _ _ | with_reducible assumption | (with_reducible refine bel_set ?_ (by first | exact Nat.le_refl _ | (simp; done) | (simp; omega) | omega) _) | with_reducible refine bel_grow ?_ _ | with_reducible refine Below.drew ?_ | with_reducible refine bel_alloc ?_ _ | with_reducible refine bel_eld ?_ (by assumption)))⟩
set_option maxRecDepth 8000 in
theorem balanceEven_any (xi1 xi2 xd1 xd2 xc1 xc2 xm1 xm2 xw1 xw2 xtg xto xlg xcd xfl xst n1 n2 ai1 ai2 ap1 ap2 aq1 aq2 ar1 ar2 as1 as2 atg alg acd afl ast ei1 ei2 ep1 ep2 eq1 eq2 er1 er2 es1 es2 etg elg ecd efl est : Int) (hd hc : Bool) (hn1 : Wd n1) (hn2 : Wd n2) (hap1 : Wd ap1) (hap2 : Wd ap2) (haq1 : Wd aq1) (haq2 : Wd aq2) (har1 : Wd ar1) (har2 : Wd ar2) (has1 : Wd as1) (has2 : Wd as2) (hep1 : Wd ep1) (hep2 : Wd ep2) (heq1 : Wd eq1) (heq2 : Wd eq2) (her1 : Wd er1) (her2 : Wd er2) (hes1 : Wd es1) (hes2 : Wd es2) (hxfl : 0 ≤ xfl ∧ xfl < 65536) (hafl : 0 ≤ afl ∧ afl < 65536) (hefl : 0 ≤ efl ∧ efl < 65536) (w : World) : Calls Try.prog 3 #[.agg #[.int .u64 xi1, .int .u64 xi2, .int .u64 xd1, .int .u64 xd2, .int .u64 xc1, .int .u64 xc2, .int .u64 xm1, .int .u64 xm2, .int .u64 xw1, .int .u64 xw2, .int .u64 xtg, .int .u32 xto, .int .u32 xlg, .int .u16 xcd, .int .u16 xfl, .int .u64 xst], .agg #[.int .u64 n1, .int .u64 n2], .agg #[.int .u64 ai1, .int .u64 ai2, .int .u64 ap1, .int .u64 ap2, .int .u64 aq1, .int .u64 aq2, .int .u64 ar1, .int .u64 ar2, .int .u64 as1, .int .u64 as2, .int .u64 atg, .int .u32 alg, .int .u16 acd, .int .u16 afl, .int .u64 ast, .int .u64 ei1, .int .u64 ei2, .int .u64 ep1, .int .u64 ep2, .int .u64 eq1, .int .u64 eq2, .int .u64 er1, .int .u64 er2, .int .u64 es1, .int .u64 es2, .int .u64 etg, .int .u32 elg, .int .u16 ecd, .int .u16 efl, .int .u64 est, .bool hd, .bool hc]] w fun r w' => r = .returned (.bool true) ∧ Below w.heap.size w w' := by
  cases hpen : (bits .and .u16 xfl 2 != 0)
  · cases hok : (addB aq1 aq2 n1 n2 && addB es1 es2 n1 n2)
    · exact even_no xi1 xi2 xd1 xd2 xc1 xc2 xm1 xm2 xw1 xw2 xtg xto xlg xcd xfl xst n1 n2 ai1 ai2 ap1 ap2 aq1 aq2 ar1 ar2 as1 as2 atg alg acd afl ast ei1 ei2 ep1 ep2 eq1 eq2 er1 er2 es1 es2 etg elg ecd efl est hd hc fixed18_any (fun w => by have h := move_any_false xi1 xi2 xd1 xd2 xc1 xc2 xm1 xm2 xw1 xw2 xtg xto xlg xcd xfl xst n1 n2 ai1 ai2 ap1 ap2 aq1 aq2 ar1 ar2 as1 as2 atg alg acd afl ast ei1 ei2 ep1 ep2 eq1 eq2 er1 er2 es1 es2 etg elg ecd efl est hd hc hn1 hn2 hap1 hap2 haq1 haq2 har1 har2 has1 has2 hep1 hep2 heq1 heq2 her1 her2 hes1 hes2 hpen w; rw [hok] at h; exact h) w
    · obtain ⟨k1, k2⟩ : addB aq1 aq2 n1 n2 = true ∧ addB es1 es2 n1 n2 = true := by simpa using hok
      obtain ⟨u1, u2⟩ := add_u haq1 haq2 hn1 hn2
      obtain ⟨u3, u4⟩ := add_u hes1 hes2 hn1 hn2
      obtain ⟨b1, b2, b3⟩ := back1 haq1 haq2 hn1 hn2 k1
      obtain ⟨b4, b5, b6⟩ := back1 hes1 hes2 hn1 hn2 k2
      exact even_yes_false xi1 xi2 xd1 xd2 xc1 xc2 xm1 xm2 xw1 xw2 xtg xto xlg xcd xfl xst n1 n2 ai1 ai2 ap1 ap2 aq1 aq2 ar1 ar2 as1 as2 atg alg acd afl ast ei1 ei2 ep1 ep2 eq1 eq2 er1 er2 es1 es2 etg elg ecd efl est _ _ _ _ _ _ hd hc hpen (fl_any hafl (bits .and .u16 xfl 64 != 0)) (fl_any hefl (bits .and .u16 xfl 128 != 0)) fixed18_any (fun w => by have h := move_any_false xi1 xi2 xd1 xd2 xc1 xc2 xm1 xm2 xw1 xw2 xtg xto xlg xcd xfl xst n1 n2 ai1 ai2 ap1 ap2 aq1 aq2 ar1 ar2 as1 as2 atg alg acd afl ast ei1 ei2 ep1 ep2 eq1 eq2 er1 er2 es1 es2 etg elg ecd efl est hd hc hn1 hn2 hap1 hap2 haq1 haq2 har1 har2 has1 has2 hep1 hep2 heq1 heq2 her1 her2 hes1 hes2 hpen w; rw [hok] at h; exact h) (fun w => by have h := refsub_any _ _ n1 n2 u1 u2 hn1 hn2 w; rw [b1, b2, b3] at h; exact h) (fun w => by have h := refsub_any _ _ n1 n2 u3 u4 hn1 hn2 w; rw [b4, b5, b6] at h; exact h) w
  · cases hok : (addB ap1 ap2 n1 n2 && addB er1 er2 n1 n2)
    · exact even_no xi1 xi2 xd1 xd2 xc1 xc2 xm1 xm2 xw1 xw2 xtg xto xlg xcd xfl xst n1 n2 ai1 ai2 ap1 ap2 aq1 aq2 ar1 ar2 as1 as2 atg alg acd afl ast ei1 ei2 ep1 ep2 eq1 eq2 er1 er2 es1 es2 etg elg ecd efl est hd hc fixed18_any (fun w => by have h := move_any_true xi1 xi2 xd1 xd2 xc1 xc2 xm1 xm2 xw1 xw2 xtg xto xlg xcd xfl xst n1 n2 ai1 ai2 ap1 ap2 aq1 aq2 ar1 ar2 as1 as2 atg alg acd afl ast ei1 ei2 ep1 ep2 eq1 eq2 er1 er2 es1 es2 etg elg ecd efl est hd hc hn1 hn2 hap1 hap2 haq1 haq2 har1 har2 has1 has2 hep1 hep2 heq1 heq2 her1 her2 hes1 hes2 hpen w; rw [hok] at h; exact h) w
    · obtain ⟨k1, k2⟩ : addB ap1 ap2 n1 n2 = true ∧ addB er1 er2 n1 n2 = true := by simpa using hok
      obtain ⟨u1, u2⟩ := add_u hap1 hap2 hn1 hn2
      obtain ⟨u3, u4⟩ := add_u her1 her2 hn1 hn2
      obtain ⟨b1, b2, b3⟩ := back1 hap1 hap2 hn1 hn2 k1
      obtain ⟨b4, b5, b6⟩ := back1 her1 her2 hn1 hn2 k2
      exact even_yes_true xi1 xi2 xd1 xd2 xc1 xc2 xm1 xm2 xw1 xw2 xtg xto xlg xcd xfl xst n1 n2 ai1 ai2 ap1 ap2 aq1 aq2 ar1 ar2 as1 as2 atg alg acd afl ast ei1 ei2 ep1 ep2 eq1 eq2 er1 er2 es1 es2 etg elg ecd efl est _ _ _ _ _ _ hd hc hpen (fl_any hafl (bits .and .u16 xfl 64 != 0)) (fl_any hefl (bits .and .u16 xfl 128 != 0)) fixed18_any (fun w => by have h := move_any_true xi1 xi2 xd1 xd2 xc1 xc2 xm1 xm2 xw1 xw2 xtg xto xlg xcd xfl xst n1 n2 ai1 ai2 ap1 ap2 aq1 aq2 ar1 ar2 as1 as2 atg alg acd afl ast ei1 ei2 ep1 ep2 eq1 eq2 er1 er2 es1 es2 etg elg ecd efl est hd hc hn1 hn2 hap1 hap2 haq1 haq2 har1 har2 has1 has2 hep1 hep2 heq1 heq2 her1 her2 hes1 hes2 hpen w; rw [hok] at h; exact h) (fun w => by have h := refsub_any _ _ n1 n2 u1 u2 hn1 hn2 w; rw [b1, b2, b3] at h; exact h) (fun w => by have h := refsub_any _ _ n1 n2 u3 u4 hn1 hn2 w; rw [b4, b5, b6] at h; exact h) w
end Go.Proofs.Ytpbnakoimlmhnaa
