/-
  BalanceLimits, for every input.
-/
import Derived.Test.YtpbnakoimlmhnaaBh1
import Derived.Test.YtpbnakoimlmhnaaBf1
import Derived.Test.YtpbnakoimlmhnaaBp
import Derived.Test.YtpbnakoimlmhnaaBj2
import Derived.Test.YtpbnakoimlmhnaaBj1
import Derived.Test.YtpbnakoimlmhnaaBja
namespace Go.Proofs.Ytpbnakoimlmhnaa
set_option linter.unusedVariables false
set_option linter.unusedSimpArgs false
open Go.RowKit

set_option maxRecDepth 8000 in
theorem limits_any_false (xi1 xi2 xd1 xd2 xc1 xc2 xm1 xm2 xw1 xw2 xtg xto xlg xcd xfl xst n1 n2 ai1 ai2 ap1 ap2 aq1 aq2 ar1 ar2 as1 as2 atg alg acd afl ast ei1 ei2 ep1 ep2 eq1 eq2 er1 er2 es1 es2 etg elg ecd efl est : Int) (hd hc : Bool) (hn1 : Wd n1) (hn2 : Wd n2) (hxm1 : Wd xm1) (hxm2 : Wd xm2) (hap1 : Wd ap1) (hap2 : Wd ap2) (haq1 : Wd aq1) (haq2 : Wd aq2) (har1 : Wd ar1) (har2 : Wd ar2) (has1 : Wd as1) (has2 : Wd as2) (hep1 : Wd ep1) (hep2 : Wd ep2) (heq1 : Wd eq1) (heq2 : Wd eq2) (her1 : Wd er1) (her2 : Wd er2) (hes1 : Wd es1) (hes2 : Wd es2) (hpen : (bits .and .u16 xfl 2 != 0) = false) (w : World) : Calls Try.prog 7 #[.agg #[.int .u64 xi1, .int .u64 xi2, .int .u64 xd1, .int .u64 xd2, .int .u64 xc1, .int .u64 xc2, .int .u64 xm1, .int .u64 xm2, .int .u64 xw1, .int .u64 xw2, .int .u64 xtg, .int .u32 xto, .int .u32 xlg, .int .u16 xcd, .int .u16 xfl, .int .u64 xst], .agg #[.int .u64 n1, .int .u64 n2], .agg #[.int .u64 ai1, .int .u64 ai2, .int .u64 ap1, .int .u64 ap2, .int .u64 aq1, .int .u64 aq2, .int .u64 ar1, .int .u64 ar2, .int .u64 as1, .int .u64 as2, .int .u64 atg, .int .u32 alg, .int .u16 acd, .int .u16 afl, .int .u64 ast, .int .u64 ei1, .int .u64 ei2, .int .u64 ep1, .int .u64 ep2, .int .u64 eq1, .int .u64 eq2, .int .u64 er1, .int .u64 er2, .int .u64 es1, .int .u64 es2, .int .u64 etg, .int .u32 elg, .int .u16 ecd, .int .u16 efl, .int .u64 est, .bool hd, .bool hc]] w fun r w' => r = .returned (.bool true) ∧ Below w.heap.size w w' := by
  obtain ⟨u1, u2⟩ := add_u haq1 haq2 hn1 hn2
  obtain ⟨u3, u4⟩ := add_u hes1 hes2 hn1 hn2
  obtain ⟨d1, d2⟩ := le_u has1 has2 hap1 hap2 haq1 haq2
  obtain ⟨e1, e2⟩ := le_u heq1 heq2 her1 her2 hes1 hes2
  obtain ⟨r1, r2⟩ := ask_u (b16 := (bits .and .u16 xfl 16 != 0)) (b32 := (bits .and .u16 xfl 32 != 0)) hxm1 hxm2 d1 d2 e1 e2
  have hle := ask_le (b16 := (bits .and .u16 xfl 16 != 0)) (b32 := (bits .and .u16 xfl 32 != 0)) hxm1 hxm2 d1 d2 (c1 := (leH eq1 eq2 er1 er2 es1 es2)) e2
  refine limits_of xi1 xi2 xd1 xd2 xc1 xc2 xm1 xm2 xw1 xw2 xtg xto xlg xcd xfl xst n1 n2 ai1 ai2 ap1 ap2 aq1 aq2 ar1 ar2 as1 as2 atg alg acd afl ast ei1 ei2 ep1 ep2 eq1 eq2 er1 er2 es1 es2 etg elg ecd efl est _ _ _ _ _ _ _ _ _ _ _ _ _ _ _ _ _ _ _ _ _ _ _ _ _ _ _ _ _ _ _ _ _ _ _ _ _ _ _ _ _ _ hd hc _ _ _ _ _ _ _ _ _ _ rfl rfl rfl rfl rfl ?_ ?_ ?_ ?_ fixed18_any (fun w => room_any_false xi1 xi2 xd1 xd2 xc1 xc2 xm1 xm2 xw1 xw2 xtg xto xlg xcd xfl xst n1 n2 ai1 ai2 ap1 ap2 aq1 aq2 ar1 ar2 as1 as2 atg alg acd afl ast ei1 ei2 ep1 ep2 eq1 eq2 er1 er2 es1 es2 etg elg ecd efl est hd hc hn1 hn2 hap1 hap2 haq1 haq2 har1 har2 has1 has2 hep1 hep2 heq1 heq2 her1 her2 hes1 hes2 hpen w) (fun w => move_cells_false xi1 xi2 xd1 xd2 xc1 xc2 xm1 xm2 xw1 xw2 xtg xto xlg xcd xfl xst n1 n2 ai1 ai2 ap1 ap2 aq1 aq2 ar1 ar2 as1 as2 atg alg acd afl ast ei1 ei2 ep1 ep2 eq1 eq2 er1 er2 es1 es2 etg elg ecd efl est hd hc hn1 hn2 hap1 hap2 haq1 haq2 har1 har2 has1 has2 hep1 hep2 heq1 heq2 her1 her2 hes1 hes2 hpen w) (fun w => refadd_any _ _ _ _ (wd_if hap1) (wd_if hap2) (wd_if u1) (wd_if u2) w) (fun w => refadd_any _ _ _ _ (wd_if her1) (wd_if her2) (wd_if u3) (wd_if u4) w) (fun w => refcmp_any _ _ _ _ (add_u (wd_if hap1) (wd_if hap2) (wd_if u1) (wd_if u2)).1 (add_u (wd_if hap1) (wd_if hap2) (wd_if u1) (wd_if u2)).2 (wd_if has1) (wd_if has2) w) (fun w => refcmp_any _ _ _ _ (add_u (wd_if her1) (wd_if her2) (wd_if u3) (wd_if u4)).1 (add_u (wd_if her1) (wd_if her2) (wd_if u3) (wd_if u4)).2 (wd_if heq1) (wd_if heq2) w) (fun w => asked_any xi1 xi2 xd1 xd2 xc1 xc2 xm1 xm2 xw1 xw2 xtg xto xlg xcd xfl xst ai1 ai2 ap1 ap2 aq1 aq2 ar1 ar2 as1 as2 atg alg acd afl ast ei1 ei2 ep1 ep2 eq1 eq2 er1 er2 es1 es2 etg elg ecd efl est hd hc hxm1 hxm2 hap1 hap2 haq1 haq2 har1 har2 has1 has2 hep1 hep2 heq1 heq2 her1 her2 hes1 hes2 w) (fun w => refcmp_any _ _ _ _ r1 r2 hxm1 hxm2 w) (fun w => room_any_false xi1 xi2 xd1 xd2 xc1 xc2 xm1 xm2 xw1 xw2 xtg xto xlg xcd xfl xst _ _ ai1 ai2 ap1 ap2 aq1 aq2 ar1 ar2 as1 as2 atg alg acd afl ast ei1 ei2 ep1 ep2 eq1 eq2 er1 er2 es1 es2 etg elg ecd efl est hd hc r1 r2 hap1 hap2 haq1 haq2 har1 har2 has1 has2 hep1 hep2 heq1 heq2 her1 her2 hes1 hes2 hpen w) (fun w => refcmp_any _ _ _ _ r1 r2 Wd0 Wd0 w) w
  · intro h
    obtain ⟨o1, o2, f1, f2, x1, x2⟩ := room_0.1 h
    have k1 : addB aq1 aq2 n1 n2 = true := by simpa using o1
    have k2 : addB es1 es2 n1 n2 = true := by simpa using o2
    have s1 : s3B ap1 ap2 aq1 aq2 n1 n2 = true := by simpa using f1
    have s2 : s3B er1 er2 es1 es2 n1 n2 = true := by simpa using f2
    obtain ⟨t1, t2⟩ := tot_two (o1 := as1) hap1 hap2 haq1 haq2 hn1 hn2 has2 s1 k1
    obtain ⟨t3, t4⟩ := tot_two (o1 := eq1) her1 her2 hes1 hes2 hn1 hn2 heq2 s2 k2
    have kk : (addB aq1 aq2 n1 n2 && addB es1 es2 n1 n2) = true := by rw [k1, k2]; rfl
    simp only [kk, if_true]
    exact ⟨trivial, t1, t3, fun hb => t2 (by rw [hb, Bool.true_and] at x1; exact x1), fun hb => t4 (by rw [hb, Bool.true_and] at x2; exact x2)⟩
  · rw [decide_eq_false_iff_not, cmp_pos r2 hxm2]
    have := hle.1
    omega
  · intro hop hb
    have hq := (cmp_pos r2 Wd0).1 (of_decide_eq_true hop)
    rw [V_00] at hq
    have hf : (bits .and .u16 xfl 16 != 0) = true := by simp only [bne, hb, Bool.not_false]
    have hx := room_left has1 has2 hap1 hap2 haq1 haq2 r1 r2 (hle.2.1 hf) hq
    exact bne_iff_ne.2 (room_42 (by rw [hx, Bool.and_false]))
  · intro hop hb
    have hq := (cmp_pos r2 Wd0).1 (of_decide_eq_true hop)
    rw [V_00] at hq
    have hf : (bits .and .u16 xfl 32 != 0) = true := by simp only [bne, hb, Bool.not_false]
    have hx := room_left heq1 heq2 her1 her2 hes1 hes2 r1 r2 (hle.2.2 hf) hq
    exact bne_iff_ne.2 (room_43 (by rw [hx, Bool.and_false]))
set_option maxRecDepth 8000 in
theorem limits_any_true (xi1 xi2 xd1 xd2 xc1 xc2 xm1 xm2 xw1 xw2 xtg xto xlg xcd xfl xst n1 n2 ai1 ai2 ap1 ap2 aq1 aq2 ar1 ar2 as1 as2 atg alg acd afl ast ei1 ei2 ep1 ep2 eq1 eq2 er1 er2 es1 es2 etg elg ecd efl est : Int) (hd hc : Bool) (hn1 : Wd n1) (hn2 : Wd n2) (hxm1 : Wd xm1) (hxm2 : Wd xm2) (hap1 : Wd ap1) (hap2 : Wd ap2) (haq1 : Wd aq1) (haq2 : Wd aq2) (har1 : Wd ar1) (har2 : Wd ar2) (has1 : Wd as1) (has2 : Wd as2) (hep1 : Wd ep1) (hep2 : Wd ep2) (heq1 : Wd eq1) (heq2 : Wd eq2) (her1 : Wd er1) (her2 : Wd er2) (hes1 : Wd es1) (hes2 : Wd es2) (hpen : (bits .and .u16 xfl 2 != 0) = true) (w : World) : Calls Try.prog 7 #[.agg #[.int .u64 xi1, .int .u64 xi2, .int .u64 xd1, .int .u64 xd2, .int .u64 xc1, .int .u64 xc2, .int .u64 xm1, .int .u64 xm2, .int .u64 xw1, .int .u64 xw2, .int .u64 xtg, .int .u32 xto, .int .u32 xlg, .int .u16 xcd, .int .u16 xfl, .int .u64 xst], .agg #[.int .u64 n1, .int .u64 n2], .agg #[.int .u64 ai1, .int .u64 ai2, .int .u64 ap1, .int .u64 ap2, .int .u64 aq1, .int .u64 aq2, .int .u64 ar1, .int .u64 ar2, .int .u64 as1, .int .u64 as2, .int .u64 atg, .int .u32 alg, .int .u16 acd, .int .u16 afl, .int .u64 ast, .int .u64 ei1, .int .u64 ei2, .int .u64 ep1, .int .u64 ep2, .int .u64 eq1, .int .u64 eq2, .int .u64 er1, .int .u64 er2, .int .u64 es1, .int .u64 es2, .int .u64 etg, .int .u32 elg, .int .u16 ecd, .int .u16 efl, .int .u64 est, .bool hd, .bool hc]] w fun r w' => r = .returned (.bool true) ∧ Below w.heap.size w w' := by
  obtain ⟨u1, u2⟩ := add_u hap1 hap2 hn1 hn2
  obtain ⟨u3, u4⟩ := add_u her1 her2 hn1 hn2
  obtain ⟨d1, d2⟩ := le_u has1 has2 hap1 hap2 haq1 haq2
  obtain ⟨e1, e2⟩ := le_u heq1 heq2 her1 her2 hes1 hes2
  obtain ⟨r1, r2⟩ := ask_u (b16 := (bits .and .u16 xfl 16 != 0)) (b32 := (bits .and .u16 xfl 32 != 0)) hxm1 hxm2 d1 d2 e1 e2
  have hle := ask_le (b16 := (bits .and .u16 xfl 16 != 0)) (b32 := (bits .and .u16 xfl 32 != 0)) hxm1 hxm2 d1 d2 (c1 := (leH eq1 eq2 er1 er2 es1 es2)) e2
  refine limits_of xi1 xi2 xd1 xd2 xc1 xc2 xm1 xm2 xw1 xw2 xtg xto xlg xcd xfl xst n1 n2 ai1 ai2 ap1 ap2 aq1 aq2 ar1 ar2 as1 as2 atg alg acd afl ast ei1 ei2 ep1 ep2 eq1 eq2 er1 er2 es1 es2 etg elg ecd efl est _ _ _ _ _ _ _ _ _ _ _ _ _ _ _ _ _ _ _ _ _ _ _ _ _ _ _ _ _ _ _ _ _ _ _ _ _ _ _ _ _ _ hd hc _ _ _ _ _ _ _ _ _ _ rfl rfl rfl rfl rfl ?_ ?_ ?_ ?_ fixed18_any (fun w => room_any_true xi1 xi2 xd1 xd2 xc1 xc2 xm1 xm2 xw1 xw2 xtg xto xlg xcd xfl xst n1 n2 ai1 ai2 ap1 ap2 aq1 aq2 ar1 ar2 as1 as2 atg alg acd afl ast ei1 ei2 ep1 ep2 eq1 eq2 er1 er2 es1 es2 etg elg ecd efl est hd hc hn1 hn2 hap1 hap2 haq1 haq2 har1 har2 has1 has2 hep1 hep2 heq1 heq2 her1 her2 hes1 hes2 hpen w) (fun w => move_cells_true xi1 xi2 xd1 xd2 xc1 xc2 xm1 xm2 xw1 xw2 xtg xto xlg xcd xfl xst n1 n2 ai1 ai2 ap1 ap2 aq1 aq2 ar1 ar2 as1 as2 atg alg acd afl ast ei1 ei2 ep1 ep2 eq1 eq2 er1 er2 es1 es2 etg elg ecd efl est hd hc hn1 hn2 hap1 hap2 haq1 haq2 har1 har2 has1 has2 hep1 hep2 heq1 heq2 her1 her2 hes1 hes2 hpen w) (fun w => refadd_any _ _ _ _ (wd_if u1) (wd_if u2) (wd_if haq1) (wd_if haq2) w) (fun w => refadd_any _ _ _ _ (wd_if u3) (wd_if u4) (wd_if hes1) (wd_if hes2) w) (fun w => refcmp_any _ _ _ _ (add_u (wd_if u1) (wd_if u2) (wd_if haq1) (wd_if haq2)).1 (add_u (wd_if u1) (wd_if u2) (wd_if haq1) (wd_if haq2)).2 (wd_if has1) (wd_if has2) w) (fun w => refcmp_any _ _ _ _ (add_u (wd_if u3) (wd_if u4) (wd_if hes1) (wd_if hes2)).1 (add_u (wd_if u3) (wd_if u4) (wd_if hes1) (wd_if hes2)).2 (wd_if heq1) (wd_if heq2) w) (fun w => asked_any xi1 xi2 xd1 xd2 xc1 xc2 xm1 xm2 xw1 xw2 xtg xto xlg xcd xfl xst ai1 ai2 ap1 ap2 aq1 aq2 ar1 ar2 as1 as2 atg alg acd afl ast ei1 ei2 ep1 ep2 eq1 eq2 er1 er2 es1 es2 etg elg ecd efl est hd hc hxm1 hxm2 hap1 hap2 haq1 haq2 har1 har2 has1 has2 hep1 hep2 heq1 heq2 her1 her2 hes1 hes2 w) (fun w => refcmp_any _ _ _ _ r1 r2 hxm1 hxm2 w) (fun w => room_any_true xi1 xi2 xd1 xd2 xc1 xc2 xm1 xm2 xw1 xw2 xtg xto xlg xcd xfl xst _ _ ai1 ai2 ap1 ap2 aq1 aq2 ar1 ar2 as1 as2 atg alg acd afl ast ei1 ei2 ep1 ep2 eq1 eq2 er1 er2 es1 es2 etg elg ecd efl est hd hc r1 r2 hap1 hap2 haq1 haq2 har1 har2 has1 has2 hep1 hep2 heq1 heq2 her1 her2 hes1 hes2 hpen w) (fun w => refcmp_any _ _ _ _ r1 r2 Wd0 Wd0 w) w
  · intro h
    obtain ⟨o1, o2, f1, f2, x1, x2⟩ := room_0.1 h
    have k1 : addB ap1 ap2 n1 n2 = true := by simpa using o1
    have k2 : addB er1 er2 n1 n2 = true := by simpa using o2
    have s1 : s3B ap1 ap2 aq1 aq2 n1 n2 = true := by simpa using f1
    have s2 : s3B er1 er2 es1 es2 n1 n2 = true := by simpa using f2
    obtain ⟨t1, t2⟩ := tot_one (o1 := as1) hap1 hap2 haq1 haq2 hn1 hn2 has2 s1 k1
    obtain ⟨t3, t4⟩ := tot_one (o1 := eq1) her1 her2 hes1 hes2 hn1 hn2 heq2 s2 k2
    have kk : (addB ap1 ap2 n1 n2 && addB er1 er2 n1 n2) = true := by rw [k1, k2]; rfl
    simp only [kk, if_true]
    exact ⟨trivial, t1, t3, fun hb => t2 (by rw [hb, Bool.true_and] at x1; exact x1), fun hb => t4 (by rw [hb, Bool.true_and] at x2; exact x2)⟩
  · rw [decide_eq_false_iff_not, cmp_pos r2 hxm2]
    have := hle.1
    omega
  · intro hop hb
    have hq := (cmp_pos r2 Wd0).1 (of_decide_eq_true hop)
    rw [V_00] at hq
    have hf : (bits .and .u16 xfl 16 != 0) = true := by simp only [bne, hb, Bool.not_false]
    have hx := room_left has1 has2 hap1 hap2 haq1 haq2 r1 r2 (hle.2.1 hf) hq
    exact bne_iff_ne.2 (room_42 (by rw [hx, Bool.and_false]))
  · intro hop hb
    have hq := (cmp_pos r2 Wd0).1 (of_decide_eq_true hop)
    rw [V_00] at hq
    have hf : (bits .and .u16 xfl 32 != 0) = true := by simp only [bne, hb, Bool.not_false]
    have hx := room_left heq1 heq2 her1 her2 hes1 hes2 r1 r2 (hle.2.2 hf) hq
    exact bne_iff_ne.2 (room_43 (by rw [hx, Bool.and_false]))
set_option maxRecDepth 8000 in
theorem balanceLimits_any (xi1 xi2 xd1 xd2 xc1 xc2 xm1 xm2 xw1 xw2 xtg xto xlg xcd xfl xst n1 n2 ai1 ai2 ap1 ap2 aq1 aq2 ar1 ar2 as1 as2 atg alg acd afl ast ei1 ei2 ep1 ep2 eq1 eq2 er1 er2 es1 es2 etg elg ecd efl est : Int) (hd hc : Bool) (hn1 : Wd n1) (hn2 : Wd n2) (hxm1 : Wd xm1) (hxm2 : Wd xm2) (hap1 : Wd ap1) (hap2 : Wd ap2) (haq1 : Wd aq1) (haq2 : Wd aq2) (har1 : Wd ar1) (har2 : Wd ar2) (has1 : Wd as1) (has2 : Wd as2) (hep1 : Wd ep1) (hep2 : Wd ep2) (heq1 : Wd eq1) (heq2 : Wd eq2) (her1 : Wd er1) (her2 : Wd er2) (hes1 : Wd es1) (hes2 : Wd es2) (w : World) : Calls Try.prog 7 #[.agg #[.int .u64 xi1, .int .u64 xi2, .int .u64 xd1, .int .u64 xd2, .int .u64 xc1, .int .u64 xc2, .int .u64 xm1, .int .u64 xm2, .int .u64 xw1, .int .u64 xw2, .int .u64 xtg, .int .u32 xto, .int .u32 xlg, .int .u16 xcd, .int .u16 xfl, .int .u64 xst], .agg #[.int .u64 n1, .int .u64 n2], .agg #[.int .u64 ai1, .int .u64 ai2, .int .u64 ap1, .int .u64 ap2, .int .u64 aq1, .int .u64 aq2, .int .u64 ar1, .int .u64 ar2, .int .u64 as1, .int .u64 as2, .int .u64 atg, .int .u32 alg, .int .u16 acd, .int .u16 afl, .int .u64 ast, .int .u64 ei1, .int .u64 ei2, .int .u64 ep1, .int .u64 ep2, .int .u64 eq1, .int .u64 eq2, .int .u64 er1, .int .u64 er2, .int .u64 es1, .int .u64 es2, .int .u64 etg, .int .u32 elg, .int .u16 ecd, .int .u16 efl, .int .u64 est, .bool hd, .bool hc]] w fun r w' => r = .returned (.bool true) ∧ Below w.heap.size w w' := by
  cases hpen : (bits .and .u16 xfl 2 != 0)
  · exact limits_any_false xi1 xi2 xd1 xd2 xc1 xc2 xm1 xm2 xw1 xw2 xtg xto xlg xcd xfl xst n1 n2 ai1 ai2 ap1 ap2 aq1 aq2 ar1 ar2 as1 as2 atg alg acd afl ast ei1 ei2 ep1 ep2 eq1 eq2 er1 er2 es1 es2 etg elg ecd efl est hd hc hn1 hn2 hxm1 hxm2 hap1 hap2 haq1 haq2 har1 har2 has1 has2 hep1 hep2 heq1 heq2 her1 her2 hes1 hes2 hpen w
  · exact limits_any_true xi1 xi2 xd1 xd2 xc1 xc2 xm1 xm2 xw1 xw2 xtg xto xlg xcd xfl xst n1 n2 ai1 ai2 ap1 ap2 aq1 aq2 ar1 ar2 as1 as2 atg alg acd afl ast ei1 ei2 ep1 ep2 eq1 eq2 er1 er2 es1 es2 etg elg ecd efl est hd hc hn1 hn2 hxm1 hxm2 hap1 hap2 haq1 haq2 har1 har2 has1 has2 hep1 hep2 heq1 heq2 her1 her2 hes1 hes2 hpen w
end Go.Proofs.Ytpbnakoimlmhnaa
