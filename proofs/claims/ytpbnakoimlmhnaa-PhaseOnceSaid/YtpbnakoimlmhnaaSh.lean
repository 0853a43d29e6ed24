/-
  PhaseOnce, for every input.
-/
import Derived.Test.YtpbnakoimlmhnaaSf
import Derived.Test.YtpbnakoimlmhnaaSg
import Derived.Test.YtpbnakoimlmhnaaSe
import Derived.Test.YtpbnakoimlmhnaaBp
import Derived.Test.YtpbnakoimlmhnaaBj9
import Derived.Test.YtpbnakoimlmhnaaBja
namespace Go.Proofs.Ytpbnakoimlmhnaa
set_option linter.unusedVariables false
set_option linter.unusedSimpArgs false
open Go.RowKit

theorem amt_t {n r : Bool} {a b : Int} (h : (n || r) = true) : amt20 0 n r a b = b := by unfold amt20; rw [if_neg (by simp), if_pos h]
theorem amt_f {n r : Bool} {a b : Int} (h : (n || r) = false) : amt20 0 n r a b = a := by unfold amt20; rw [if_neg (by simp), if_neg (by simp [h])]
theorem cmp_le0 {a b c d : Int} (hb : Wd b) (hd : Wd d) (h : V a b ≤ V c d) : decide (cmpV a b c d ≤ 0) = true := by
  rw [decide_eq_true_iff]
  refine Int.not_lt.1 (fun q => ?_)
  rw [cmp_pos hb hd] at q
  omega
set_option maxRecDepth 8000 in
theorem once_any_false (xi1 xi2 xd1 xd2 xc1 xc2 xm1 xm2 xw1 xw2 xtg xto xlg xcd xfl xst ss yi1 yi2 yd1 yd2 yc1 yc2 ym1 ym2 yw1 yw2 ytg yto ylg ycd yfl yst sv ai1 ai2 ap1 ap2 aq1 aq2 ar1 ar2 as1 as2 atg alg acd afl ast ei1 ei2 ep1 ep2 eq1 eq2 er1 er2 es1 es2 etg elg ecd efl est : Int) (th hd hc : Bool) (hto : 0 ≤ yto ∧ yto < 4294967296) (hst : 0 ≤ yst ∧ yst < 18446744073709551616) (hxm1 : Wd xm1) (hxm2 : Wd xm2) (hym1 : Wd ym1) (hym2 : Wd ym2) (hap1 : Wd ap1) (hap2 : Wd ap2) (haq1 : Wd aq1) (haq2 : Wd aq2) (har1 : Wd ar1) (har2 : Wd ar2) (has1 : Wd as1) (has2 : Wd as2) (hep1 : Wd ep1) (hep2 : Wd ep2) (heq1 : Wd eq1) (heq2 : Wd eq2) (her1 : Wd er1) (her2 : Wd er2) (hes1 : Wd es1) (hes2 : Wd es2) (hpb : (bits .and .u16 xfl 4 != 0) = false) (w : World) : Calls Try.prog 13 #[.agg #[.int .u64 xi1, .int .u64 xi2, .int .u64 xd1, .int .u64 xd2, .int .u64 xc1, .int .u64 xc2, .int .u64 xm1, .int .u64 xm2, .int .u64 xw1, .int .u64 xw2, .int .u64 xtg, .int .u32 xto, .int .u32 xlg, .int .u16 xcd, .int .u16 xfl, .int .u64 xst, .int .u64 ss, .int .u64 yi1, .int .u64 yi2, .int .u64 yd1, .int .u64 yd2, .int .u64 yc1, .int .u64 yc2, .int .u64 ym1, .int .u64 ym2, .int .u64 yw1, .int .u64 yw2, .int .u64 ytg, .int .u32 yto, .int .u32 ylg, .int .u16 ycd, .int .u16 yfl, .int .u64 yst, .bool th, .int .u8 sv, .int .u64 ai1, .int .u64 ai2, .int .u64 ap1, .int .u64 ap2, .int .u64 aq1, .int .u64 aq2, .int .u64 ar1, .int .u64 ar2, .int .u64 as1, .int .u64 as2, .int .u64 atg, .int .u32 alg, .int .u16 acd, .int .u16 afl, .int .u64 ast, .int .u64 ei1, .int .u64 ei2, .int .u64 ep1, .int .u64 ep2, .int .u64 eq1, .int .u64 eq2, .int .u64 er1, .int .u64 er2, .int .u64 es1, .int .u64 es2, .int .u64 etg, .int .u32 elg, .int .u16 ecd, .int .u16 efl, .int .u64 est, .bool hd, .bool hc]] w fun r w' => r = .returned (.bool true) ∧ Below w.heap.size w w' := by
  by_cases hv : (chk20 (namesV (xw1 == 0 && xw2 == 0) (xw1 == 18446744073709551615 && xw2 == 18446744073709551615) (xw1 == xi1 && xw2 == xi2) (xto != 0)) (fitsV th (bits .and .u16 yfl 2 == 0) (xd1 == 0 && xd2 == 0) (xd1 == yd1 && xd2 == yd2) (xc1 == 0 && xc2 == 0) (xc1 == yc1 && xc2 == yc2) (xlg == 0) (xlg == ylg) (xcd == 0) (xcd == ycd) (bits .and .u16 xfl 4 == 0) (xm1 == 18446744073709551615 && xm2 == 18446744073709551615) (decide (0 < cmpV xm1 xm2 ym1 ym2)) (bits .and .u16 xfl 8 == 0) (xm1 == 0 && xm2 == 0) (xm1 == ym1 && xm2 == ym2)) (openV (sv == 2) (sv == 3) (sv == 4) (!((yto == 0) || decide (18446744073709551615 - yst < yto)) && decide (yst + yto ≤ ss))) (closedV (bits .and .u16 xfl 4 == 0) (bits .and .u16 afl 16 != 0) (bits .and .u16 efl 16 != 0))) = 0
  case neg =>
    refine oncebad_of xi1 xi2 xd1 xd2 xc1 xc2 xm1 xm2 xw1 xw2 xtg xto xlg xcd xfl xst ss yi1 yi2 yd1 yd2 yc1 yc2 ym1 ym2 yw1 yw2 ytg yto ylg ycd yfl yst sv ai1 ai2 ap1 ap2 aq1 aq2 ar1 ar2 as1 as2 atg alg acd afl ast ei1 ei2 ep1 ep2 eq1 eq2 er1 er2 es1 es2 etg elg ecd efl est _ th hd hc (bne_iff_ne.2 hv) fixed20_any (fun w => ?_) w
    have h := check20_any xi1 xi2 xd1 xd2 xc1 xc2 xm1 xm2 xw1 xw2 xtg xto xlg xcd xfl xst ss yi1 yi2 yd1 yd2 yc1 yc2 ym1 ym2 yw1 yw2 ytg yto ylg ycd yfl yst sv ai1 ai2 ap1 ap2 aq1 aq2 ar1 ar2 as1 as2 atg alg acd afl ast ei1 ei2 ep1 ep2 eq1 eq2 er1 er2 es1 es2 etg elg ecd efl est th hd hc hto hst w
    have e1 : ∀ a b, amt20 (chk20 (namesV (xw1 == 0 && xw2 == 0) (xw1 == 18446744073709551615 && xw2 == 18446744073709551615) (xw1 == xi1 && xw2 == xi2) (xto != 0)) (fitsV th (bits .and .u16 yfl 2 == 0) (xd1 == 0 && xd2 == 0) (xd1 == yd1 && xd2 == yd2) (xc1 == 0 && xc2 == 0) (xc1 == yc1 && xc2 == yc2) (xlg == 0) (xlg == ylg) (xcd == 0) (xcd == ycd) (bits .and .u16 xfl 4 == 0) (xm1 == 18446744073709551615 && xm2 == 18446744073709551615) (decide (0 < cmpV xm1 xm2 ym1 ym2)) (bits .and .u16 xfl 8 == 0) (xm1 == 0 && xm2 == 0) (xm1 == ym1 && xm2 == ym2)) (openV (sv == 2) (sv == 3) (sv == 4) (!((yto == 0) || decide (18446744073709551615 - yst < yto)) && decide (yst + yto ≤ ss))) (closedV (bits .and .u16 xfl 4 == 0) (bits .and .u16 afl 16 != 0) (bits .and .u16 efl 16 != 0))) (bits .and .u16 xfl 4 == 0) (xm1 == 18446744073709551615 && xm2 == 18446744073709551615) a b = 0 := fun a b => by unfold amt20; rw [if_pos hv]
    rw [e1, e1] at h
    exact h
  case pos =>
  have HV := fun w => check20_any xi1 xi2 xd1 xd2 xc1 xc2 xm1 xm2 xw1 xw2 xtg xto xlg xcd xfl xst ss yi1 yi2 yd1 yd2 yc1 yc2 ym1 ym2 yw1 yw2 ytg yto ylg ycd yfl yst sv ai1 ai2 ap1 ap2 aq1 aq2 ar1 ar2 as1 as2 atg alg acd afl ast ei1 ei2 ep1 ep2 eq1 eq2 er1 er2 es1 es2 etg elg ecd efl est th hd hc hto hst w
  rw [hv] at HV
  obtain ⟨e1, e2, e3, e4⟩ := chk20_0 hv
  clear hv
  obtain ⟨hth, hyf, hq⟩ := fits_0 e2
  obtain ⟨k2, k3, k4, kl⟩ := open_0 e3
  clear e1 e2 e3 e4
  have key : ∃ m1 m2, amt20 0 (bits .and .u16 xfl 4 == 0) (xm1 == 18446744073709551615 && xm2 == 18446744073709551615) xm1 ym1 = m1 ∧ amt20 0 (bits .and .u16 xfl 4 == 0) (xm1 == 18446744073709551615 && xm2 == 18446744073709551615) xm2 ym2 = m2 ∧ Wd m1 ∧ Wd m2 ∧ V m1 m2 ≤ V ym1 ym2 := by
    cases hn : ((bits .and .u16 xfl 4 == 0) || (xm1 == 18446744073709551615 && xm2 == 18446744073709551615))
    case true => exact ⟨ym1, ym2, amt_t hn, amt_t hn, hym1, hym2, Int.le_refl _⟩
    case false =>
      have q := hq hn
      rw [decide_eq_false_iff_not, cmp_pos hxm2 hym2] at q
      exact ⟨xm1, xm2, amt_f hn, amt_f hn, hxm1, hxm2, by omega⟩
  obtain ⟨m1, m2, ea, eb, wm1, wm2, hle⟩ := key
  rw [ea, eb] at HV
  clear ea eb hq
  subst hth
  have hpen : (bits .and .u16 yfl 2 != 0) = true := by rw [bne, hyf]; rfl
  obtain ⟨u1, u2⟩ := add_u hap1 hap2 hym1 hym2
  obtain ⟨u3, u4⟩ := add_u her1 her2 hym1 hym2
  refine once_of xi1 xi2 xd1 xd2 xc1 xc2 xm1 xm2 xw1 xw2 xtg xto xlg xcd xfl xst ss yi1 yi2 yd1 yd2 yc1 yc2 ym1 ym2 yw1 yw2 ytg yto ylg ycd yfl yst sv ai1 ai2 ap1 ap2 aq1 aq2 ar1 ar2 as1 as2 atg alg acd afl ast ei1 ei2 ep1 ep2 eq1 eq2 er1 er2 es1 es2 etg elg ecd efl est _ _ _ _ _ _ _ _ _ _ _ _ _ _ _ _ _ _ _ _ _ _ _ _ _ _ _ _ _ _ _ _ _ _ _ _ _ _ _ _ _ _ _ _ _ _ _ _ _ _ _ _ _ _ _ _ _ _ _ _ m1 m2 (if ((yto == 0) || decide (18446744073709551615 - yst < yto)) = true then 0 else yst + yto) (cmpV m1 m2 ym1 ym2) _ _ _ _ _ _ _ _ _ _ hd hc (!((yto == 0) || decide (18446744073709551615 - yst < yto))) _ _ _ _ _ _ _ _ _ _ false hyf ?_ ?_ ?_ hpb ?_ fixed20_any HV (fun w => deadline_any yi1 yi2 yd1 yd2 yc1 yc2 ym1 ym2 yw1 yw2 ytg yto ylg ycd yfl yst hto hst _ _ rfl rfl w) (fun w => refcmp_any _ _ _ _ wm1 wm2 hym1 hym2 w) (fun w => move_cells_true yi1 yi2 yd1 yd2 yc1 yc2 ym1 ym2 yw1 yw2 ytg yto ylg ycd yfl yst ym1 ym2 ai1 ai2 ap1 ap2 aq1 aq2 ar1 ar2 as1 as2 atg alg acd afl ast ei1 ei2 ep1 ep2 eq1 eq2 er1 er2 es1 es2 etg elg ecd efl est hd hc hym1 hym2 hap1 hap2 haq1 haq2 har1 har2 has1 has2 hep1 hep2 heq1 heq2 her1 her2 hes1 hes2 hpen w) (fun w => refadd_any _ _ _ _ (wd_if u1) (wd_if u2) (wd_if haq1) (wd_if haq2) w) (fun w => refadd_any _ _ _ _ (wd_if u3) (wd_if u4) (wd_if hes1) (wd_if hes2) w)
    (fun w => settle_cells_false yi1 yi2 yd1 yd2 yc1 yc2 ym1 ym2 yw1 yw2 ytg yto ylg ycd yfl yst m1 m2 _ _ _ _ _ _ _ _ _ _ _ _ _ _ _ _ _ _ _ _ _ _ _ _ _ _ _ _ _ _ _ _ wm1 wm2 hym1 hym2 (wd_if u1) (wd_if u2) (wd_if haq1) (wd_if haq2) (wd_if har1) (wd_if har2) (wd_if has1) (wd_if has2) (wd_if hep1) (wd_if hep2) (wd_if heq1) (wd_if heq2) (wd_if u3) (wd_if u4) (wd_if hes1) (wd_if hes2) w) (fun w => refadd_any _ _ _ _ (wd_if (sub_u (wd_if u1) (wd_if u2) hym1 hym2).1) (wd_if (sub_u (wd_if u1) (wd_if u2) hym1 hym2).2) (wd_if (wd_if haq1)) (wd_if (wd_if haq2)) w) (fun w => refadd_any _ _ _ _ (wd_if (sub_u (wd_if u3) (wd_if u4) hym1 hym2).1) (wd_if (sub_u (wd_if u3) (wd_if u4) hym1 hym2).2) (wd_if (wd_if hes1)) (wd_if (wd_if hes2)) w)
    (fun w => refcmp_any _ _ _ _ (add_u (wd_if (sub_u (wd_if u1) (wd_if u2) hym1 hym2).1) (wd_if (sub_u (wd_if u1) (wd_if u2) hym1 hym2).2) (wd_if (wd_if haq1)) (wd_if (wd_if haq2))).1 (add_u (wd_if (sub_u (wd_if u1) (wd_if u2) hym1 hym2).1) (wd_if (sub_u (wd_if u1) (wd_if u2) hym1 hym2).2) (wd_if (wd_if haq1)) (wd_if (wd_if haq2))).2 (add_u (wd_if u1) (wd_if u2) (wd_if haq1) (wd_if haq2)).1 (add_u (wd_if u1) (wd_if u2) (wd_if haq1) (wd_if haq2)).2 w) (fun w => refcmp_any _ _ _ _ (add_u (wd_if (sub_u (wd_if u3) (wd_if u4) hym1 hym2).1) (wd_if (sub_u (wd_if u3) (wd_if u4) hym1 hym2).2) (wd_if (wd_if hes1)) (wd_if (wd_if hes2))).1 (add_u (wd_if (sub_u (wd_if u3) (wd_if u4) hym1 hym2).1) (wd_if (sub_u (wd_if u3) (wd_if u4) hym1 hym2).2) (wd_if (wd_if hes1)) (wd_if (wd_if hes2))).2 (add_u (wd_if u3) (wd_if u4) (wd_if hes1) (wd_if hes2)).1 (add_u (wd_if u3) (wd_if u4) (wd_if hes1) (wd_if hes2)).2 w) w
  · intro h2
    have n2 : ¬ sv = 2 := by simpa using k2
    have n3 : ¬ sv = 3 := by simpa using k3
    have n4 : ¬ sv = 4 := by simpa using k4
    rw [decide_eq_true_iff] at h2
    rw [decide_eq_false_iff_not]
    omega
  · intro hk
    rw [hk, Bool.true_and] at kl
    have hb : ¬ ((yto == 0) || decide (18446744073709551615 - yst < yto)) = true := by
      intro q
      rw [q] at hk
      cases hk
    rw [if_neg hb]
    exact kl
  · rw [decide_eq_false_iff_not, cmp_pos wm2 hym2]
    omega
  · intro hz hf1 hf2
    simp only [hz, if_true] at hf1 hf2 ⊢
    obtain ⟨hz1, hz2⟩ : addB ap1 ap2 ym1 ym2 = true ∧ addB er1 er2 ym1 ym2 = true := by simpa using hz
    obtain ⟨s1, s2, s3⟩ := back1 hap1 hap2 hym1 hym2 hz1
    obtain ⟨t1, t2, t3⟩ := back1 her1 her2 hym1 hym2 hz2
    have v1 := add_sv hz1
    have v2 := add_sv hz2
    have g1 := (addB_iff _ _ _ _).1 hf1
    have g2 := (addB_iff _ _ _ _).1 hf2
    have d1 := add_sv hf1
    have d2 := add_sv hf2
    have p1 := V_nn wm1 wm2
    have p2 := V_nn hym1 hym2
    have c1 : addB ap1 ap2 aq1 aq2 = true := (addB_iff _ _ _ _).2 (by omega)
    have c2 : addB er1 er2 es1 es2 = true := (addB_iff _ _ _ _).2 (by omega)
    have w1 := add_sv c1
    have w2 := add_sv c2
    simp only [s1, s2, s3, t1, t2, t3, Bool.and_self, if_true]
    refine ⟨trivial, c1, c2, cmp_le0 ?_ ?_ ?_, cmp_le0 ?_ ?_ ?_, fun _ => by simp⟩
    · exact (add_u hap1 hap2 haq1 haq2).2
    · exact (add_u u1 u2 haq1 haq2).2
    · omega
    · exact (add_u her1 her2 hes1 hes2).2
    · exact (add_u u3 u4 hes1 hes2).2
    · omega
set_option maxRecDepth 8000 in
theorem once_any_true (xi1 xi2 xd1 xd2 xc1 xc2 xm1 xm2 xw1 xw2 xtg xto xlg xcd xfl xst ss yi1 yi2 yd1 yd2 yc1 yc2 ym1 ym2 yw1 yw2 ytg yto ylg ycd yfl yst sv ai1 ai2 ap1 ap2 aq1 aq2 ar1 ar2 as1 as2 atg alg acd afl ast ei1 ei2 ep1 ep2 eq1 eq2 er1 er2 es1 es2 etg elg ecd efl est : Int) (th hd hc : Bool) (hto : 0 ≤ yto ∧ yto < 4294967296) (hst : 0 ≤ yst ∧ yst < 18446744073709551616) (hxm1 : Wd xm1) (hxm2 : Wd xm2) (hym1 : Wd ym1) (hym2 : Wd ym2) (hap1 : Wd ap1) (hap2 : Wd ap2) (haq1 : Wd aq1) (haq2 : Wd aq2) (har1 : Wd ar1) (har2 : Wd ar2) (has1 : Wd as1) (has2 : Wd as2) (hep1 : Wd ep1) (hep2 : Wd ep2) (heq1 : Wd eq1) (heq2 : Wd eq2) (her1 : Wd er1) (her2 : Wd er2) (hes1 : Wd es1) (hes2 : Wd es2) (hpb : (bits .and .u16 xfl 4 != 0) = true) (w : World) : Calls Try.prog 13 #[.agg #[.int .u64 xi1, .int .u64 xi2, .int .u64 xd1, .int .u64 xd2, .int .u64 xc1, .int .u64 xc2, .int .u64 xm1, .int .u64 xm2, .int .u64 xw1, .int .u64 xw2, .int .u64 xtg, .int .u32 xto, .int .u32 xlg, .int .u16 xcd, .int .u16 xfl, .int .u64 xst, .int .u64 ss, .int .u64 yi1, .int .u64 yi2, .int .u64 yd1, .int .u64 yd2, .int .u64 yc1, .int .u64 yc2, .int .u64 ym1, .int .u64 ym2, .int .u64 yw1, .int .u64 yw2, .int .u64 ytg, .int .u32 yto, .int .u32 ylg, .int .u16 ycd, .int .u16 yfl, .int .u64 yst, .bool th, .int .u8 sv, .int .u64 ai1, .int .u64 ai2, .int .u64 ap1, .int .u64 ap2, .int .u64 aq1, .int .u64 aq2, .int .u64 ar1, .int .u64 ar2, .int .u64 as1, .int .u64 as2, .int .u64 atg, .int .u32 alg, .int .u16 acd, .int .u16 afl, .int .u64 ast, .int .u64 ei1, .int .u64 ei2, .int .u64 ep1, .int .u64 ep2, .int .u64 eq1, .int .u64 eq2, .int .u64 er1, .int .u64 er2, .int .u64 es1, .int .u64 es2, .int .u64 etg, .int .u32 elg, .int .u16 ecd, .int .u16 efl, .int .u64 est, .bool hd, .bool hc]] w fun r w' => r = .returned (.bool true) ∧ Below w.heap.size w w' := by
  by_cases hv : (chk20 (namesV (xw1 == 0 && xw2 == 0) (xw1 == 18446744073709551615 && xw2 == 18446744073709551615) (xw1 == xi1 && xw2 == xi2) (xto != 0)) (fitsV th (bits .and .u16 yfl 2 == 0) (xd1 == 0 && xd2 == 0) (xd1 == yd1 && xd2 == yd2) (xc1 == 0 && xc2 == 0) (xc1 == yc1 && xc2 == yc2) (xlg == 0) (xlg == ylg) (xcd == 0) (xcd == ycd) (bits .and .u16 xfl 4 == 0) (xm1 == 18446744073709551615 && xm2 == 18446744073709551615) (decide (0 < cmpV xm1 xm2 ym1 ym2)) (bits .and .u16 xfl 8 == 0) (xm1 == 0 && xm2 == 0) (xm1 == ym1 && xm2 == ym2)) (openV (sv == 2) (sv == 3) (sv == 4) (!((yto == 0) || decide (18446744073709551615 - yst < yto)) && decide (yst + yto ≤ ss))) (closedV (bits .and .u16 xfl 4 == 0) (bits .and .u16 afl 16 != 0) (bits .and .u16 efl 16 != 0))) = 0
  case neg =>
    refine oncebad_of xi1 xi2 xd1 xd2 xc1 xc2 xm1 xm2 xw1 xw2 xtg xto xlg xcd xfl xst ss yi1 yi2 yd1 yd2 yc1 yc2 ym1 ym2 yw1 yw2 ytg yto ylg ycd yfl yst sv ai1 ai2 ap1 ap2 aq1 aq2 ar1 ar2 as1 as2 atg alg acd afl ast ei1 ei2 ep1 ep2 eq1 eq2 er1 er2 es1 es2 etg elg ecd efl est _ th hd hc (bne_iff_ne.2 hv) fixed20_any (fun w => ?_) w
    have h := check20_any xi1 xi2 xd1 xd2 xc1 xc2 xm1 xm2 xw1 xw2 xtg xto xlg xcd xfl xst ss yi1 yi2 yd1 yd2 yc1 yc2 ym1 ym2 yw1 yw2 ytg yto ylg ycd yfl yst sv ai1 ai2 ap1 ap2 aq1 aq2 ar1 ar2 as1 as2 atg alg acd afl ast ei1 ei2 ep1 ep2 eq1 eq2 er1 er2 es1 es2 etg elg ecd efl est th hd hc hto hst w
    have e1 : ∀ a b, amt20 (chk20 (namesV (xw1 == 0 && xw2 == 0) (xw1 == 18446744073709551615 && xw2 == 18446744073709551615) (xw1 == xi1 && xw2 == xi2) (xto != 0)) (fitsV th (bits .and .u16 yfl 2 == 0) (xd1 == 0 && xd2 == 0) (xd1 == yd1 && xd2 == yd2) (xc1 == 0 && xc2 == 0) (xc1 == yc1 && xc2 == yc2) (xlg == 0) (xlg == ylg) (xcd == 0) (xcd == ycd) (bits .and .u16 xfl 4 == 0) (xm1 == 18446744073709551615 && xm2 == 18446744073709551615) (decide (0 < cmpV xm1 xm2 ym1 ym2)) (bits .and .u16 xfl 8 == 0) (xm1 == 0 && xm2 == 0) (xm1 == ym1 && xm2 == ym2)) (openV (sv == 2) (sv == 3) (sv == 4) (!((yto == 0) || decide (18446744073709551615 - yst < yto)) && decide (yst + yto ≤ ss))) (closedV (bits .and .u16 xfl 4 == 0) (bits .and .u16 afl 16 != 0) (bits .and .u16 efl 16 != 0))) (bits .and .u16 xfl 4 == 0) (xm1 == 18446744073709551615 && xm2 == 18446744073709551615) a b = 0 := fun a b => by unfold amt20; rw [if_pos hv]
    rw [e1, e1] at h
    exact h
  case pos =>
  have HV := fun w => check20_any xi1 xi2 xd1 xd2 xc1 xc2 xm1 xm2 xw1 xw2 xtg xto xlg xcd xfl xst ss yi1 yi2 yd1 yd2 yc1 yc2 ym1 ym2 yw1 yw2 ytg yto ylg ycd yfl yst sv ai1 ai2 ap1 ap2 aq1 aq2 ar1 ar2 as1 as2 atg alg acd afl ast ei1 ei2 ep1 ep2 eq1 eq2 er1 er2 es1 es2 etg elg ecd efl est th hd hc hto hst w
  rw [hv] at HV
  obtain ⟨e1, e2, e3, e4⟩ := chk20_0 hv
  clear hv
  obtain ⟨hth, hyf, hq⟩ := fits_0 e2
  obtain ⟨k2, k3, k4, kl⟩ := open_0 e3
  clear e1 e2 e3 e4
  have key : ∃ m1 m2, amt20 0 (bits .and .u16 xfl 4 == 0) (xm1 == 18446744073709551615 && xm2 == 18446744073709551615) xm1 ym1 = m1 ∧ amt20 0 (bits .and .u16 xfl 4 == 0) (xm1 == 18446744073709551615 && xm2 == 18446744073709551615) xm2 ym2 = m2 ∧ Wd m1 ∧ Wd m2 ∧ V m1 m2 ≤ V ym1 ym2 := by
    cases hn : ((bits .and .u16 xfl 4 == 0) || (xm1 == 18446744073709551615 && xm2 == 18446744073709551615))
    case true => exact ⟨ym1, ym2, amt_t hn, amt_t hn, hym1, hym2, Int.le_refl _⟩
    case false =>
      have q := hq hn
      rw [decide_eq_false_iff_not, cmp_pos hxm2 hym2] at q
      exact ⟨xm1, xm2, amt_f hn, amt_f hn, hxm1, hxm2, by omega⟩
  obtain ⟨m1, m2, ea, eb, wm1, wm2, hle⟩ := key
  rw [ea, eb] at HV
  clear ea eb hq
  subst hth
  have hpen : (bits .and .u16 yfl 2 != 0) = true := by rw [bne, hyf]; rfl
  obtain ⟨u1, u2⟩ := add_u hap1 hap2 hym1 hym2
  obtain ⟨u3, u4⟩ := add_u her1 her2 hym1 hym2
  refine once_of xi1 xi2 xd1 xd2 xc1 xc2 xm1 xm2 xw1 xw2 xtg xto xlg xcd xfl xst ss yi1 yi2 yd1 yd2 yc1 yc2 ym1 ym2 yw1 yw2 ytg yto ylg ycd yfl yst sv ai1 ai2 ap1 ap2 aq1 aq2 ar1 ar2 as1 as2 atg alg acd afl ast ei1 ei2 ep1 ep2 eq1 eq2 er1 er2 es1 es2 etg elg ecd efl est _ _ _ _ _ _ _ _ _ _ _ _ _ _ _ _ _ _ _ _ _ _ _ _ _ _ _ _ _ _ _ _ _ _ _ _ _ _ _ _ _ _ _ _ _ _ _ _ _ _ _ _ _ _ _ _ _ _ _ _ m1 m2 (if ((yto == 0) || decide (18446744073709551615 - yst < yto)) = true then 0 else yst + yto) (cmpV m1 m2 ym1 ym2) _ _ _ _ _ _ _ _ _ _ hd hc (!((yto == 0) || decide (18446744073709551615 - yst < yto))) _ _ _ _ _ _ _ _ _ _ true hyf ?_ ?_ ?_ hpb ?_ fixed20_any HV (fun w => deadline_any yi1 yi2 yd1 yd2 yc1 yc2 ym1 ym2 yw1 yw2 ytg yto ylg ycd yfl yst hto hst _ _ rfl rfl w) (fun w => refcmp_any _ _ _ _ wm1 wm2 hym1 hym2 w) (fun w => move_cells_true yi1 yi2 yd1 yd2 yc1 yc2 ym1 ym2 yw1 yw2 ytg yto ylg ycd yfl yst ym1 ym2 ai1 ai2 ap1 ap2 aq1 aq2 ar1 ar2 as1 as2 atg alg acd afl ast ei1 ei2 ep1 ep2 eq1 eq2 er1 er2 es1 es2 etg elg ecd efl est hd hc hym1 hym2 hap1 hap2 haq1 haq2 har1 har2 has1 has2 hep1 hep2 heq1 heq2 her1 her2 hes1 hes2 hpen w) (fun w => refadd_any _ _ _ _ (wd_if u1) (wd_if u2) (wd_if haq1) (wd_if haq2) w) (fun w => refadd_any _ _ _ _ (wd_if u3) (wd_if u4) (wd_if hes1) (wd_if hes2) w)
    (fun w => settle_cells_true yi1 yi2 yd1 yd2 yc1 yc2 ym1 ym2 yw1 yw2 ytg yto ylg ycd yfl yst m1 m2 _ _ _ _ _ _ _ _ _ _ _ _ _ _ _ _ _ _ _ _ _ _ _ _ _ _ _ _ _ _ _ _ wm1 wm2 hym1 hym2 (wd_if u1) (wd_if u2) (wd_if haq1) (wd_if haq2) (wd_if har1) (wd_if har2) (wd_if has1) (wd_if has2) (wd_if hep1) (wd_if hep2) (wd_if heq1) (wd_if heq2) (wd_if u3) (wd_if u4) (wd_if hes1) (wd_if hes2) w) (fun w => refadd_any _ _ _ _ (wd_if (sub_u (wd_if u1) (wd_if u2) hym1 hym2).1) (wd_if (sub_u (wd_if u1) (wd_if u2) hym1 hym2).2) (wd_if (add_u (wd_if haq1) (wd_if haq2) wm1 wm2).1) (wd_if (add_u (wd_if haq1) (wd_if haq2) wm1 wm2).2) w) (fun w => refadd_any _ _ _ _ (wd_if (sub_u (wd_if u3) (wd_if u4) hym1 hym2).1) (wd_if (sub_u (wd_if u3) (wd_if u4) hym1 hym2).2) (wd_if (add_u (wd_if hes1) (wd_if hes2) wm1 wm2).1) (wd_if (add_u (wd_if hes1) (wd_if hes2) wm1 wm2).2) w)
    (fun w => refcmp_any _ _ _ _ (add_u (wd_if (sub_u (wd_if u1) (wd_if u2) hym1 hym2).1) (wd_if (sub_u (wd_if u1) (wd_if u2) hym1 hym2).2) (wd_if (add_u (wd_if haq1) (wd_if haq2) wm1 wm2).1) (wd_if (add_u (wd_if haq1) (wd_if haq2) wm1 wm2).2)).1 (add_u (wd_if (sub_u (wd_if u1) (wd_if u2) hym1 hym2).1) (wd_if (sub_u (wd_if u1) (wd_if u2) hym1 hym2).2) (wd_if (add_u (wd_if haq1) (wd_if haq2) wm1 wm2).1) (wd_if (add_u (wd_if haq1) (wd_if haq2) wm1 wm2).2)).2 (add_u (wd_if u1) (wd_if u2) (wd_if haq1) (wd_if haq2)).1 (add_u (wd_if u1) (wd_if u2) (wd_if haq1) (wd_if haq2)).2 w) (fun w => refcmp_any _ _ _ _ (add_u (wd_if (sub_u (wd_if u3) (wd_if u4) hym1 hym2).1) (wd_if (sub_u (wd_if u3) (wd_if u4) hym1 hym2).2) (wd_if (add_u (wd_if hes1) (wd_if hes2) wm1 wm2).1) (wd_if (add_u (wd_if hes1) (wd_if hes2) wm1 wm2).2)).1 (add_u (wd_if (sub_u (wd_if u3) (wd_if u4) hym1 hym2).1) (wd_if (sub_u (wd_if u3) (wd_if u4) hym1 hym2).2) (wd_if (add_u (wd_if hes1) (wd_if hes2) wm1 wm2).1) (wd_if (add_u (wd_if hes1) (wd_if hes2) wm1 wm2).2)).2 (add_u (wd_if u3) (wd_if u4) (wd_if hes1) (wd_if hes2)).1 (add_u (wd_if u3) (wd_if u4) (wd_if hes1) (wd_if hes2)).2 w) w
  · intro h2
    have n2 : ¬ sv = 2 := by simpa using k2
    have n3 : ¬ sv = 3 := by simpa using k3
    have n4 : ¬ sv = 4 := by simpa using k4
    rw [decide_eq_true_iff] at h2
    rw [decide_eq_false_iff_not]
    omega
  · intro hk
    rw [hk, Bool.true_and] at kl
    have hb : ¬ ((yto == 0) || decide (18446744073709551615 - yst < yto)) = true := by
      intro q
      rw [q] at hk
      cases hk
    rw [if_neg hb]
    exact kl
  · rw [decide_eq_false_iff_not, cmp_pos wm2 hym2]
    omega
  · intro hz hf1 hf2
    simp only [hz, if_true] at hf1 hf2 ⊢
    obtain ⟨hz1, hz2⟩ : addB ap1 ap2 ym1 ym2 = true ∧ addB er1 er2 ym1 ym2 = true := by simpa using hz
    obtain ⟨s1, s2, s3⟩ := back1 hap1 hap2 hym1 hym2 hz1
    obtain ⟨t1, t2, t3⟩ := back1 her1 her2 hym1 hym2 hz2
    have v1 := add_sv hz1
    have v2 := add_sv hz2
    have g1 := (addB_iff _ _ _ _).1 hf1
    have g2 := (addB_iff _ _ _ _).1 hf2
    have d1 := add_sv hf1
    have d2 := add_sv hf2
    have p1 := V_nn wm1 wm2
    have a1 : addB aq1 aq2 m1 m2 = true := (addB_iff _ _ _ _).2 (by have := V_nn hap1 hap2; omega)
    have a2 : addB es1 es2 m1 m2 = true := (addB_iff _ _ _ _).2 (by have := V_nn her1 her2; omega)
    have b1 := add_sv a1
    have b2 := add_sv a2
    have c1 : addB ap1 ap2 (addH aq1 aq2 m1 m2) (addL aq1 aq2 m1 m2) = true := (addB_iff _ _ _ _).2 (by omega)
    have c2 : addB er1 er2 (addH es1 es2 m1 m2) (addL es1 es2 m1 m2) = true := (addB_iff _ _ _ _).2 (by omega)
    have w1 := add_sv c1
    have w2 := add_sv c2
    simp only [s1, s2, s3, t1, t2, t3, a1, a2, Bool.and_self, if_true]
    refine ⟨trivial, c1, c2, cmp_le0 ?_ ?_ ?_, cmp_le0 ?_ ?_ ?_, fun h => by cases h⟩
    · exact (add_u hap1 hap2 (add_u haq1 haq2 wm1 wm2).1 (add_u haq1 haq2 wm1 wm2).2).2
    · exact (add_u u1 u2 haq1 haq2).2
    · omega
    · exact (add_u her1 her2 (add_u hes1 hes2 wm1 wm2).1 (add_u hes1 hes2 wm1 wm2).2).2
    · exact (add_u u3 u4 hes1 hes2).2
    · omega
set_option maxRecDepth 8000 in
theorem phaseOnce_any (xi1 xi2 xd1 xd2 xc1 xc2 xm1 xm2 xw1 xw2 xtg xto xlg xcd xfl xst ss yi1 yi2 yd1 yd2 yc1 yc2 ym1 ym2 yw1 yw2 ytg yto ylg ycd yfl yst sv ai1 ai2 ap1 ap2 aq1 aq2 ar1 ar2 as1 as2 atg alg acd afl ast ei1 ei2 ep1 ep2 eq1 eq2 er1 er2 es1 es2 etg elg ecd efl est : Int) (th hd hc : Bool) (hto : 0 ≤ yto ∧ yto < 4294967296) (hst : 0 ≤ yst ∧ yst < 18446744073709551616) (hxm1 : Wd xm1) (hxm2 : Wd xm2) (hym1 : Wd ym1) (hym2 : Wd ym2) (hap1 : Wd ap1) (hap2 : Wd ap2) (haq1 : Wd aq1) (haq2 : Wd aq2) (har1 : Wd ar1) (har2 : Wd ar2) (has1 : Wd as1) (has2 : Wd as2) (hep1 : Wd ep1) (hep2 : Wd ep2) (heq1 : Wd eq1) (heq2 : Wd eq2) (her1 : Wd er1) (her2 : Wd er2) (hes1 : Wd es1) (hes2 : Wd es2) (w : World) : Calls Try.prog 13 #[.agg #[.int .u64 xi1, .int .u64 xi2, .int .u64 xd1, .int .u64 xd2, .int .u64 xc1, .int .u64 xc2, .int .u64 xm1, .int .u64 xm2, .int .u64 xw1, .int .u64 xw2, .int .u64 xtg, .int .u32 xto, .int .u32 xlg, .int .u16 xcd, .int .u16 xfl, .int .u64 xst, .int .u64 ss, .int .u64 yi1, .int .u64 yi2, .int .u64 yd1, .int .u64 yd2, .int .u64 yc1, .int .u64 yc2, .int .u64 ym1, .int .u64 ym2, .int .u64 yw1, .int .u64 yw2, .int .u64 ytg, .int .u32 yto, .int .u32 ylg, .int .u16 ycd, .int .u16 yfl, .int .u64 yst, .bool th, .int .u8 sv, .int .u64 ai1, .int .u64 ai2, .int .u64 ap1, .int .u64 ap2, .int .u64 aq1, .int .u64 aq2, .int .u64 ar1, .int .u64 ar2, .int .u64 as1, .int .u64 as2, .int .u64 atg, .int .u32 alg, .int .u16 acd, .int .u16 afl, .int .u64 ast, .int .u64 ei1, .int .u64 ei2, .int .u64 ep1, .int .u64 ep2, .int .u64 eq1, .int .u64 eq2, .int .u64 er1, .int .u64 er2, .int .u64 es1, .int .u64 es2, .int .u64 etg, .int .u32 elg, .int .u16 ecd, .int .u16 efl, .int .u64 est, .bool hd, .bool hc]] w fun r w' => r = .returned (.bool true) ∧ Below w.heap.size w w' := by
  cases hpb : (bits .and .u16 xfl 4 != 0)
  · exact once_any_false xi1 xi2 xd1 xd2 xc1 xc2 xm1 xm2 xw1 xw2 xtg xto xlg xcd xfl xst ss yi1 yi2 yd1 yd2 yc1 yc2 ym1 ym2 yw1 yw2 ytg yto ylg ycd yfl yst sv ai1 ai2 ap1 ap2 aq1 aq2 ar1 ar2 as1 as2 atg alg acd afl ast ei1 ei2 ep1 ep2 eq1 eq2 er1 er2 es1 es2 etg elg ecd efl est th hd hc hto hst hxm1 hxm2 hym1 hym2 hap1 hap2 haq1 haq2 har1 har2 has1 has2 hep1 hep2 heq1 heq2 her1 her2 hes1 hes2 hpb w
  · exact once_any_true xi1 xi2 xd1 xd2 xc1 xc2 xm1 xm2 xw1 xw2 xtg xto xlg xcd xfl xst ss yi1 yi2 yd1 yd2 yc1 yc2 ym1 ym2 yw1 yw2 ytg yto ylg ycd yfl yst sv ai1 ai2 ap1 ap2 aq1 aq2 ar1 ar2 as1 as2 atg alg acd afl ast ei1 ei2 ep1 ep2 eq1 eq2 er1 er2 es1 es2 etg elg ecd efl est th hd hc hto hst hxm1 hxm2 hym1 hym2 hap1 hap2 haq1 haq2 har1 har2 has1 has2 hep1 hep2 heq1 heq2 her1 her2 hes1 hes2 hpb w
end Go.Proofs.Ytpbnakoimlmhnaa
