/-
  posting.Check, walked.
-/
import Derived.Test.YtpbnakoimlmhnaaBm
import Derived.Test.YtpbnakoimlmhnaaPc0
import Derived.Test.YtpbnakoimlmhnaaPn1
import Derived.Test.YtpbnakoimlmhnaaPn2
import Derived.Test.YtpbnakoimlmhnaaPn3
import Derived.Test.YtpbnakoimlmhnaaPn4
import Derived.Deep.RegionHeld
import Derived.Deep.DeepCutAuto
namespace Go.Proofs.Ytpbnakoimlmhnaa
set_option linter.unusedVariables false
set_option linter.unusedSimpArgs false
open Go.RowKit

attribute [local go_sem] loadV_ptr storeV_ptr one_func drew_hs ext_deb ext_cre ext_cols ext_acc
attribute [local go_sem ↓] load_Cols store_Cols load_Transfer store_Transfer load_Parties store_Parties load_Acct store_Acct
attribute [local go_sem] ext_asked
attribute [local go_sem ↓] load_Askd store_Askd
attribute [local go_sem] bG_is
attribute [local go_sem ↓] build_AskdG run_storeC
set_option maxRecDepth 20000 in
set_option maxHeartbeats 8000000 in
theorem pcheck_of (xi1 xi2 xd1 xd2 xc1 xc2 xm1 xm2 xw1 xw2 xtg xto xlg xcd xfl xst ss ai1 ai2 ap1 ap2 aq1 aq2 ar1 ar2 as1 as2 atg alg acd afl ast ei1 ei2 ep1 ep2 eq1 eq2 er1 er2 es1 es2 etg elg ecd efl est n1 n2 rv v1 v2 v3 v4 : Int) (hd hc : Bool) (hto : 0 ≤ xto ∧ xto < 4294967296) (hss : 0 ≤ ss ∧ ss < 18446744073709551616) (hv_v1 : pnamesV (xd1 == 0 && xd2 == 0) (xd1 == 18446744073709551615 && xd2 == 18446744073709551615) (xc1 == 0 && xc2 == 0) (xc1 == 18446744073709551615 && xc2 == 18446744073709551615) (xd1 == xc1 && xd2 == xc2) = v1) (hv_v2 : pfieldsV (xw1 == 0 && xw2 == 0) (xto != 0) (bits .and .u16 xfl 2 != 0) (bits .and .u16 xfl 192 != 0) (xlg == 0) (xcd == 0) = v2) (hv_v3 : paccV hd hc (alg != elg) (xlg != alg) (bits .and .u16 afl 16 != 0) (bits .and .u16 efl 16 != 0) = v3) (hv_v4 : psumsV rv (rv == 42) (rv == 43) (decide (18446744073709551615 - ss < xto)) = v4)
    (HA : ∀ w, Calls Try.prog 20 #[.agg #[.int .u64 xi1, .int .u64 xi2, .int .u64 xd1, .int .u64 xd2, .int .u64 xc1, .int .u64 xc2, .int .u64 xm1, .int .u64 xm2, .int .u64 xw1, .int .u64 xw2, .int .u64 xtg, .int .u32 xto, .int .u32 xlg, .int .u16 xcd, .int .u16 xfl, .int .u64 xst], .agg #[.int .u64 ai1, .int .u64 ai2, .int .u64 ap1, .int .u64 ap2, .int .u64 aq1, .int .u64 aq2, .int .u64 ar1, .int .u64 ar2, .int .u64 as1, .int .u64 as2, .int .u64 atg, .int .u32 alg, .int .u16 acd, .int .u16 afl, .int .u64 ast, .int .u64 ei1, .int .u64 ei2, .int .u64 ep1, .int .u64 ep2, .int .u64 eq1, .int .u64 eq2, .int .u64 er1, .int .u64 er2, .int .u64 es1, .int .u64 es2, .int .u64 etg, .int .u32 elg, .int .u16 ecd, .int .u16 efl, .int .u64 est, .bool hd, .bool hc]] w fun r w' => r = .returned (.agg #[.int .u64 n1, .int .u64 n2]) ∧ Below w.heap.size w w')
    (HR : ∀ w, Calls Try.prog 22 #[.agg #[.int .u64 xi1, .int .u64 xi2, .int .u64 xd1, .int .u64 xd2, .int .u64 xc1, .int .u64 xc2, .int .u64 xm1, .int .u64 xm2, .int .u64 xw1, .int .u64 xw2, .int .u64 xtg, .int .u32 xto, .int .u32 xlg, .int .u16 xcd, .int .u16 xfl, .int .u64 xst], .agg #[.int .u64 n1, .int .u64 n2], .agg #[.int .u64 ai1, .int .u64 ai2, .int .u64 ap1, .int .u64 ap2, .int .u64 aq1, .int .u64 aq2, .int .u64 ar1, .int .u64 ar2, .int .u64 as1, .int .u64 as2, .int .u64 atg, .int .u32 alg, .int .u16 acd, .int .u16 afl, .int .u64 ast, .int .u64 ei1, .int .u64 ei2, .int .u64 ep1, .int .u64 ep2, .int .u64 eq1, .int .u64 eq2, .int .u64 er1, .int .u64 er2, .int .u64 es1, .int .u64 es2, .int .u64 etg, .int .u32 elg, .int .u16 ecd, .int .u16 efl, .int .u64 est, .bool hd, .bool hc]] w fun r w' => r = .returned (.int .u32 rv) ∧ Below w.heap.size w w')
    (w : World) : Calls Try.prog 26 #[.agg #[.int .u64 xi1, .int .u64 xi2, .int .u64 xd1, .int .u64 xd2, .int .u64 xc1, .int .u64 xc2, .int .u64 xm1, .int .u64 xm2, .int .u64 xw1, .int .u64 xw2, .int .u64 xtg, .int .u32 xto, .int .u32 xlg, .int .u16 xcd, .int .u16 xfl, .int .u64 xst], .int .u64 ss, .agg #[.int .u64 ai1, .int .u64 ai2, .int .u64 ap1, .int .u64 ap2, .int .u64 aq1, .int .u64 aq2, .int .u64 ar1, .int .u64 ar2, .int .u64 as1, .int .u64 as2, .int .u64 atg, .int .u32 alg, .int .u16 acd, .int .u16 afl, .int .u64 ast, .int .u64 ei1, .int .u64 ei2, .int .u64 ep1, .int .u64 ep2, .int .u64 eq1, .int .u64 eq2, .int .u64 er1, .int .u64 er2, .int .u64 es1, .int .u64 es2, .int .u64 etg, .int .u32 elg, .int .u16 ecd, .int .u16 efl, .int .u64 est, .bool hd, .bool hc]] w fun r w' => r = .returned (res19 (chk19 v1 v2 v3 v4) n1 n2) ∧ Below w.heap.size w w' := by
  replace HA := Lib.hid HA
  replace HR := Lib.hid HR
  have H1 := fun w => pnames_any xi1 xi2 xd1 xd2 xc1 xc2 xm1 xm2 xw1 xw2 xtg xto xlg xcd xfl xst ss ai1 ai2 ap1 ap2 aq1 aq2 ar1 ar2 as1 as2 atg alg acd afl ast ei1 ei2 ep1 ep2 eq1 eq2 er1 er2 es1 es2 etg elg ecd efl est n1 n2 rv hd hc _ _ _ _ _ rfl rfl rfl rfl rfl w
  simp only [hv_v1] at H1
  replace H1 := Lib.hid H1
  have H2 := fun w => pfields_any xi1 xi2 xd1 xd2 xc1 xc2 xm1 xm2 xw1 xw2 xtg xto xlg xcd xfl xst ss ai1 ai2 ap1 ap2 aq1 aq2 ar1 ar2 as1 as2 atg alg acd afl ast ei1 ei2 ep1 ep2 eq1 eq2 er1 er2 es1 es2 etg elg ecd efl est n1 n2 rv hd hc _ _ _ _ _ _ rfl rfl rfl rfl rfl rfl w
  simp only [hv_v2] at H2
  replace H2 := Lib.hid H2
  have H3 := fun w => pacc_any xi1 xi2 xd1 xd2 xc1 xc2 xm1 xm2 xw1 xw2 xtg xto xlg xcd xfl xst ss ai1 ai2 ap1 ap2 aq1 aq2 ar1 ar2 as1 as2 atg alg acd afl ast ei1 ei2 ep1 ep2 eq1 eq2 er1 er2 es1 es2 etg elg ecd efl est n1 n2 rv hd hc _ _ _ _ rfl rfl rfl rfl w
  simp only [hv_v3] at H3
  replace H3 := Lib.hid H3
  have H4 := fun w => psums_any xi1 xi2 xd1 xd2 xc1 xc2 xm1 xm2 xw1 xw2 xtg xto xlg xcd xfl xst ss ai1 ai2 ap1 ap2 aq1 aq2 ar1 ar2 as1 as2 atg alg acd afl ast ei1 ei2 ep1 ep2 eq1 eq2 er1 er2 es1 es2 etg elg ecd efl est n1 n2 rv hd hc _ _ _ hto hss rfl rfl rfl w
  simp only [hv_v4] at H4
  replace H4 := Lib.hid H4
  clear hv_v1 hv_v2 hv_v3 hv_v4 hto hss
  have hb0 := Below.refl w.heap.size w
  go_enter Try.func26, Try.ntmps26
  go_upto_region 1 with fail
  replace hb0 := Lib.hid hb0
  refine abs_wp (fun Y_ => Below w.heap.size w Y_ ∧ Blk Y_ (w.heap.size) 28 #[.int .u64 xi1, .int .u64 xi2, .int .u64 xd1, .int .u64 xd2, .int .u64 xc1, .int .u64 xc2, .int .u64 xm1, .int .u64 xm2, .int .u64 xw1, .int .u64 xw2, .int .u64 xtg, .int .u32 xto, .int .u32 xlg, .int .u16 xcd, .int .u16 xfl, .int .u64 xst] ∧ Blk Y_ (w.heap.size + 1) 32 #[.int .u64 ai1, .int .u64 ai2, .int .u64 ap1, .int .u64 ap2, .int .u64 aq1, .int .u64 aq2, .int .u64 ar1, .int .u64 ar2, .int .u64 as1, .int .u64 as2, .int .u64 atg, .int .u32 alg, .int .u16 acd, .int .u16 afl, .int .u64 ast, .int .u64 ei1, .int .u64 ei2, .int .u64 ep1, .int .u64 ep2, .int .u64 eq1, .int .u64 eq2, .int .u64 er1, .int .u64 er2, .int .u64 es1, .int .u64 es2, .int .u64 etg, .int .u32 elg, .int .u16 ecd, .int .u16 efl, .int .u64 est, .bool hd, .bool hc] ∧ Blk Y_ (w.heap.size + 2) 24 #[.int .u64 0, .int .u64 0]) ?_ ?_
  · have t_B := hb0.out
    refine ⟨by (repeat (first | with_reducible exact Below.refl _ _ | with_reducible assumption | (with_reducible refine bel_set ?_ (by first | exact Nat.le_refl _ | (simp; done) | (simp; omega) | omega) _) | with_reducible refine bel_grow ?_ _ | with_reducible refine Below.drew ?_ | with_reducible refine bel_alloc ?_ _ | with_reducible refine bel_eld ?_ (by assumption))), ?_, ?_, ?_⟩
    · (repeat (first | with_reducible assumption | (with_reducible refine Blk.new' ?_; first | with_reducible rfl | (simp; done)) | with_reducible refine Blk.alloc ?_ _ | with_reducible refine Blk.grow ?_ _ | with_reducible refine Blk.drew ?_ | with_reducible refine Blk.drewN ?_ _ | (with_reducible refine Blk.far ?_ (by first | (dsimp only; omega) | (simp; omega)) _) | (with_reducible apply Blk.two) | (with_reducible refine Blk.kept ?_ (by assumption)) | (with_reducible refine Blk.setRow ?_ (by first | rfl | (simp; done))) | (with_reducible refine Blk.setRow_far ?_ (by first | omega | (simp; omega)) _) | (with_reducible refine Blk.set' ?_ _ _ (by first | rfl | (simp; done)))))
    · (repeat (first | with_reducible assumption | (with_reducible refine Blk.new' ?_; first | with_reducible rfl | (simp; done)) | with_reducible refine Blk.alloc ?_ _ | with_reducible refine Blk.grow ?_ _ | with_reducible refine Blk.drew ?_ | with_reducible refine Blk.drewN ?_ _ | (with_reducible refine Blk.far ?_ (by first | (dsimp only; omega) | (simp; omega)) _) | (with_reducible apply Blk.two) | (with_reducible refine Blk.kept ?_ (by assumption)) | (with_reducible refine Blk.setRow ?_ (by first | rfl | (simp; done))) | (with_reducible refine Blk.setRow_far ?_ (by first | omega | (simp; omega)) _) | (with_reducible refine Blk.set' ?_ _ _ (by first | rfl | (simp; done)))))
    · (repeat (first | with_reducible assumption | (with_reducible refine Blk.new' ?_; first | with_reducible rfl | (simp; done)) | with_reducible refine Blk.alloc ?_ _ | with_reducible refine Blk.grow ?_ _ | with_reducible refine Blk.drew ?_ | with_reducible refine Blk.drewN ?_ _ | (with_reducible refine Blk.far ?_ (by first | (dsimp only; omega) | (simp; omega)) _) | (with_reducible apply Blk.two) | (with_reducible refine Blk.kept ?_ (by assumption)) | (with_reducible refine Blk.setRow ?_ (by first | rfl | (simp; done))) | (with_reducible refine Blk.setRow_far ?_ (by first | omega | (simp; omega)) _) | (with_reducible refine Blk.set' ?_ _ _ (by first | rfl | (simp; done)))))
  clear hb0
  rintro X0 ⟨hB_1, f_x, f_p, f_r⟩
  have r_x := rowAt_blk f_x
  have x_l := f_x.lt
  replace f_x := Lib.hid f_x
  have r_p := rowAt_blk f_p
  have p_l := f_p.lt
  replace f_p := Lib.hid f_p
  have r_0 : X0.cell? ⟨w.heap.size + 2, 0, none⟩ = some (.int .u64 0) := (f_r).cell 0
  have r_1 : X0.cell? ⟨w.heap.size + 2, 1, none⟩ = some (.int .u64 0) := (f_r).cell 1
  have r_f0 := (f_r).frozen 0
  have r_f1 := (f_r).frozen 1
  have r_l := (f_r).lt
  replace f_r := Lib.hid f_r
  replace hB_1 := Lib.hid hB_1
  go_cut [8] (fun s8 wx => ∃ q, s8 = .pointer (some ⟨q, 0, none⟩) ∧ X0.heap.size ≤ q ∧ Blk wx q 95 #[.int .u64 xi1, .int .u64 xi2, .int .u64 xd1, .int .u64 xd2, .int .u64 xc1, .int .u64 xc2, .int .u64 xm1, .int .u64 xm2, .int .u64 xw1, .int .u64 xw2, .int .u64 xtg, .int .u32 xto, .int .u32 xlg, .int .u16 xcd, .int .u16 xfl, .int .u64 xst, .int .u64 ss, .int .u64 ai1, .int .u64 ai2, .int .u64 ap1, .int .u64 ap2, .int .u64 aq1, .int .u64 aq2, .int .u64 ar1, .int .u64 ar2, .int .u64 as1, .int .u64 as2, .int .u64 atg, .int .u32 alg, .int .u16 acd, .int .u16 afl, .int .u64 ast, .int .u64 ei1, .int .u64 ei2, .int .u64 ep1, .int .u64 ep2, .int .u64 eq1, .int .u64 eq2, .int .u64 er1, .int .u64 er2, .int .u64 es1, .int .u64 es2, .int .u64 etg, .int .u32 elg, .int .u16 ecd, .int .u16 efl, .int .u64 est, .bool hd, .bool hc, .int .u64 n1, .int .u64 n2, .int .u32 0] ∧ Below X0.heap.size X0 wx)
  case first =>
    clear r_0 r_1 r_f0 r_f1 r_l
    have r_x' := r_x
    have r_p' := r_p
    clear r_x r_p
    generalize hA : (#[.int .u64 xi1, .int .u64 xi2, .int .u64 xd1, .int .u64 xd2, .int .u64 xc1, .int .u64 xc2, .int .u64 xm1, .int .u64 xm2, .int .u64 xw1, .int .u64 xw2, .int .u64 xtg, .int .u32 xto, .int .u32 xlg, .int .u16 xcd, .int .u16 xfl, .int .u64 xst] : Array Value) = A at HA r_x' ⊢
    generalize hB : (#[.int .u64 ai1, .int .u64 ai2, .int .u64 ap1, .int .u64 ap2, .int .u64 aq1, .int .u64 aq2, .int .u64 ar1, .int .u64 ar2, .int .u64 as1, .int .u64 as2, .int .u64 atg, .int .u32 alg, .int .u16 acd, .int .u16 afl, .int .u64 ast, .int .u64 ei1, .int .u64 ei2, .int .u64 ep1, .int .u64 ep2, .int .u64 eq1, .int .u64 eq2, .int .u64 er1, .int .u64 er2, .int .u64 es1, .int .u64 es2, .int .u64 etg, .int .u32 elg, .int .u16 ecd, .int .u16 efl, .int .u64 est, .bool hd, .bool hc] : Array Value) = B at HA r_p' ⊢
    have szA : A.size = 16 := by rw [← hA]; rfl
    have szB : B.size = 32 := by rw [← hB]; rfl
    have exA : A.extract 0 16 = A := Array.extract_eq_self_of_le (by omega)
    have exB : B.extract 0 32 = B := Array.extract_eq_self_of_le (by omega)
    have oA : A.toList.all Value.oneCell' = true := by rw [← hA]; rfl
    have oB : B.toList.all Value.oneCell' = true := by rw [← hB]; rfl
    have eD : cat52 A (.int .u64 ss) B #[.int .u64 n1, .int .u64 n2] = #[.int .u64 xi1, .int .u64 xi2, .int .u64 xd1, .int .u64 xd2, .int .u64 xc1, .int .u64 xc2, .int .u64 xm1, .int .u64 xm2, .int .u64 xw1, .int .u64 xw2, .int .u64 xtg, .int .u32 xto, .int .u32 xlg, .int .u16 xcd, .int .u16 xfl, .int .u64 xst, .int .u64 ss, .int .u64 ai1, .int .u64 ai2, .int .u64 ap1, .int .u64 ap2, .int .u64 aq1, .int .u64 aq2, .int .u64 ar1, .int .u64 ar2, .int .u64 as1, .int .u64 as2, .int .u64 atg, .int .u32 alg, .int .u16 acd, .int .u16 afl, .int .u64 ast, .int .u64 ei1, .int .u64 ei2, .int .u64 ep1, .int .u64 ep2, .int .u64 eq1, .int .u64 eq2, .int .u64 er1, .int .u64 er2, .int .u64 es1, .int .u64 es2, .int .u64 etg, .int .u32 elg, .int .u16 ecd, .int .u16 efl, .int .u64 est, .bool hd, .bool hc, .int .u64 n1, .int .u64 n2, .int .u32 0] := by unfold cat52; rw [← hA, ← hB]; simp
    have hD : (cat52 A (.int .u64 ss) B #[.int .u64 n1, .int .u64 n2]).size = 52 := by rw [eD]; rfl
    have oD : (cat52 A (.int .u64 ss) B #[.int .u64 n1, .int .u64 n2]).toList.all Value.oneCell' = true := by rw [eD]; rfl
    replace eD := Lib.hid eD
    replace hA := Lib.hid hA
    replace hB := Lib.hid hB
    (first | (go_region_held (fun w' => rowAt w' w.heap.size = some A ∧ rowAt w' (w.heap.size + 1) = some B)
      (first | ((try go_split_ands); (repeat' apply And.intro) <;> (first | with_reducible assumption | ((repeat (first | with_reducible refine keepd ?_ | with_reducible refine keepdr ?_ | with_reducible refine keepal ?_ | with_reducible refine keepral ?_ | with_reducible refine keeps (by dsimp only; omega) ?_ | with_reducible refine keepr (by dsimp only; omega) ?_ | with_reducible refine keepsr (by omega) ?_ | with_reducible refine keepc (by assumption) ?_ | with_reducible refine keeprc (by assumption) ?_)); with_reducible assumption))))
      ((go_at_call 20; (with_reducible refine (HA.out _).mono ?_); rintro e w2 ⟨rfl, hb2⟩; have zs2 := hb2.size; (try simp at zs2); (try (have qz2 : Blk w2 (X0.heap.size) 95 #[.int .u64 0, .int .u64 0, .int .u64 0, .int .u64 0, .int .u64 0, .int .u64 0, .int .u64 0, .int .u64 0, .int .u64 0, .int .u64 0, .int .u64 0, .int .u32 0, .int .u32 0, .int .u16 0, .int .u16 0, .int .u64 0, .int .u64 0, .int .u64 0, .int .u64 0, .int .u64 0, .int .u64 0, .int .u64 0, .int .u64 0, .int .u64 0, .int .u64 0, .int .u64 0, .int .u64 0, .int .u64 0, .int .u32 0, .int .u16 0, .int .u16 0, .int .u64 0, .int .u64 0, .int .u64 0, .int .u64 0, .int .u64 0, .int .u64 0, .int .u64 0, .int .u64 0, .int .u64 0, .int .u64 0, .int .u64 0, .int .u64 0, .int .u32 0, .int .u16 0, .int .u16 0, .int .u64 0, .bool false, .bool false, .int .u64 0, .int .u64 0, .int .u32 0] := (by (refine Blk.kept ?_ hb2; (first | ((repeat (first | with_reducible assumption | exact Hid.out (by assumption) | (with_reducible refine Blk.new' ?_; first | with_reducible rfl | (simp; done)) | with_reducible refine Blk.alloc ?_ _ | with_reducible refine Blk.drew ?_ | (with_reducible refine Blk.far ?_ (by first | (dsimp only; omega) | (simp; omega)) _))); done) | fail))); have rz2 := rowAt_blk qz2; have lz2 := qz2.lt; replace qz2 := Lib.hid qz2))))) | fail)
    all_goals (
      go_wp2_with fail
      have hA' := hA.out
      subst hA'
      have hB' := hB.out
      subst hB'
      go_meet
      refine ⟨_, rfl, ?_, ?_, ?_⟩
      · first | exact Nat.le_refl _ | omega | (simp; omega)
      · rw [← eD.out]
        first | (with_reducible exact Blk.new' rfl) | (with_reducible exact Blk.drew (Blk.new' rfl)) | (with_reducible exact Blk.setRow' qz2.out)
      · first | ((repeat (first | with_reducible exact Below.refl _ _ | with_reducible assumption | (with_reducible refine bel_set ?_ (by first | exact Nat.le_refl _ | (simp; done) | (simp; omega) | omega) _) | with_reducible refine bel_grow ?_ _ | with_reducible refine Below.drew ?_ | with_reducible refine below_drewN ?_ _ | with_reducible refine bel_alloc ?_ _ | with_reducible refine bel_trans ?_ (by assumption))); done) | (refine bel_setRow ?_ (Nat.le_refl _) _; (repeat (first | with_reducible exact Below.refl _ _ | with_reducible assumption | (with_reducible refine bel_set ?_ (by first | exact Nat.le_refl _ | (simp; done) | (simp; omega) | omega) _) | with_reducible refine bel_grow ?_ _ | with_reducible refine Below.drew ?_ | with_reducible refine below_drewN ?_ _ | with_reducible refine bel_alloc ?_ _ | with_reducible refine bel_trans ?_ (by assumption))); done) | (refine bel_setRow ?_ (Nat.le_refl _) _; (repeat (first | with_reducible exact Below.refl _ _ | with_reducible assumption | (with_reducible refine bel_set ?_ (by first | exact Nat.le_refl _ | (simp; done) | (simp; omega) | omega) _) | with_reducible refine bel_grow ?_ _ | with_reducible refine Below.drew ?_ | with_reducible refine bel_alloc ?_ _ | with_reducible refine bel_eld ?_ (by assumption))); done) | ((repeat (first | with_reducible exact Below.refl _ _ | with_reducible assumption | (with_reducible refine bel_set ?_ (by first | exact Nat.le_refl _ | (simp; done) | (simp; omega) | omega) _) | with_reducible refine bel_grow ?_ _ | with_reducible refine Below.drew ?_ | with_reducible refine bel_alloc ?_ _ | with_reducible refine bel_eld ?_ (by assumption)))))
  case rest =>
  obtain ⟨q, rfl, hq, f_q, hw⟩ := hcut
  have g_x := f_x.out.kept hw
  have g_p := f_p.out.kept hw
  have g_r := f_r.out.kept hw
  have bY := bel_eld hB_1.out hw
  have zq : w.heap.size + 2 < q := by omega
  clear f_x f_p f_r x_l r_x p_l r_p r_0 r_1 r_f0 r_f1 r_l hB_1 hw HA hq
  have f_x := g_x
  have f_p := g_p
  have f_r := g_r
  clear g_x g_p g_r
  have r_x := rowAt_blk f_x
  have x_l := f_x.lt
  replace f_x := Lib.hid f_x
  have r_p := rowAt_blk f_p
  have p_l := f_p.lt
  replace f_p := Lib.hid f_p
  have r_0 : wc.cell? ⟨w.heap.size + 2, 0, none⟩ = some (.int .u64 0) := (f_r).cell 0
  have r_1 : wc.cell? ⟨w.heap.size + 2, 1, none⟩ = some (.int .u64 0) := (f_r).cell 1
  have r_f0 := (f_r).frozen 0
  have r_f1 := (f_r).frozen 1
  have r_l := (f_r).lt
  replace f_r := Lib.hid f_r
  have r_q := rowAt_blk f_q
  have q_l := f_q.lt
  have q_49 : wc.cell? ⟨q, 49, none⟩ = some (.int .u64 n1) := (f_q).cell 49
  have q_f49 := (f_q).frozen 49
  have q_50 : wc.cell? ⟨q, 50, none⟩ = some (.int .u64 n2) := (f_q).cell 50
  have q_f50 := (f_q).frozen 50
  have q_51 : wc.cell? ⟨q, 51, none⟩ = some (.int .u32 0) := (f_q).cell 51
  have q_f51 := (f_q).frozen 51
  replace f_q := Lib.hid f_q
  replace bY := Lib.hid bY
  go_wp2_with fail
  refine (HR.out _).mono ?_
  rintro e w_2 ⟨rfl, hb_2⟩
  have z_2 := hb_2.size
  try simp at z_2
  have t_ := bY.out
  have hB_2 := bel_eld (w := w) (X := _) (by first | ((repeat (first | with_reducible exact Below.refl _ _ | with_reducible assumption | (with_reducible refine bel_set ?_ (by first | exact Nat.le_refl _ | (simp; done) | (simp; omega) | omega) _) | with_reducible refine bel_grow ?_ _ | with_reducible refine Below.drew ?_ | with_reducible refine below_drewN ?_ _ | with_reducible refine bel_alloc ?_ _ | with_reducible refine bel_trans ?_ (by assumption))); done) | (repeat (first | exact Below.refl _ _ | assumption | refine below_drewN ?_ _ | refine bel_grow ?_ _ | refine Below.drew ?_ | refine bel_alloc ?_ _ | refine bel_set ?_ (by first | exact Nat.le_refl _ | (simp; done) | (simp; omega) | omega) _ | refine bel_trans ?_ (by assumption)))) hb_2
  clear t_
  have t_x := f_x.out
  have t_p := f_p.out
  have t_r := f_r.out
  have t_q := f_q.out
  have g_x : Blk w_2 (w.heap.size) 28 #[.int .u64 xi1, .int .u64 xi2, .int .u64 xd1, .int .u64 xd2, .int .u64 xc1, .int .u64 xc2, .int .u64 xm1, .int .u64 xm2, .int .u64 xw1, .int .u64 xw2, .int .u64 xtg, .int .u32 xto, .int .u32 xlg, .int .u16 xcd, .int .u16 xfl, .int .u64 xst] := by
    refine Blk.kept ?_ hb_2
    (repeat (first | with_reducible assumption | (with_reducible refine Blk.new' ?_; first | with_reducible rfl | (simp; done)) | with_reducible refine Blk.alloc ?_ _ | with_reducible refine Blk.grow ?_ _ | with_reducible refine Blk.drew ?_ | with_reducible refine Blk.drewN ?_ _ | (with_reducible refine Blk.far ?_ (by first | (dsimp only; omega) | (simp; omega)) _) | (with_reducible apply Blk.two) | (with_reducible refine Blk.set' ?_ _ _ ?_) | (with_reducible rfl) | rfl))
  have g_p : Blk w_2 (w.heap.size + 1) 32 #[.int .u64 ai1, .int .u64 ai2, .int .u64 ap1, .int .u64 ap2, .int .u64 aq1, .int .u64 aq2, .int .u64 ar1, .int .u64 ar2, .int .u64 as1, .int .u64 as2, .int .u64 atg, .int .u32 alg, .int .u16 acd, .int .u16 afl, .int .u64 ast, .int .u64 ei1, .int .u64 ei2, .int .u64 ep1, .int .u64 ep2, .int .u64 eq1, .int .u64 eq2, .int .u64 er1, .int .u64 er2, .int .u64 es1, .int .u64 es2, .int .u64 etg, .int .u32 elg, .int .u16 ecd, .int .u16 efl, .int .u64 est, .bool hd, .bool hc] := by
    refine Blk.kept ?_ hb_2
    (repeat (first | with_reducible assumption | (with_reducible refine Blk.new' ?_; first | with_reducible rfl | (simp; done)) | with_reducible refine Blk.alloc ?_ _ | with_reducible refine Blk.grow ?_ _ | with_reducible refine Blk.drew ?_ | with_reducible refine Blk.drewN ?_ _ | (with_reducible refine Blk.far ?_ (by first | (dsimp only; omega) | (simp; omega)) _) | (with_reducible apply Blk.two) | (with_reducible refine Blk.set' ?_ _ _ ?_) | (with_reducible rfl) | rfl))
  have g_r : Blk w_2 (w.heap.size + 2) 24 #[.int .u64 0, .int .u64 0] := by
    refine Blk.kept ?_ hb_2
    (repeat (first | with_reducible assumption | (with_reducible refine Blk.new' ?_; first | with_reducible rfl | (simp; done)) | with_reducible refine Blk.alloc ?_ _ | with_reducible refine Blk.grow ?_ _ | with_reducible refine Blk.drew ?_ | with_reducible refine Blk.drewN ?_ _ | (with_reducible refine Blk.far ?_ (by first | (dsimp only; omega) | (simp; omega)) _) | (with_reducible apply Blk.two) | (with_reducible refine Blk.set' ?_ _ _ ?_) | (with_reducible rfl) | rfl))
  have g_q : Blk w_2 (q) 95 #[.int .u64 xi1, .int .u64 xi2, .int .u64 xd1, .int .u64 xd2, .int .u64 xc1, .int .u64 xc2, .int .u64 xm1, .int .u64 xm2, .int .u64 xw1, .int .u64 xw2, .int .u64 xtg, .int .u32 xto, .int .u32 xlg, .int .u16 xcd, .int .u16 xfl, .int .u64 xst, .int .u64 ss, .int .u64 ai1, .int .u64 ai2, .int .u64 ap1, .int .u64 ap2, .int .u64 aq1, .int .u64 aq2, .int .u64 ar1, .int .u64 ar2, .int .u64 as1, .int .u64 as2, .int .u64 atg, .int .u32 alg, .int .u16 acd, .int .u16 afl, .int .u64 ast, .int .u64 ei1, .int .u64 ei2, .int .u64 ep1, .int .u64 ep2, .int .u64 eq1, .int .u64 eq2, .int .u64 er1, .int .u64 er2, .int .u64 es1, .int .u64 es2, .int .u64 etg, .int .u32 elg, .int .u16 ecd, .int .u16 efl, .int .u64 est, .bool hd, .bool hc, .int .u64 n1, .int .u64 n2, .int .u32 0] := by
    refine Blk.kept ?_ hb_2
    (repeat (first | with_reducible assumption | (with_reducible refine Blk.new' ?_; first | with_reducible rfl | (simp; done)) | with_reducible refine Blk.alloc ?_ _ | with_reducible refine Blk.grow ?_ _ | with_reducible refine Blk.drew ?_ | with_reducible refine Blk.drewN ?_ _ | (with_reducible refine Blk.far ?_ (by first | (dsimp only; omega) | (simp; omega)) _) | (with_reducible apply Blk.two) | (with_reducible refine Blk.set' ?_ _ _ ?_) | (with_reducible rfl) | rfl))
  clear f_x x_l r_x f_p p_l r_p f_r r_l r_0 r_1 r_f0 r_f1 f_q q_l r_q q_49 q_f49 q_50 q_f50 q_51 q_f51 t_x t_p t_r t_q bY hb_2
  have f_x := g_x
  clear g_x
  have f_p := g_p
  clear g_p
  have f_r := g_r
  clear g_r
  have f_q := g_q
  clear g_q
  have r_x := rowAt_blk f_x
  have x_l := f_x.lt
  replace f_x := Lib.hid f_x
  have r_p := rowAt_blk f_p
  have p_l := f_p.lt
  replace f_p := Lib.hid f_p
  have r_0 : w_2.cell? ⟨w.heap.size + 2, 0, none⟩ = some (.int .u64 0) := (f_r).cell 0
  have r_1 : w_2.cell? ⟨w.heap.size + 2, 1, none⟩ = some (.int .u64 0) := (f_r).cell 1
  have r_f0 := (f_r).frozen 0
  have r_f1 := (f_r).frozen 1
  have r_l := (f_r).lt
  replace f_r := Lib.hid f_r
  have r_q := rowAt_blk f_q
  have q_l := f_q.lt
  have q_49 : w_2.cell? ⟨q, 49, none⟩ = some (.int .u64 n1) := (f_q).cell 49
  have q_f49 := (f_q).frozen 49
  have q_50 : w_2.cell? ⟨q, 50, none⟩ = some (.int .u64 n2) := (f_q).cell 50
  have q_f50 := (f_q).frozen 50
  have q_51 : w_2.cell? ⟨q, 51, none⟩ = some (.int .u32 0) := (f_q).cell 51
  have q_f51 := (f_q).frozen 51
  replace f_q := Lib.hid f_q
  replace hB_2 := Lib.hid hB_2
  go_upto_region 3 with fail
  refine abs_wp (fun Y_ => Below w.heap.size w Y_ ∧ Blk Y_ (w.heap.size) 28 #[.int .u64 xi1, .int .u64 xi2, .int .u64 xd1, .int .u64 xd2, .int .u64 xc1, .int .u64 xc2, .int .u64 xm1, .int .u64 xm2, .int .u64 xw1, .int .u64 xw2, .int .u64 xtg, .int .u32 xto, .int .u32 xlg, .int .u16 xcd, .int .u16 xfl, .int .u64 xst] ∧ Blk Y_ (w.heap.size + 1) 32 #[.int .u64 ai1, .int .u64 ai2, .int .u64 ap1, .int .u64 ap2, .int .u64 aq1, .int .u64 aq2, .int .u64 ar1, .int .u64 ar2, .int .u64 as1, .int .u64 as2, .int .u64 atg, .int .u32 alg, .int .u16 acd, .int .u16 afl, .int .u64 ast, .int .u64 ei1, .int .u64 ei2, .int .u64 ep1, .int .u64 ep2, .int .u64 eq1, .int .u64 eq2, .int .u64 er1, .int .u64 er2, .int .u64 es1, .int .u64 es2, .int .u64 etg, .int .u32 elg, .int .u16 ecd, .int .u16 efl, .int .u64 est, .bool hd, .bool hc] ∧ Blk Y_ (w.heap.size + 2) 24 #[.int .u64 0, .int .u64 0] ∧ Blk Y_ (q) 95 #[.int .u64 xi1, .int .u64 xi2, .int .u64 xd1, .int .u64 xd2, .int .u64 xc1, .int .u64 xc2, .int .u64 xm1, .int .u64 xm2, .int .u64 xw1, .int .u64 xw2, .int .u64 xtg, .int .u32 xto, .int .u32 xlg, .int .u16 xcd, .int .u16 xfl, .int .u64 xst, .int .u64 ss, .int .u64 ai1, .int .u64 ai2, .int .u64 ap1, .int .u64 ap2, .int .u64 aq1, .int .u64 aq2, .int .u64 ar1, .int .u64 ar2, .int .u64 as1, .int .u64 as2, .int .u64 atg, .int .u32 alg, .int .u16 acd, .int .u16 afl, .int .u64 ast, .int .u64 ei1, .int .u64 ei2, .int .u64 ep1, .int .u64 ep2, .int .u64 eq1, .int .u64 eq2, .int .u64 er1, .int .u64 er2, .int .u64 es1, .int .u64 es2, .int .u64 etg, .int .u32 elg, .int .u16 ecd, .int .u16 efl, .int .u64 est, .bool hd, .bool hc, .int .u64 n1, .int .u64 n2, .int .u32 rv]) ?_ ?_
  · have t_B := hB_2.out
    have t_x := f_x.out
    have t_p := f_p.out
    have t_r := f_r.out
    have t_q := f_q.out
    refine ⟨by (repeat (first | with_reducible exact Below.refl _ _ | with_reducible assumption | (with_reducible refine bel_set ?_ (by first | exact Nat.le_refl _ | (simp; done) | (simp; omega) | omega) _) | with_reducible refine bel_grow ?_ _ | with_reducible refine Below.drew ?_ | with_reducible refine bel_alloc ?_ _ | with_reducible refine bel_eld ?_ (by assumption))), ?_, ?_, ?_, ?_⟩
    · (repeat (first | with_reducible assumption | (with_reducible refine Blk.new' ?_; first | with_reducible rfl | (simp; done)) | with_reducible refine Blk.alloc ?_ _ | with_reducible refine Blk.grow ?_ _ | with_reducible refine Blk.drew ?_ | with_reducible refine Blk.drewN ?_ _ | (with_reducible refine Blk.far ?_ (by first | (dsimp only; omega) | (simp; omega)) _) | (with_reducible apply Blk.two) | (with_reducible refine Blk.kept ?_ (by assumption)) | (with_reducible refine Blk.setRow ?_ (by first | rfl | (simp; done))) | (with_reducible refine Blk.setRow_far ?_ (by first | omega | (simp; omega)) _) | (with_reducible refine Blk.set' ?_ _ _ (by first | rfl | (simp; done)))))
    · (repeat (first | with_reducible assumption | (with_reducible refine Blk.new' ?_; first | with_reducible rfl | (simp; done)) | with_reducible refine Blk.alloc ?_ _ | with_reducible refine Blk.grow ?_ _ | with_reducible refine Blk.drew ?_ | with_reducible refine Blk.drewN ?_ _ | (with_reducible refine Blk.far ?_ (by first | (dsimp only; omega) | (simp; omega)) _) | (with_reducible apply Blk.two) | (with_reducible refine Blk.kept ?_ (by assumption)) | (with_reducible refine Blk.setRow ?_ (by first | rfl | (simp; done))) | (with_reducible refine Blk.setRow_far ?_ (by first | omega | (simp; omega)) _) | (with_reducible refine Blk.set' ?_ _ _ (by first | rfl | (simp; done)))))
    · (repeat (first | with_reducible assumption | (with_reducible refine Blk.new' ?_; first | with_reducible rfl | (simp; done)) | with_reducible refine Blk.alloc ?_ _ | with_reducible refine Blk.grow ?_ _ | with_reducible refine Blk.drew ?_ | with_reducible refine Blk.drewN ?_ _ | (with_reducible refine Blk.far ?_ (by first | (dsimp only; omega) | (simp; omega)) _) | (with_reducible apply Blk.two) | (with_reducible refine Blk.kept ?_ (by assumption)) | (with_reducible refine Blk.setRow ?_ (by first | rfl | (simp; done))) | (with_reducible refine Blk.setRow_far ?_ (by first | omega | (simp; omega)) _) | (with_reducible refine Blk.set' ?_ _ _ (by first | rfl | (simp; done)))))
    · first | exact Blk.eqv (t_q.set_ 51 _) (by first | rfl | simp) | (repeat (first | with_reducible assumption | (with_reducible refine Blk.new' ?_; first | with_reducible rfl | (simp; done)) | with_reducible refine Blk.alloc ?_ _ | with_reducible refine Blk.grow ?_ _ | with_reducible refine Blk.drew ?_ | with_reducible refine Blk.drewN ?_ _ | (with_reducible refine Blk.far ?_ (by first | (dsimp only; omega) | (simp; omega)) _) | (with_reducible apply Blk.two) | (with_reducible refine Blk.kept ?_ (by assumption)) | (with_reducible refine Blk.setRow ?_ (by first | rfl | (simp; done))) | (with_reducible refine Blk.setRow_far ?_ (by first | omega | (simp; omega)) _) | (with_reducible refine Blk.set' ?_ _ _ (by first | rfl | (simp; done)))))
  clear f_x x_l r_x f_p p_l r_p f_r r_l r_0 r_1 r_f0 r_f1 f_q q_l r_q q_49 q_f49 q_50 q_f50 q_51 q_f51 hB_2
  rintro X3 ⟨hB_3, f_x, f_p, f_r, f_q⟩
  have r_x := rowAt_blk f_x
  have x_l := f_x.lt
  replace f_x := Lib.hid f_x
  have r_p := rowAt_blk f_p
  have p_l := f_p.lt
  replace f_p := Lib.hid f_p
  have r_0 : X3.cell? ⟨w.heap.size + 2, 0, none⟩ = some (.int .u64 0) := (f_r).cell 0
  have r_1 : X3.cell? ⟨w.heap.size + 2, 1, none⟩ = some (.int .u64 0) := (f_r).cell 1
  have r_f0 := (f_r).frozen 0
  have r_f1 := (f_r).frozen 1
  have r_l := (f_r).lt
  replace f_r := Lib.hid f_r
  have r_q := rowAt_blk f_q
  have q_l := f_q.lt
  have q_49 : X3.cell? ⟨q, 49, none⟩ = some (.int .u64 n1) := (f_q).cell 49
  have q_f49 := (f_q).frozen 49
  have q_50 : X3.cell? ⟨q, 50, none⟩ = some (.int .u64 n2) := (f_q).cell 50
  have q_f50 := (f_q).frozen 50
  have q_51 : X3.cell? ⟨q, 51, none⟩ = some (.int .u32 rv) := (f_q).cell 51
  have q_f51 := (f_q).frozen 51
  replace f_q := Lib.hid f_q
  replace hB_3 := Lib.hid hB_3
  go_wp2_with fail
  refine wp_loop_rounds 5 ?_
  rw [rounds_succ]
  go_wp2_with fail
  refine (H1.out _).mono ?_
  rintro e w_4 ⟨rfl, hb_4⟩
  have z_4 := hb_4.size
  try simp at z_4
  have t_ := hB_3.out
  have hB_4 := bel_eld (w := w) (X := _) (by first | ((repeat (first | with_reducible exact Below.refl _ _ | with_reducible assumption | (with_reducible refine bel_set ?_ (by first | exact Nat.le_refl _ | (simp; done) | (simp; omega) | omega) _) | with_reducible refine bel_grow ?_ _ | with_reducible refine Below.drew ?_ | with_reducible refine below_drewN ?_ _ | with_reducible refine bel_alloc ?_ _ | with_reducible refine bel_trans ?_ (by assumption))); done) | (repeat (first | exact Below.refl _ _ | assumption | refine below_drewN ?_ _ | refine bel_grow ?_ _ | refine Below.drew ?_ | refine bel_alloc ?_ _ | refine bel_set ?_ (by first | exact Nat.le_refl _ | (simp; done) | (simp; omega) | omega) _ | refine bel_trans ?_ (by assumption)))) hb_4
  clear t_
  have t_r := f_r.out
  have t_q := f_q.out
  have g_r : Blk w_4 (w.heap.size + 2) 24 #[.int .u64 0, .int .u64 0] := by
    refine Blk.kept ?_ hb_4
    (repeat (first | with_reducible assumption | (with_reducible refine Blk.new' ?_; first | with_reducible rfl | (simp; done)) | with_reducible refine Blk.alloc ?_ _ | with_reducible refine Blk.grow ?_ _ | with_reducible refine Blk.drew ?_ | with_reducible refine Blk.drewN ?_ _ | (with_reducible refine Blk.far ?_ (by first | (dsimp only; omega) | (simp; omega)) _) | (with_reducible apply Blk.two) | (with_reducible refine Blk.set' ?_ _ _ ?_) | (with_reducible rfl) | rfl))
  have g_q : Blk w_4 (q) 95 #[.int .u64 xi1, .int .u64 xi2, .int .u64 xd1, .int .u64 xd2, .int .u64 xc1, .int .u64 xc2, .int .u64 xm1, .int .u64 xm2, .int .u64 xw1, .int .u64 xw2, .int .u64 xtg, .int .u32 xto, .int .u32 xlg, .int .u16 xcd, .int .u16 xfl, .int .u64 xst, .int .u64 ss, .int .u64 ai1, .int .u64 ai2, .int .u64 ap1, .int .u64 ap2, .int .u64 aq1, .int .u64 aq2, .int .u64 ar1, .int .u64 ar2, .int .u64 as1, .int .u64 as2, .int .u64 atg, .int .u32 alg, .int .u16 acd, .int .u16 afl, .int .u64 ast, .int .u64 ei1, .int .u64 ei2, .int .u64 ep1, .int .u64 ep2, .int .u64 eq1, .int .u64 eq2, .int .u64 er1, .int .u64 er2, .int .u64 es1, .int .u64 es2, .int .u64 etg, .int .u32 elg, .int .u16 ecd, .int .u16 efl, .int .u64 est, .bool hd, .bool hc, .int .u64 n1, .int .u64 n2, .int .u32 rv] := by
    refine Blk.kept ?_ hb_4
    (repeat (first | with_reducible assumption | (with_reducible refine Blk.new' ?_; first | with_reducible rfl | (simp; done)) | with_reducible refine Blk.alloc ?_ _ | with_reducible refine Blk.grow ?_ _ | with_reducible refine Blk.drew ?_ | with_reducible refine Blk.drewN ?_ _ | (with_reducible refine Blk.far ?_ (by first | (dsimp only; omega) | (simp; omega)) _) | (with_reducible apply Blk.two) | (with_reducible refine Blk.set' ?_ _ _ ?_) | (with_reducible rfl) | rfl))
  have g_s : Blk w_4 (X3.heap.size) 96 #[.func (.func 57) #[] #[], .func (.func 58) #[] #[], .func (.func 59) #[] #[], .func (.func 60) #[] #[]] := by
    refine Blk.kept ?_ hb_4
    (repeat (first | with_reducible assumption | (with_reducible refine Blk.new' ?_; first | with_reducible rfl | (simp; done)) | with_reducible refine Blk.alloc ?_ _ | with_reducible refine Blk.grow ?_ _ | with_reducible refine Blk.drew ?_ | with_reducible refine Blk.drewN ?_ _ | (with_reducible refine Blk.far ?_ (by first | (dsimp only; omega) | (simp; omega)) _) | (with_reducible apply Blk.two) | (with_reducible refine Blk.set' ?_ _ _ ?_) | (with_reducible rfl) | rfl))
  clear f_x x_l r_x f_p p_l r_p f_r r_l r_0 r_1 r_f0 r_f1 f_q q_l r_q q_49 q_f49 q_50 q_f50 q_51 q_f51 t_r t_q hB_3 hb_4
  have f_r := g_r
  clear g_r
  have f_q := g_q
  clear g_q
  have f_s := g_s
  clear g_s
  have r_0 : w_4.cell? ⟨w.heap.size + 2, 0, none⟩ = some (.int .u64 0) := (f_r).cell 0
  have r_1 : w_4.cell? ⟨w.heap.size + 2, 1, none⟩ = some (.int .u64 0) := (f_r).cell 1
  have r_f0 := (f_r).frozen 0
  have r_f1 := (f_r).frozen 1
  have r_l := (f_r).lt
  replace f_r := Lib.hid f_r
  have r_q := rowAt_blk f_q
  have q_l := f_q.lt
  have q_49 : w_4.cell? ⟨q, 49, none⟩ = some (.int .u64 n1) := (f_q).cell 49
  have q_f49 := (f_q).frozen 49
  have q_50 : w_4.cell? ⟨q, 50, none⟩ = some (.int .u64 n2) := (f_q).cell 50
  have q_f50 := (f_q).frozen 50
  have q_51 : w_4.cell? ⟨q, 51, none⟩ = some (.int .u32 rv) := (f_q).cell 51
  have q_f51 := (f_q).frozen 51
  replace f_q := Lib.hid f_q
  have s_0 : w_4.cell? ⟨X3.heap.size, 0, none⟩ = some (.func (.func 57) #[] #[]) := (f_s).cell 0
  have s_1 : w_4.cell? ⟨X3.heap.size, 1, none⟩ = some (.func (.func 58) #[] #[]) := (f_s).cell 1
  have s_2 : w_4.cell? ⟨X3.heap.size, 2, none⟩ = some (.func (.func 59) #[] #[]) := (f_s).cell 2
  have s_3 : w_4.cell? ⟨X3.heap.size, 3, none⟩ = some (.func (.func 60) #[] #[]) := (f_s).cell 3
  have s_f0 := (f_s).frozen 0
  have s_f1 := (f_s).frozen 1
  have s_f2 := (f_s).frozen 2
  have s_f3 := (f_s).frozen 3
  have s_l := (f_s).lt
  replace f_s := Lib.hid f_s
  replace hB_4 := Lib.hid hB_4
  by_cases hv1 : v1 = 0
  case neg =>
    have g3 : (v1 == 0) = false := by simpa using hv1
    have g4 : (v1 != 0) = true := by simpa using hv1
    replace hv1 := Lib.hid hv1
    go_wp2_with fail
    refine abs_post (fun Y => Below w.heap.size w Y ∧ Blk Y (w.heap.size + 2) 24 #[.int .u64 0, .int .u64 0]) ?_ ?_
    · have t_B := hB_4.out
      have t_r := f_r.out
      exact ⟨by (repeat (first | with_reducible exact Below.refl _ _ | with_reducible assumption | (with_reducible refine bel_set ?_ (by first | exact Nat.le_refl _ | (simp; done) | (simp; omega) | omega) _) | with_reducible refine bel_grow ?_ _ | with_reducible refine Below.drew ?_ | with_reducible refine bel_alloc ?_ _ | with_reducible refine bel_eld ?_ (by assumption))), by first | exact Blk.two t_r | (repeat (first | with_reducible assumption | exact Hid.out (by assumption) | (with_reducible refine Blk.new' ?_; first | with_reducible rfl | (simp; done)) | with_reducible refine Blk.alloc ?_ _ | with_reducible refine Blk.drew ?_ | (with_reducible refine Blk.far ?_ (by first | (dsimp only; omega) | (simp; omega)) _)))⟩
    rintro Y ⟨bZ, gP⟩
    have p0 := (gP).cell 0
    have p1 := (gP).cell 1
    have pf0 := (gP).frozen 0
    have pf1 := (gP).frozen 1
    have pl := (gP).lt
    refine bodyPost_ret (v := .tuple #[.int .u32 v1, .agg #[.int .u64 0, .int .u64 0]]) (by simp [results, Try.results26, go_sem, p0, p1, pl]) rfl ⟨by rw [chk19_1 hv1.out], bZ⟩
  case pos =>
  subst hv1
  go_wp2_with fail
  rw [rounds_succ]
  go_wp2_with fail
  refine (H2.out _).mono ?_
  rintro e w_5 ⟨rfl, hb_5⟩
  have z_5 := hb_5.size
  try simp at z_5
  have t_ := hB_4.out
  have hB_5 := bel_eld (w := w) (X := _) (by first | ((repeat (first | with_reducible exact Below.refl _ _ | with_reducible assumption | (with_reducible refine bel_set ?_ (by first | exact Nat.le_refl _ | (simp; done) | (simp; omega) | omega) _) | with_reducible refine bel_grow ?_ _ | with_reducible refine Below.drew ?_ | with_reducible refine below_drewN ?_ _ | with_reducible refine bel_alloc ?_ _ | with_reducible refine bel_trans ?_ (by assumption))); done) | (repeat (first | exact Below.refl _ _ | assumption | refine below_drewN ?_ _ | refine bel_grow ?_ _ | refine Below.drew ?_ | refine bel_alloc ?_ _ | refine bel_set ?_ (by first | exact Nat.le_refl _ | (simp; done) | (simp; omega) | omega) _ | refine bel_trans ?_ (by assumption)))) hb_5
  clear t_
  have t_r := f_r.out
  have t_q := f_q.out
  have t_s := f_s.out
  have g_r : Blk w_5 (w.heap.size + 2) 24 #[.int .u64 0, .int .u64 0] := by
    refine Blk.kept ?_ hb_5
    (repeat (first | with_reducible assumption | (with_reducible refine Blk.new' ?_; first | with_reducible rfl | (simp; done)) | with_reducible refine Blk.alloc ?_ _ | with_reducible refine Blk.grow ?_ _ | with_reducible refine Blk.drew ?_ | with_reducible refine Blk.drewN ?_ _ | (with_reducible refine Blk.far ?_ (by first | (dsimp only; omega) | (simp; omega)) _) | (with_reducible apply Blk.two) | (with_reducible refine Blk.set' ?_ _ _ ?_) | (with_reducible rfl) | rfl))
  have g_q : Blk w_5 (q) 95 #[.int .u64 xi1, .int .u64 xi2, .int .u64 xd1, .int .u64 xd2, .int .u64 xc1, .int .u64 xc2, .int .u64 xm1, .int .u64 xm2, .int .u64 xw1, .int .u64 xw2, .int .u64 xtg, .int .u32 xto, .int .u32 xlg, .int .u16 xcd, .int .u16 xfl, .int .u64 xst, .int .u64 ss, .int .u64 ai1, .int .u64 ai2, .int .u64 ap1, .int .u64 ap2, .int .u64 aq1, .int .u64 aq2, .int .u64 ar1, .int .u64 ar2, .int .u64 as1, .int .u64 as2, .int .u64 atg, .int .u32 alg, .int .u16 acd, .int .u16 afl, .int .u64 ast, .int .u64 ei1, .int .u64 ei2, .int .u64 ep1, .int .u64 ep2, .int .u64 eq1, .int .u64 eq2, .int .u64 er1, .int .u64 er2, .int .u64 es1, .int .u64 es2, .int .u64 etg, .int .u32 elg, .int .u16 ecd, .int .u16 efl, .int .u64 est, .bool hd, .bool hc, .int .u64 n1, .int .u64 n2, .int .u32 rv] := by
    refine Blk.kept ?_ hb_5
    (repeat (first | with_reducible assumption | (with_reducible refine Blk.new' ?_; first | with_reducible rfl | (simp; done)) | with_reducible refine Blk.alloc ?_ _ | with_reducible refine Blk.grow ?_ _ | with_reducible refine Blk.drew ?_ | with_reducible refine Blk.drewN ?_ _ | (with_reducible refine Blk.far ?_ (by first | (dsimp only; omega) | (simp; omega)) _) | (with_reducible apply Blk.two) | (with_reducible refine Blk.set' ?_ _ _ ?_) | (with_reducible rfl) | rfl))
  have g_s : Blk w_5 (X3.heap.size) 96 #[.func (.func 57) #[] #[], .func (.func 58) #[] #[], .func (.func 59) #[] #[], .func (.func 60) #[] #[]] := by
    refine Blk.kept ?_ hb_5
    (repeat (first | with_reducible assumption | (with_reducible refine Blk.new' ?_; first | with_reducible rfl | (simp; done)) | with_reducible refine Blk.alloc ?_ _ | with_reducible refine Blk.grow ?_ _ | with_reducible refine Blk.drew ?_ | with_reducible refine Blk.drewN ?_ _ | (with_reducible refine Blk.far ?_ (by first | (dsimp only; omega) | (simp; omega)) _) | (with_reducible apply Blk.two) | (with_reducible refine Blk.set' ?_ _ _ ?_) | (with_reducible rfl) | rfl))
  clear f_r r_l r_0 r_1 r_f0 r_f1 f_q q_l r_q q_49 q_f49 q_50 q_f50 q_51 q_f51 f_s s_l s_0 s_1 s_2 s_3 s_f0 s_f1 s_f2 s_f3 t_r t_q t_s hB_4 hb_5
  have f_r := g_r
  clear g_r
  have f_q := g_q
  clear g_q
  have f_s := g_s
  clear g_s
  have r_0 : w_5.cell? ⟨w.heap.size + 2, 0, none⟩ = some (.int .u64 0) := (f_r).cell 0
  have r_1 : w_5.cell? ⟨w.heap.size + 2, 1, none⟩ = some (.int .u64 0) := (f_r).cell 1
  have r_f0 := (f_r).frozen 0
  have r_f1 := (f_r).frozen 1
  have r_l := (f_r).lt
  replace f_r := Lib.hid f_r
  have r_q := rowAt_blk f_q
  have q_l := f_q.lt
  have q_49 : w_5.cell? ⟨q, 49, none⟩ = some (.int .u64 n1) := (f_q).cell 49
  have q_f49 := (f_q).frozen 49
  have q_50 : w_5.cell? ⟨q, 50, none⟩ = some (.int .u64 n2) := (f_q).cell 50
  have q_f50 := (f_q).frozen 50
  have q_51 : w_5.cell? ⟨q, 51, none⟩ = some (.int .u32 rv) := (f_q).cell 51
  have q_f51 := (f_q).frozen 51
  replace f_q := Lib.hid f_q
  have s_0 : w_5.cell? ⟨X3.heap.size, 0, none⟩ = some (.func (.func 57) #[] #[]) := (f_s).cell 0
  have s_1 : w_5.cell? ⟨X3.heap.size, 1, none⟩ = some (.func (.func 58) #[] #[]) := (f_s).cell 1
  have s_2 : w_5.cell? ⟨X3.heap.size, 2, none⟩ = some (.func (.func 59) #[] #[]) := (f_s).cell 2
  have s_3 : w_5.cell? ⟨X3.heap.size, 3, none⟩ = some (.func (.func 60) #[] #[]) := (f_s).cell 3
  have s_f0 := (f_s).frozen 0
  have s_f1 := (f_s).frozen 1
  have s_f2 := (f_s).frozen 2
  have s_f3 := (f_s).frozen 3
  have s_l := (f_s).lt
  replace f_s := Lib.hid f_s
  replace hB_5 := Lib.hid hB_5
  by_cases hv2 : v2 = 0
  case neg =>
    have g3 : (v2 == 0) = false := by simpa using hv2
    have g4 : (v2 != 0) = true := by simpa using hv2
    replace hv2 := Lib.hid hv2
    go_wp2_with fail
    refine abs_post (fun Y => Below w.heap.size w Y ∧ Blk Y (w.heap.size + 2) 24 #[.int .u64 0, .int .u64 0]) ?_ ?_
    · have t_B := hB_5.out
      have t_r := f_r.out
      exact ⟨by (repeat (first | with_reducible exact Below.refl _ _ | with_reducible assumption | (with_reducible refine bel_set ?_ (by first | exact Nat.le_refl _ | (simp; done) | (simp; omega) | omega) _) | with_reducible refine bel_grow ?_ _ | with_reducible refine Below.drew ?_ | with_reducible refine bel_alloc ?_ _ | with_reducible refine bel_eld ?_ (by assumption))), by first | exact Blk.two t_r | (repeat (first | with_reducible assumption | exact Hid.out (by assumption) | (with_reducible refine Blk.new' ?_; first | with_reducible rfl | (simp; done)) | with_reducible refine Blk.alloc ?_ _ | with_reducible refine Blk.drew ?_ | (with_reducible refine Blk.far ?_ (by first | (dsimp only; omega) | (simp; omega)) _)))⟩
    rintro Y ⟨bZ, gP⟩
    have p0 := (gP).cell 0
    have p1 := (gP).cell 1
    have pf0 := (gP).frozen 0
    have pf1 := (gP).frozen 1
    have pl := (gP).lt
    refine bodyPost_ret (v := .tuple #[.int .u32 v2, .agg #[.int .u64 0, .int .u64 0]]) (by simp [results, Try.results26, go_sem, p0, p1, pl]) rfl ⟨by rw [chk19_2 hv2.out], bZ⟩
  case pos =>
  subst hv2
  go_wp2_with fail
  rw [rounds_succ]
  go_wp2_with fail
  refine (H3.out _).mono ?_
  rintro e w_6 ⟨rfl, hb_6⟩
  have z_6 := hb_6.size
  try simp at z_6
  have t_ := hB_5.out
  have hB_6 := bel_eld (w := w) (X := _) (by first | ((repeat (first | with_reducible exact Below.refl _ _ | with_reducible assumption | (with_reducible refine bel_set ?_ (by first | exact Nat.le_refl _ | (simp; done) | (simp; omega) | omega) _) | with_reducible refine bel_grow ?_ _ | with_reducible refine Below.drew ?_ | with_reducible refine below_drewN ?_ _ | with_reducible refine bel_alloc ?_ _ | with_reducible refine bel_trans ?_ (by assumption))); done) | (repeat (first | exact Below.refl _ _ | assumption | refine below_drewN ?_ _ | refine bel_grow ?_ _ | refine Below.drew ?_ | refine bel_alloc ?_ _ | refine bel_set ?_ (by first | exact Nat.le_refl _ | (simp; done) | (simp; omega) | omega) _ | refine bel_trans ?_ (by assumption)))) hb_6
  clear t_
  have t_r := f_r.out
  have t_q := f_q.out
  have t_s := f_s.out
  have g_r : Blk w_6 (w.heap.size + 2) 24 #[.int .u64 0, .int .u64 0] := by
    refine Blk.kept ?_ hb_6
    (repeat (first | with_reducible assumption | (with_reducible refine Blk.new' ?_; first | with_reducible rfl | (simp; done)) | with_reducible refine Blk.alloc ?_ _ | with_reducible refine Blk.grow ?_ _ | with_reducible refine Blk.drew ?_ | with_reducible refine Blk.drewN ?_ _ | (with_reducible refine Blk.far ?_ (by first | (dsimp only; omega) | (simp; omega)) _) | (with_reducible apply Blk.two) | (with_reducible refine Blk.set' ?_ _ _ ?_) | (with_reducible rfl) | rfl))
  have g_q : Blk w_6 (q) 95 #[.int .u64 xi1, .int .u64 xi2, .int .u64 xd1, .int .u64 xd2, .int .u64 xc1, .int .u64 xc2, .int .u64 xm1, .int .u64 xm2, .int .u64 xw1, .int .u64 xw2, .int .u64 xtg, .int .u32 xto, .int .u32 xlg, .int .u16 xcd, .int .u16 xfl, .int .u64 xst, .int .u64 ss, .int .u64 ai1, .int .u64 ai2, .int .u64 ap1, .int .u64 ap2, .int .u64 aq1, .int .u64 aq2, .int .u64 ar1, .int .u64 ar2, .int .u64 as1, .int .u64 as2, .int .u64 atg, .int .u32 alg, .int .u16 acd, .int .u16 afl, .int .u64 ast, .int .u64 ei1, .int .u64 ei2, .int .u64 ep1, .int .u64 ep2, .int .u64 eq1, .int .u64 eq2, .int .u64 er1, .int .u64 er2, .int .u64 es1, .int .u64 es2, .int .u64 etg, .int .u32 elg, .int .u16 ecd, .int .u16 efl, .int .u64 est, .bool hd, .bool hc, .int .u64 n1, .int .u64 n2, .int .u32 rv] := by
    refine Blk.kept ?_ hb_6
    (repeat (first | with_reducible assumption | (with_reducible refine Blk.new' ?_; first | with_reducible rfl | (simp; done)) | with_reducible refine Blk.alloc ?_ _ | with_reducible refine Blk.grow ?_ _ | with_reducible refine Blk.drew ?_ | with_reducible refine Blk.drewN ?_ _ | (with_reducible refine Blk.far ?_ (by first | (dsimp only; omega) | (simp; omega)) _) | (with_reducible apply Blk.two) | (with_reducible refine Blk.set' ?_ _ _ ?_) | (with_reducible rfl) | rfl))
  have g_s : Blk w_6 (X3.heap.size) 96 #[.func (.func 57) #[] #[], .func (.func 58) #[] #[], .func (.func 59) #[] #[], .func (.func 60) #[] #[]] := by
    refine Blk.kept ?_ hb_6
    (repeat (first | with_reducible assumption | (with_reducible refine Blk.new' ?_; first | with_reducible rfl | (simp; done)) | with_reducible refine Blk.alloc ?_ _ | with_reducible refine Blk.grow ?_ _ | with_reducible refine Blk.drew ?_ | with_reducible refine Blk.drewN ?_ _ | (with_reducible refine Blk.far ?_ (by first | (dsimp only; omega) | (simp; omega)) _) | (with_reducible apply Blk.two) | (with_reducible refine Blk.set' ?_ _ _ ?_) | (with_reducible rfl) | rfl))
  clear f_r r_l r_0 r_1 r_f0 r_f1 f_q q_l r_q q_49 q_f49 q_50 q_f50 q_51 q_f51 f_s s_l s_0 s_1 s_2 s_3 s_f0 s_f1 s_f2 s_f3 t_r t_q t_s hB_5 hb_6
  have f_r := g_r
  clear g_r
  have f_q := g_q
  clear g_q
  have f_s := g_s
  clear g_s
  have r_0 : w_6.cell? ⟨w.heap.size + 2, 0, none⟩ = some (.int .u64 0) := (f_r).cell 0
  have r_1 : w_6.cell? ⟨w.heap.size + 2, 1, none⟩ = some (.int .u64 0) := (f_r).cell 1
  have r_f0 := (f_r).frozen 0
  have r_f1 := (f_r).frozen 1
  have r_l := (f_r).lt
  replace f_r := Lib.hid f_r
  have r_q := rowAt_blk f_q
  have q_l := f_q.lt
  have q_49 : w_6.cell? ⟨q, 49, none⟩ = some (.int .u64 n1) := (f_q).cell 49
  have q_f49 := (f_q).frozen 49
  have q_50 : w_6.cell? ⟨q, 50, none⟩ = some (.int .u64 n2) := (f_q).cell 50
  have q_f50 := (f_q).frozen 50
  have q_51 : w_6.cell? ⟨q, 51, none⟩ = some (.int .u32 rv) := (f_q).cell 51
  have q_f51 := (f_q).frozen 51
  replace f_q := Lib.hid f_q
  have s_0 : w_6.cell? ⟨X3.heap.size, 0, none⟩ = some (.func (.func 57) #[] #[]) := (f_s).cell 0
  have s_1 : w_6.cell? ⟨X3.heap.size, 1, none⟩ = some (.func (.func 58) #[] #[]) := (f_s).cell 1
  have s_2 : w_6.cell? ⟨X3.heap.size, 2, none⟩ = some (.func (.func 59) #[] #[]) := (f_s).cell 2
  have s_3 : w_6.cell? ⟨X3.heap.size, 3, none⟩ = some (.func (.func 60) #[] #[]) := (f_s).cell 3
  have s_f0 := (f_s).frozen 0
  have s_f1 := (f_s).frozen 1
  have s_f2 := (f_s).frozen 2
  have s_f3 := (f_s).frozen 3
  have s_l := (f_s).lt
  replace f_s := Lib.hid f_s
  replace hB_6 := Lib.hid hB_6
  by_cases hv3 : v3 = 0
  case neg =>
    have g3 : (v3 == 0) = false := by simpa using hv3
    have g4 : (v3 != 0) = true := by simpa using hv3
    replace hv3 := Lib.hid hv3
    go_wp2_with fail
    refine abs_post (fun Y => Below w.heap.size w Y ∧ Blk Y (w.heap.size + 2) 24 #[.int .u64 0, .int .u64 0]) ?_ ?_
    · have t_B := hB_6.out
      have t_r := f_r.out
      exact ⟨by (repeat (first | with_reducible exact Below.refl _ _ | with_reducible assumption | (with_reducible refine bel_set ?_ (by first | exact Nat.le_refl _ | (simp; done) | (simp; omega) | omega) _) | with_reducible refine bel_grow ?_ _ | with_reducible refine Below.drew ?_ | with_reducible refine bel_alloc ?_ _ | with_reducible refine bel_eld ?_ (by assumption))), by first | exact Blk.two t_r | (repeat (first | with_reducible assumption | exact Hid.out (by assumption) | (with_reducible refine Blk.new' ?_; first | with_reducible rfl | (simp; done)) | with_reducible refine Blk.alloc ?_ _ | with_reducible refine Blk.drew ?_ | (with_reducible refine Blk.far ?_ (by first | (dsimp only; omega) | (simp; omega)) _)))⟩
    rintro Y ⟨bZ, gP⟩
    have p0 := (gP).cell 0
    have p1 := (gP).cell 1
    have pf0 := (gP).frozen 0
    have pf1 := (gP).frozen 1
    have pl := (gP).lt
    refine bodyPost_ret (v := .tuple #[.int .u32 v3, .agg #[.int .u64 0, .int .u64 0]]) (by simp [results, Try.results26, go_sem, p0, p1, pl]) rfl ⟨by rw [chk19_3 hv3.out], bZ⟩
  case pos =>
  subst hv3
  go_wp2_with fail
  rw [rounds_succ]
  go_wp2_with fail
  refine (H4.out _).mono ?_
  rintro e w_7 ⟨rfl, hb_7⟩
  have z_7 := hb_7.size
  try simp at z_7
  have t_ := hB_6.out
  have hB_7 := bel_eld (w := w) (X := _) (by first | ((repeat (first | with_reducible exact Below.refl _ _ | with_reducible assumption | (with_reducible refine bel_set ?_ (by first | exact Nat.le_refl _ | (simp; done) | (simp; omega) | omega) _) | with_reducible refine bel_grow ?_ _ | with_reducible refine Below.drew ?_ | with_reducible refine below_drewN ?_ _ | with_reducible refine bel_alloc ?_ _ | with_reducible refine bel_trans ?_ (by assumption))); done) | (repeat (first | exact Below.refl _ _ | assumption | refine below_drewN ?_ _ | refine bel_grow ?_ _ | refine Below.drew ?_ | refine bel_alloc ?_ _ | refine bel_set ?_ (by first | exact Nat.le_refl _ | (simp; done) | (simp; omega) | omega) _ | refine bel_trans ?_ (by assumption)))) hb_7
  clear t_
  have t_r := f_r.out
  have t_q := f_q.out
  have t_s := f_s.out
  have g_r : Blk w_7 (w.heap.size + 2) 24 #[.int .u64 0, .int .u64 0] := by
    refine Blk.kept ?_ hb_7
    (repeat (first | with_reducible assumption | (with_reducible refine Blk.new' ?_; first | with_reducible rfl | (simp; done)) | with_reducible refine Blk.alloc ?_ _ | with_reducible refine Blk.grow ?_ _ | with_reducible refine Blk.drew ?_ | with_reducible refine Blk.drewN ?_ _ | (with_reducible refine Blk.far ?_ (by first | (dsimp only; omega) | (simp; omega)) _) | (with_reducible apply Blk.two) | (with_reducible refine Blk.set' ?_ _ _ ?_) | (with_reducible rfl) | rfl))
  have g_q : Blk w_7 (q) 95 #[.int .u64 xi1, .int .u64 xi2, .int .u64 xd1, .int .u64 xd2, .int .u64 xc1, .int .u64 xc2, .int .u64 xm1, .int .u64 xm2, .int .u64 xw1, .int .u64 xw2, .int .u64 xtg, .int .u32 xto, .int .u32 xlg, .int .u16 xcd, .int .u16 xfl, .int .u64 xst, .int .u64 ss, .int .u64 ai1, .int .u64 ai2, .int .u64 ap1, .int .u64 ap2, .int .u64 aq1, .int .u64 aq2, .int .u64 ar1, .int .u64 ar2, .int .u64 as1, .int .u64 as2, .int .u64 atg, .int .u32 alg, .int .u16 acd, .int .u16 afl, .int .u64 ast, .int .u64 ei1, .int .u64 ei2, .int .u64 ep1, .int .u64 ep2, .int .u64 eq1, .int .u64 eq2, .int .u64 er1, .int .u64 er2, .int .u64 es1, .int .u64 es2, .int .u64 etg, .int .u32 elg, .int .u16 ecd, .int .u16 efl, .int .u64 est, .bool hd, .bool hc, .int .u64 n1, .int .u64 n2, .int .u32 rv] := by
    refine Blk.kept ?_ hb_7
    (repeat (first | with_reducible assumption | (with_reducible refine Blk.new' ?_; first | with_reducible rfl | (simp; done)) | with_reducible refine Blk.alloc ?_ _ | with_reducible refine Blk.grow ?_ _ | with_reducible refine Blk.drew ?_ | with_reducible refine Blk.drewN ?_ _ | (with_reducible refine Blk.far ?_ (by first | (dsimp only; omega) | (simp; omega)) _) | (with_reducible apply Blk.two) | (with_reducible refine Blk.set' ?_ _ _ ?_) | (with_reducible rfl) | rfl))
  have g_s : Blk w_7 (X3.heap.size) 96 #[.func (.func 57) #[] #[], .func (.func 58) #[] #[], .func (.func 59) #[] #[], .func (.func 60) #[] #[]] := by
    refine Blk.kept ?_ hb_7
    (repeat (first | with_reducible assumption | (with_reducible refine Blk.new' ?_; first | with_reducible rfl | (simp; done)) | with_reducible refine Blk.alloc ?_ _ | with_reducible refine Blk.grow ?_ _ | with_reducible refine Blk.drew ?_ | with_reducible refine Blk.drewN ?_ _ | (with_reducible refine Blk.far ?_ (by first | (dsimp only; omega) | (simp; omega)) _) | (with_reducible apply Blk.two) | (with_reducible refine Blk.set' ?_ _ _ ?_) | (with_reducible rfl) | rfl))
  clear f_r r_l r_0 r_1 r_f0 r_f1 f_q q_l r_q q_49 q_f49 q_50 q_f50 q_51 q_f51 f_s s_l s_0 s_1 s_2 s_3 s_f0 s_f1 s_f2 s_f3 t_r t_q t_s hB_6 hb_7
  have f_r := g_r
  clear g_r
  have f_q := g_q
  clear g_q
  have f_s := g_s
  clear g_s
  have r_0 : w_7.cell? ⟨w.heap.size + 2, 0, none⟩ = some (.int .u64 0) := (f_r).cell 0
  have r_1 : w_7.cell? ⟨w.heap.size + 2, 1, none⟩ = some (.int .u64 0) := (f_r).cell 1
  have r_f0 := (f_r).frozen 0
  have r_f1 := (f_r).frozen 1
  have r_l := (f_r).lt
  replace f_r := Lib.hid f_r
  have r_q := rowAt_blk f_q
  have q_l := f_q.lt
  have q_49 : w_7.cell? ⟨q, 49, none⟩ = some (.int .u64 n1) := (f_q).cell 49
  have q_f49 := (f_q).frozen 49
  have q_50 : w_7.cell? ⟨q, 50, none⟩ = some (.int .u64 n2) := (f_q).cell 50
  have q_f50 := (f_q).frozen 50
  have q_51 : w_7.cell? ⟨q, 51, none⟩ = some (.int .u32 rv) := (f_q).cell 51
  have q_f51 := (f_q).frozen 51
  replace f_q := Lib.hid f_q
  have s_0 : w_7.cell? ⟨X3.heap.size, 0, none⟩ = some (.func (.func 57) #[] #[]) := (f_s).cell 0
  have s_1 : w_7.cell? ⟨X3.heap.size, 1, none⟩ = some (.func (.func 58) #[] #[]) := (f_s).cell 1
  have s_2 : w_7.cell? ⟨X3.heap.size, 2, none⟩ = some (.func (.func 59) #[] #[]) := (f_s).cell 2
  have s_3 : w_7.cell? ⟨X3.heap.size, 3, none⟩ = some (.func (.func 60) #[] #[]) := (f_s).cell 3
  have s_f0 := (f_s).frozen 0
  have s_f1 := (f_s).frozen 1
  have s_f2 := (f_s).frozen 2
  have s_f3 := (f_s).frozen 3
  have s_l := (f_s).lt
  replace f_s := Lib.hid f_s
  replace hB_7 := Lib.hid hB_7
  by_cases hv4 : v4 = 0
  case neg =>
    have g3 : (v4 == 0) = false := by simpa using hv4
    have g4 : (v4 != 0) = true := by simpa using hv4
    replace hv4 := Lib.hid hv4
    go_wp2_with fail
    refine abs_post (fun Y => Below w.heap.size w Y ∧ Blk Y (w.heap.size + 2) 24 #[.int .u64 0, .int .u64 0]) ?_ ?_
    · have t_B := hB_7.out
      have t_r := f_r.out
      exact ⟨by (repeat (first | with_reducible exact Below.refl _ _ | with_reducible assumption | (with_reducible refine bel_set ?_ (by first | exact Nat.le_refl _ | (simp; done) | (simp; omega) | omega) _) | with_reducible refine bel_grow ?_ _ | with_reducible refine Below.drew ?_ | with_reducible refine bel_alloc ?_ _ | with_reducible refine bel_eld ?_ (by assumption))), by first | exact Blk.two t_r | (repeat (first | with_reducible assumption | exact Hid.out (by assumption) | (with_reducible refine Blk.new' ?_; first | with_reducible rfl | (simp; done)) | with_reducible refine Blk.alloc ?_ _ | with_reducible refine Blk.drew ?_ | (with_reducible refine Blk.far ?_ (by first | (dsimp only; omega) | (simp; omega)) _)))⟩
    rintro Y ⟨bZ, gP⟩
    have p0 := (gP).cell 0
    have p1 := (gP).cell 1
    have pf0 := (gP).frozen 0
    have pf1 := (gP).frozen 1
    have pl := (gP).lt
    refine bodyPost_ret (v := .tuple #[.int .u32 v4, .agg #[.int .u64 0, .int .u64 0]]) (by simp [results, Try.results26, go_sem, p0, p1, pl]) rfl ⟨by rw [chk19_4 hv4.out], bZ⟩
  case pos =>
  subst hv4
  go_wp2_with fail
  rw [rounds_succ]
  go_upto_region 10 with fail
  (first | (go_region_held (fun w' => w'.cell? ⟨q, 49, none⟩ = some (.int .u64 n1) ∧ w'.cell? ⟨q, 50, none⟩ = some (.int .u64 n2))
    (first | ((try go_split_ands); (repeat' apply And.intro) <;> (first | with_reducible assumption | ((repeat (first | with_reducible refine keepd ?_ | with_reducible refine keepdr ?_ | with_reducible refine keepal ?_ | with_reducible refine keepral ?_ | with_reducible refine keeps (by dsimp only; omega) ?_ | with_reducible refine keepr (by dsimp only; omega) ?_ | with_reducible refine keepc (by assumption) ?_ | with_reducible refine keeprc (by assumption) ?_)); with_reducible assumption))))
    (fail)) | fail)
  all_goals (
    go_wp2_with fail
    refine abs_post (fun Y => Below w.heap.size w Y ∧ Blk Y (w.heap.size + 2) 24 #[.int .u64 n1, .int .u64 n2]) ?_ ?_
    · have t_B := hB_7.out
      have t_r := f_r.out
      exact ⟨by (repeat (first | with_reducible exact Below.refl _ _ | with_reducible assumption | (with_reducible refine bel_set ?_ (by first | exact Nat.le_refl _ | (simp; done) | (simp; omega) | omega) _) | with_reducible refine bel_grow ?_ _ | with_reducible refine Below.drew ?_ | with_reducible refine bel_alloc ?_ _ | with_reducible refine bel_eld ?_ (by assumption))), by first | exact Blk.two t_r | exact Blk.two t_r.drew | exact (Blk.two t_r).drew⟩
    rintro Y ⟨bZ, gP⟩
    have p0 := gP.cell 0
    have p1 := gP.cell 1
    have pl := gP.lt
    refine bodyPost_ret (v := .tuple #[.int .u32 0, .agg #[.int .u64 n1, .int .u64 n2]]) (by simp [results, Try.results26, go_sem, p0, p1, pl]) rfl ⟨rfl, bZ⟩)
end Go.Proofs.Ytpbnakoimlmhnaa
