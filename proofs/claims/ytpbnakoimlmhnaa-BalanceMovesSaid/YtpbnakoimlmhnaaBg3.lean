/-
  BalanceMoves, walked.
-/
import Derived.Test.YtpbnakoimlmhnaaBm
import Derived.Test.YtpbnakoimlmhnaaBj8
import Derived.Deep.DeepCutAuto
namespace Go.Proofs.Ytpbnakoimlmhnaa
set_option linter.unusedVariables false
set_option linter.unusedSimpArgs false
open Go.RowKit

attribute [local go_sem] loadV_ptr storeV_ptr one_func drew_hs ext_deb ext_cre ext_cols ext_acc
attribute [local go_sem ↓] load_Cols store_Cols load_Transfer store_Transfer load_Parties store_Parties load_Acct store_Acct
attribute [local go_sem ↓] neqParties
set_option maxRecDepth 8000 in
set_option maxHeartbeats 8000000 in
theorem moves_of (xi1 xi2 xd1 xd2 xc1 xc2 xm1 xm2 xw1 xw2 xtg xto xlg xcd xfl xst n1 n2 ai1 ai2 ap1 ap2 aq1 aq2 ar1 ar2 as1 as2 atg alg acd afl ast ei1 ei2 ep1 ep2 eq1 eq2 er1 er2 es1 es2 etg elg ecd efl est zai1 zai2 zap1 zap2 zaq1 zaq2 zar1 zar2 zas1 zas2 zatg zalg zacd zafl zast zei1 zei2 zep1 zep2 zeq1 zeq2 zer1 zer2 zes1 zes2 zetg zelg zecd zefl zest yai1 yai2 yap1 yap2 yaq1 yaq2 yar1 yar2 yas1 yas2 yatg yalg yacd yafl yast yei1 yei2 yep1 yep2 yeq1 yeq2 yer1 yer2 yes1 yes2 yetg yelg yecd yefl yest vai1 vai2 vap1 vap2 vaq1 vaq2 var1 var2 vas1 vas2 vatg valg vacd vafl vast vei1 vei2 vep1 vep2 veq1 veq2 ver1 ver2 ves1 ves2 vetg velg vecd vefl vest : Int) (hd hc zzd zzc zb yzd yzc yb vzd vzc vb : Bool)
    (HX : ∀ w, Calls Try.prog 15 #[] w fun r w' => r = .returned (.bool true) ∧ Below w.heap.size w w')
    (HM : ∀ w, Calls Try.prog 14 #[.agg #[.int .u64 xi1, .int .u64 xi2, .int .u64 xd1, .int .u64 xd2, .int .u64 xc1, .int .u64 xc2, .int .u64 xm1, .int .u64 xm2, .int .u64 xw1, .int .u64 xw2, .int .u64 xtg, .int .u32 xto, .int .u32 xlg, .int .u16 xcd, .int .u16 xfl, .int .u64 xst], .agg #[.int .u64 n1, .int .u64 n2], .agg #[.int .u64 ai1, .int .u64 ai2, .int .u64 ap1, .int .u64 ap2, .int .u64 aq1, .int .u64 aq2, .int .u64 ar1, .int .u64 ar2, .int .u64 as1, .int .u64 as2, .int .u64 atg, .int .u32 alg, .int .u16 acd, .int .u16 afl, .int .u64 ast, .int .u64 ei1, .int .u64 ei2, .int .u64 ep1, .int .u64 ep2, .int .u64 eq1, .int .u64 eq2, .int .u64 er1, .int .u64 er2, .int .u64 es1, .int .u64 es2, .int .u64 etg, .int .u32 elg, .int .u16 ecd, .int .u16 efl, .int .u64 est, .bool hd, .bool hc]] w fun r w' => r = .returned (.tuple #[.agg #[.int .u64 zai1, .int .u64 zai2, .int .u64 zap1, .int .u64 zap2, .int .u64 zaq1, .int .u64 zaq2, .int .u64 zar1, .int .u64 zar2, .int .u64 zas1, .int .u64 zas2, .int .u64 zatg, .int .u32 zalg, .int .u16 zacd, .int .u16 zafl, .int .u64 zast, .int .u64 zei1, .int .u64 zei2, .int .u64 zep1, .int .u64 zep2, .int .u64 zeq1, .int .u64 zeq2, .int .u64 zer1, .int .u64 zer2, .int .u64 zes1, .int .u64 zes2, .int .u64 zetg, .int .u32 zelg, .int .u16 zecd, .int .u16 zefl, .int .u64 zest, .bool zzd, .bool zzc], .bool zb]) ∧ Below w.heap.size w w')
    (HRM : ∀ w, Calls Try.prog 17 #[.agg #[.int .u64 xi1, .int .u64 xi2, .int .u64 xd1, .int .u64 xd2, .int .u64 xc1, .int .u64 xc2, .int .u64 xm1, .int .u64 xm2, .int .u64 xw1, .int .u64 xw2, .int .u64 xtg, .int .u32 xto, .int .u32 xlg, .int .u16 xcd, .int .u16 xfl, .int .u64 xst], .agg #[.int .u64 n1, .int .u64 n2], .agg #[.int .u64 ai1, .int .u64 ai2, .int .u64 ap1, .int .u64 ap2, .int .u64 aq1, .int .u64 aq2, .int .u64 ar1, .int .u64 ar2, .int .u64 as1, .int .u64 as2, .int .u64 atg, .int .u32 alg, .int .u16 acd, .int .u16 afl, .int .u64 ast, .int .u64 ei1, .int .u64 ei2, .int .u64 ep1, .int .u64 ep2, .int .u64 eq1, .int .u64 eq2, .int .u64 er1, .int .u64 er2, .int .u64 es1, .int .u64 es2, .int .u64 etg, .int .u32 elg, .int .u16 ecd, .int .u16 efl, .int .u64 est, .bool hd, .bool hc]] w fun r w' => r = .returned (.tuple #[.agg #[.int .u64 zai1, .int .u64 zai2, .int .u64 zap1, .int .u64 zap2, .int .u64 zaq1, .int .u64 zaq2, .int .u64 zar1, .int .u64 zar2, .int .u64 zas1, .int .u64 zas2, .int .u64 zatg, .int .u32 zalg, .int .u16 zacd, .int .u16 zafl, .int .u64 zast, .int .u64 zei1, .int .u64 zei2, .int .u64 zep1, .int .u64 zep2, .int .u64 zeq1, .int .u64 zeq2, .int .u64 zer1, .int .u64 zer2, .int .u64 zes1, .int .u64 zes2, .int .u64 zetg, .int .u32 zelg, .int .u16 zecd, .int .u16 zefl, .int .u64 zest, .bool zzd, .bool zzc], .bool zb]) ∧ Below w.heap.size w w')
    (HF : ∀ w, Calls Try.prog 18 #[.agg #[.int .u64 xi1, .int .u64 xi2, .int .u64 xd1, .int .u64 xd2, .int .u64 xc1, .int .u64 xc2, .int .u64 xm1, .int .u64 xm2, .int .u64 xw1, .int .u64 xw2, .int .u64 xtg, .int .u32 xto, .int .u32 xlg, .int .u16 xcd, .int .u16 xfl, .int .u64 xst], .agg #[.int .u64 n1, .int .u64 n2], .bool false, .agg #[.int .u64 ai1, .int .u64 ai2, .int .u64 ap1, .int .u64 ap2, .int .u64 aq1, .int .u64 aq2, .int .u64 ar1, .int .u64 ar2, .int .u64 as1, .int .u64 as2, .int .u64 atg, .int .u32 alg, .int .u16 acd, .int .u16 afl, .int .u64 ast, .int .u64 ei1, .int .u64 ei2, .int .u64 ep1, .int .u64 ep2, .int .u64 eq1, .int .u64 eq2, .int .u64 er1, .int .u64 er2, .int .u64 es1, .int .u64 es2, .int .u64 etg, .int .u32 elg, .int .u16 ecd, .int .u16 efl, .int .u64 est, .bool hd, .bool hc]] w fun r w' => r = .returned (.tuple #[.agg #[.int .u64 yai1, .int .u64 yai2, .int .u64 yap1, .int .u64 yap2, .int .u64 yaq1, .int .u64 yaq2, .int .u64 yar1, .int .u64 yar2, .int .u64 yas1, .int .u64 yas2, .int .u64 yatg, .int .u32 yalg, .int .u16 yacd, .int .u16 yafl, .int .u64 yast, .int .u64 yei1, .int .u64 yei2, .int .u64 yep1, .int .u64 yep2, .int .u64 yeq1, .int .u64 yeq2, .int .u64 yer1, .int .u64 yer2, .int .u64 yes1, .int .u64 yes2, .int .u64 yetg, .int .u32 yelg, .int .u16 yecd, .int .u16 yefl, .int .u64 yest, .bool yzd, .bool yzc], .bool yb]) ∧ Below w.heap.size w w')
    (HRF : ∀ w, Calls Try.prog 19 #[.agg #[.int .u64 xi1, .int .u64 xi2, .int .u64 xd1, .int .u64 xd2, .int .u64 xc1, .int .u64 xc2, .int .u64 xm1, .int .u64 xm2, .int .u64 xw1, .int .u64 xw2, .int .u64 xtg, .int .u32 xto, .int .u32 xlg, .int .u16 xcd, .int .u16 xfl, .int .u64 xst], .agg #[.int .u64 n1, .int .u64 n2], .bool false, .agg #[.int .u64 ai1, .int .u64 ai2, .int .u64 ap1, .int .u64 ap2, .int .u64 aq1, .int .u64 aq2, .int .u64 ar1, .int .u64 ar2, .int .u64 as1, .int .u64 as2, .int .u64 atg, .int .u32 alg, .int .u16 acd, .int .u16 afl, .int .u64 ast, .int .u64 ei1, .int .u64 ei2, .int .u64 ep1, .int .u64 ep2, .int .u64 eq1, .int .u64 eq2, .int .u64 er1, .int .u64 er2, .int .u64 es1, .int .u64 es2, .int .u64 etg, .int .u32 elg, .int .u16 ecd, .int .u16 efl, .int .u64 est, .bool hd, .bool hc]] w fun r w' => r = .returned (.tuple #[.agg #[.int .u64 yai1, .int .u64 yai2, .int .u64 yap1, .int .u64 yap2, .int .u64 yaq1, .int .u64 yaq2, .int .u64 yar1, .int .u64 yar2, .int .u64 yas1, .int .u64 yas2, .int .u64 yatg, .int .u32 yalg, .int .u16 yacd, .int .u16 yafl, .int .u64 yast, .int .u64 yei1, .int .u64 yei2, .int .u64 yep1, .int .u64 yep2, .int .u64 yeq1, .int .u64 yeq2, .int .u64 yer1, .int .u64 yer2, .int .u64 yes1, .int .u64 yes2, .int .u64 yetg, .int .u32 yelg, .int .u16 yecd, .int .u16 yefl, .int .u64 yest, .bool yzd, .bool yzc], .bool yb]) ∧ Below w.heap.size w w')
    (HT : ∀ w, Calls Try.prog 18 #[.agg #[.int .u64 xi1, .int .u64 xi2, .int .u64 xd1, .int .u64 xd2, .int .u64 xc1, .int .u64 xc2, .int .u64 xm1, .int .u64 xm2, .int .u64 xw1, .int .u64 xw2, .int .u64 xtg, .int .u32 xto, .int .u32 xlg, .int .u16 xcd, .int .u16 xfl, .int .u64 xst], .agg #[.int .u64 n1, .int .u64 n2], .bool true, .agg #[.int .u64 ai1, .int .u64 ai2, .int .u64 ap1, .int .u64 ap2, .int .u64 aq1, .int .u64 aq2, .int .u64 ar1, .int .u64 ar2, .int .u64 as1, .int .u64 as2, .int .u64 atg, .int .u32 alg, .int .u16 acd, .int .u16 afl, .int .u64 ast, .int .u64 ei1, .int .u64 ei2, .int .u64 ep1, .int .u64 ep2, .int .u64 eq1, .int .u64 eq2, .int .u64 er1, .int .u64 er2, .int .u64 es1, .int .u64 es2, .int .u64 etg, .int .u32 elg, .int .u16 ecd, .int .u16 efl, .int .u64 est, .bool hd, .bool hc]] w fun r w' => r = .returned (.tuple #[.agg #[.int .u64 vai1, .int .u64 vai2, .int .u64 vap1, .int .u64 vap2, .int .u64 vaq1, .int .u64 vaq2, .int .u64 var1, .int .u64 var2, .int .u64 vas1, .int .u64 vas2, .int .u64 vatg, .int .u32 valg, .int .u16 vacd, .int .u16 vafl, .int .u64 vast, .int .u64 vei1, .int .u64 vei2, .int .u64 vep1, .int .u64 vep2, .int .u64 veq1, .int .u64 veq2, .int .u64 ver1, .int .u64 ver2, .int .u64 ves1, .int .u64 ves2, .int .u64 vetg, .int .u32 velg, .int .u16 vecd, .int .u16 vefl, .int .u64 vest, .bool vzd, .bool vzc], .bool vb]) ∧ Below w.heap.size w w')
    (HRT : ∀ w, Calls Try.prog 19 #[.agg #[.int .u64 xi1, .int .u64 xi2, .int .u64 xd1, .int .u64 xd2, .int .u64 xc1, .int .u64 xc2, .int .u64 xm1, .int .u64 xm2, .int .u64 xw1, .int .u64 xw2, .int .u64 xtg, .int .u32 xto, .int .u32 xlg, .int .u16 xcd, .int .u16 xfl, .int .u64 xst], .agg #[.int .u64 n1, .int .u64 n2], .bool true, .agg #[.int .u64 ai1, .int .u64 ai2, .int .u64 ap1, .int .u64 ap2, .int .u64 aq1, .int .u64 aq2, .int .u64 ar1, .int .u64 ar2, .int .u64 as1, .int .u64 as2, .int .u64 atg, .int .u32 alg, .int .u16 acd, .int .u16 afl, .int .u64 ast, .int .u64 ei1, .int .u64 ei2, .int .u64 ep1, .int .u64 ep2, .int .u64 eq1, .int .u64 eq2, .int .u64 er1, .int .u64 er2, .int .u64 es1, .int .u64 es2, .int .u64 etg, .int .u32 elg, .int .u16 ecd, .int .u16 efl, .int .u64 est, .bool hd, .bool hc]] w fun r w' => r = .returned (.tuple #[.agg #[.int .u64 vai1, .int .u64 vai2, .int .u64 vap1, .int .u64 vap2, .int .u64 vaq1, .int .u64 vaq2, .int .u64 var1, .int .u64 var2, .int .u64 vas1, .int .u64 vas2, .int .u64 vatg, .int .u32 valg, .int .u16 vacd, .int .u16 vafl, .int .u64 vast, .int .u64 vei1, .int .u64 vei2, .int .u64 vep1, .int .u64 vep2, .int .u64 veq1, .int .u64 veq2, .int .u64 ver1, .int .u64 ver2, .int .u64 ves1, .int .u64 ves2, .int .u64 vetg, .int .u32 velg, .int .u16 vecd, .int .u16 vefl, .int .u64 vest, .bool vzd, .bool vzc], .bool vb]) ∧ Below w.heap.size w w')
    (w : World) : Calls Try.prog 4 #[.agg #[.int .u64 xi1, .int .u64 xi2, .int .u64 xd1, .int .u64 xd2, .int .u64 xc1, .int .u64 xc2, .int .u64 xm1, .int .u64 xm2, .int .u64 xw1, .int .u64 xw2, .int .u64 xtg, .int .u32 xto, .int .u32 xlg, .int .u16 xcd, .int .u16 xfl, .int .u64 xst], .agg #[.int .u64 n1, .int .u64 n2], .agg #[.int .u64 ai1, .int .u64 ai2, .int .u64 ap1, .int .u64 ap2, .int .u64 aq1, .int .u64 aq2, .int .u64 ar1, .int .u64 ar2, .int .u64 as1, .int .u64 as2, .int .u64 atg, .int .u32 alg, .int .u16 acd, .int .u16 afl, .int .u64 ast, .int .u64 ei1, .int .u64 ei2, .int .u64 ep1, .int .u64 ep2, .int .u64 eq1, .int .u64 eq2, .int .u64 er1, .int .u64 er2, .int .u64 es1, .int .u64 es2, .int .u64 etg, .int .u32 elg, .int .u16 ecd, .int .u16 efl, .int .u64 est, .bool hd, .bool hc]] w fun r w' => r = .returned (.bool true) ∧ Below w.heap.size w w' := by
  replace HX := Lib.hid HX
  replace HM := Lib.hid HM
  replace HRM := Lib.hid HRM
  replace HF := Lib.hid HF
  replace HRF := Lib.hid HRF
  replace HT := Lib.hid HT
  replace HRT := Lib.hid HRT
  have hb0 := Below.refl w.heap.size w
  go_enter Try.func4, Try.ntmps4
  replace hb0 := Lib.hid hb0
  go_wp2_with fail
  refine (HM.out _).mono ?_
  rintro e w_1 ⟨rfl, hb_1⟩
  have z_1 := hb_1.size
  try simp at z_1
  have t_ := hb0.out
  have hB_1 := bel_eld (w := w) (X := _) (by repeat (first | exact Below.refl _ _ | assumption | refine below_drewN ?_ _ | refine bel_grow ?_ _ | refine Below.drew ?_ | refine bel_alloc ?_ _ | refine bel_set ?_ (by first | exact Nat.le_refl _ | (simp; done) | (simp; omega) | omega) _ | refine bel_trans ?_ (by assumption))) hb_1
  clear t_
  have g_x : Blk w_1 (w.heap.size) 28 #[.int .u64 xi1, .int .u64 xi2, .int .u64 xd1, .int .u64 xd2, .int .u64 xc1, .int .u64 xc2, .int .u64 xm1, .int .u64 xm2, .int .u64 xw1, .int .u64 xw2, .int .u64 xtg, .int .u32 xto, .int .u32 xlg, .int .u16 xcd, .int .u16 xfl, .int .u64 xst] := by
    refine Blk.kept ?_ hb_1
    (repeat (first | with_reducible assumption | (with_reducible refine Blk.new' ?_; first | with_reducible rfl | (simp; done)) | with_reducible refine Blk.alloc ?_ _ | with_reducible refine Blk.grow ?_ _ | with_reducible refine Blk.drew ?_ | with_reducible refine Blk.drewN ?_ _ | (with_reducible refine Blk.far ?_ (by first | (dsimp only; omega) | (simp; omega)) _) | (with_reducible apply Blk.two) | (with_reducible refine Blk.set' ?_ _ _ ?_) | (with_reducible rfl) | rfl))
  have g_n : Blk w_1 (w.heap.size + 1) 24 #[.int .u64 n1, .int .u64 n2] := by
    refine Blk.kept ?_ hb_1
    (repeat (first | with_reducible assumption | (with_reducible refine Blk.new' ?_; first | with_reducible rfl | (simp; done)) | with_reducible refine Blk.alloc ?_ _ | with_reducible refine Blk.grow ?_ _ | with_reducible refine Blk.drew ?_ | with_reducible refine Blk.drewN ?_ _ | (with_reducible refine Blk.far ?_ (by first | (dsimp only; omega) | (simp; omega)) _) | (with_reducible apply Blk.two) | (with_reducible refine Blk.set' ?_ _ _ ?_) | (with_reducible rfl) | rfl))
  have g_p : Blk w_1 (w.heap.size + 2) 32 #[.int .u64 ai1, .int .u64 ai2, .int .u64 ap1, .int .u64 ap2, .int .u64 aq1, .int .u64 aq2, .int .u64 ar1, .int .u64 ar2, .int .u64 as1, .int .u64 as2, .int .u64 atg, .int .u32 alg, .int .u16 acd, .int .u16 afl, .int .u64 ast, .int .u64 ei1, .int .u64 ei2, .int .u64 ep1, .int .u64 ep2, .int .u64 eq1, .int .u64 eq2, .int .u64 er1, .int .u64 er2, .int .u64 es1, .int .u64 es2, .int .u64 etg, .int .u32 elg, .int .u16 ecd, .int .u16 efl, .int .u64 est, .bool hd, .bool hc] := by
    refine Blk.kept ?_ hb_1
    (repeat (first | with_reducible assumption | (with_reducible refine Blk.new' ?_; first | with_reducible rfl | (simp; done)) | with_reducible refine Blk.alloc ?_ _ | with_reducible refine Blk.grow ?_ _ | with_reducible refine Blk.drew ?_ | with_reducible refine Blk.drewN ?_ _ | (with_reducible refine Blk.far ?_ (by first | (dsimp only; omega) | (simp; omega)) _) | (with_reducible apply Blk.two) | (with_reducible refine Blk.set' ?_ _ _ ?_) | (with_reducible rfl) | rfl))
  clear hb0 hb_1
  have f_x := g_x
  clear g_x
  have f_n := g_n
  clear g_n
  have f_p := g_p
  clear g_p
  have r_x := rowAt_blk f_x
  have x_l := f_x.lt
  replace f_x := Lib.hid f_x
  have n_0 : w_1.cell? ⟨w.heap.size + 1, 0, none⟩ = some (.int .u64 n1) := (f_n).cell 0
  have n_1 : w_1.cell? ⟨w.heap.size + 1, 1, none⟩ = some (.int .u64 n2) := (f_n).cell 1
  have n_f0 := (f_n).frozen 0
  have n_f1 := (f_n).frozen 1
  have n_l := (f_n).lt
  replace f_n := Lib.hid f_n
  have r_p := rowAt_blk f_p
  have p_l := f_p.lt
  replace f_p := Lib.hid f_p
  replace hB_1 := Lib.hid hB_1
  go_wp2_with fail
  refine (HRM.out _).mono ?_
  rintro e w_2 ⟨rfl, hb_2⟩
  have z_2 := hb_2.size
  try simp at z_2
  have t_ := hB_1.out
  have hB_2 := bel_eld (w := w) (X := _) (by repeat (first | exact Below.refl _ _ | assumption | refine below_drewN ?_ _ | refine bel_grow ?_ _ | refine Below.drew ?_ | refine bel_alloc ?_ _ | refine bel_set ?_ (by first | exact Nat.le_refl _ | (simp; done) | (simp; omega) | omega) _ | refine bel_trans ?_ (by assumption))) hb_2
  clear t_
  have t_x := f_x.out
  have t_n := f_n.out
  have t_p := f_p.out
  have g_x : Blk w_2 (w.heap.size) 28 #[.int .u64 xi1, .int .u64 xi2, .int .u64 xd1, .int .u64 xd2, .int .u64 xc1, .int .u64 xc2, .int .u64 xm1, .int .u64 xm2, .int .u64 xw1, .int .u64 xw2, .int .u64 xtg, .int .u32 xto, .int .u32 xlg, .int .u16 xcd, .int .u16 xfl, .int .u64 xst] := by
    refine Blk.kept ?_ hb_2
    (repeat (first | with_reducible assumption | (with_reducible refine Blk.new' ?_; first | with_reducible rfl | (simp; done)) | with_reducible refine Blk.alloc ?_ _ | with_reducible refine Blk.grow ?_ _ | with_reducible refine Blk.drew ?_ | with_reducible refine Blk.drewN ?_ _ | (with_reducible refine Blk.far ?_ (by first | (dsimp only; omega) | (simp; omega)) _) | (with_reducible apply Blk.two) | (with_reducible refine Blk.set' ?_ _ _ ?_) | (with_reducible rfl) | rfl))
  have g_n : Blk w_2 (w.heap.size + 1) 24 #[.int .u64 n1, .int .u64 n2] := by
    refine Blk.kept ?_ hb_2
    (repeat (first | with_reducible assumption | (with_reducible refine Blk.new' ?_; first | with_reducible rfl | (simp; done)) | with_reducible refine Blk.alloc ?_ _ | with_reducible refine Blk.grow ?_ _ | with_reducible refine Blk.drew ?_ | with_reducible refine Blk.drewN ?_ _ | (with_reducible refine Blk.far ?_ (by first | (dsimp only; omega) | (simp; omega)) _) | (with_reducible apply Blk.two) | (with_reducible refine Blk.set' ?_ _ _ ?_) | (with_reducible rfl) | rfl))
  have g_p : Blk w_2 (w.heap.size + 2) 32 #[.int .u64 ai1, .int .u64 ai2, .int .u64 ap1, .int .u64 ap2, .int .u64 aq1, .int .u64 aq2, .int .u64 ar1, .int .u64 ar2, .int .u64 as1, .int .u64 as2, .int .u64 atg, .int .u32 alg, .int .u16 acd, .int .u16 afl, .int .u64 ast, .int .u64 ei1, .int .u64 ei2, .int .u64 ep1, .int .u64 ep2, .int .u64 eq1, .int .u64 eq2, .int .u64 er1, .int .u64 er2, .int .u64 es1, .int .u64 es2, .int .u64 etg, .int .u32 elg, .int .u16 ecd, .int .u16 efl, .int .u64 est, .bool hd, .bool hc] := by
    refine Blk.kept ?_ hb_2
    (repeat (first | with_reducible assumption | (with_reducible refine Blk.new' ?_; first | with_reducible rfl | (simp; done)) | with_reducible refine Blk.alloc ?_ _ | with_reducible refine Blk.grow ?_ _ | with_reducible refine Blk.drew ?_ | with_reducible refine Blk.drewN ?_ _ | (with_reducible refine Blk.far ?_ (by first | (dsimp only; omega) | (simp; omega)) _) | (with_reducible apply Blk.two) | (with_reducible refine Blk.set' ?_ _ _ ?_) | (with_reducible rfl) | rfl))
  have g_a : Blk w_2 (w_1.heap.size) 32 #[.int .u64 zai1, .int .u64 zai2, .int .u64 zap1, .int .u64 zap2, .int .u64 zaq1, .int .u64 zaq2, .int .u64 zar1, .int .u64 zar2, .int .u64 zas1, .int .u64 zas2, .int .u64 zatg, .int .u32 zalg, .int .u16 zacd, .int .u16 zafl, .int .u64 zast, .int .u64 zei1, .int .u64 zei2, .int .u64 zep1, .int .u64 zep2, .int .u64 zeq1, .int .u64 zeq2, .int .u64 zer1, .int .u64 zer2, .int .u64 zes1, .int .u64 zes2, .int .u64 zetg, .int .u32 zelg, .int .u16 zecd, .int .u16 zefl, .int .u64 zest, .bool zzd, .bool zzc] := by
    refine Blk.kept ?_ hb_2
    (repeat (first | with_reducible assumption | (with_reducible refine Blk.new' ?_; first | with_reducible rfl | (simp; done)) | with_reducible refine Blk.alloc ?_ _ | with_reducible refine Blk.grow ?_ _ | with_reducible refine Blk.drew ?_ | with_reducible refine Blk.drewN ?_ _ | (with_reducible refine Blk.far ?_ (by first | (dsimp only; omega) | (simp; omega)) _) | (with_reducible apply Blk.two) | (with_reducible refine Blk.set' ?_ _ _ ?_) | (with_reducible rfl) | rfl))
  clear f_x x_l r_x f_n n_l n_0 n_1 n_f0 n_f1 f_p p_l r_p t_x t_n t_p hB_1 hb_2
  have f_x := g_x
  clear g_x
  have f_n := g_n
  clear g_n
  have f_p := g_p
  clear g_p
  have f_a := g_a
  clear g_a
  have r_x := rowAt_blk f_x
  have x_l := f_x.lt
  replace f_x := Lib.hid f_x
  have n_0 : w_2.cell? ⟨w.heap.size + 1, 0, none⟩ = some (.int .u64 n1) := (f_n).cell 0
  have n_1 : w_2.cell? ⟨w.heap.size + 1, 1, none⟩ = some (.int .u64 n2) := (f_n).cell 1
  have n_f0 := (f_n).frozen 0
  have n_f1 := (f_n).frozen 1
  have n_l := (f_n).lt
  replace f_n := Lib.hid f_n
  have r_p := rowAt_blk f_p
  have p_l := f_p.lt
  replace f_p := Lib.hid f_p
  have r_a := rowAt_blk f_a
  have a_l := f_a.lt
  replace f_a := Lib.hid f_a
  replace hB_2 := Lib.hid hB_2
  go_upto_region 5 with fail
  refine abs_wp (fun Y_ => Below w.heap.size w Y_ ∧ Blk Y_ (w.heap.size) 28 #[.int .u64 xi1, .int .u64 xi2, .int .u64 xd1, .int .u64 xd2, .int .u64 xc1, .int .u64 xc2, .int .u64 xm1, .int .u64 xm2, .int .u64 xw1, .int .u64 xw2, .int .u64 xtg, .int .u32 xto, .int .u32 xlg, .int .u16 xcd, .int .u16 xfl, .int .u64 xst] ∧ Blk Y_ (w.heap.size + 1) 24 #[.int .u64 n1, .int .u64 n2] ∧ Blk Y_ (w.heap.size + 2) 32 #[.int .u64 ai1, .int .u64 ai2, .int .u64 ap1, .int .u64 ap2, .int .u64 aq1, .int .u64 aq2, .int .u64 ar1, .int .u64 ar2, .int .u64 as1, .int .u64 as2, .int .u64 atg, .int .u32 alg, .int .u16 acd, .int .u16 afl, .int .u64 ast, .int .u64 ei1, .int .u64 ei2, .int .u64 ep1, .int .u64 ep2, .int .u64 eq1, .int .u64 eq2, .int .u64 er1, .int .u64 er2, .int .u64 es1, .int .u64 es2, .int .u64 etg, .int .u32 elg, .int .u16 ecd, .int .u16 efl, .int .u64 est, .bool hd, .bool hc] ∧ Blk Y_ (w_1.heap.size) 32 #[.int .u64 zai1, .int .u64 zai2, .int .u64 zap1, .int .u64 zap2, .int .u64 zaq1, .int .u64 zaq2, .int .u64 zar1, .int .u64 zar2, .int .u64 zas1, .int .u64 zas2, .int .u64 zatg, .int .u32 zalg, .int .u16 zacd, .int .u16 zafl, .int .u64 zast, .int .u64 zei1, .int .u64 zei2, .int .u64 zep1, .int .u64 zep2, .int .u64 zeq1, .int .u64 zeq2, .int .u64 zer1, .int .u64 zer2, .int .u64 zes1, .int .u64 zes2, .int .u64 zetg, .int .u32 zelg, .int .u16 zecd, .int .u16 zefl, .int .u64 zest, .bool zzd, .bool zzc] ∧ Blk Y_ (w_2.heap.size) 32 #[.int .u64 zai1, .int .u64 zai2, .int .u64 zap1, .int .u64 zap2, .int .u64 zaq1, .int .u64 zaq2, .int .u64 zar1, .int .u64 zar2, .int .u64 zas1, .int .u64 zas2, .int .u64 zatg, .int .u32 zalg, .int .u16 zacd, .int .u16 zafl, .int .u64 zast, .int .u64 zei1, .int .u64 zei2, .int .u64 zep1, .int .u64 zep2, .int .u64 zeq1, .int .u64 zeq2, .int .u64 zer1, .int .u64 zer2, .int .u64 zes1, .int .u64 zes2, .int .u64 zetg, .int .u32 zelg, .int .u16 zecd, .int .u16 zefl, .int .u64 zest, .bool zzd, .bool zzc]) ?_ ?_
  · have t_B := hB_2.out
    have t_x := f_x.out
    have t_n := f_n.out
    have t_p := f_p.out
    have t_a := f_a.out
    refine ⟨by (repeat (first | with_reducible exact Below.refl _ _ | with_reducible assumption | (with_reducible refine bel_set ?_ (by first | exact Nat.le_refl _ | (simp; done) | (simp; omega) | omega) _) | with_reducible refine bel_grow ?_ _ | with_reducible refine Below.drew ?_ | with_reducible refine bel_alloc ?_ _ | with_reducible refine bel_eld ?_ (by assumption))), ?_, ?_, ?_, ?_, ?_⟩
    · (repeat (first | with_reducible assumption | (with_reducible refine Blk.new' ?_; first | with_reducible rfl | (simp; done)) | with_reducible refine Blk.alloc ?_ _ | with_reducible refine Blk.grow ?_ _ | with_reducible refine Blk.drew ?_ | with_reducible refine Blk.drewN ?_ _ | (with_reducible refine Blk.far ?_ (by first | (dsimp only; omega) | (simp; omega)) _) | (with_reducible apply Blk.two) | (with_reducible refine Blk.kept ?_ (by assumption)) | (with_reducible refine Blk.setRow ?_ (by first | rfl | (simp; done))) | (with_reducible refine Blk.setRow_far ?_ (by first | omega | (simp; omega)) _) | (with_reducible refine Blk.set' ?_ _ _ (by first | rfl | (simp; done)))))
    · (repeat (first | with_reducible assumption | (with_reducible refine Blk.new' ?_; first | with_reducible rfl | (simp; done)) | with_reducible refine Blk.alloc ?_ _ | with_reducible refine Blk.grow ?_ _ | with_reducible refine Blk.drew ?_ | with_reducible refine Blk.drewN ?_ _ | (with_reducible refine Blk.far ?_ (by first | (dsimp only; omega) | (simp; omega)) _) | (with_reducible apply Blk.two) | (with_reducible refine Blk.kept ?_ (by assumption)) | (with_reducible refine Blk.setRow ?_ (by first | rfl | (simp; done))) | (with_reducible refine Blk.setRow_far ?_ (by first | omega | (simp; omega)) _) | (with_reducible refine Blk.set' ?_ _ _ (by first | rfl | (simp; done)))))
    · (repeat (first | with_reducible assumption | (with_reducible refine Blk.new' ?_; first | with_reducible rfl | (simp; done)) | with_reducible refine Blk.alloc ?_ _ | with_reducible refine Blk.grow ?_ _ | with_reducible refine Blk.drew ?_ | with_reducible refine Blk.drewN ?_ _ | (with_reducible refine Blk.far ?_ (by first | (dsimp only; omega) | (simp; omega)) _) | (with_reducible apply Blk.two) | (with_reducible refine Blk.kept ?_ (by assumption)) | (with_reducible refine Blk.setRow ?_ (by first | rfl | (simp; done))) | (with_reducible refine Blk.setRow_far ?_ (by first | omega | (simp; omega)) _) | (with_reducible refine Blk.set' ?_ _ _ (by first | rfl | (simp; done)))))
    · (repeat (first | with_reducible assumption | (with_reducible refine Blk.new' ?_; first | with_reducible rfl | (simp; done)) | with_reducible refine Blk.alloc ?_ _ | with_reducible refine Blk.grow ?_ _ | with_reducible refine Blk.drew ?_ | with_reducible refine Blk.drewN ?_ _ | (with_reducible refine Blk.far ?_ (by first | (dsimp only; omega) | (simp; omega)) _) | (with_reducible apply Blk.two) | (with_reducible refine Blk.kept ?_ (by assumption)) | (with_reducible refine Blk.setRow ?_ (by first | rfl | (simp; done))) | (with_reducible refine Blk.setRow_far ?_ (by first | omega | (simp; omega)) _) | (with_reducible refine Blk.set' ?_ _ _ (by first | rfl | (simp; done)))))
    · (repeat (first | with_reducible assumption | (with_reducible refine Blk.new' ?_; first | with_reducible rfl | (simp; done)) | with_reducible refine Blk.alloc ?_ _ | with_reducible refine Blk.grow ?_ _ | with_reducible refine Blk.drew ?_ | with_reducible refine Blk.drewN ?_ _ | (with_reducible refine Blk.far ?_ (by first | (dsimp only; omega) | (simp; omega)) _) | (with_reducible apply Blk.two) | (with_reducible refine Blk.kept ?_ (by assumption)) | (with_reducible refine Blk.setRow ?_ (by first | rfl | (simp; done))) | (with_reducible refine Blk.setRow_far ?_ (by first | omega | (simp; omega)) _) | (with_reducible refine Blk.set' ?_ _ _ (by first | rfl | (simp; done)))))
  clear f_x x_l r_x f_n n_l n_0 n_1 n_f0 n_f1 f_p p_l r_p f_a a_l r_a hB_2
  rintro X3 ⟨hB_3, f_x, f_n, f_p, f_a, f_b⟩
  have r_x := rowAt_blk f_x
  have x_l := f_x.lt
  replace f_x := Lib.hid f_x
  have n_0 : X3.cell? ⟨w.heap.size + 1, 0, none⟩ = some (.int .u64 n1) := (f_n).cell 0
  have n_1 : X3.cell? ⟨w.heap.size + 1, 1, none⟩ = some (.int .u64 n2) := (f_n).cell 1
  have n_f0 := (f_n).frozen 0
  have n_f1 := (f_n).frozen 1
  have n_l := (f_n).lt
  replace f_n := Lib.hid f_n
  have r_p := rowAt_blk f_p
  have p_l := f_p.lt
  replace f_p := Lib.hid f_p
  have r_a := rowAt_blk f_a
  have a_l := f_a.lt
  replace f_a := Lib.hid f_a
  have r_b := rowAt_blk f_b
  have b_l := f_b.lt
  replace f_b := Lib.hid f_b
  replace hB_3 := Lib.hid hB_3
  go_wp2_with fail
  refine wp_loop_rounds 3 ?_
  rw [rounds_succ]
  go_wp2_with fail
  refine (HF.out _).mono ?_
  rintro e w_4 ⟨rfl, hb_4⟩
  have z_4 := hb_4.size
  try simp at z_4
  have t_ := hB_3.out
  have hB_4 := bel_eld (w := w) (X := _) (by repeat (first | exact Below.refl _ _ | assumption | refine below_drewN ?_ _ | refine bel_grow ?_ _ | refine Below.drew ?_ | refine bel_alloc ?_ _ | refine bel_set ?_ (by first | exact Nat.le_refl _ | (simp; done) | (simp; omega) | omega) _ | refine bel_trans ?_ (by assumption))) hb_4
  clear t_
  have t_x := f_x.out
  have t_n := f_n.out
  have t_p := f_p.out
  have t_a := f_a.out
  have t_b := f_b.out
  have g_x : Blk w_4 (w.heap.size) 28 #[.int .u64 xi1, .int .u64 xi2, .int .u64 xd1, .int .u64 xd2, .int .u64 xc1, .int .u64 xc2, .int .u64 xm1, .int .u64 xm2, .int .u64 xw1, .int .u64 xw2, .int .u64 xtg, .int .u32 xto, .int .u32 xlg, .int .u16 xcd, .int .u16 xfl, .int .u64 xst] := by
    refine Blk.kept ?_ hb_4
    (repeat (first | with_reducible assumption | (with_reducible refine Blk.new' ?_; first | with_reducible rfl | (simp; done)) | with_reducible refine Blk.alloc ?_ _ | with_reducible refine Blk.grow ?_ _ | with_reducible refine Blk.drew ?_ | with_reducible refine Blk.drewN ?_ _ | (with_reducible refine Blk.far ?_ (by first | (dsimp only; omega) | (simp; omega)) _) | (with_reducible apply Blk.two) | (with_reducible refine Blk.set' ?_ _ _ ?_) | (with_reducible rfl) | rfl))
  have g_n : Blk w_4 (w.heap.size + 1) 24 #[.int .u64 n1, .int .u64 n2] := by
    refine Blk.kept ?_ hb_4
    (repeat (first | with_reducible assumption | (with_reducible refine Blk.new' ?_; first | with_reducible rfl | (simp; done)) | with_reducible refine Blk.alloc ?_ _ | with_reducible refine Blk.grow ?_ _ | with_reducible refine Blk.drew ?_ | with_reducible refine Blk.drewN ?_ _ | (with_reducible refine Blk.far ?_ (by first | (dsimp only; omega) | (simp; omega)) _) | (with_reducible apply Blk.two) | (with_reducible refine Blk.set' ?_ _ _ ?_) | (with_reducible rfl) | rfl))
  have g_p : Blk w_4 (w.heap.size + 2) 32 #[.int .u64 ai1, .int .u64 ai2, .int .u64 ap1, .int .u64 ap2, .int .u64 aq1, .int .u64 aq2, .int .u64 ar1, .int .u64 ar2, .int .u64 as1, .int .u64 as2, .int .u64 atg, .int .u32 alg, .int .u16 acd, .int .u16 afl, .int .u64 ast, .int .u64 ei1, .int .u64 ei2, .int .u64 ep1, .int .u64 ep2, .int .u64 eq1, .int .u64 eq2, .int .u64 er1, .int .u64 er2, .int .u64 es1, .int .u64 es2, .int .u64 etg, .int .u32 elg, .int .u16 ecd, .int .u16 efl, .int .u64 est, .bool hd, .bool hc] := by
    refine Blk.kept ?_ hb_4
    (repeat (first | with_reducible assumption | (with_reducible refine Blk.new' ?_; first | with_reducible rfl | (simp; done)) | with_reducible refine Blk.alloc ?_ _ | with_reducible refine Blk.grow ?_ _ | with_reducible refine Blk.drew ?_ | with_reducible refine Blk.drewN ?_ _ | (with_reducible refine Blk.far ?_ (by first | (dsimp only; omega) | (simp; omega)) _) | (with_reducible apply Blk.two) | (with_reducible refine Blk.set' ?_ _ _ ?_) | (with_reducible rfl) | rfl))
  have g_a : Blk w_4 (w_1.heap.size) 32 #[.int .u64 zai1, .int .u64 zai2, .int .u64 zap1, .int .u64 zap2, .int .u64 zaq1, .int .u64 zaq2, .int .u64 zar1, .int .u64 zar2, .int .u64 zas1, .int .u64 zas2, .int .u64 zatg, .int .u32 zalg, .int .u16 zacd, .int .u16 zafl, .int .u64 zast, .int .u64 zei1, .int .u64 zei2, .int .u64 zep1, .int .u64 zep2, .int .u64 zeq1, .int .u64 zeq2, .int .u64 zer1, .int .u64 zer2, .int .u64 zes1, .int .u64 zes2, .int .u64 zetg, .int .u32 zelg, .int .u16 zecd, .int .u16 zefl, .int .u64 zest, .bool zzd, .bool zzc] := by
    refine Blk.kept ?_ hb_4
    (repeat (first | with_reducible assumption | (with_reducible refine Blk.new' ?_; first | with_reducible rfl | (simp; done)) | with_reducible refine Blk.alloc ?_ _ | with_reducible refine Blk.grow ?_ _ | with_reducible refine Blk.drew ?_ | with_reducible refine Blk.drewN ?_ _ | (with_reducible refine Blk.far ?_ (by first | (dsimp only; omega) | (simp; omega)) _) | (with_reducible apply Blk.two) | (with_reducible refine Blk.set' ?_ _ _ ?_) | (with_reducible rfl) | rfl))
  have g_b : Blk w_4 (w_2.heap.size) 32 #[.int .u64 zai1, .int .u64 zai2, .int .u64 zap1, .int .u64 zap2, .int .u64 zaq1, .int .u64 zaq2, .int .u64 zar1, .int .u64 zar2, .int .u64 zas1, .int .u64 zas2, .int .u64 zatg, .int .u32 zalg, .int .u16 zacd, .int .u16 zafl, .int .u64 zast, .int .u64 zei1, .int .u64 zei2, .int .u64 zep1, .int .u64 zep2, .int .u64 zeq1, .int .u64 zeq2, .int .u64 zer1, .int .u64 zer2, .int .u64 zes1, .int .u64 zes2, .int .u64 zetg, .int .u32 zelg, .int .u16 zecd, .int .u16 zefl, .int .u64 zest, .bool zzd, .bool zzc] := by
    refine Blk.kept ?_ hb_4
    (repeat (first | with_reducible assumption | (with_reducible refine Blk.new' ?_; first | with_reducible rfl | (simp; done)) | with_reducible refine Blk.alloc ?_ _ | with_reducible refine Blk.grow ?_ _ | with_reducible refine Blk.drew ?_ | with_reducible refine Blk.drewN ?_ _ | (with_reducible refine Blk.far ?_ (by first | (dsimp only; omega) | (simp; omega)) _) | (with_reducible apply Blk.two) | (with_reducible refine Blk.set' ?_ _ _ ?_) | (with_reducible rfl) | rfl))
  have g_s : Blk w_4 (X3.heap.size) 4 #[.bool false, .bool true] := by
    refine Blk.kept ?_ hb_4
    (repeat (first | with_reducible assumption | (with_reducible refine Blk.new' ?_; first | with_reducible rfl | (simp; done)) | with_reducible refine Blk.alloc ?_ _ | with_reducible refine Blk.grow ?_ _ | with_reducible refine Blk.drew ?_ | with_reducible refine Blk.drewN ?_ _ | (with_reducible refine Blk.far ?_ (by first | (dsimp only; omega) | (simp; omega)) _) | (with_reducible apply Blk.two) | (with_reducible refine Blk.set' ?_ _ _ ?_) | (with_reducible rfl) | rfl))
  clear f_x x_l r_x f_n n_l n_0 n_1 n_f0 n_f1 f_p p_l r_p f_a a_l r_a f_b b_l r_b t_x t_n t_p t_a t_b hB_3 hb_4
  have f_x := g_x
  clear g_x
  have f_n := g_n
  clear g_n
  have f_p := g_p
  clear g_p
  have f_a := g_a
  clear g_a
  have f_b := g_b
  clear g_b
  have f_s := g_s
  clear g_s
  have r_x := rowAt_blk f_x
  have x_l := f_x.lt
  replace f_x := Lib.hid f_x
  have n_0 : w_4.cell? ⟨w.heap.size + 1, 0, none⟩ = some (.int .u64 n1) := (f_n).cell 0
  have n_1 : w_4.cell? ⟨w.heap.size + 1, 1, none⟩ = some (.int .u64 n2) := (f_n).cell 1
  have n_f0 := (f_n).frozen 0
  have n_f1 := (f_n).frozen 1
  have n_l := (f_n).lt
  replace f_n := Lib.hid f_n
  have r_p := rowAt_blk f_p
  have p_l := f_p.lt
  replace f_p := Lib.hid f_p
  have r_a := rowAt_blk f_a
  have a_l := f_a.lt
  replace f_a := Lib.hid f_a
  have r_b := rowAt_blk f_b
  have b_l := f_b.lt
  replace f_b := Lib.hid f_b
  have s_0 : w_4.cell? ⟨X3.heap.size, 0, none⟩ = some (.bool false) := (f_s).cell 0
  have s_1 : w_4.cell? ⟨X3.heap.size, 1, none⟩ = some (.bool true) := (f_s).cell 1
  have s_f0 := (f_s).frozen 0
  have s_f1 := (f_s).frozen 1
  have s_l := (f_s).lt
  replace f_s := Lib.hid f_s
  replace hB_4 := Lib.hid hB_4
  go_wp2_with fail
  refine (HRF.out _).mono ?_
  rintro e w_5 ⟨rfl, hb_5⟩
  have z_5 := hb_5.size
  try simp at z_5
  have t_ := hB_4.out
  have hB_5 := bel_eld (w := w) (X := _) (by repeat (first | exact Below.refl _ _ | assumption | refine below_drewN ?_ _ | refine bel_grow ?_ _ | refine Below.drew ?_ | refine bel_alloc ?_ _ | refine bel_set ?_ (by first | exact Nat.le_refl _ | (simp; done) | (simp; omega) | omega) _ | refine bel_trans ?_ (by assumption))) hb_5
  clear t_
  have t_x := f_x.out
  have t_n := f_n.out
  have t_p := f_p.out
  have t_a := f_a.out
  have t_b := f_b.out
  have t_s := f_s.out
  have g_x : Blk w_5 (w.heap.size) 28 #[.int .u64 xi1, .int .u64 xi2, .int .u64 xd1, .int .u64 xd2, .int .u64 xc1, .int .u64 xc2, .int .u64 xm1, .int .u64 xm2, .int .u64 xw1, .int .u64 xw2, .int .u64 xtg, .int .u32 xto, .int .u32 xlg, .int .u16 xcd, .int .u16 xfl, .int .u64 xst] := by
    refine Blk.kept ?_ hb_5
    (repeat (first | with_reducible assumption | (with_reducible refine Blk.new' ?_; first | with_reducible rfl | (simp; done)) | with_reducible refine Blk.alloc ?_ _ | with_reducible refine Blk.grow ?_ _ | with_reducible refine Blk.drew ?_ | with_reducible refine Blk.drewN ?_ _ | (with_reducible refine Blk.far ?_ (by first | (dsimp only; omega) | (simp; omega)) _) | (with_reducible apply Blk.two) | (with_reducible refine Blk.set' ?_ _ _ ?_) | (with_reducible rfl) | rfl))
  have g_n : Blk w_5 (w.heap.size + 1) 24 #[.int .u64 n1, .int .u64 n2] := by
    refine Blk.kept ?_ hb_5
    (repeat (first | with_reducible assumption | (with_reducible refine Blk.new' ?_; first | with_reducible rfl | (simp; done)) | with_reducible refine Blk.alloc ?_ _ | with_reducible refine Blk.grow ?_ _ | with_reducible refine Blk.drew ?_ | with_reducible refine Blk.drewN ?_ _ | (with_reducible refine Blk.far ?_ (by first | (dsimp only; omega) | (simp; omega)) _) | (with_reducible apply Blk.two) | (with_reducible refine Blk.set' ?_ _ _ ?_) | (with_reducible rfl) | rfl))
  have g_p : Blk w_5 (w.heap.size + 2) 32 #[.int .u64 ai1, .int .u64 ai2, .int .u64 ap1, .int .u64 ap2, .int .u64 aq1, .int .u64 aq2, .int .u64 ar1, .int .u64 ar2, .int .u64 as1, .int .u64 as2, .int .u64 atg, .int .u32 alg, .int .u16 acd, .int .u16 afl, .int .u64 ast, .int .u64 ei1, .int .u64 ei2, .int .u64 ep1, .int .u64 ep2, .int .u64 eq1, .int .u64 eq2, .int .u64 er1, .int .u64 er2, .int .u64 es1, .int .u64 es2, .int .u64 etg, .int .u32 elg, .int .u16 ecd, .int .u16 efl, .int .u64 est, .bool hd, .bool hc] := by
    refine Blk.kept ?_ hb_5
    (repeat (first | with_reducible assumption | (with_reducible refine Blk.new' ?_; first | with_reducible rfl | (simp; done)) | with_reducible refine Blk.alloc ?_ _ | with_reducible refine Blk.grow ?_ _ | with_reducible refine Blk.drew ?_ | with_reducible refine Blk.drewN ?_ _ | (with_reducible refine Blk.far ?_ (by first | (dsimp only; omega) | (simp; omega)) _) | (with_reducible apply Blk.two) | (with_reducible refine Blk.set' ?_ _ _ ?_) | (with_reducible rfl) | rfl))
  have g_a : Blk w_5 (w_1.heap.size) 32 #[.int .u64 zai1, .int .u64 zai2, .int .u64 zap1, .int .u64 zap2, .int .u64 zaq1, .int .u64 zaq2, .int .u64 zar1, .int .u64 zar2, .int .u64 zas1, .int .u64 zas2, .int .u64 zatg, .int .u32 zalg, .int .u16 zacd, .int .u16 zafl, .int .u64 zast, .int .u64 zei1, .int .u64 zei2, .int .u64 zep1, .int .u64 zep2, .int .u64 zeq1, .int .u64 zeq2, .int .u64 zer1, .int .u64 zer2, .int .u64 zes1, .int .u64 zes2, .int .u64 zetg, .int .u32 zelg, .int .u16 zecd, .int .u16 zefl, .int .u64 zest, .bool zzd, .bool zzc] := by
    refine Blk.kept ?_ hb_5
    (repeat (first | with_reducible assumption | (with_reducible refine Blk.new' ?_; first | with_reducible rfl | (simp; done)) | with_reducible refine Blk.alloc ?_ _ | with_reducible refine Blk.grow ?_ _ | with_reducible refine Blk.drew ?_ | with_reducible refine Blk.drewN ?_ _ | (with_reducible refine Blk.far ?_ (by first | (dsimp only; omega) | (simp; omega)) _) | (with_reducible apply Blk.two) | (with_reducible refine Blk.set' ?_ _ _ ?_) | (with_reducible rfl) | rfl))
  have g_b : Blk w_5 (w_2.heap.size) 32 #[.int .u64 zai1, .int .u64 zai2, .int .u64 zap1, .int .u64 zap2, .int .u64 zaq1, .int .u64 zaq2, .int .u64 zar1, .int .u64 zar2, .int .u64 zas1, .int .u64 zas2, .int .u64 zatg, .int .u32 zalg, .int .u16 zacd, .int .u16 zafl, .int .u64 zast, .int .u64 zei1, .int .u64 zei2, .int .u64 zep1, .int .u64 zep2, .int .u64 zeq1, .int .u64 zeq2, .int .u64 zer1, .int .u64 zer2, .int .u64 zes1, .int .u64 zes2, .int .u64 zetg, .int .u32 zelg, .int .u16 zecd, .int .u16 zefl, .int .u64 zest, .bool zzd, .bool zzc] := by
    refine Blk.kept ?_ hb_5
    (repeat (first | with_reducible assumption | (with_reducible refine Blk.new' ?_; first | with_reducible rfl | (simp; done)) | with_reducible refine Blk.alloc ?_ _ | with_reducible refine Blk.grow ?_ _ | with_reducible refine Blk.drew ?_ | with_reducible refine Blk.drewN ?_ _ | (with_reducible refine Blk.far ?_ (by first | (dsimp only; omega) | (simp; omega)) _) | (with_reducible apply Blk.two) | (with_reducible refine Blk.set' ?_ _ _ ?_) | (with_reducible rfl) | rfl))
  have g_s : Blk w_5 (X3.heap.size) 4 #[.bool false, .bool true] := by
    refine Blk.kept ?_ hb_5
    (repeat (first | with_reducible assumption | (with_reducible refine Blk.new' ?_; first | with_reducible rfl | (simp; done)) | with_reducible refine Blk.alloc ?_ _ | with_reducible refine Blk.grow ?_ _ | with_reducible refine Blk.drew ?_ | with_reducible refine Blk.drewN ?_ _ | (with_reducible refine Blk.far ?_ (by first | (dsimp only; omega) | (simp; omega)) _) | (with_reducible apply Blk.two) | (with_reducible refine Blk.set' ?_ _ _ ?_) | (with_reducible rfl) | rfl))
  have g_c : Blk w_5 (w_4.heap.size) 32 #[.int .u64 yai1, .int .u64 yai2, .int .u64 yap1, .int .u64 yap2, .int .u64 yaq1, .int .u64 yaq2, .int .u64 yar1, .int .u64 yar2, .int .u64 yas1, .int .u64 yas2, .int .u64 yatg, .int .u32 yalg, .int .u16 yacd, .int .u16 yafl, .int .u64 yast, .int .u64 yei1, .int .u64 yei2, .int .u64 yep1, .int .u64 yep2, .int .u64 yeq1, .int .u64 yeq2, .int .u64 yer1, .int .u64 yer2, .int .u64 yes1, .int .u64 yes2, .int .u64 yetg, .int .u32 yelg, .int .u16 yecd, .int .u16 yefl, .int .u64 yest, .bool yzd, .bool yzc] := by
    refine Blk.kept ?_ hb_5
    (repeat (first | with_reducible assumption | (with_reducible refine Blk.new' ?_; first | with_reducible rfl | (simp; done)) | with_reducible refine Blk.alloc ?_ _ | with_reducible refine Blk.grow ?_ _ | with_reducible refine Blk.drew ?_ | with_reducible refine Blk.drewN ?_ _ | (with_reducible refine Blk.far ?_ (by first | (dsimp only; omega) | (simp; omega)) _) | (with_reducible apply Blk.two) | (with_reducible refine Blk.set' ?_ _ _ ?_) | (with_reducible rfl) | rfl))
  clear f_x x_l r_x f_n n_l n_0 n_1 n_f0 n_f1 f_p p_l r_p f_a a_l r_a f_b b_l r_b f_s s_l s_0 s_1 s_f0 s_f1 t_x t_n t_p t_a t_b t_s hB_4 hb_5
  have f_x := g_x
  clear g_x
  have f_n := g_n
  clear g_n
  have f_p := g_p
  clear g_p
  have f_a := g_a
  clear g_a
  have f_b := g_b
  clear g_b
  have f_s := g_s
  clear g_s
  have f_c := g_c
  clear g_c
  have r_x := rowAt_blk f_x
  have x_l := f_x.lt
  replace f_x := Lib.hid f_x
  have n_0 : w_5.cell? ⟨w.heap.size + 1, 0, none⟩ = some (.int .u64 n1) := (f_n).cell 0
  have n_1 : w_5.cell? ⟨w.heap.size + 1, 1, none⟩ = some (.int .u64 n2) := (f_n).cell 1
  have n_f0 := (f_n).frozen 0
  have n_f1 := (f_n).frozen 1
  have n_l := (f_n).lt
  replace f_n := Lib.hid f_n
  have r_p := rowAt_blk f_p
  have p_l := f_p.lt
  replace f_p := Lib.hid f_p
  have r_a := rowAt_blk f_a
  have a_l := f_a.lt
  replace f_a := Lib.hid f_a
  have r_b := rowAt_blk f_b
  have b_l := f_b.lt
  replace f_b := Lib.hid f_b
  have s_0 : w_5.cell? ⟨X3.heap.size, 0, none⟩ = some (.bool false) := (f_s).cell 0
  have s_1 : w_5.cell? ⟨X3.heap.size, 1, none⟩ = some (.bool true) := (f_s).cell 1
  have s_f0 := (f_s).frozen 0
  have s_f1 := (f_s).frozen 1
  have s_l := (f_s).lt
  replace f_s := Lib.hid f_s
  have r_c := rowAt_blk f_c
  have c_l := f_c.lt
  replace f_c := Lib.hid f_c
  replace hB_5 := Lib.hid hB_5
  go_wp2_with fail
  rw [rounds_succ]
  go_wp2_with fail
  refine (HT.out _).mono ?_
  rintro e w_6 ⟨rfl, hb_6⟩
  have z_6 := hb_6.size
  try simp at z_6
  have t_ := hB_5.out
  have hB_6 := bel_eld (w := w) (X := _) (by repeat (first | exact Below.refl _ _ | assumption | refine below_drewN ?_ _ | refine bel_grow ?_ _ | refine Below.drew ?_ | refine bel_alloc ?_ _ | refine bel_set ?_ (by first | exact Nat.le_refl _ | (simp; done) | (simp; omega) | omega) _ | refine bel_trans ?_ (by assumption))) hb_6
  clear t_
  have t_x := f_x.out
  have t_n := f_n.out
  have t_p := f_p.out
  have t_a := f_a.out
  have t_b := f_b.out
  have t_s := f_s.out
  have t_c := f_c.out
  have g_x : Blk w_6 (w.heap.size) 28 #[.int .u64 xi1, .int .u64 xi2, .int .u64 xd1, .int .u64 xd2, .int .u64 xc1, .int .u64 xc2, .int .u64 xm1, .int .u64 xm2, .int .u64 xw1, .int .u64 xw2, .int .u64 xtg, .int .u32 xto, .int .u32 xlg, .int .u16 xcd, .int .u16 xfl, .int .u64 xst] := by
    refine Blk.kept ?_ hb_6
    (repeat (first | with_reducible assumption | (with_reducible refine Blk.new' ?_; first | with_reducible rfl | (simp; done)) | with_reducible refine Blk.alloc ?_ _ | with_reducible refine Blk.grow ?_ _ | with_reducible refine Blk.drew ?_ | with_reducible refine Blk.drewN ?_ _ | (with_reducible refine Blk.far ?_ (by first | (dsimp only; omega) | (simp; omega)) _) | (with_reducible apply Blk.two) | (with_reducible refine Blk.set' ?_ _ _ ?_) | (with_reducible rfl) | rfl))
  have g_n : Blk w_6 (w.heap.size + 1) 24 #[.int .u64 n1, .int .u64 n2] := by
    refine Blk.kept ?_ hb_6
    (repeat (first | with_reducible assumption | (with_reducible refine Blk.new' ?_; first | with_reducible rfl | (simp; done)) | with_reducible refine Blk.alloc ?_ _ | with_reducible refine Blk.grow ?_ _ | with_reducible refine Blk.drew ?_ | with_reducible refine Blk.drewN ?_ _ | (with_reducible refine Blk.far ?_ (by first | (dsimp only; omega) | (simp; omega)) _) | (with_reducible apply Blk.two) | (with_reducible refine Blk.set' ?_ _ _ ?_) | (with_reducible rfl) | rfl))
  have g_p : Blk w_6 (w.heap.size + 2) 32 #[.int .u64 ai1, .int .u64 ai2, .int .u64 ap1, .int .u64 ap2, .int .u64 aq1, .int .u64 aq2, .int .u64 ar1, .int .u64 ar2, .int .u64 as1, .int .u64 as2, .int .u64 atg, .int .u32 alg, .int .u16 acd, .int .u16 afl, .int .u64 ast, .int .u64 ei1, .int .u64 ei2, .int .u64 ep1, .int .u64 ep2, .int .u64 eq1, .int .u64 eq2, .int .u64 er1, .int .u64 er2, .int .u64 es1, .int .u64 es2, .int .u64 etg, .int .u32 elg, .int .u16 ecd, .int .u16 efl, .int .u64 est, .bool hd, .bool hc] := by
    refine Blk.kept ?_ hb_6
    (repeat (first | with_reducible assumption | (with_reducible refine Blk.new' ?_; first | with_reducible rfl | (simp; done)) | with_reducible refine Blk.alloc ?_ _ | with_reducible refine Blk.grow ?_ _ | with_reducible refine Blk.drew ?_ | with_reducible refine Blk.drewN ?_ _ | (with_reducible refine Blk.far ?_ (by first | (dsimp only; omega) | (simp; omega)) _) | (with_reducible apply Blk.two) | (with_reducible refine Blk.set' ?_ _ _ ?_) | (with_reducible rfl) | rfl))
  have g_a : Blk w_6 (w_1.heap.size) 32 #[.int .u64 zai1, .int .u64 zai2, .int .u64 zap1, .int .u64 zap2, .int .u64 zaq1, .int .u64 zaq2, .int .u64 zar1, .int .u64 zar2, .int .u64 zas1, .int .u64 zas2, .int .u64 zatg, .int .u32 zalg, .int .u16 zacd, .int .u16 zafl, .int .u64 zast, .int .u64 zei1, .int .u64 zei2, .int .u64 zep1, .int .u64 zep2, .int .u64 zeq1, .int .u64 zeq2, .int .u64 zer1, .int .u64 zer2, .int .u64 zes1, .int .u64 zes2, .int .u64 zetg, .int .u32 zelg, .int .u16 zecd, .int .u16 zefl, .int .u64 zest, .bool zzd, .bool zzc] := by
    refine Blk.kept ?_ hb_6
    (repeat (first | with_reducible assumption | (with_reducible refine Blk.new' ?_; first | with_reducible rfl | (simp; done)) | with_reducible refine Blk.alloc ?_ _ | with_reducible refine Blk.grow ?_ _ | with_reducible refine Blk.drew ?_ | with_reducible refine Blk.drewN ?_ _ | (with_reducible refine Blk.far ?_ (by first | (dsimp only; omega) | (simp; omega)) _) | (with_reducible apply Blk.two) | (with_reducible refine Blk.set' ?_ _ _ ?_) | (with_reducible rfl) | rfl))
  have g_b : Blk w_6 (w_2.heap.size) 32 #[.int .u64 zai1, .int .u64 zai2, .int .u64 zap1, .int .u64 zap2, .int .u64 zaq1, .int .u64 zaq2, .int .u64 zar1, .int .u64 zar2, .int .u64 zas1, .int .u64 zas2, .int .u64 zatg, .int .u32 zalg, .int .u16 zacd, .int .u16 zafl, .int .u64 zast, .int .u64 zei1, .int .u64 zei2, .int .u64 zep1, .int .u64 zep2, .int .u64 zeq1, .int .u64 zeq2, .int .u64 zer1, .int .u64 zer2, .int .u64 zes1, .int .u64 zes2, .int .u64 zetg, .int .u32 zelg, .int .u16 zecd, .int .u16 zefl, .int .u64 zest, .bool zzd, .bool zzc] := by
    refine Blk.kept ?_ hb_6
    (repeat (first | with_reducible assumption | (with_reducible refine Blk.new' ?_; first | with_reducible rfl | (simp; done)) | with_reducible refine Blk.alloc ?_ _ | with_reducible refine Blk.grow ?_ _ | with_reducible refine Blk.drew ?_ | with_reducible refine Blk.drewN ?_ _ | (with_reducible refine Blk.far ?_ (by first | (dsimp only; omega) | (simp; omega)) _) | (with_reducible apply Blk.two) | (with_reducible refine Blk.set' ?_ _ _ ?_) | (with_reducible rfl) | rfl))
  have g_s : Blk w_6 (X3.heap.size) 4 #[.bool false, .bool true] := by
    refine Blk.kept ?_ hb_6
    (repeat (first | with_reducible assumption | (with_reducible refine Blk.new' ?_; first | with_reducible rfl | (simp; done)) | with_reducible refine Blk.alloc ?_ _ | with_reducible refine Blk.grow ?_ _ | with_reducible refine Blk.drew ?_ | with_reducible refine Blk.drewN ?_ _ | (with_reducible refine Blk.far ?_ (by first | (dsimp only; omega) | (simp; omega)) _) | (with_reducible apply Blk.two) | (with_reducible refine Blk.set' ?_ _ _ ?_) | (with_reducible rfl) | rfl))
  have g_c : Blk w_6 (w_4.heap.size) 32 #[.int .u64 yai1, .int .u64 yai2, .int .u64 yap1, .int .u64 yap2, .int .u64 yaq1, .int .u64 yaq2, .int .u64 yar1, .int .u64 yar2, .int .u64 yas1, .int .u64 yas2, .int .u64 yatg, .int .u32 yalg, .int .u16 yacd, .int .u16 yafl, .int .u64 yast, .int .u64 yei1, .int .u64 yei2, .int .u64 yep1, .int .u64 yep2, .int .u64 yeq1, .int .u64 yeq2, .int .u64 yer1, .int .u64 yer2, .int .u64 yes1, .int .u64 yes2, .int .u64 yetg, .int .u32 yelg, .int .u16 yecd, .int .u16 yefl, .int .u64 yest, .bool yzd, .bool yzc] := by
    refine Blk.kept ?_ hb_6
    (repeat (first | with_reducible assumption | (with_reducible refine Blk.new' ?_; first | with_reducible rfl | (simp; done)) | with_reducible refine Blk.alloc ?_ _ | with_reducible refine Blk.grow ?_ _ | with_reducible refine Blk.drew ?_ | with_reducible refine Blk.drewN ?_ _ | (with_reducible refine Blk.far ?_ (by first | (dsimp only; omega) | (simp; omega)) _) | (with_reducible apply Blk.two) | (with_reducible refine Blk.set' ?_ _ _ ?_) | (with_reducible rfl) | rfl))
  clear f_x x_l r_x f_n n_l n_0 n_1 n_f0 n_f1 f_p p_l r_p f_a a_l r_a f_b b_l r_b f_s s_l s_0 s_1 s_f0 s_f1 f_c c_l r_c t_x t_n t_p t_a t_b t_s t_c hB_5 hb_6
  have f_x := g_x
  clear g_x
  have f_n := g_n
  clear g_n
  have f_p := g_p
  clear g_p
  have f_a := g_a
  clear g_a
  have f_b := g_b
  clear g_b
  have f_s := g_s
  clear g_s
  have f_c := g_c
  clear g_c
  have r_x := rowAt_blk f_x
  have x_l := f_x.lt
  replace f_x := Lib.hid f_x
  have n_0 : w_6.cell? ⟨w.heap.size + 1, 0, none⟩ = some (.int .u64 n1) := (f_n).cell 0
  have n_1 : w_6.cell? ⟨w.heap.size + 1, 1, none⟩ = some (.int .u64 n2) := (f_n).cell 1
  have n_f0 := (f_n).frozen 0
  have n_f1 := (f_n).frozen 1
  have n_l := (f_n).lt
  replace f_n := Lib.hid f_n
  have r_p := rowAt_blk f_p
  have p_l := f_p.lt
  replace f_p := Lib.hid f_p
  have r_a := rowAt_blk f_a
  have a_l := f_a.lt
  replace f_a := Lib.hid f_a
  have r_b := rowAt_blk f_b
  have b_l := f_b.lt
  replace f_b := Lib.hid f_b
  have s_0 : w_6.cell? ⟨X3.heap.size, 0, none⟩ = some (.bool false) := (f_s).cell 0
  have s_1 : w_6.cell? ⟨X3.heap.size, 1, none⟩ = some (.bool true) := (f_s).cell 1
  have s_f0 := (f_s).frozen 0
  have s_f1 := (f_s).frozen 1
  have s_l := (f_s).lt
  replace f_s := Lib.hid f_s
  have r_c := rowAt_blk f_c
  have c_l := f_c.lt
  replace f_c := Lib.hid f_c
  replace hB_6 := Lib.hid hB_6
  go_wp2_with fail
  refine (HRT.out _).mono ?_
  rintro e w_7 ⟨rfl, hb_7⟩
  have z_7 := hb_7.size
  try simp at z_7
  have t_ := hB_6.out
  have hB_7 := bel_eld (w := w) (X := _) (by repeat (first | exact Below.refl _ _ | assumption | refine below_drewN ?_ _ | refine bel_grow ?_ _ | refine Below.drew ?_ | refine bel_alloc ?_ _ | refine bel_set ?_ (by first | exact Nat.le_refl _ | (simp; done) | (simp; omega) | omega) _ | refine bel_trans ?_ (by assumption))) hb_7
  clear t_
  have t_x := f_x.out
  have t_n := f_n.out
  have t_p := f_p.out
  have t_a := f_a.out
  have t_b := f_b.out
  have t_s := f_s.out
  have t_c := f_c.out
  have g_x : Blk w_7 (w.heap.size) 28 #[.int .u64 xi1, .int .u64 xi2, .int .u64 xd1, .int .u64 xd2, .int .u64 xc1, .int .u64 xc2, .int .u64 xm1, .int .u64 xm2, .int .u64 xw1, .int .u64 xw2, .int .u64 xtg, .int .u32 xto, .int .u32 xlg, .int .u16 xcd, .int .u16 xfl, .int .u64 xst] := by
    refine Blk.kept ?_ hb_7
    (repeat (first | with_reducible assumption | (with_reducible refine Blk.new' ?_; first | with_reducible rfl | (simp; done)) | with_reducible refine Blk.alloc ?_ _ | with_reducible refine Blk.grow ?_ _ | with_reducible refine Blk.drew ?_ | with_reducible refine Blk.drewN ?_ _ | (with_reducible refine Blk.far ?_ (by first | (dsimp only; omega) | (simp; omega)) _) | (with_reducible apply Blk.two) | (with_reducible refine Blk.set' ?_ _ _ ?_) | (with_reducible rfl) | rfl))
  have g_n : Blk w_7 (w.heap.size + 1) 24 #[.int .u64 n1, .int .u64 n2] := by
    refine Blk.kept ?_ hb_7
    (repeat (first | with_reducible assumption | (with_reducible refine Blk.new' ?_; first | with_reducible rfl | (simp; done)) | with_reducible refine Blk.alloc ?_ _ | with_reducible refine Blk.grow ?_ _ | with_reducible refine Blk.drew ?_ | with_reducible refine Blk.drewN ?_ _ | (with_reducible refine Blk.far ?_ (by first | (dsimp only; omega) | (simp; omega)) _) | (with_reducible apply Blk.two) | (with_reducible refine Blk.set' ?_ _ _ ?_) | (with_reducible rfl) | rfl))
  have g_p : Blk w_7 (w.heap.size + 2) 32 #[.int .u64 ai1, .int .u64 ai2, .int .u64 ap1, .int .u64 ap2, .int .u64 aq1, .int .u64 aq2, .int .u64 ar1, .int .u64 ar2, .int .u64 as1, .int .u64 as2, .int .u64 atg, .int .u32 alg, .int .u16 acd, .int .u16 afl, .int .u64 ast, .int .u64 ei1, .int .u64 ei2, .int .u64 ep1, .int .u64 ep2, .int .u64 eq1, .int .u64 eq2, .int .u64 er1, .int .u64 er2, .int .u64 es1, .int .u64 es2, .int .u64 etg, .int .u32 elg, .int .u16 ecd, .int .u16 efl, .int .u64 est, .bool hd, .bool hc] := by
    refine Blk.kept ?_ hb_7
    (repeat (first | with_reducible assumption | (with_reducible refine Blk.new' ?_; first | with_reducible rfl | (simp; done)) | with_reducible refine Blk.alloc ?_ _ | with_reducible refine Blk.grow ?_ _ | with_reducible refine Blk.drew ?_ | with_reducible refine Blk.drewN ?_ _ | (with_reducible refine Blk.far ?_ (by first | (dsimp only; omega) | (simp; omega)) _) | (with_reducible apply Blk.two) | (with_reducible refine Blk.set' ?_ _ _ ?_) | (with_reducible rfl) | rfl))
  have g_a : Blk w_7 (w_1.heap.size) 32 #[.int .u64 zai1, .int .u64 zai2, .int .u64 zap1, .int .u64 zap2, .int .u64 zaq1, .int .u64 zaq2, .int .u64 zar1, .int .u64 zar2, .int .u64 zas1, .int .u64 zas2, .int .u64 zatg, .int .u32 zalg, .int .u16 zacd, .int .u16 zafl, .int .u64 zast, .int .u64 zei1, .int .u64 zei2, .int .u64 zep1, .int .u64 zep2, .int .u64 zeq1, .int .u64 zeq2, .int .u64 zer1, .int .u64 zer2, .int .u64 zes1, .int .u64 zes2, .int .u64 zetg, .int .u32 zelg, .int .u16 zecd, .int .u16 zefl, .int .u64 zest, .bool zzd, .bool zzc] := by
    refine Blk.kept ?_ hb_7
    (repeat (first | with_reducible assumption | (with_reducible refine Blk.new' ?_; first | with_reducible rfl | (simp; done)) | with_reducible refine Blk.alloc ?_ _ | with_reducible refine Blk.grow ?_ _ | with_reducible refine Blk.drew ?_ | with_reducible refine Blk.drewN ?_ _ | (with_reducible refine Blk.far ?_ (by first | (dsimp only; omega) | (simp; omega)) _) | (with_reducible apply Blk.two) | (with_reducible refine Blk.set' ?_ _ _ ?_) | (with_reducible rfl) | rfl))
  have g_b : Blk w_7 (w_2.heap.size) 32 #[.int .u64 zai1, .int .u64 zai2, .int .u64 zap1, .int .u64 zap2, .int .u64 zaq1, .int .u64 zaq2, .int .u64 zar1, .int .u64 zar2, .int .u64 zas1, .int .u64 zas2, .int .u64 zatg, .int .u32 zalg, .int .u16 zacd, .int .u16 zafl, .int .u64 zast, .int .u64 zei1, .int .u64 zei2, .int .u64 zep1, .int .u64 zep2, .int .u64 zeq1, .int .u64 zeq2, .int .u64 zer1, .int .u64 zer2, .int .u64 zes1, .int .u64 zes2, .int .u64 zetg, .int .u32 zelg, .int .u16 zecd, .int .u16 zefl, .int .u64 zest, .bool zzd, .bool zzc] := by
    refine Blk.kept ?_ hb_7
    (repeat (first | with_reducible assumption | (with_reducible refine Blk.new' ?_; first | with_reducible rfl | (simp; done)) | with_reducible refine Blk.alloc ?_ _ | with_reducible refine Blk.grow ?_ _ | with_reducible refine Blk.drew ?_ | with_reducible refine Blk.drewN ?_ _ | (with_reducible refine Blk.far ?_ (by first | (dsimp only; omega) | (simp; omega)) _) | (with_reducible apply Blk.two) | (with_reducible refine Blk.set' ?_ _ _ ?_) | (with_reducible rfl) | rfl))
  have g_s : Blk w_7 (X3.heap.size) 4 #[.bool false, .bool true] := by
    refine Blk.kept ?_ hb_7
    (repeat (first | with_reducible assumption | (with_reducible refine Blk.new' ?_; first | with_reducible rfl | (simp; done)) | with_reducible refine Blk.alloc ?_ _ | with_reducible refine Blk.grow ?_ _ | with_reducible refine Blk.drew ?_ | with_reducible refine Blk.drewN ?_ _ | (with_reducible refine Blk.far ?_ (by first | (dsimp only; omega) | (simp; omega)) _) | (with_reducible apply Blk.two) | (with_reducible refine Blk.set' ?_ _ _ ?_) | (with_reducible rfl) | rfl))
  have g_c : Blk w_7 (w_4.heap.size) 32 #[.int .u64 yai1, .int .u64 yai2, .int .u64 yap1, .int .u64 yap2, .int .u64 yaq1, .int .u64 yaq2, .int .u64 yar1, .int .u64 yar2, .int .u64 yas1, .int .u64 yas2, .int .u64 yatg, .int .u32 yalg, .int .u16 yacd, .int .u16 yafl, .int .u64 yast, .int .u64 yei1, .int .u64 yei2, .int .u64 yep1, .int .u64 yep2, .int .u64 yeq1, .int .u64 yeq2, .int .u64 yer1, .int .u64 yer2, .int .u64 yes1, .int .u64 yes2, .int .u64 yetg, .int .u32 yelg, .int .u16 yecd, .int .u16 yefl, .int .u64 yest, .bool yzd, .bool yzc] := by
    refine Blk.kept ?_ hb_7
    (repeat (first | with_reducible assumption | (with_reducible refine Blk.new' ?_; first | with_reducible rfl | (simp; done)) | with_reducible refine Blk.alloc ?_ _ | with_reducible refine Blk.grow ?_ _ | with_reducible refine Blk.drew ?_ | with_reducible refine Blk.drewN ?_ _ | (with_reducible refine Blk.far ?_ (by first | (dsimp only; omega) | (simp; omega)) _) | (with_reducible apply Blk.two) | (with_reducible refine Blk.set' ?_ _ _ ?_) | (with_reducible rfl) | rfl))
  have g_e : Blk w_7 (w_6.heap.size) 32 #[.int .u64 vai1, .int .u64 vai2, .int .u64 vap1, .int .u64 vap2, .int .u64 vaq1, .int .u64 vaq2, .int .u64 var1, .int .u64 var2, .int .u64 vas1, .int .u64 vas2, .int .u64 vatg, .int .u32 valg, .int .u16 vacd, .int .u16 vafl, .int .u64 vast, .int .u64 vei1, .int .u64 vei2, .int .u64 vep1, .int .u64 vep2, .int .u64 veq1, .int .u64 veq2, .int .u64 ver1, .int .u64 ver2, .int .u64 ves1, .int .u64 ves2, .int .u64 vetg, .int .u32 velg, .int .u16 vecd, .int .u16 vefl, .int .u64 vest, .bool vzd, .bool vzc] := by
    refine Blk.kept ?_ hb_7
    (repeat (first | with_reducible assumption | (with_reducible refine Blk.new' ?_; first | with_reducible rfl | (simp; done)) | with_reducible refine Blk.alloc ?_ _ | with_reducible refine Blk.grow ?_ _ | with_reducible refine Blk.drew ?_ | with_reducible refine Blk.drewN ?_ _ | (with_reducible refine Blk.far ?_ (by first | (dsimp only; omega) | (simp; omega)) _) | (with_reducible apply Blk.two) | (with_reducible refine Blk.set' ?_ _ _ ?_) | (with_reducible rfl) | rfl))
  clear f_x x_l r_x f_n n_l n_0 n_1 n_f0 n_f1 f_p p_l r_p f_a a_l r_a f_b b_l r_b f_s s_l s_0 s_1 s_f0 s_f1 f_c c_l r_c t_x t_n t_p t_a t_b t_s t_c hB_6 hb_7
  have f_x := g_x
  clear g_x
  have f_n := g_n
  clear g_n
  have f_p := g_p
  clear g_p
  have f_a := g_a
  clear g_a
  have f_b := g_b
  clear g_b
  have f_s := g_s
  clear g_s
  have f_c := g_c
  clear g_c
  have f_e := g_e
  clear g_e
  have r_x := rowAt_blk f_x
  have x_l := f_x.lt
  replace f_x := Lib.hid f_x
  have n_0 : w_7.cell? ⟨w.heap.size + 1, 0, none⟩ = some (.int .u64 n1) := (f_n).cell 0
  have n_1 : w_7.cell? ⟨w.heap.size + 1, 1, none⟩ = some (.int .u64 n2) := (f_n).cell 1
  have n_f0 := (f_n).frozen 0
  have n_f1 := (f_n).frozen 1
  have n_l := (f_n).lt
  replace f_n := Lib.hid f_n
  have r_p := rowAt_blk f_p
  have p_l := f_p.lt
  replace f_p := Lib.hid f_p
  have r_a := rowAt_blk f_a
  have a_l := f_a.lt
  replace f_a := Lib.hid f_a
  have r_b := rowAt_blk f_b
  have b_l := f_b.lt
  replace f_b := Lib.hid f_b
  have s_0 : w_7.cell? ⟨X3.heap.size, 0, none⟩ = some (.bool false) := (f_s).cell 0
  have s_1 : w_7.cell? ⟨X3.heap.size, 1, none⟩ = some (.bool true) := (f_s).cell 1
  have s_f0 := (f_s).frozen 0
  have s_f1 := (f_s).frozen 1
  have s_l := (f_s).lt
  replace f_s := Lib.hid f_s
  have r_c := rowAt_blk f_c
  have c_l := f_c.lt
  replace f_c := Lib.hid f_c
  have r_e := rowAt_blk f_e
  have e_l := f_e.lt
  replace f_e := Lib.hid f_e
  replace hB_7 := Lib.hid hB_7
  go_wp2_with fail
  rw [rounds_succ]
  go_wp2_with fail
  refine (HX.out _).mono ?_
  rintro e w_8 ⟨rfl, hb_8⟩
  have z_8 := hb_8.size
  try simp at z_8
  have t_ := hB_7.out
  have hB_8 := bel_eld (w := w) (X := _) (by repeat (first | exact Below.refl _ _ | assumption | refine below_drewN ?_ _ | refine bel_grow ?_ _ | refine Below.drew ?_ | refine bel_alloc ?_ _ | refine bel_set ?_ (by first | exact Nat.le_refl _ | (simp; done) | (simp; omega) | omega) _ | refine bel_trans ?_ (by assumption))) hb_8
  clear t_
  have t_x := f_x.out
  have t_n := f_n.out
  have t_p := f_p.out
  have t_a := f_a.out
  have t_b := f_b.out
  have t_s := f_s.out
  have t_c := f_c.out
  have t_e := f_e.out
  have g_x : Blk w_8 (w.heap.size) 28 #[.int .u64 xi1, .int .u64 xi2, .int .u64 xd1, .int .u64 xd2, .int .u64 xc1, .int .u64 xc2, .int .u64 xm1, .int .u64 xm2, .int .u64 xw1, .int .u64 xw2, .int .u64 xtg, .int .u32 xto, .int .u32 xlg, .int .u16 xcd, .int .u16 xfl, .int .u64 xst] := by
    refine Blk.kept ?_ hb_8
    (repeat (first | with_reducible assumption | (with_reducible refine Blk.new' ?_; first | with_reducible rfl | (simp; done)) | with_reducible refine Blk.alloc ?_ _ | with_reducible refine Blk.grow ?_ _ | with_reducible refine Blk.drew ?_ | with_reducible refine Blk.drewN ?_ _ | (with_reducible refine Blk.far ?_ (by first | (dsimp only; omega) | (simp; omega)) _) | (with_reducible apply Blk.two) | (with_reducible refine Blk.set' ?_ _ _ ?_) | (with_reducible rfl) | rfl))
  have g_n : Blk w_8 (w.heap.size + 1) 24 #[.int .u64 n1, .int .u64 n2] := by
    refine Blk.kept ?_ hb_8
    (repeat (first | with_reducible assumption | (with_reducible refine Blk.new' ?_; first | with_reducible rfl | (simp; done)) | with_reducible refine Blk.alloc ?_ _ | with_reducible refine Blk.grow ?_ _ | with_reducible refine Blk.drew ?_ | with_reducible refine Blk.drewN ?_ _ | (with_reducible refine Blk.far ?_ (by first | (dsimp only; omega) | (simp; omega)) _) | (with_reducible apply Blk.two) | (with_reducible refine Blk.set' ?_ _ _ ?_) | (with_reducible rfl) | rfl))
  have g_p : Blk w_8 (w.heap.size + 2) 32 #[.int .u64 ai1, .int .u64 ai2, .int .u64 ap1, .int .u64 ap2, .int .u64 aq1, .int .u64 aq2, .int .u64 ar1, .int .u64 ar2, .int .u64 as1, .int .u64 as2, .int .u64 atg, .int .u32 alg, .int .u16 acd, .int .u16 afl, .int .u64 ast, .int .u64 ei1, .int .u64 ei2, .int .u64 ep1, .int .u64 ep2, .int .u64 eq1, .int .u64 eq2, .int .u64 er1, .int .u64 er2, .int .u64 es1, .int .u64 es2, .int .u64 etg, .int .u32 elg, .int .u16 ecd, .int .u16 efl, .int .u64 est, .bool hd, .bool hc] := by
    refine Blk.kept ?_ hb_8
    (repeat (first | with_reducible assumption | (with_reducible refine Blk.new' ?_; first | with_reducible rfl | (simp; done)) | with_reducible refine Blk.alloc ?_ _ | with_reducible refine Blk.grow ?_ _ | with_reducible refine Blk.drew ?_ | with_reducible refine Blk.drewN ?_ _ | (with_reducible refine Blk.far ?_ (by first | (dsimp only; omega) | (simp; omega)) _) | (with_reducible apply Blk.two) | (with_reducible refine Blk.set' ?_ _ _ ?_) | (with_reducible rfl) | rfl))
  have g_a : Blk w_8 (w_1.heap.size) 32 #[.int .u64 zai1, .int .u64 zai2, .int .u64 zap1, .int .u64 zap2, .int .u64 zaq1, .int .u64 zaq2, .int .u64 zar1, .int .u64 zar2, .int .u64 zas1, .int .u64 zas2, .int .u64 zatg, .int .u32 zalg, .int .u16 zacd, .int .u16 zafl, .int .u64 zast, .int .u64 zei1, .int .u64 zei2, .int .u64 zep1, .int .u64 zep2, .int .u64 zeq1, .int .u64 zeq2, .int .u64 zer1, .int .u64 zer2, .int .u64 zes1, .int .u64 zes2, .int .u64 zetg, .int .u32 zelg, .int .u16 zecd, .int .u16 zefl, .int .u64 zest, .bool zzd, .bool zzc] := by
    refine Blk.kept ?_ hb_8
    (repeat (first | with_reducible assumption | (with_reducible refine Blk.new' ?_; first | with_reducible rfl | (simp; done)) | with_reducible refine Blk.alloc ?_ _ | with_reducible refine Blk.grow ?_ _ | with_reducible refine Blk.drew ?_ | with_reducible refine Blk.drewN ?_ _ | (with_reducible refine Blk.far ?_ (by first | (dsimp only; omega) | (simp; omega)) _) | (with_reducible apply Blk.two) | (with_reducible refine Blk.set' ?_ _ _ ?_) | (with_reducible rfl) | rfl))
  have g_b : Blk w_8 (w_2.heap.size) 32 #[.int .u64 zai1, .int .u64 zai2, .int .u64 zap1, .int .u64 zap2, .int .u64 zaq1, .int .u64 zaq2, .int .u64 zar1, .int .u64 zar2, .int .u64 zas1, .int .u64 zas2, .int .u64 zatg, .int .u32 zalg, .int .u16 zacd, .int .u16 zafl, .int .u64 zast, .int .u64 zei1, .int .u64 zei2, .int .u64 zep1, .int .u64 zep2, .int .u64 zeq1, .int .u64 zeq2, .int .u64 zer1, .int .u64 zer2, .int .u64 zes1, .int .u64 zes2, .int .u64 zetg, .int .u32 zelg, .int .u16 zecd, .int .u16 zefl, .int .u64 zest, .bool zzd, .bool zzc] := by
    refine Blk.kept ?_ hb_8
    (repeat (first | with_reducible assumption | (with_reducible refine Blk.new' ?_; first | with_reducible rfl | (simp; done)) | with_reducible refine Blk.alloc ?_ _ | with_reducible refine Blk.grow ?_ _ | with_reducible refine Blk.drew ?_ | with_reducible refine Blk.drewN ?_ _ | (with_reducible refine Blk.far ?_ (by first | (dsimp only; omega) | (simp; omega)) _) | (with_reducible apply Blk.two) | (with_reducible refine Blk.set' ?_ _ _ ?_) | (with_reducible rfl) | rfl))
  have g_s : Blk w_8 (X3.heap.size) 4 #[.bool false, .bool true] := by
    refine Blk.kept ?_ hb_8
    (repeat (first | with_reducible assumption | (with_reducible refine Blk.new' ?_; first | with_reducible rfl | (simp; done)) | with_reducible refine Blk.alloc ?_ _ | with_reducible refine Blk.grow ?_ _ | with_reducible refine Blk.drew ?_ | with_reducible refine Blk.drewN ?_ _ | (with_reducible refine Blk.far ?_ (by first | (dsimp only; omega) | (simp; omega)) _) | (with_reducible apply Blk.two) | (with_reducible refine Blk.set' ?_ _ _ ?_) | (with_reducible rfl) | rfl))
  have g_c : Blk w_8 (w_4.heap.size) 32 #[.int .u64 yai1, .int .u64 yai2, .int .u64 yap1, .int .u64 yap2, .int .u64 yaq1, .int .u64 yaq2, .int .u64 yar1, .int .u64 yar2, .int .u64 yas1, .int .u64 yas2, .int .u64 yatg, .int .u32 yalg, .int .u16 yacd, .int .u16 yafl, .int .u64 yast, .int .u64 yei1, .int .u64 yei2, .int .u64 yep1, .int .u64 yep2, .int .u64 yeq1, .int .u64 yeq2, .int .u64 yer1, .int .u64 yer2, .int .u64 yes1, .int .u64 yes2, .int .u64 yetg, .int .u32 yelg, .int .u16 yecd, .int .u16 yefl, .int .u64 yest, .bool yzd, .bool yzc] := by
    refine Blk.kept ?_ hb_8
    (repeat (first | with_reducible assumption | (with_reducible refine Blk.new' ?_; first | with_reducible rfl | (simp; done)) | with_reducible refine Blk.alloc ?_ _ | with_reducible refine Blk.grow ?_ _ | with_reducible refine Blk.drew ?_ | with_reducible refine Blk.drewN ?_ _ | (with_reducible refine Blk.far ?_ (by first | (dsimp only; omega) | (simp; omega)) _) | (with_reducible apply Blk.two) | (with_reducible refine Blk.set' ?_ _ _ ?_) | (with_reducible rfl) | rfl))
  have g_e : Blk w_8 (w_6.heap.size) 32 #[.int .u64 vai1, .int .u64 vai2, .int .u64 vap1, .int .u64 vap2, .int .u64 vaq1, .int .u64 vaq2, .int .u64 var1, .int .u64 var2, .int .u64 vas1, .int .u64 vas2, .int .u64 vatg, .int .u32 valg, .int .u16 vacd, .int .u16 vafl, .int .u64 vast, .int .u64 vei1, .int .u64 vei2, .int .u64 vep1, .int .u64 vep2, .int .u64 veq1, .int .u64 veq2, .int .u64 ver1, .int .u64 ver2, .int .u64 ves1, .int .u64 ves2, .int .u64 vetg, .int .u32 velg, .int .u16 vecd, .int .u16 vefl, .int .u64 vest, .bool vzd, .bool vzc] := by
    refine Blk.kept ?_ hb_8
    (repeat (first | with_reducible assumption | (with_reducible refine Blk.new' ?_; first | with_reducible rfl | (simp; done)) | with_reducible refine Blk.alloc ?_ _ | with_reducible refine Blk.grow ?_ _ | with_reducible refine Blk.drew ?_ | with_reducible refine Blk.drewN ?_ _ | (with_reducible refine Blk.far ?_ (by first | (dsimp only; omega) | (simp; omega)) _) | (with_reducible apply Blk.two) | (with_reducible refine Blk.set' ?_ _ _ ?_) | (with_reducible rfl) | rfl))
  clear f_x x_l r_x f_n n_l n_0 n_1 n_f0 n_f1 f_p p_l r_p f_a a_l r_a f_b b_l r_b f_s s_l s_0 s_1 s_f0 s_f1 f_c c_l r_c f_e e_l r_e t_x t_n t_p t_a t_b t_s t_c t_e hB_7 hb_8
  have f_x := g_x
  clear g_x
  have f_n := g_n
  clear g_n
  have f_p := g_p
  clear g_p
  have f_a := g_a
  clear g_a
  have f_b := g_b
  clear g_b
  have f_s := g_s
  clear g_s
  have f_c := g_c
  clear g_c
  have f_e := g_e
  clear g_e
  have r_x := rowAt_blk f_x
  have x_l := f_x.lt
  replace f_x := Lib.hid f_x
  have n_0 : w_8.cell? ⟨w.heap.size + 1, 0, none⟩ = some (.int .u64 n1) := (f_n).cell 0
  have n_1 : w_8.cell? ⟨w.heap.size + 1, 1, none⟩ = some (.int .u64 n2) := (f_n).cell 1
  have n_f0 := (f_n).frozen 0
  have n_f1 := (f_n).frozen 1
  have n_l := (f_n).lt
  replace f_n := Lib.hid f_n
  have r_p := rowAt_blk f_p
  have p_l := f_p.lt
  replace f_p := Lib.hid f_p
  have r_a := rowAt_blk f_a
  have a_l := f_a.lt
  replace f_a := Lib.hid f_a
  have r_b := rowAt_blk f_b
  have b_l := f_b.lt
  replace f_b := Lib.hid f_b
  have s_0 : w_8.cell? ⟨X3.heap.size, 0, none⟩ = some (.bool false) := (f_s).cell 0
  have s_1 : w_8.cell? ⟨X3.heap.size, 1, none⟩ = some (.bool true) := (f_s).cell 1
  have s_f0 := (f_s).frozen 0
  have s_f1 := (f_s).frozen 1
  have s_l := (f_s).lt
  replace f_s := Lib.hid f_s
  have r_c := rowAt_blk f_c
  have c_l := f_c.lt
  replace f_c := Lib.hid f_c
  have r_e := rowAt_blk f_e
  have e_l := f_e.lt
  replace f_e := Lib.hid f_e
  replace hB_8 := Lib.hid hB_8
  go_wp2_with fail
  go_ret
  exact ⟨rfl, by have t_B := hB_8.out; (repeat (first | with_reducible exact Below.refl _ _ | with_reducible assumption | (with_reducible refine bel_set ?_ (by first | exact Nat.le_refl _ | (simp; done) | (simp; omega) | omega) _) | with_reducible refine bel_grow ?_ _ | with_reducible refine Below.drew ?_ | with_reducible refine bel_alloc ?_ _ | with_reducible refine bel_eld ?_ (by assumption)))⟩
end Go.Proofs.Ytpbnakoimlmhnaa
