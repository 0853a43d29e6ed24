/-
  KeepAccount, KeptAccount.
-/
import Derived.Test.YtflaeljjalpnkaaCatB
import Derived.Test.YtflaeljjalpnkaaRecR
namespace Go.Proofs.Ytflaeljjalpnkaa
set_option linter.unusedVariables false
set_option linter.unusedSimpArgs false
open Go.RowKit

theorem cat_shf (d : Nat → Int) (k : Nat) : cat d k (shf d k) = d := by
  funext j
  unfold cat shf
  split
  · rfl
  · congr 1; omega
theorem putAccount_sl (xi1 xi2 xp1 xp2 xq1 xq2 xr1 xr2 xs1 xs2 xtg xlg xcd xfl xst : Int) (hi1 : 0 ≤ xi1 ∧ xi1 < 18446744073709551616) (hi2 : 0 ≤ xi2 ∧ xi2 < 18446744073709551616) (hp1 : 0 ≤ xp1 ∧ xp1 < 18446744073709551616) (hp2 : 0 ≤ xp2 ∧ xp2 < 18446744073709551616) (hq1 : 0 ≤ xq1 ∧ xq1 < 18446744073709551616) (hq2 : 0 ≤ xq2 ∧ xq2 < 18446744073709551616) (hr1 : 0 ≤ xr1 ∧ xr1 < 18446744073709551616) (hr2 : 0 ≤ xr2 ∧ xr2 < 18446744073709551616) (hs1 : 0 ≤ xs1 ∧ xs1 < 18446744073709551616) (hs2 : 0 ≤ xs2 ∧ xs2 < 18446744073709551616) (htg : 0 ≤ xtg ∧ xtg < 18446744073709551616) (hlg : 0 ≤ xlg ∧ xlg < 4294967296) (hcd : 0 ≤ xcd ∧ xcd < 65536) (hfl : 0 ≤ xfl ∧ xfl < 65536) (hst : 0 ≤ xst ∧ xst < 18446744073709551616) (w : World) : Calls Try.prog 20 #[.agg #[.int .u64 xi1, .int .u64 xi2, .int .u64 xp1, .int .u64 xp2, .int .u64 xq1, .int .u64 xq2, .int .u64 xr1, .int .u64 xr2, .int .u64 xs1, .int .u64 xs2, .int .u64 xtg, .int .u32 xlg, .int .u16 xcd, .int .u16 xfl, .int .u64 xst]] w fun r w' => ∃ A c, r = .returned (.slice A 104 c) ∧ 104 ≤ c ∧ c ≤ maxLen ∧ SlIs w' A 104 (yV (putAccountD xi1 xi2 xp1 xp2 xq1 xq2 xr1 xr2 xs1 xs2 xtg xlg xcd xfl xst)) ∧ Below w.heap.size w w' := by
  refine (putAccount_any xi1 xi2 xp1 xp2 xq1 xq2 xr1 xr2 xs1 xs2 xtg xlg xcd xfl xst hi1 hi2 hp1 hp2 hq1 hq2 hr1 hr2 hs1 hs2 htg hlg hcd hfl hst w).mono ?_
  rintro e w' ⟨v, rfl, ho, hb⟩
  obtain ⟨A, c, rfl, e1, m1, s1⟩ := ho.byS
  exact ⟨A, c, rfl, e1, m1, s1, hb⟩
set_option maxRecDepth 8000 in
set_option maxHeartbeats 4000000 in
theorem keepAccount_any (xi1 xi2 xp1 xp2 xq1 xq2 xr1 xr2 xs1 xs2 xtg xlg xcd xfl xst : Int) (hi1 : 0 ≤ xi1 ∧ xi1 < 18446744073709551616) (hi2 : 0 ≤ xi2 ∧ xi2 < 18446744073709551616) (hp1 : 0 ≤ xp1 ∧ xp1 < 18446744073709551616) (hp2 : 0 ≤ xp2 ∧ xp2 < 18446744073709551616) (hq1 : 0 ≤ xq1 ∧ xq1 < 18446744073709551616) (hq2 : 0 ≤ xq2 ∧ xq2 < 18446744073709551616) (hr1 : 0 ≤ xr1 ∧ xr1 < 18446744073709551616) (hr2 : 0 ≤ xr2 ∧ xr2 < 18446744073709551616) (hs1 : 0 ≤ xs1 ∧ xs1 < 18446744073709551616) (hs2 : 0 ≤ xs2 ∧ xs2 < 18446744073709551616) (htg : 0 ≤ xtg ∧ xtg < 18446744073709551616) (hlg : 0 ≤ xlg ∧ xlg < 4294967296) (hcd : 0 ≤ xcd ∧ xcd < 65536) (hfl : 0 ≤ xfl ∧ xfl < 65536) (hst : 0 ≤ xst ∧ xst < 18446744073709551616) (w : World) : Calls Try.prog 21 #[.agg #[.int .u64 xi1, .int .u64 xi2, .int .u64 xp1, .int .u64 xp2, .int .u64 xq1, .int .u64 xq2, .int .u64 xr1, .int .u64 xr2, .int .u64 xs1, .int .u64 xs2, .int .u64 xtg, .int .u32 xlg, .int .u16 xcd, .int .u16 xfl, .int .u64 xst]] w fun r w' => ∃ A c B k, r = .returned (.tuple #[.slice A 16 c, .slice B 88 k]) ∧ (16 ≤ c ∧ c ≤ maxLen) ∧ (88 ≤ k ∧ k ≤ maxLen) ∧ SlIs w' A 16 (yV (putAccountD xi1 xi2 xp1 xp2 xq1 xq2 xr1 xr2 xs1 xs2 xtg xlg xcd xfl xst)) ∧ SlIs w' B 88 (yV (shf (putAccountD xi1 xi2 xp1 xp2 xq1 xq2 xr1 xr2 xs1 xs2 xtg xlg xcd xfl xst) 16)) ∧ Below w.heap.size w w' := by
  have HP := Lib.hid (fun w => putAccount_sl xi1 xi2 xp1 xp2 xq1 xq2 xr1 xr2 xs1 xs2 xtg xlg xcd xfl xst hi1 hi2 hp1 hp2 hq1 hq2 hr1 hr2 hs1 hs2 htg hlg hcd hfl hst w)
  clear hi1 hi2 hp1 hp2 hq1 hq2 hr1 hr2 hs1 hs2 htg hlg hcd hfl hst
  generalize (putAccountD xi1 xi2 xp1 xp2 xq1 xq2 xr1 xr2 xs1 xs2 xtg xlg xcd xfl xst) = D at *
  go_enter Try.func21, Try.ntmps21
  go_wp2_with fail
  refine (HP.out _).mono ?_
  rintro e w1 ⟨A, c, rfl, e1, m1, s1, hb1⟩
  obtain ⟨b, o, rfl, hbl, hc⟩ := s1 (by omega)
  have m2 : c ≤ 9223372036854775807 := m1
  replace hc := Lib.hid hc
  replace hb1 := Lib.hid hb1
  clear s1
  go_wp2_with fail
  first | (with_reducible refine rgrow2 (by kernel_rfl) (by kernel_rfl) ?_) | (refine rgrow (by kernel_rfl) (by kernel_rfl) ?_)
  repeat (go_big_quiet_step ((fail)))
  refine wpQuiet_nil ?_
  intro dr
  go_wp2_with fail
  go_ret2
  refine ⟨_, _, _, _, rfl, ⟨by omega, by simp [maxLen]⟩, ⟨by omega, by omega⟩, ?_, ?_, ?_⟩
  · refine SlIs.below (w := w1) (fun _ => ⟨b, o, rfl, hbl, fun j hj => hc.out j (by omega)⟩) ?_
    (repeat (first | exact Below.refl _ _ | assumption | refine below_drewN ?_ _ | refine bel_grow ?_ _ | refine Below.drew ?_ | refine bel_alloc ?_ _ | refine bel_set ?_ (by first | exact Nat.le_refl _ | (simp; done) | (simp; omega) | omega) _ | refine bel_trans ?_ (by assumption)))
  · refine SlIs.below (w := w1) (fun _ => ⟨b, o + 16, rfl, hbl, fun j hj => ?_⟩) ?_
    · have h := hc.out (16 + j) (by omega)
      rw [← Nat.add_assoc] at h
      exact h
    · (repeat (first | exact Below.refl _ _ | assumption | refine below_drewN ?_ _ | refine bel_grow ?_ _ | refine Below.drew ?_ | refine bel_alloc ?_ _ | refine bel_set ?_ (by first | exact Nat.le_refl _ | (simp; done) | (simp; omega) | omega) _ | refine bel_trans ?_ (by assumption)))
  · have t := hb1.out
    (repeat (first | exact Below.refl _ _ | assumption | refine below_drewN ?_ _ | refine bel_grow ?_ _ | refine Below.drew ?_ | refine bel_alloc ?_ _ | refine bel_set ?_ (by first | exact Nat.le_refl _ | (simp; done) | (simp; omega) | omega) _ | refine bel_trans ?_ (by assumption)))
set_option maxRecDepth 8000 in
set_option maxHeartbeats 4000000 in
theorem keptAccount_at (xi1 xi2 xp1 xp2 xq1 xq2 xr1 xr2 xs1 xs2 xtg xlg xcd xfl xst : Int) (hi1 : 0 ≤ xi1 ∧ xi1 < 18446744073709551616) (hi2 : 0 ≤ xi2 ∧ xi2 < 18446744073709551616) (hp1 : 0 ≤ xp1 ∧ xp1 < 18446744073709551616) (hp2 : 0 ≤ xp2 ∧ xp2 < 18446744073709551616) (hq1 : 0 ≤ xq1 ∧ xq1 < 18446744073709551616) (hq2 : 0 ≤ xq2 ∧ xq2 < 18446744073709551616) (hr1 : 0 ≤ xr1 ∧ xr1 < 18446744073709551616) (hr2 : 0 ≤ xr2 ∧ xr2 < 18446744073709551616) (hs1 : 0 ≤ xs1 ∧ xs1 < 18446744073709551616) (hs2 : 0 ≤ xs2 ∧ xs2 < 18446744073709551616) (htg : 0 ≤ xtg ∧ xtg < 18446744073709551616) (hlg : 0 ≤ xlg ∧ xlg < 4294967296) (hcd : 0 ≤ xcd ∧ xcd < 65536) (hfl : 0 ≤ xfl ∧ xfl < 65536) (hst : 0 ≤ xst ∧ xst < 18446744073709551616) (A B : Option Addr) (c k : Nat) (hC : 16 ≤ c ∧ c ≤ maxLen) (hk : 88 ≤ k ∧ k ≤ maxLen) (w : World) (hs : SlIs w A 16 (yV (putAccountD xi1 xi2 xp1 xp2 xq1 xq2 xr1 xr2 xs1 xs2 xtg xlg xcd xfl xst))) (ht : SlIs w B 88 (yV (shf (putAccountD xi1 xi2 xp1 xp2 xq1 xq2 xr1 xr2 xs1 xs2 xtg xlg xcd xfl xst) 16))) : Calls Try.prog 23 #[.slice A 16 c, .slice B 88 k] w fun r w' => r = .returned (.tuple #[.agg #[.int .u64 xi1, .int .u64 xi2, .int .u64 xp1, .int .u64 xp2, .int .u64 xq1, .int .u64 xq2, .int .u64 xr1, .int .u64 xr2, .int .u64 xs1, .int .u64 xs2, .int .u64 xtg, .int .u32 xlg, .int .u16 xcd, .int .u16 xfl, .int .u64 xst], .bool true]) ∧ Below w.heap.size w w' := by
  have HG := Lib.hid (fun A c h1 h2 w hs => getAccount_at xi1 xi2 xp1 xp2 xq1 xq2 xr1 xr2 xs1 xs2 xtg xlg xcd xfl xst hi1 hi2 hp1 hp2 hq1 hq2 hr1 hr2 hs1 hs2 htg hlg hcd hfl hst A c h1 h2 w hs)
  clear hi1 hi2 hp1 hp2 hq1 hq2 hr1 hr2 hs1 hs2 htg hlg hcd hfl hst
  generalize (putAccountD xi1 xi2 xp1 xp2 xq1 xq2 xr1 xr2 xs1 xs2 xtg xlg xcd xfl xst) = D at *
  have HC := Lib.hid (fun g w hg hs ht => concat_two A B 16 88 c k g D (shf D 16) (by omega) (by omega) (by omega) w hg hs ht)
  rw [cat_shf, show 16 + 88 = 104 from rfl] at HC
  replace hs := Lib.hid hs
  replace ht := Lib.hid ht
  go_enter Try.func23, Try.ntmps23
  go_wp2_with fail
  refine (HC.out _ _ (by (repeat (first | with_reducible assumption | (with_reducible refine Blk.new' ?_; first | with_reducible rfl | (simp; done)) | with_reducible refine Blk.alloc ?_ _ | with_reducible refine Blk.grow ?_ _ | with_reducible refine Blk.drew ?_ | with_reducible refine Blk.drewN ?_ _ | (with_reducible refine Blk.far ?_ (by first | (dsimp only; omega) | (simp; omega)) _) | (with_reducible apply Blk.two) | (with_reducible refine Blk.set' ?_ _ _ ?_) | (with_reducible rfl) | rfl))) (hs.out.below (by (repeat (first | exact Below.refl _ _ | assumption | refine below_drewN ?_ _ | refine bel_grow ?_ _ | refine Below.drew ?_ | refine bel_alloc ?_ _ | refine bel_set ?_ (by first | exact Nat.le_refl _ | (simp; done) | (simp; omega) | omega) _ | refine bel_trans ?_ (by assumption))))) (ht.out.below (by (repeat (first | exact Below.refl _ _ | assumption | refine below_drewN ?_ _ | refine bel_grow ?_ _ | refine Below.drew ?_ | refine bel_alloc ?_ _ | refine bel_set ?_ (by first | exact Nat.le_refl _ | (simp; done) | (simp; omega) | omega) _ | refine bel_trans ?_ (by assumption)))))).mono ?_
  rintro e0 w1 ⟨v, rfl, ho, hb1⟩
  obtain ⟨A1, c1, rfl, e1, m1, s1⟩ := ho.byS
  have hB : Below w.heap.size w w1 := bel_eld (w := w) (X := _) (by (repeat (first | exact Below.refl _ _ | assumption | refine below_drewN ?_ _ | refine bel_grow ?_ _ | refine Below.drew ?_ | refine bel_alloc ?_ _ | refine bel_set ?_ (by first | exact Nat.le_refl _ | (simp; done) | (simp; omega) | omega) _ | refine bel_trans ?_ (by assumption)))) hb1
  have f_a : Blk w1 w.heap.size 56 #[.int .u64 0, .int .u64 0, .int .u64 0, .int .u64 0, .int .u64 0, .int .u64 0, .int .u64 0, .int .u64 0, .int .u64 0, .int .u64 0, .int .u64 0, .int .u32 0, .int .u16 0, .int .u16 0, .int .u64 0] := Blk.kept (by (repeat (first | with_reducible assumption | (with_reducible refine Blk.new' ?_; first | with_reducible rfl | (simp; done)) | with_reducible refine Blk.alloc ?_ _ | with_reducible refine Blk.grow ?_ _ | with_reducible refine Blk.drew ?_ | with_reducible refine Blk.drewN ?_ _ | (with_reducible refine Blk.far ?_ (by first | (dsimp only; omega) | (simp; omega)) _) | (with_reducible apply Blk.two) | (with_reducible refine Blk.set' ?_ _ _ ?_) | (with_reducible rfl) | rfl))) hb1
  clear ho hb1
  have a_0 : w1.cell? ⟨w.heap.size, 0, none⟩ = some (.int .u64 0) := (f_a).cell 0
  have a_1 : w1.cell? ⟨w.heap.size, 1, none⟩ = some (.int .u64 0) := (f_a).cell 1
  have a_2 : w1.cell? ⟨w.heap.size, 2, none⟩ = some (.int .u64 0) := (f_a).cell 2
  have a_3 : w1.cell? ⟨w.heap.size, 3, none⟩ = some (.int .u64 0) := (f_a).cell 3
  have a_4 : w1.cell? ⟨w.heap.size, 4, none⟩ = some (.int .u64 0) := (f_a).cell 4
  have a_5 : w1.cell? ⟨w.heap.size, 5, none⟩ = some (.int .u64 0) := (f_a).cell 5
  have a_6 : w1.cell? ⟨w.heap.size, 6, none⟩ = some (.int .u64 0) := (f_a).cell 6
  have a_7 : w1.cell? ⟨w.heap.size, 7, none⟩ = some (.int .u64 0) := (f_a).cell 7
  have a_8 : w1.cell? ⟨w.heap.size, 8, none⟩ = some (.int .u64 0) := (f_a).cell 8
  have a_9 : w1.cell? ⟨w.heap.size, 9, none⟩ = some (.int .u64 0) := (f_a).cell 9
  have a_10 : w1.cell? ⟨w.heap.size, 10, none⟩ = some (.int .u64 0) := (f_a).cell 10
  have a_11 : w1.cell? ⟨w.heap.size, 11, none⟩ = some (.int .u32 0) := (f_a).cell 11
  have a_12 : w1.cell? ⟨w.heap.size, 12, none⟩ = some (.int .u16 0) := (f_a).cell 12
  have a_13 : w1.cell? ⟨w.heap.size, 13, none⟩ = some (.int .u16 0) := (f_a).cell 13
  have a_14 : w1.cell? ⟨w.heap.size, 14, none⟩ = some (.int .u64 0) := (f_a).cell 14
  have a_f0 := (f_a).frozen 0
  have a_f1 := (f_a).frozen 1
  have a_f2 := (f_a).frozen 2
  have a_f3 := (f_a).frozen 3
  have a_f4 := (f_a).frozen 4
  have a_f5 := (f_a).frozen 5
  have a_f6 := (f_a).frozen 6
  have a_f7 := (f_a).frozen 7
  have a_f8 := (f_a).frozen 8
  have a_f9 := (f_a).frozen 9
  have a_f10 := (f_a).frozen 10
  have a_f11 := (f_a).frozen 11
  have a_f12 := (f_a).frozen 12
  have a_f13 := (f_a).frozen 13
  have a_f14 := (f_a).frozen 14
  have a_l := (f_a).lt
  replace f_a := Lib.hid f_a
  replace hB := Lib.hid hB
  go_wp2_with fail
  refine (HG.out A1 c1 e1 m1 _ s1).mono ?_
  rintro e w_2 ⟨rfl, hb_2⟩
  have z_2 := hb_2.size
  try simp at z_2
  have t_ := hB.out
  have hB_2 := bel_eld (w := w) (X := _) (by first | ((repeat (first | with_reducible exact Below.refl _ _ | with_reducible assumption | (with_reducible refine bel_set ?_ (by first | exact Nat.le_refl _ | (simp; done) | (simp; omega) | omega) _) | with_reducible refine bel_grow ?_ _ | with_reducible refine Below.drew ?_ | with_reducible refine below_drewN ?_ _ | with_reducible refine bel_alloc ?_ _ | with_reducible refine bel_trans ?_ (by assumption))); done) | (repeat (first | exact Below.refl _ _ | assumption | refine below_drewN ?_ _ | refine bel_grow ?_ _ | refine Below.drew ?_ | refine bel_alloc ?_ _ | refine bel_set ?_ (by first | exact Nat.le_refl _ | (simp; done) | (simp; omega) | omega) _ | refine bel_trans ?_ (by assumption)))) hb_2
  clear t_
  have t_a := f_a.out
  have g_a : Blk w_2 (w.heap.size) 56 #[.int .u64 0, .int .u64 0, .int .u64 0, .int .u64 0, .int .u64 0, .int .u64 0, .int .u64 0, .int .u64 0, .int .u64 0, .int .u64 0, .int .u64 0, .int .u32 0, .int .u16 0, .int .u16 0, .int .u64 0] := by
    refine Blk.kept ?_ hb_2
    (repeat (first | with_reducible assumption | (with_reducible refine Blk.new' ?_; first | with_reducible rfl | (simp; done)) | with_reducible refine Blk.alloc ?_ _ | with_reducible refine Blk.grow ?_ _ | with_reducible refine Blk.drew ?_ | with_reducible refine Blk.drewN ?_ _ | (with_reducible refine Blk.far ?_ (by first | (dsimp only; omega) | (simp; omega)) _) | (with_reducible apply Blk.two) | (with_reducible refine Blk.set' ?_ _ _ ?_) | (with_reducible rfl) | rfl))
  clear f_a a_l a_0 a_1 a_2 a_3 a_4 a_5 a_6 a_7 a_8 a_9 a_10 a_11 a_12 a_13 a_14 a_f0 a_f1 a_f2 a_f3 a_f4 a_f5 a_f6 a_f7 a_f8 a_f9 a_f10 a_f11 a_f12 a_f13 a_f14 t_a hB hb_2
  have f_a := g_a
  clear g_a
  have a_0 : w_2.cell? ⟨w.heap.size, 0, none⟩ = some (.int .u64 0) := (f_a).cell 0
  have a_1 : w_2.cell? ⟨w.heap.size, 1, none⟩ = some (.int .u64 0) := (f_a).cell 1
  have a_2 : w_2.cell? ⟨w.heap.size, 2, none⟩ = some (.int .u64 0) := (f_a).cell 2
  have a_3 : w_2.cell? ⟨w.heap.size, 3, none⟩ = some (.int .u64 0) := (f_a).cell 3
  have a_4 : w_2.cell? ⟨w.heap.size, 4, none⟩ = some (.int .u64 0) := (f_a).cell 4
  have a_5 : w_2.cell? ⟨w.heap.size, 5, none⟩ = some (.int .u64 0) := (f_a).cell 5
  have a_6 : w_2.cell? ⟨w.heap.size, 6, none⟩ = some (.int .u64 0) := (f_a).cell 6
  have a_7 : w_2.cell? ⟨w.heap.size, 7, none⟩ = some (.int .u64 0) := (f_a).cell 7
  have a_8 : w_2.cell? ⟨w.heap.size, 8, none⟩ = some (.int .u64 0) := (f_a).cell 8
  have a_9 : w_2.cell? ⟨w.heap.size, 9, none⟩ = some (.int .u64 0) := (f_a).cell 9
  have a_10 : w_2.cell? ⟨w.heap.size, 10, none⟩ = some (.int .u64 0) := (f_a).cell 10
  have a_11 : w_2.cell? ⟨w.heap.size, 11, none⟩ = some (.int .u32 0) := (f_a).cell 11
  have a_12 : w_2.cell? ⟨w.heap.size, 12, none⟩ = some (.int .u16 0) := (f_a).cell 12
  have a_13 : w_2.cell? ⟨w.heap.size, 13, none⟩ = some (.int .u16 0) := (f_a).cell 13
  have a_14 : w_2.cell? ⟨w.heap.size, 14, none⟩ = some (.int .u64 0) := (f_a).cell 14
  have a_f0 := (f_a).frozen 0
  have a_f1 := (f_a).frozen 1
  have a_f2 := (f_a).frozen 2
  have a_f3 := (f_a).frozen 3
  have a_f4 := (f_a).frozen 4
  have a_f5 := (f_a).frozen 5
  have a_f6 := (f_a).frozen 6
  have a_f7 := (f_a).frozen 7
  have a_f8 := (f_a).frozen 8
  have a_f9 := (f_a).frozen 9
  have a_f10 := (f_a).frozen 10
  have a_f11 := (f_a).frozen 11
  have a_f12 := (f_a).frozen 12
  have a_f13 := (f_a).frozen 13
  have a_f14 := (f_a).frozen 14
  have a_l := (f_a).lt
  replace f_a := Lib.hid f_a
  replace hB_2 := Lib.hid hB_2
  go_wp2_with fail
  refine bodyPost_ret (v := .tuple #[.agg #[.int .u64 xi1, .int .u64 xi2, .int .u64 xp1, .int .u64 xp2, .int .u64 xq1, .int .u64 xq2, .int .u64 xr1, .int .u64 xr2, .int .u64 xs1, .int .u64 xs2, .int .u64 xtg, .int .u32 xlg, .int .u16 xcd, .int .u16 xfl, .int .u64 xst], .bool true]) (by simp [results, Try.results23, go_sem, a_0, a_1, a_2, a_3, a_4, a_5, a_6, a_7, a_8, a_9, a_10, a_11, a_12, a_13, a_14, a_l]) rfl ⟨rfl, ?_⟩
  have t := hB_2.out
  (repeat (first | with_reducible exact Below.refl _ _ | with_reducible assumption | (with_reducible refine bel_set ?_ (by first | exact Nat.le_refl _ | (simp; done) | (simp; omega) | omega) _) | with_reducible refine bel_grow ?_ _ | with_reducible refine Below.drew ?_ | with_reducible refine below_drewN ?_ _ | with_reducible refine bel_alloc ?_ _ | with_reducible refine bel_trans ?_ (by assumption)))
end Go.Proofs.Ytflaeljjalpnkaa
