/-
  The document's sum of any numbers, walked.
-/
import Derived.Test.YtpbnakoimlmhnaaWideE
import Derived.Test.YtpbnakoimlmhnaaBlk
namespace Go.Proofs.Ytpbnakoimlmhnaa
set_option linter.unusedVariables false
set_option linter.unusedSimpArgs false
open Go.RowKit

set_option maxHeartbeats 2000000 in
theorem refsum_any (A : Option Addr) (n c : Nat) (h l : Nat → Int) (hn : n ≤ 1000000) (hd : ∀ i, i < n → Wd (h i) ∧ Wd (l i)) (w : World) (hs : SlIs w A (n * 2) (pV h l)) :
    Calls Try.prog 56 #[.slice A n c] w fun r w' =>
      r = .returned (.tuple #[.agg #[.int .u64 (sumH h l n), .int .u64 (sumL h l n)], .bool (sumB h l n)]) ∧ Below w.heap.size w w' := by
  replace hs := Lib.hid hs
  replace hd := Lib.hid hd
  go_enter Try.func56, Try.ntmps56
  go_wp2
  go_loopw [5] (fun i wr => ∃ (k : Nat), k ≤ n ∧ i = .int .i64 k ∧ Hid (tot h l k < pw 16) ∧ Hid (Below w.heap.size w wr) ∧ Hid (Blk wr w.heap.size 24 #[.int .u64 0, .int .u64 0]) ∧
    Hid (Blk wr (w.heap.size + 1) 24 #[.int .u64 (tot h l k / 18446744073709551616), .int .u64 (tot h l k % 18446744073709551616)])) (fun i _ => n - (intOf i).toNat)
  case atStart =>
    refine ⟨0, by omega, rfl, by rw [pw_16]; simp [tot, Hid], ?_, ?_, ?_⟩
    · show Below _ _ _
      (repeat (first | exact Below.refl _ _ | assumption | refine below_drewN ?_ _ | refine bel_grow ?_ _ | refine Below.drew ?_ | refine bel_alloc ?_ _ | refine bel_set ?_ (by first | exact Nat.le_refl _ | (simp; done) | (simp; omega) | omega) _ | refine bel_trans ?_ (by assumption)))
    · show Blk _ _ _ _
      (repeat (first | with_reducible assumption | (with_reducible refine Blk.new' ?_; first | with_reducible rfl | (simp; done)) | with_reducible refine Blk.alloc ?_ _ | with_reducible refine Blk.grow ?_ _ | with_reducible refine Blk.drew ?_ | with_reducible refine Blk.drewN ?_ _ | (with_reducible refine Blk.far ?_ (by first | (dsimp only; omega) | (simp; omega)) _) | (with_reducible apply Blk.two) | (with_reducible refine Blk.set' ?_ _ _ ?_) | (with_reducible rfl) | rfl))
    · rw [show tot h l 0 / 18446744073709551616 = 0 by simp [tot], show tot h l 0 % 18446744073709551616 = 0 by simp [tot]]
      show Blk _ _ _ _
      (repeat (first | with_reducible assumption | (with_reducible refine Blk.new' ?_; first | with_reducible rfl | (simp; done)) | with_reducible refine Blk.alloc ?_ _ | with_reducible refine Blk.grow ?_ _ | with_reducible refine Blk.drew ?_ | with_reducible refine Blk.drewN ?_ _ | (with_reducible refine Blk.far ?_ (by first | (dsimp only; omega) | (simp; omega)) _) | (with_reducible apply Blk.two) | (with_reducible refine Blk.set' ?_ _ _ ?_) | (with_reducible rfl) | rfl))
  case round =>
    obtain ⟨k, hk, rfl, ht, hb, hr, ho⟩ := hrel
    have r0 := (hr.out).cell 0
    have r1 := (hr.out).cell 1
    have rf0 := (hr.out).frozen 0
    have rf1 := (hr.out).frozen 1
    have rl := (hr.out).lt
    have o0 := (ho.out).cell 0
    have o1 := (ho.out).cell 1
    have of0 := (ho.out).frozen 0
    have of1 := (ho.out).frozen 1
    have ol := (ho.out).lt
    by_cases hlt : k < n
    · obtain ⟨b, o, rfl, hbl, hc⟩ := hs.out (by omega)
      have c0 := keepc hb.out (hc (k * 2) (by omega))
      have c1 := keepc hb.out (hc (k * 2 + 1) (by omega))
      rw [pV_0] at c0
      rw [pV_1, ← Nat.add_assoc] at c1
      have bl : b < wr.heap.size := Nat.lt_of_lt_of_le hbl hb.out.size
      clear hc
      have hS : 0 ≤ tot h l k ∧ tot h l k < pw 16 := ⟨tot_nn (fun i hi => hd.out i (by omega)), ht.out⟩
      obtain ⟨hx, hy⟩ := hd.out k hlt
      have HA := Lib.hid (fun w => refadd_any (tot h l k / 18446744073709551616) (tot h l k % 18446744073709551616) (h k) (l k) (Wd_of hS).1 (Wd_of hS).2 hx hy w)
      have B1 := Lib.hid (addB_V (tot h l k / 18446744073709551616) (tot h l k % 18446744073709551616) (h k) (l k))
      have B2 := Lib.hid (@addH_V (tot h l k / 18446744073709551616) (tot h l k % 18446744073709551616) (h k) (l k))
      have B3 := Lib.hid (@addL_V (tot h l k / 18446744073709551616) (tot h l k % 18446744073709551616) (h k) (l k))
      rw [V_of, show tot h l k + V (h k) (l k) = tot h l (k + 1) from rfl] at B1 B2 B3
      have hmono := tot_mono (h := h) (l := l) (k := k + 1) (n := n) (by omega) hd.out
      replace hmono := Lib.hid hmono
      clear hS hx hy
      generalize addB (tot h l k / 18446744073709551616) (tot h l k % 18446744073709551616) (h k) (l k) = ok at *
      generalize addH (tot h l k / 18446744073709551616) (tot h l k % 18446744073709551616) (h k) (l k) = nh at *
      generalize addL (tot h l k / 18446744073709551616) (tot h l k % 18446744073709551616) (h k) (l k) = nl at *
      go_wp2
      go_region_held3 (fun w' => w'.cell? ⟨w.heap.size + 1, 0, none⟩ = some (.int .u64 (tot h l k / 18446744073709551616)) ∧ w'.cell? ⟨w.heap.size + 1, 1, none⟩ = some (.int .u64 (tot h l k % 18446744073709551616)) ∧ w'.cell? ⟨b, o + k * 2, none⟩ = some (.int .u64 (h k)) ∧ w'.cell? ⟨b, o + k * 2 + 1, none⟩ = some (.int .u64 (l k)))
        (first | ((try go_split_ands); refine ⟨?_, ?_, ?_, ?_⟩ <;> first | assumption | exact keepc (grow_below _ _) (by assumption) | exact keepc (bel_alloc (Below.refl _ _) _) (by assumption) | ((repeat (refine keeps (by dsimp only; omega) ?_)); assumption) | (simp [go_sem]; done) | (apply keepa; (have h9 := grow_size (wr) d1; have h10 : (wr).heap.size ≤ (Grow (wr).drew d1).heap.size := grow_size (wr).drew d1; dsimp only; omega); assumption) | (simp [go_sem, o0, o1, c0, c1]; done)))
        (first | (go_at_call 24; (with_reducible refine (gro (HA.out _)).mono ?_); rintro e w3 ⟨rfl, d1, rfl⟩))
      all_goals (
      have hb2 := hb.out
      have hr2 := hr.out
      have ho2 := ho.out
      have z1 := grow_size wr.drew d1
      have z2 : wr.heap.size ≤ (Grow wr.drew d1).heap.size := z1
      first
        | (refine abs_exit (fun X => Below w.heap.size w X ∧ Blk X w.heap.size 24 #[.int .u64 0, .int .u64 0] ∧ Blk X (w.heap.size + 1) 24 #[.int .u64 (tot h l k / 18446744073709551616), .int .u64 (tot h l k % 18446744073709551616)] ∧ Blk X (Grow wr.drew d1).heap.size 24 #[.int .u64 nh, .int .u64 nl]) ?_ ?_
           · refine ⟨?_, ?_, ?_, ?_⟩
             · ((repeat (first | exact Below.refl _ _ | assumption | refine below_drewN ?_ _ | refine bel_grow ?_ _ | refine Below.drew ?_ | refine bel_alloc ?_ _ | refine bel_set ?_ (by first | exact Nat.le_refl _ | (simp; done) | (simp; omega) | omega) _ | refine bel_trans ?_ (by assumption))); done)
             · ((repeat (first | with_reducible assumption | (with_reducible refine Blk.new' ?_; first | with_reducible rfl | (simp; done)) | with_reducible refine Blk.alloc ?_ _ | with_reducible refine Blk.grow ?_ _ | with_reducible refine Blk.drew ?_ | with_reducible refine Blk.drewN ?_ _ | (with_reducible refine Blk.far ?_ (by first | (dsimp only; omega) | (simp; omega)) _) | (with_reducible apply Blk.two) | (with_reducible refine Blk.set' ?_ _ _ ?_) | (with_reducible rfl) | rfl)); done)
             · ((repeat (first | with_reducible assumption | (with_reducible refine Blk.new' ?_; first | with_reducible rfl | (simp; done)) | with_reducible refine Blk.alloc ?_ _ | with_reducible refine Blk.grow ?_ _ | with_reducible refine Blk.drew ?_ | with_reducible refine Blk.drewN ?_ _ | (with_reducible refine Blk.far ?_ (by first | (dsimp only; omega) | (simp; omega)) _) | (with_reducible apply Blk.two) | (with_reducible refine Blk.set' ?_ _ _ ?_) | (with_reducible rfl) | rfl)); done)
             · ((repeat (first | with_reducible assumption | (with_reducible refine Blk.new' ?_; first | with_reducible rfl | (simp; done)) | with_reducible refine Blk.alloc ?_ _ | with_reducible refine Blk.grow ?_ _ | with_reducible refine Blk.drew ?_ | with_reducible refine Blk.drewN ?_ _ | (with_reducible refine Blk.far ?_ (by first | (dsimp only; omega) | (simp; omega)) _) | (with_reducible apply Blk.two) | (with_reducible refine Blk.set' ?_ _ _ ?_) | (with_reducible rfl) | rfl)); done)
           generalize (Grow wr.drew d1).heap.size = g at *)
        | (refine abs_exit (fun X => Below w.heap.size w X ∧ Blk X w.heap.size 24 #[.int .u64 0, .int .u64 0] ∧ Blk X (w.heap.size + 1) 24 #[.int .u64 (tot h l k / 18446744073709551616), .int .u64 (tot h l k % 18446744073709551616)] ∧ Blk X wr.heap.size 24 #[.int .u64 nh, .int .u64 nl]) ?_ ?_
           · refine ⟨?_, ?_, ?_, ?_⟩
             · ((repeat (first | exact Below.refl _ _ | assumption | refine below_drewN ?_ _ | refine bel_grow ?_ _ | refine Below.drew ?_ | refine bel_alloc ?_ _ | refine bel_set ?_ (by first | exact Nat.le_refl _ | (simp; done) | (simp; omega) | omega) _ | refine bel_trans ?_ (by assumption))); done)
             · ((repeat (first | with_reducible assumption | (with_reducible refine Blk.new' ?_; first | with_reducible rfl | (simp; done)) | with_reducible refine Blk.alloc ?_ _ | with_reducible refine Blk.grow ?_ _ | with_reducible refine Blk.drew ?_ | with_reducible refine Blk.drewN ?_ _ | (with_reducible refine Blk.far ?_ (by first | (dsimp only; omega) | (simp; omega)) _) | (with_reducible apply Blk.two) | (with_reducible refine Blk.set' ?_ _ _ ?_) | (with_reducible rfl) | rfl)); done)
             · ((repeat (first | with_reducible assumption | (with_reducible refine Blk.new' ?_; first | with_reducible rfl | (simp; done)) | with_reducible refine Blk.alloc ?_ _ | with_reducible refine Blk.grow ?_ _ | with_reducible refine Blk.drew ?_ | with_reducible refine Blk.drewN ?_ _ | (with_reducible refine Blk.far ?_ (by first | (dsimp only; omega) | (simp; omega)) _) | (with_reducible apply Blk.two) | (with_reducible refine Blk.set' ?_ _ _ ?_) | (with_reducible rfl) | rfl)); done)
             · ((repeat (first | with_reducible assumption | (with_reducible refine Blk.new' ?_; first | with_reducible rfl | (simp; done)) | with_reducible refine Blk.alloc ?_ _ | with_reducible refine Blk.grow ?_ _ | with_reducible refine Blk.drew ?_ | with_reducible refine Blk.drewN ?_ _ | (with_reducible refine Blk.far ?_ (by first | (dsimp only; omega) | (simp; omega)) _) | (with_reducible apply Blk.two) | (with_reducible refine Blk.set' ?_ _ _ ?_) | (with_reducible rfl) | rfl)); done)
           generalize wr.heap.size = g at *)
      rintro X ⟨xb, xr, xo, xg⟩
      clear r0 r1 rf0 rf1 rl o0 o1 of0 of1 ol c0 c1 bl hb hr ho hb2 hr2 ho2
      have r0 := (xr).cell 0
      have r1 := (xr).cell 1
      have rf0 := (xr).frozen 0
      have rf1 := (xr).frozen 1
      have rl := (xr).lt
      have o0 := (xo).cell 0
      have o1 := (xo).cell 1
      have of0 := (xo).frozen 0
      have of1 := (xo).frozen 1
      have ol := (xo).lt
      have g0 := (xg).cell 0
      have g1 := (xg).cell 1
      have gf0 := (xg).frozen 0
      have gf1 := (xg).frozen 1
      have gl := (xg).lt
      replace xb := Lib.hid xb
      replace xr := Lib.hid xr
      replace xo := Lib.hid xo
      replace xg := Lib.hid xg
      cases ok
      · have hov : ¬ tot h l (k + 1) < pw 16 := by simpa using B1.out.symm
        have f1 : sumB h l n = false := by unfold sumB; have := hmono.out; simp; omega
        have f2 : sumH h l n = 0 := by unfold sumH; rw [f1]; rfl
        have f3 : sumL h l n = 0 := by unfold sumL; rw [f1]; rfl
        replace hov := Lib.hid hov
        replace f1 := Lib.hid f1
        replace f2 := Lib.hid f2
        replace f3 := Lib.hid f3
        go_wp2
        refine bodyPost_ret (v := .tuple #[.agg #[.int .u64 0, .int .u64 0], .bool false]) (by simp [results, Try.results56, go_sem, r0, r1, rl]) rfl ⟨by rw [f1.out, f2.out, f3.out], ?_⟩
        have hb2 := xb.out
        (repeat (first | exact Below.refl _ _ | assumption | refine below_drewN ?_ _ | refine bel_grow ?_ _ | refine Below.drew ?_ | refine bel_alloc ?_ _ | refine bel_set ?_ (by first | exact Nat.le_refl _ | (simp; done) | (simp; omega) | omega) _ | refine bel_trans ?_ (by assumption)))
      · have hov : tot h l (k + 1) < pw 16 := by simpa using B1.out.symm
        have f2 := Lib.hid (B2.out hov)
        have f3 := Lib.hid (B3.out hov)
        replace hov := Lib.hid hov
        go_wp2
        go_roundw
        case rel =>
          have hb2 := xb.out
          have hr2 := xr.out
          have ho2 := xo.out
          refine ⟨k + 1, by omega, by go_num, hov.out, ?_, ?_, ?_⟩
          · show Below _ _ _
            (repeat (first | exact Below.refl _ _ | assumption | refine below_drewN ?_ _ | refine bel_grow ?_ _ | refine Below.drew ?_ | refine bel_alloc ?_ _ | refine bel_set ?_ (by first | exact Nat.le_refl _ | (simp; done) | (simp; omega) | omega) _ | refine bel_trans ?_ (by assumption)))
          · show Blk _ _ _ _
            (repeat (first | with_reducible assumption | (with_reducible refine Blk.new' ?_; first | with_reducible rfl | (simp; done)) | with_reducible refine Blk.alloc ?_ _ | with_reducible refine Blk.grow ?_ _ | with_reducible refine Blk.drew ?_ | with_reducible refine Blk.drewN ?_ _ | (with_reducible refine Blk.far ?_ (by first | (dsimp only; omega) | (simp; omega)) _) | (with_reducible apply Blk.two) | (with_reducible refine Blk.set' ?_ _ _ ?_) | (with_reducible rfl) | rfl))
          · rw [← f2.out, ← f3.out]
            show Blk _ _ _ _
            (repeat (first | with_reducible assumption | (with_reducible refine Blk.new' ?_; first | with_reducible rfl | (simp; done)) | with_reducible refine Blk.alloc ?_ _ | with_reducible refine Blk.grow ?_ _ | with_reducible refine Blk.drew ?_ | with_reducible refine Blk.drewN ?_ _ | (with_reducible refine Blk.far ?_ (by first | (dsimp only; omega) | (simp; omega)) _) | (with_reducible apply Blk.two) | (with_reducible refine Blk.set' ?_ _ _ ?_) | (with_reducible rfl) | rfl))
        case measure => simp [intOf]; omega)
    · obtain rfl : k = n := by omega
      have f1 : sumB h l k = true := by unfold sumB; simpa using ht.out
      have f2 : sumH h l k = tot h l k / 18446744073709551616 := by unfold sumH; rw [f1]; rfl
      have f3 : sumL h l k = tot h l k % 18446744073709551616 := by unfold sumL; rw [f1]; rfl
      replace f1 := Lib.hid f1
      replace f2 := Lib.hid f2
      replace f3 := Lib.hid f3
      go_wp2
      refine bodyPost_ret (v := .tuple #[.agg #[.int .u64 (tot h l k / 18446744073709551616), .int .u64 (tot h l k % 18446744073709551616)], .bool true]) (by simp [results, Try.results56, go_sem, r0, r1, rl]) rfl ⟨by rw [f1.out, f2.out, f3.out], ?_⟩
      have hb2 := hb.out
      (repeat (first | exact Below.refl _ _ | assumption | refine below_drewN ?_ _ | refine bel_grow ?_ _ | refine Below.drew ?_ | refine bel_alloc ?_ _ | refine bel_set ?_ (by first | exact Nat.le_refl _ | (simp; done) | (simp; omega) | omega) _ | refine bel_trans ?_ (by assumption)))
end Go.Proofs.Ytpbnakoimlmhnaa
