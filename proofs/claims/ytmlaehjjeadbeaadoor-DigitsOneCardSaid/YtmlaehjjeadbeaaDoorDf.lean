/-
  digits.Read and digits.Number, walked.
-/
import Derived.Test.YtmlaehjjeadbeaaDoorDe
namespace Go.Proofs.YtmlaehjjeadbeaaDoor
set_option linter.unusedVariables false
set_option linter.unusedSimpArgs false
open Go.RowKit

/-- what a row of bytes is read as: the error's number, the number's halves -/
def drC (d : Nat → Int) (n : Nat) : Int := if rgt d n then (if val d n < 340282366920938463463374607431768211456 then 0 else 9) else 2
def drH (d : Nat → Int) (n : Nat) : Int := if drC d n = 0 then val d n / 18446744073709551616 else 0
def drL (d : Nat → Int) (n : Nat) : Int := if drC d n = 0 then val d n % 18446744073709551616 else 0
theorem rd_form {d : Nat → Int} {n : Nat} (h : rgt d n = false) : drC d n = 2 ∧ drH d n = 0 ∧ drL d n = 0 := by
  unfold drH drL drC; simp [h]
theorem rd_over {d : Nat → Int} {n : Nat} (h : rgt d n = true) (h2 : ¬ val d n < 340282366920938463463374607431768211456) : drC d n = 9 ∧ drH d n = 0 ∧ drL d n = 0 := by
  unfold drH drL drC; simp only [h, if_true, if_neg h2]; simp
theorem rd_ok {d : Nat → Int} {n : Nat} (h : rgt d n = true) (h2 : val d n < 340282366920938463463374607431768211456) : drC d n = 0 ∧ drH d n = val d n / 18446744073709551616 ∧ drL d n = val d n % 18446744073709551616 := by
  unfold drH drL drC; simp only [h, if_true, if_pos h2]; simp
theorem rd_cases (d : Nat → Int) (n : Nat) : (drC d n = 2 ∧ drH d n = 0 ∧ drL d n = 0) ∨ (drC d n = 9 ∧ drH d n = 0 ∧ drL d n = 0) ∨ (drC d n = 0 ∧ drH d n = val d n / 18446744073709551616 ∧ drL d n = val d n % 18446744073709551616 ∧ 0 ≤ val d n ∧ val d n < 340282366920938463463374607431768211456 ∧ rgt d n = true) := by
  cases h : rgt d n with
  | false => exact Or.inl (rd_form h)
  | true =>
    by_cases h2 : val d n < 340282366920938463463374607431768211456
    · obtain ⟨a, b, c⟩ := rd_ok h h2
      exact Or.inr (Or.inr ⟨a, b, c, (val_nn (rgt_iff.1 h).2.1).1, h2, rfl⟩)
    · exact Or.inr (Or.inl (rd_over h h2))
theorem rd_wd (d : Nat → Int) (n : Nat) : Wd (drH d n) ∧ Wd (drL d n) := by
  unfold Wd
  rcases rd_cases d n with ⟨a, b, c⟩ | ⟨a, b, c⟩ | ⟨a, b, c, e, f, g⟩ <;> omega

set_option maxHeartbeats 8000000 in
theorem read_any (n : Nat) (d : Nat → Int) (hn : n ≤ maxLen) (hd : ∀ i, 0 ≤ d i ∧ d i < 256) (w : World) : Calls Tryd.prog 6 #[.string (strF d n)] w fun r w' =>
      r = .returned (.tuple #[.agg #[.int .u64 (drH d n), .int .u64 (drL d n)], .int .i64 (drC d n)]) ∧ Below w.heap.size w w' := by
  have HR := Lib.hid (fun w => right_any n d hn hd w)
  unfold maxLen at hn
  have es : (strF d n).size = n := strF_size d n
  replace hd := Lib.hid hd
  have gR0 := Lib.hid (Blk.new w 24 #[.int .u64 0, .int .u64 0])
  have hb0 := Lib.hid (bel_alloc (Below.refl w.heap.size w) (.cells #[.int .u64 0, .int .u64 0] 24))
  cases hr : rgt d n with
  | false =>
    obtain ⟨e1, e2, e3⟩ := rd_form hr
    rw [e1, e2, e3]
    rw [hr] at HR
    go_enter Tryd.func6, Tryd.ntmps6
    go_wp2_with fail
    refine (HR.out _).mono ?_
    rintro r w1 ⟨rfl, hb1⟩
    have gR := gR0.out.kept hb1
    have hb2 := bel_eld hb0.out hb1
    have hb3 : Below w.heap.size w ((w1.setCell ⟨w.heap.size, 0, none⟩ (.int .u64 0)).setCell ⟨w.heap.size, 1, none⟩ (.int .u64 0)) := by (repeat (first | exact Below.refl _ _ | assumption | refine below_drewN ?_ _ | refine bel_grow ?_ _ | refine Below.drew ?_ | refine bel_alloc ?_ _ | refine bel_set ?_ (by first | exact Nat.le_refl _ | (simp; done) | (simp; omega) | omega) _ | refine bel_trans ?_ (by assumption)))
    have gR2 := gR.two (u := .int .u64 0) (v := .int .u64 0)
    have b0 := (gR).cell 0
    have b1 := (gR).cell 1
    have bf0 := (gR).frozen 0
    have bf1 := (gR).frozen 1
    have bl := (gR).lt
    simp at b0 b1
    replace hb3 := Lib.hid hb3
    replace gR2 := Lib.hid gR2
    clear hb1 hb2 gR
    go_wp2_with fail
    generalize (w1.setCell ⟨w.heap.size, 0, none⟩ (.int .u64 0)).setCell ⟨w.heap.size, 1, none⟩ (.int .u64 0) = w4 at *
    have r0 := (gR2.out).cell 0
    have r1 := (gR2.out).cell 1
    have rf0 := (gR2.out).frozen 0
    have rf1 := (gR2.out).frozen 1
    have rl := (gR2.out).lt
    simp at r0 r1
    refine bodyPost_ret (v := .tuple #[.agg #[.int .u64 0, .int .u64 0], .int .i64 2]) (by simp [results, Tryd.results6, go_sem, r0, r1, rl]) rfl ⟨rfl, hb3.out⟩
  | true =>
    have hdg := Lib.hid (rgt_iff.1 hr).2.1
    rw [hr] at HR
    go_enter Tryd.func6, Tryd.ntmps6
    go_wp2_with fail
    refine (HR.out _).mono ?_
    rintro r w1 ⟨rfl, hb1⟩
    have gR := (gR0.out.kept hb1).alloc (.cells #[.int .u64 0, .int .u64 0] 24)
    have hb2 := bel_alloc (bel_eld hb0.out hb1) (.cells #[.int .u64 0, .int .u64 0] 24)
    have gA := Blk.new w1 24 #[.int .u64 0, .int .u64 0]
    have hs1 : w.heap.size < w1.heap.size := (gR0.out.kept hb1).lt
    replace gR := Lib.hid gR
    replace hb2 := Lib.hid hb2
    replace gA := Lib.hid gA
    clear hb1 gR0 hb0
    go_wp2_with fail
    go_loopw [14] (fun i wr => ∃ k : Nat, k ≤ n ∧ i = .int .i64 k ∧ Hid (val d k < 340282366920938463463374607431768211456) ∧ Hid (Below w.heap.size w wr) ∧ Hid (Blk wr w.heap.size 24 #[.int .u64 0, .int .u64 0]) ∧ Hid (Blk wr w1.heap.size 24 #[.int .u64 (val d k / 18446744073709551616), .int .u64 (val d k % 18446744073709551616)])) (fun i _ => n - (intOf i).toNat)
    case atStart =>
      refine ⟨0, by omega, rfl, ?_, hb2, gR, gA⟩
      exact Lib.hid (by unfold val; omega)
    case round =>
      clear gR gA hb2
      obtain ⟨k, hk, rfl, hv, hb, gR, gA⟩ := hrel
      by_cases hin : k < n
      · have hsz : k < (strF d n).size := by rw [es]; exact hin
        have q1 := strF_at hsz (hd.out k)
        have a1 := hdg.out k hin
        have hnn := (val_nn (k := k) (fun i hi => hdg.out i (by omega))).1
        have eV : V (val d k / 18446744073709551616) (val d k % 18446744073709551616) = val d k := by unfold V; omega
        have hT : tenV (val d k / 18446744073709551616) (val d k % 18446744073709551616) (d k) = val d (k + 1) := by unfold tenV; rw [eV]; rfl
        have hwd : Wd (val d k / 18446744073709551616) ∧ Wd (val d k % 18446744073709551616) := by have := hv.out; unfold Wd; omega
        have hm := Lib.hid (val_mono hdg.out (show k + 1 ≤ n by omega))
        have HT := Lib.hid (fun w => tenfold_all _ _ (d k) hwd.1 hwd.2 a1 w)
        rw [hT] at HT
        clear hT eV hwd
        have pl := gA.out.lt
        have o0 := (gA.out).cell 0
        have o1 := (gA.out).cell 1
        have of0 := (gA.out).frozen 0
        have of1 := (gA.out).frozen 1
        have ol := (gA.out).lt
        simp at o0 o1
        generalize val d k / 18446744073709551616 = vh at *
        generalize val d k % 18446744073709551616 = vl at *
        have hN1 : decide (val d (k + 1) < 340282366920938463463374607431768211456) = true → tfH (val d (k + 1)) = val d (k + 1) / 18446744073709551616 ∧ tfL (val d (k + 1)) = val d (k + 1) % 18446744073709551616 := by
          intro h
          rw [decide_eq_true_eq] at h
          unfold tfH tfL
          rw [if_pos h, if_pos h]
          exact ⟨rfl, rfl⟩
        generalize hok : decide (val d (k + 1) < 340282366920938463463374607431768211456) = ok at *
        generalize tfH (val d (k + 1)) = nh at *
        generalize tfL (val d (k + 1)) = nl at *
        replace hN1 := Lib.hid hN1
        replace hok := Lib.hid hok
        go_wp2_with fail
        go_region_held3 (fun w' => w'.cell? ⟨w1.heap.size, 0, none⟩ = some (.int .u64 vh) ∧ w'.cell? ⟨w1.heap.size, 1, none⟩ = some (.int .u64 vl))
          (first | ((try go_split_ands); refine ⟨?_, ?_⟩ <;> first | assumption | exact keepc (grow_below _ _) (by assumption) | exact keepc (bel_alloc (Below.refl _ _) _) (by assumption) | ((repeat (refine keeps (by dsimp only; omega) ?_)); assumption) | (simp [go_sem]; done) | (apply keepa; (have h9 := grow_size (wr) d1; have h10 : (wr).heap.size ≤ (Grow (wr).drew d1).heap.size := grow_size (wr).drew d1; dsimp only; omega); assumption) | (simp [go_sem, o0, o1]; done)))
          (first | (go_at_call 16; (with_reducible refine (gro (HT.out _)).mono ?_); rintro e w3 ⟨rfl, d1, rfl⟩))
        all_goals (
        have hb2 := hb.out
        have hr2 := gR.out
        have ho2 := gA.out
        have z1 := grow_size wr.drew d1
        have z2 : wr.heap.size ≤ (Grow wr.drew d1).heap.size := z1
        first
          | (refine abs_exit (fun X => Below w.heap.size w X ∧ Blk X w.heap.size 24 #[.int .u64 0, .int .u64 0] ∧ Blk X w1.heap.size 24 #[.int .u64 vh, .int .u64 vl] ∧ Blk X (Grow wr.drew d1).heap.size 24 #[.int .u64 nh, .int .u64 nl]) ?_ ?_
             · refine ⟨?_, ?_, ?_, ?_⟩
               · ((repeat (first | exact Below.refl _ _ | assumption | refine below_drewN ?_ _ | refine bel_grow ?_ _ | refine Below.drew ?_ | refine bel_alloc ?_ _ | refine bel_set ?_ (by first | exact Nat.le_refl _ | (simp; done) | (simp; omega) | omega) _ | refine bel_trans ?_ (by assumption))); done)
               · ((repeat (first | with_reducible assumption | (with_reducible refine Blk.new' ?_; first | with_reducible rfl | (simp; done)) | with_reducible refine Blk.alloc ?_ _ | with_reducible refine Blk.grow ?_ _ | with_reducible refine Blk.drew ?_ | with_reducible refine Blk.drewN ?_ _ | (with_reducible refine Blk.far ?_ (by first | (dsimp only; omega) | (simp; omega)) _) | (with_reducible apply Blk.two) | (with_reducible refine Blk.set' ?_ _ _ ?_) | (with_reducible rfl) | rfl)); done)
               · ((repeat (first | with_reducible assumption | (with_reducible refine Blk.new' ?_; first | with_reducible rfl | (simp; done)) | with_reducible refine Blk.alloc ?_ _ | with_reducible refine Blk.grow ?_ _ | with_reducible refine Blk.drew ?_ | with_reducible refine Blk.drewN ?_ _ | (with_reducible refine Blk.far ?_ (by first | (dsimp only; omega) | (simp; omega)) _) | (with_reducible apply Blk.two) | (with_reducible refine Blk.set' ?_ _ _ ?_) | (with_reducible rfl) | rfl)); done)
               · ((repeat (first | with_reducible assumption | (with_reducible refine Blk.new' ?_; first | with_reducible rfl | (simp; done)) | with_reducible refine Blk.alloc ?_ _ | with_reducible refine Blk.grow ?_ _ | with_reducible refine Blk.drew ?_ | with_reducible refine Blk.drewN ?_ _ | (with_reducible refine Blk.far ?_ (by first | (dsimp only; omega) | (simp; omega)) _) | (with_reducible apply Blk.two) | (with_reducible refine Blk.set' ?_ _ _ ?_) | (with_reducible rfl) | rfl)); done)
             generalize (Grow wr.drew d1).heap.size = g at *)
          | (refine abs_exit (fun X => Below w.heap.size w X ∧ Blk X w.heap.size 24 #[.int .u64 0, .int .u64 0] ∧ Blk X w1.heap.size 24 #[.int .u64 vh, .int .u64 vl] ∧ Blk X wr.heap.size 24 #[.int .u64 nh, .int .u64 nl]) ?_ ?_
             · refine ⟨?_, ?_, ?_, ?_⟩
               · ((repeat (first | exact Below.refl _ _ | assumption | refine below_drewN ?_ _ | refine bel_grow ?_ _ | refine Below.drew ?_ | refine bel_alloc ?_ _ | refine bel_set ?_ (by first | exact Nat.le_refl _ | (simp; done) | (simp; omega) | omega) _ | refine bel_trans ?_ (by assumption))); done)
               · ((repeat (first | with_reducible assumption | (with_reducible refine Blk.new' ?_; first | with_reducible rfl | (simp; done)) | with_reducible refine Blk.alloc ?_ _ | with_reducible refine Blk.grow ?_ _ | with_reducible refine Blk.drew ?_ | with_reducible refine Blk.drewN ?_ _ | (with_reducible refine Blk.far ?_ (by first | (dsimp only; omega) | (simp; omega)) _) | (with_reducible apply Blk.two) | (with_reducible refine Blk.set' ?_ _ _ ?_) | (with_reducible rfl) | rfl)); done)
               · ((repeat (first | with_reducible assumption | (with_reducible refine Blk.new' ?_; first | with_reducible rfl | (simp; done)) | with_reducible refine Blk.alloc ?_ _ | with_reducible refine Blk.grow ?_ _ | with_reducible refine Blk.drew ?_ | with_reducible refine Blk.drewN ?_ _ | (with_reducible refine Blk.far ?_ (by first | (dsimp only; omega) | (simp; omega)) _) | (with_reducible apply Blk.two) | (with_reducible refine Blk.set' ?_ _ _ ?_) | (with_reducible rfl) | rfl)); done)
               · ((repeat (first | with_reducible assumption | (with_reducible refine Blk.new' ?_; first | with_reducible rfl | (simp; done)) | with_reducible refine Blk.alloc ?_ _ | with_reducible refine Blk.grow ?_ _ | with_reducible refine Blk.drew ?_ | with_reducible refine Blk.drewN ?_ _ | (with_reducible refine Blk.far ?_ (by first | (dsimp only; omega) | (simp; omega)) _) | (with_reducible apply Blk.two) | (with_reducible refine Blk.set' ?_ _ _ ?_) | (with_reducible rfl) | rfl)); done)
             generalize wr.heap.size = g at *)
        rintro X ⟨xb, xr, xo, xg⟩
        clear o0 o1 of0 of1 ol pl hb gR gA hb2 hr2 ho2
        have r0 := (xr).cell 0
        have r1 := (xr).cell 1
        have rf0 := (xr).frozen 0
        have rf1 := (xr).frozen 1
        have rl := (xr).lt
        have o0 := (xo).cell 0
        have o1 := (xo).cell 1
        have of0 := (xo).frozen 0
        have of1 := (xo).frozen 1
        have ol := (xo).lt
        have g0 := (xg).cell 0
        have g1 := (xg).cell 1
        have gf0 := (xg).frozen 0
        have gf1 := (xg).frozen 1
        have gl := (xg).lt
        simp at r0 r1 o0 o1 g0 g1
        replace xb := Lib.hid xb
        replace xr := Lib.hid xr
        replace xo := Lib.hid xo
        replace xg := Lib.hid xg
        cases ok
        · have hov : ¬ val d (k + 1) < 340282366920938463463374607431768211456 := by simpa using hok.out
          obtain ⟨f1, f2, f3⟩ := rd_over hr (show ¬ val d n < 340282366920938463463374607431768211456 by have := hm.out; omega)
          replace f1 := Lib.hid f1
          replace f2 := Lib.hid f2
          replace f3 := Lib.hid f3
          have xr2 := Lib.hid (xr.out.two (u := .int .u64 0) (v := .int .u64 0))
          have hb3 : Below w.heap.size w ((X.setCell ⟨w.heap.size, 0, none⟩ (.int .u64 0)).setCell ⟨w.heap.size, 1, none⟩ (.int .u64 0)) := by
            have t := xb.out
            (repeat (first | exact Below.refl _ _ | assumption | refine below_drewN ?_ _ | refine bel_grow ?_ _ | refine Below.drew ?_ | refine bel_alloc ?_ _ | refine bel_set ?_ (by first | exact Nat.le_refl _ | (simp; done) | (simp; omega) | omega) _ | refine bel_trans ?_ (by assumption)))
          replace hb3 := Lib.hid hb3
          clear hov xb xr
          go_wp2_with fail
          generalize (X.setCell ⟨w.heap.size, 0, none⟩ (.int .u64 0)).setCell ⟨w.heap.size, 1, none⟩ (.int .u64 0) = w4 at *
          clear r0 r1 rf0 rf1 rl
          have r0 := (xr2.out).cell 0
          have r1 := (xr2.out).cell 1
          have rf0 := (xr2.out).frozen 0
          have rf1 := (xr2.out).frozen 1
          have rl := (xr2.out).lt
          simp at r0 r1
          refine bodyPost_ret (v := .tuple #[.agg #[.int .u64 0, .int .u64 0], .int .i64 9]) (by simp [results, Tryd.results6, go_sem, r0, r1, rl]) rfl ⟨by rw [f1.out, f2.out, f3.out], hb3.out⟩
        · obtain ⟨e1, e2⟩ := hN1.out rfl
          have hov : val d (k + 1) < 340282366920938463463374607431768211456 := by simpa using hok.out
          replace hov := Lib.hid hov
          replace e1 := Lib.hid e1
          replace e2 := Lib.hid e2
          have xo2 := Lib.hid (xo.out.two (u := .int .u64 nh) (v := .int .u64 nl))
          have xr2 := Lib.hid (xr.out.far (p := ⟨w1.heap.size, 0, none⟩) (by simp; omega) (.int .u64 nh))
          have xr3 := Lib.hid (xr2.out.far (p := ⟨w1.heap.size, 1, none⟩) (by simp; omega) (.int .u64 nl))
          have hb3 : Below w.heap.size w ((X.setCell ⟨w1.heap.size, 0, none⟩ (.int .u64 nh)).setCell ⟨w1.heap.size, 1, none⟩ (.int .u64 nl)) := by
            have t := xb.out
            (repeat (first | exact Below.refl _ _ | assumption | refine below_drewN ?_ _ | refine bel_grow ?_ _ | refine Below.drew ?_ | refine bel_alloc ?_ _ | refine bel_set ?_ (by first | exact Nat.le_refl _ | (simp; done) | (simp; omega) | omega) _ | refine bel_trans ?_ (by assumption)))
          replace hb3 := Lib.hid hb3
          clear xb xr xo xr2
          go_wp2_with fail
          go_roundw
          case rel =>
            refine ⟨k + 1, by omega, by go_num, hov, hb3, xr3, ?_⟩
            rw [← e1.out, ← e2.out]
            exact xo2
          case measure => simp [intOf]; omega)
      · obtain rfl : k = n := by omega
        obtain ⟨e1, e2, e3⟩ := rd_ok hr hv.out
        have pl := gA.out.lt
        have o0 := (gA.out).cell 0
        have o1 := (gA.out).cell 1
        have of0 := (gA.out).frozen 0
        have of1 := (gA.out).frozen 1
        have ol := (gA.out).lt
        have r0 := (gR.out).cell 0
        have r1 := (gR.out).cell 1
        have rf0 := (gR.out).frozen 0
        have rf1 := (gR.out).frozen 1
        have rl := (gR.out).lt
        simp at o0 o1 r0 r1
        replace e1 := Lib.hid e1
        replace e2 := Lib.hid e2
        replace e3 := Lib.hid e3
        clear HR hdg
        have gR2 := Lib.hid (gR.out.two (u := .int .u64 (val d k / 18446744073709551616)) (v := .int .u64 (val d k % 18446744073709551616)))
        generalize val d k / 18446744073709551616 = vh at *
        generalize val d k % 18446744073709551616 = vl at *
        have hb3 : Below w.heap.size w ((wr.setCell ⟨w.heap.size, 0, none⟩ (.int .u64 vh)).setCell ⟨w.heap.size, 1, none⟩ (.int .u64 vl)) := by
          have t := hb.out
          (repeat (first | exact Below.refl _ _ | assumption | refine below_drewN ?_ _ | refine bel_grow ?_ _ | refine Below.drew ?_ | refine bel_alloc ?_ _ | refine bel_set ?_ (by first | exact Nat.le_refl _ | (simp; done) | (simp; omega) | omega) _ | refine bel_trans ?_ (by assumption)))
        replace hb3 := Lib.hid hb3
        go_wp2_with fail
        generalize (wr.setCell ⟨w.heap.size, 0, none⟩ (.int .u64 vh)).setCell ⟨w.heap.size, 1, none⟩ (.int .u64 vl) = w4 at *
        clear r0 r1 rf0 rf1 rl
        have r0 := (gR2.out).cell 0
        have r1 := (gR2.out).cell 1
        have rf0 := (gR2.out).frozen 0
        have rf1 := (gR2.out).frozen 1
        have rl := (gR2.out).lt
        simp at r0 r1
        refine bodyPost_ret (v := .tuple #[.agg #[.int .u64 vh, .int .u64 vl], .int .i64 0]) (by simp [results, Tryd.results6, go_sem, r0, r1, rl]) rfl ⟨by rw [e1.out, e2.out, e3.out], hb3.out⟩
end Go.Proofs.YtmlaehjjeadbeaaDoor
