/-
  DigitsOne's walk (door seat alone).
-/
import Derived.Test.YtmlaehjjeadbeaaDoorDp
namespace Go.Proofs.YtmlaehjjeadbeaaDoor
set_option linter.unusedVariables false
set_option linter.unusedSimpArgs false
open Go.RowKit

set_option maxHeartbeats 8000000 in
theorem digitsOne_any (n : Nat) (d : Nat → Int) (hn : n ≤ maxLen) (hd : ∀ i, 0 ≤ d i ∧ d i < 256) (w : World) (htab : Lib.TabIs Tryd.prog w "internal/strconv.uint64pow10" .u64 Lib.pow10Tab) : Calls Tryd.prog 4 #[.string (strF d n)] w fun r w' =>
      r = .returned (.bool true) ∧ Below w.heap.size w w' := by
  have HX := Lib.hid dfixed_any
  have es : (strF d n).size = n := strF_size d n
  have H1 := Lib.hid (fun w => read_any n d hn hd w)
  have H3 := Lib.hid (fun w => dnumber_any n d hn hd w)
  have hq := rd_cases d n
  have e1 : nbC d n = if drC d n = 0 ∧ drH d n ≠ 0 then 9 else drC d n := rfl
  have e2 : nbL d n = if drC d n = 0 ∧ drH d n = 0 then drL d n else 0 := rfl
  have HT : drC d n = 0 → Hid (∀ w, Calls Tryd.prog 5 #[.agg #[.int .u64 (drH d n), .int .u64 (drL d n)]] w fun r w' => r = .returned (.string (strF d n)) ∧ Below w.heap.size w w') ∧
      (drH d n = 0 → Hid (∀ w, Lib.TabIs Tryd.prog w "internal/strconv.uint64pow10" .u64 Lib.pow10Tab → Calls Tryd.prog 7 #[.int .u64 (drL d n)] w fun r w' => r = .returned (.string (strF d n)) ∧ Below w.heap.size w w')) := by
    intro h0
    rcases hq with h | h | ⟨_, h2, h3, h4, h5, h6⟩
    · omega
    · omega
    · have eN : ((val d n).toNat : Int) = val d n := Int.toNat_of_nonneg h4
      have es2 : strF (dtx (val d n).toNat n) n = strF d n := strF_congr (fun i hi => (rgt_text h6 i hi).symm)
      refine ⟨Lib.hid (fun w => ?_), fun hz => Lib.hid (fun w ht => ?_)⟩
      · have t := text_any (val d n).toNat n (by omega) (rgt_DL h6) w
        rw [eN, ← h2, ← h3, es2] at t
        exact t
      · have t := short_any (val d n).toNat (by omega) w ht
        rw [eN, DL_uniq (ndg_DL (N := (val d n).toNat) (by omega)) (rgt_DL h6), es2, show val d n = drL d n by omega] at t
        exact t
  have hC : drC d n = 0 ∨ (drC d n = 2 ∧ drH d n = 0 ∧ drL d n = 0) ∨ (drC d n = 9 ∧ drH d n = 0 ∧ drL d n = 0) := by omega
  unfold maxLen at hn
  clear hq hd
  generalize strF d n = s at *
  generalize drC d n = c at *
  generalize drH d n = h at *
  generalize drL d n = l at *
  generalize nbC d n = nc at *
  generalize nbL d n = nl at *
  have hb0 := Below.refl w.heap.size w
  by_cases hlong : 200 < n
  · have k1 : decide ((200 : Int) < n) = true := decide_eq_true (by omega)
    go_enter Tryd.func4, Tryd.ntmps4
    go_wp2_with fail
    refine (HX.out _).mono ?_
    rintro r w1 ⟨rfl, hb1⟩
    go_wp2_with fail
    go_ret
    exact ⟨rfl, hb1⟩
  have k1 : decide ((200 : Int) < n) = false := decide_eq_false (by omega)
  rcases hC with rfl | ⟨rfl, rfl, rfl⟩ | ⟨rfl, rfl, rfl⟩
  · obtain ⟨T1, T2⟩ := HT rfl
    clear HT
    by_cases hz : h = 0
    · subst hz
      have T3 := T2 rfl
      simp only [ne_eq, not_true_eq_false, and_false, if_false, and_self, if_true] at e1 e2
      subst e1
      subst e2
      clear T2
      go_enter Tryd.func4, Tryd.ntmps4
      go_wp2_with fail
      refine (H1.out _).mono ?_
      rintro r w1 ⟨rfl, hb1⟩
      go_wp2_with fail
      refine (H3.out _).mono ?_
      rintro r w2 ⟨rfl, hb2⟩
      have gA := (Blk.new w1 24 #[.int .u64 0, .int .u64 nl]).kept hb2
      have hb3 := bel_eld (bel_alloc (bel_eld hb0 hb1) (.cells #[.int .u64 0, .int .u64 nl] 24)) hb2
      have p0 := (gA).cell 0
      have p1 := (gA).cell 1
      have pf0 := (gA).frozen 0
      have pf1 := (gA).frozen 1
      have pl := (gA).lt
      simp at p0 p1
      go_wp2_with fail
      refine (T1.out _).mono ?_
      rintro r w3 ⟨rfl, hb4⟩
      replace gA := gA.kept hb4
      replace hb3 := bel_eld hb3 hb4
      clear p0 p1 pf0 pf1 pl
      go_wp2_with fail
      refine (T3.out _ (tab_below htab hb3)).mono ?_
      rintro r w4 ⟨rfl, hb5⟩
      replace gA := gA.kept hb5
      replace hb3 := bel_eld hb3 hb5
      have p0 := (gA).cell 0
      have p1 := (gA).cell 1
      have pf0 := (gA).frozen 0
      have pf1 := (gA).frozen 1
      have pl := (gA).lt
      simp at p0 p1
      go_wp2_with fail
      refine (HX.out _).mono ?_
      rintro r w5 ⟨rfl, hb6⟩
      replace hb3 := bel_eld hb3 hb6
      replace hb3 := Lib.hid hb3
      clear hb1 hb2 hb4 hb5 hb6 gA p0 p1 pf0 pf1 pl
      go_wp2_with fail
      go_ret
      refine ⟨?_, hb3.out⟩
      first | rfl | (simp; done)
    · rw [if_pos ⟨rfl, hz⟩] at e1
      rw [if_neg (fun q => hz q.2)] at e2
      subst e1
      subst e2
      clear T2
      go_enter Tryd.func4, Tryd.ntmps4
      go_wp2_with fail
      refine (H1.out _).mono ?_
      rintro r w1 ⟨rfl, hb1⟩
      go_wp2_with fail
      refine (H3.out _).mono ?_
      rintro r w2 ⟨rfl, hb2⟩
      have gA := (Blk.new w1 24 #[.int .u64 h, .int .u64 l]).kept hb2
      have hb3 := bel_eld (bel_alloc (bel_eld hb0 hb1) (.cells #[.int .u64 h, .int .u64 l] 24)) hb2
      have p0 := (gA).cell 0
      have p1 := (gA).cell 1
      have pf0 := (gA).frozen 0
      have pf1 := (gA).frozen 1
      have pl := (gA).lt
      simp at p0 p1
      go_wp2_with fail
      refine (T1.out _).mono ?_
      rintro r w3 ⟨rfl, hb4⟩
      replace hb3 := bel_eld hb3 hb4
      clear p0 p1 pf0 pf1 pl gA
      go_wp2_with fail
      refine (HX.out _).mono ?_
      rintro r w5 ⟨rfl, hb6⟩
      replace hb3 := bel_eld hb3 hb6
      replace hb3 := Lib.hid hb3
      clear hb1 hb2 hb4 hb6
      go_wp2_with fail
      go_ret
      refine ⟨?_, hb3.out⟩
      first | rfl | (simp; done)
  all_goals (
    rw [if_neg (by simp)] at e1 e2
    subst e1
    subst e2
    clear HT
    go_enter Tryd.func4, Tryd.ntmps4
    go_wp2_with fail
    refine (H1.out _).mono ?_
    rintro r w1 ⟨rfl, hb1⟩
    go_wp2_with fail
    refine (H3.out _).mono ?_
    rintro r w2 ⟨rfl, hb2⟩
    have gA := (Blk.new w1 24 #[.int .u64 0, .int .u64 0]).kept hb2
    have hb3 := bel_eld (bel_alloc (bel_eld hb0 hb1) (.cells #[.int .u64 0, .int .u64 0] 24)) hb2
    go_wp2_with fail
    refine (HX.out _).mono ?_
    rintro r w3 ⟨rfl, hb4⟩
    have gA2 := gA.kept hb4
    have hb5 := bel_eld hb3 hb4
    have p0 := (gA2).cell 0
    have p1 := (gA2).cell 1
    have pf0 := (gA2).frozen 0
    have pf1 := (gA2).frozen 1
    have pl := (gA2).lt
    simp at p0 p1
    replace hb5 := Lib.hid hb5
    clear hb1 hb2 hb3 hb4 gA gA2
    go_wp2_with fail
    go_ret
    refine ⟨?_, hb5.out⟩
    first | rfl | (simp; done))
end Go.Proofs.YtmlaehjjeadbeaaDoor
