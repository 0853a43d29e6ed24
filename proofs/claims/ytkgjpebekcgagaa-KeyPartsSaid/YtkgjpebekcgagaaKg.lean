/-
  bytes.Repeat of one byte, key.filled, Low, High, walked.
-/
import Derived.Test.YtkgjpebekcgagaaCpy
import Derived.Test.YtkgjpebekcgagaaMul
import Derived.Test.YtkgjpebekcgagaaKf
namespace Go.Proofs.Ytkgjpebekcgagaa
set_option linter.unusedVariables false
set_option linter.unusedSimpArgs false
open Go.RowKit

theorem info_u8s : (Try.prog.info? 5).map (·.size) = some 1 := by kernel_rfl

set_option maxHeartbeats 2000000 in
theorem repeat_any (b : Nat) (x : Int) (c : Nat) (hc : c ≤ 24) (w : World) (hx : w.cell? ⟨b, 0, none⟩ = some (.int .u8 x)) : Calls Try.prog 39 #[.slice (some ⟨b, 0, none⟩) 1 1, .int .i64 c] w fun r w' =>
      ∃ g cap f, r = .returned (.slice (some ⟨g, 0, none⟩) c c) ∧ w.heap.size ≤ g ∧ c ≤ cap ∧ w'.rowIs g 5 cap f ∧ (∀ j, j < c → f j = .int .u8 x) ∧ Below w.heap.size w w' := by
  by_cases h0 : c = 0
  · subst h0
    go_enter Try.func39, Try.ntmps39
    go_wp2
    go_ret
    refine ⟨_, 0, yV (fun _ => x), rfl, Nat.le_refl _, Nat.le_refl _, rowIs_of rfl rfl (fun i hi => by omega), fun i hi => by omega, ?_⟩
    (repeat (first | exact Below.refl _ _ | assumption | refine below_drewN ?_ _ | refine bel_grow ?_ _ | refine Below.drew ?_ | refine bel_alloc ?_ _ | refine bel_set ?_ (by first | exact Nat.le_refl _ | (simp; done) | (simp; omega) | omega) _ | refine bel_trans ?_ (by assumption)))
  · have HM := fun w => mul_any 1 c (by omega) (by omega) w
    rw [show 1 * c / 18446744073709551616 = 0 by omega, show 1 * c % 18446744073709551616 = c by omega] at HM
    replace HM := Lib.hid HM
    obtain ⟨cap, f, hmk, hcs, hcap, hmax⟩ := mkno_run w c (by omega)
    have hr0 := rowIs_any (w := w) (c := f) (t := 5)
    have hbl := World.block_lt_of_cell? w _ hx
    rw [hcs] at hr0
    replace hmk := Lib.hid hmk
    replace hr0 := Lib.hid hr0
    have hx0 := Lib.hid hx
    replace hcs := Lib.hid hcs
    have hmax2 := Lib.hid hmax
    unfold maxLen at hmax
    have d1 : decide ((c : Int) < 0) = false := decide_eq_false (by omega)
    have d2 : decide ((9223372036854775807 : Int) < c) = false := decide_eq_false (by omega)
    have d3 : decide ((8192 : Int) < c) = false := decide_eq_false (by omega)
    have d4 : ((c : Int) == 0) = false := beq_eq_false_iff_ne.2 (by omega)
    go_enter Try.func39, Try.ntmps39
    go_wp2_with fail
    refine (HM.out _).mono ?_
    rintro e w1 ⟨rfl, rfl⟩
    go_wp2_with fail
    rw [hmk.out, Oper.upon_value]
    have hB := Lib.hid (below_drewN (bel_alloc (Below.refl w1.heap.size w1) (.cells f 5)) 2)
    have hR := Lib.hid (rowIs_drewN hr0.out 2)
    have hX := (hB.out.cell (p := ⟨b, 0, none⟩) hbl).trans hx0.out
    have hX0 := Lib.hid hX
    clear hmk hr0
    obtain ⟨g, hg⟩ : ∃ g, w1.heap.size = g := ⟨_, rfl⟩
    rw [hg] at hR ⊢
    replace hg := Lib.hid hg
    generalize (w1.alloc (.cells f 5)).drewN 2 = W1 at *
    obtain ⟨W2, hcp, hR2, hB2⟩ := run_copy_is (P := Try.prog) 22 22 3 5 (o := 0) (dLen := c) (dCap := c) (m := 1) (sLen := 1) (sCap := 1) (h := fun _ => .int .u8 x) Try.underlying22 info_u8s hR.out (by simp [Nat.min_def]; omega) (by omega) (fun j hj => by obtain rfl : j = 0 := (by omega); exact hX) (fun _ => rfl)
    have hB2' := Lib.hid (hB2 _ _ hB.out (Nat.le_of_eq hg.out))
    replace hR2 := Lib.hid hR2
    clear hB2 hB hR
    go_wp2_with (refine wpList_copy_run _ rfl _ _ 22 22 rfl _ _ rfl rfl hcp ?_)
    clear hcp hX hX0
    go_loopw [10, 11] (fun bp ch wr => ∃ k : Nat, 1 ≤ k ∧ k ≤ c ∧ bp = .int .i64 k ∧ Hid (Below w1.heap.size w1 wr) ∧ Hid (∃ f, wr.rowIs g 5 cap f ∧ ∀ j, j < k → f j = .int .u8 x)) (fun bp _ _ => c - (intOf bp).toNat)
    case atStart => exact ⟨1, Nat.le_refl _, by omega, rfl, hB2'.out, ⟨_, hR2.out, fun j hj => by rw [if_pos (by omega)]⟩⟩
    case round =>
      obtain ⟨k, hk1, hk2, rfl, hb, hrow⟩ := hrel
      obtain ⟨f2, hr, hf⟩ := hrow.out
      replace hr := Lib.hid hr
      replace hf := Lib.hid hf
      clear hrow
      by_cases hlt : k < c
      · obtain ⟨m, hm⟩ : ∃ m, m = Nat.min k (c - k) := ⟨_, rfl⟩
        have hm1 : 1 ≤ m := by rw [hm]; simp [Nat.min_def]; split <;> omega
        have hm2 : m ≤ k := by rw [hm]; exact Nat.min_le_left _ _
        have hm3 : m ≤ c - k := by rw [hm]; exact Nat.min_le_right _ _
        obtain ⟨W3, hcp, hR3, hB3⟩ := run_copy_is (P := Try.prog) (w := wr.drew) 22 22 3 5 (o := k) (dLen := c - k) (dCap := c - k) (m := m) (sLen := k) (sCap := c) (h := fun _ => .int .u8 x) (b := g) (p := 0) Try.underlying22 info_u8s hr.out.drew hm (by omega) (fun j hj => by rw [Nat.zero_add]; exact (hr.out.drew.cell (by omega)).trans (by rw [hf.out j (by omega)])) (fun _ => rfl)
        have hB3' := Lib.hid (hB3 _ _ hb.out.drew (Nat.le_of_eq hg.out))
        replace hR3 := Lib.hid hR3
        replace hm := Lib.hid hm
        clear hB3 hb hr
        go_wp2
        go_region
        go_roundw
        case rel =>
          refine ⟨_, _, _, _, _, _, _, _, _, _, _, _, _, _, _, _, _, ⟨k + m, by omega, by omega, ?_, hB3'.out, ⟨_, hR3.out, fun j hj => ?_⟩⟩, rfl⟩
          · go_num
          by_cases e : j < k
          · rw [if_neg (by omega)]; exact hf.out j e
          · rw [if_pos (by omega)]
        case measure => simp [intOf]; omega
      · obtain rfl : k = c := by omega
        go_wp2
        go_ret
        exact ⟨g, cap, f2, rfl, Nat.le_of_eq hg.out, hcap, hr.out, hf.out, hb.out⟩

/-- a row of m bytes that begins with n bytes d -/
def fil (d : Nat → Int) (n : Nat) (x : Int) (j : Nat) : Int := if j < n then d j else x
/-- how many bytes a row has that is asked for with N -/
def clampK (N : Int) : Nat := if N < 0 then 0 else if 24 < N then 24 else N.toNat
theorem clampK_le (N : Int) : clampK N ≤ 24 := by unfold clampK; split; omega; split; omega; omega

set_option maxHeartbeats 2000000 in
theorem filled_any (A : Option Addr) (n c : Nat) (d : Nat → Int) (N x : Int) (hn : n ≤ 1000000) (w : World) (hs : SlIs w A n (yV d)) : Calls Try.prog 29 #[.slice A n c, .int .i64 N, .int .u8 x] w fun r w' =>
      ∃ g cap f, r = .returned (.slice (some ⟨g, 0, none⟩) (clampK N) (clampK N)) ∧ w.heap.size ≤ g ∧ clampK N ≤ cap ∧ w'.rowIs g 5 cap f ∧ (∀ j, j < clampK N → f j = yV (fil d n x) j) ∧ Below w.heap.size w w' := by
  have HR := fun W h => repeat_any w.heap.size x (clampK N) (clampK_le N) W h
  replace HR := Lib.hid HR
  replace hs := Lib.hid hs
  have hC : (clampK N : Int) = if N < 0 then 0 else if 24 < N then 24 else N := by
    unfold clampK; split
    · rfl
    · split
      · rfl
      · omega
  have hCl := clampK_le N
  have hmm : ∀ X : Int, X = (clampK N : Int) → Value.int IntKind.i64 X = .int .i64 (clampK N) := fun X h => by rw [h]
  generalize clampK N = m at *
  go_enter Try.func29, Try.ntmps29
  rcases (by omega : N < 0 ∨ (0 ≤ N ∧ N ≤ 24) ∨ 24 < N) with h | h | h
  · rw [if_pos h] at hC
    go_wp2_with fail
    refine (HR.out _ (by simp [go_sem])).mono ?_
    rintro r w1 ⟨g, cap, f, rfl, hg, hcap, hr, hf, hb⟩
    have hg2 : w.heap.size ≤ g := by simp at hg; omega
    have hb2 : Below w.heap.size w w1 := bel_trans (bel_alloc (Below.refl _ _) _) hb
    have hr2 := Lib.hid hr
    replace hf := Lib.hid hf
    have hs2 := hs.out.below hb2
    clear HR hb hg hmm hs hr hC h
    have key : ∃ m1 W2, (Builtin.copy_ #[22, 22] 3 #[.slice (some ⟨g, 0, none⟩) m m, .slice A n c]).run Try.prog w1 = .ok (.int .i64 (m1 : Int)) W2 ∧ (∃ f, W2.rowIs g 5 cap f ∧ ∀ j, j < m → f j = yV (fil d n x) j) ∧ Below w.heap.size w W2 := by
      by_cases h0 : Nat.min n m = 0
      · refine ⟨0, w1, run_copy_zero (P := Try.prog) 22 22 3 5 Try.underlying22 info_u8s h0, ⟨f, hr2.out, fun j hj => ?_⟩, hb2⟩
        rw [hf.out j hj]; unfold yV fil; rw [if_neg (by simp only [Nat.min_def] at h0; split at h0 <;> omega)]
      · have hnm : Nat.min n m ≤ n ∧ Nat.min n m ≤ m := ⟨Nat.min_le_left _ _, Nat.min_le_right _ _⟩
        obtain ⟨b, o, rfl, hbl, hcl⟩ := hs2 (by omega)
        obtain ⟨W2, hcp, hR2, hB2⟩ := run_copy_is (P := Try.prog) 22 22 3 5 (o := 0) (dLen := m) (dCap := m) (m := Nat.min n m) (sLen := n) (sCap := c) (h := yV d) (b := b) (p := o) Try.underlying22 info_u8s hr2.out rfl (by omega) (fun j hj => hcl j (by omega)) (fun _ => rfl)
        refine ⟨_, W2, hcp, ⟨_, hR2, fun j hj => ?_⟩, hB2 _ _ hb2 hg2⟩
        by_cases e : j < n
        · rw [if_pos ⟨by omega, by simp only [Nat.min_def]; split <;> omega⟩]; unfold yV fil; rw [if_pos e, Nat.sub_zero]
        · rw [if_neg (by omega), hf.out j hj]; unfold yV fil; rw [if_neg e]
    obtain ⟨m1, W2, hcp, hrow, hB2⟩ := key
    clear hr2 hb2 hs2 hf
    replace hrow := Lib.hid hrow
    replace hB2 := Lib.hid hB2
    go_wp2_with (refine wpList_copy_run _ rfl _ _ 22 22 rfl _ _ rfl rfl hcp ?_)
    go_ret
    obtain ⟨f2, hr3, hf3⟩ := hrow.out
    exact ⟨g, cap, f2, rfl, hg2, hcap, hr3, hf3, hB2.out⟩
  · rw [if_neg (by omega), if_neg (by omega)] at hC
    go_wp2_with fail
    refine (HR.out _ (by simp [go_sem])).mono ?_
    rintro r w1 ⟨g, cap, f, rfl, hg, hcap, hr, hf, hb⟩
    have hg2 : w.heap.size ≤ g := by simp at hg; omega
    have hb2 : Below w.heap.size w w1 := bel_trans (bel_alloc (Below.refl _ _) _) hb
    have hr2 := Lib.hid hr
    replace hf := Lib.hid hf
    have hs2 := hs.out.below hb2
    clear HR hb hg hmm hs hr hC h
    have key : ∃ m1 W2, (Builtin.copy_ #[22, 22] 3 #[.slice (some ⟨g, 0, none⟩) m m, .slice A n c]).run Try.prog w1 = .ok (.int .i64 (m1 : Int)) W2 ∧ (∃ f, W2.rowIs g 5 cap f ∧ ∀ j, j < m → f j = yV (fil d n x) j) ∧ Below w.heap.size w W2 := by
      by_cases h0 : Nat.min n m = 0
      · refine ⟨0, w1, run_copy_zero (P := Try.prog) 22 22 3 5 Try.underlying22 info_u8s h0, ⟨f, hr2.out, fun j hj => ?_⟩, hb2⟩
        rw [hf.out j hj]; unfold yV fil; rw [if_neg (by simp only [Nat.min_def] at h0; split at h0 <;> omega)]
      · have hnm : Nat.min n m ≤ n ∧ Nat.min n m ≤ m := ⟨Nat.min_le_left _ _, Nat.min_le_right _ _⟩
        obtain ⟨b, o, rfl, hbl, hcl⟩ := hs2 (by omega)
        obtain ⟨W2, hcp, hR2, hB2⟩ := run_copy_is (P := Try.prog) 22 22 3 5 (o := 0) (dLen := m) (dCap := m) (m := Nat.min n m) (sLen := n) (sCap := c) (h := yV d) (b := b) (p := o) Try.underlying22 info_u8s hr2.out rfl (by omega) (fun j hj => hcl j (by omega)) (fun _ => rfl)
        refine ⟨_, W2, hcp, ⟨_, hR2, fun j hj => ?_⟩, hB2 _ _ hb2 hg2⟩
        by_cases e : j < n
        · rw [if_pos ⟨by omega, by simp only [Nat.min_def]; split <;> omega⟩]; unfold yV fil; rw [if_pos e, Nat.sub_zero]
        · rw [if_neg (by omega), hf.out j hj]; unfold yV fil; rw [if_neg e]
    obtain ⟨m1, W2, hcp, hrow, hB2⟩ := key
    clear hr2 hb2 hs2 hf
    replace hrow := Lib.hid hrow
    replace hB2 := Lib.hid hB2
    go_wp2_with (refine wpList_copy_run _ rfl _ _ 22 22 rfl _ _ rfl rfl hcp ?_)
    go_ret
    obtain ⟨f2, hr3, hf3⟩ := hrow.out
    exact ⟨g, cap, f2, rfl, hg2, hcap, hr3, hf3, hB2.out⟩
  · rw [if_neg (by omega), if_pos h] at hC
    go_wp2_with fail
    refine (HR.out _ (by simp [go_sem])).mono ?_
    rintro r w1 ⟨g, cap, f, rfl, hg, hcap, hr, hf, hb⟩
    have hg2 : w.heap.size ≤ g := by simp at hg; omega
    have hb2 : Below w.heap.size w w1 := bel_trans (bel_alloc (Below.refl _ _) _) hb
    have hr2 := Lib.hid hr
    replace hf := Lib.hid hf
    have hs2 := hs.out.below hb2
    clear HR hb hg hmm hs hr hC h
    have key : ∃ m1 W2, (Builtin.copy_ #[22, 22] 3 #[.slice (some ⟨g, 0, none⟩) m m, .slice A n c]).run Try.prog w1 = .ok (.int .i64 (m1 : Int)) W2 ∧ (∃ f, W2.rowIs g 5 cap f ∧ ∀ j, j < m → f j = yV (fil d n x) j) ∧ Below w.heap.size w W2 := by
      by_cases h0 : Nat.min n m = 0
      · refine ⟨0, w1, run_copy_zero (P := Try.prog) 22 22 3 5 Try.underlying22 info_u8s h0, ⟨f, hr2.out, fun j hj => ?_⟩, hb2⟩
        rw [hf.out j hj]; unfold yV fil; rw [if_neg (by simp only [Nat.min_def] at h0; split at h0 <;> omega)]
      · have hnm : Nat.min n m ≤ n ∧ Nat.min n m ≤ m := ⟨Nat.min_le_left _ _, Nat.min_le_right _ _⟩
        obtain ⟨b, o, rfl, hbl, hcl⟩ := hs2 (by omega)
        obtain ⟨W2, hcp, hR2, hB2⟩ := run_copy_is (P := Try.prog) 22 22 3 5 (o := 0) (dLen := m) (dCap := m) (m := Nat.min n m) (sLen := n) (sCap := c) (h := yV d) (b := b) (p := o) Try.underlying22 info_u8s hr2.out rfl (by omega) (fun j hj => hcl j (by omega)) (fun _ => rfl)
        refine ⟨_, W2, hcp, ⟨_, hR2, fun j hj => ?_⟩, hB2 _ _ hb2 hg2⟩
        by_cases e : j < n
        · rw [if_pos ⟨by omega, by simp only [Nat.min_def]; split <;> omega⟩]; unfold yV fil; rw [if_pos e, Nat.sub_zero]
        · rw [if_neg (by omega), hf.out j hj]; unfold yV fil; rw [if_neg e]
    obtain ⟨m1, W2, hcp, hrow, hB2⟩ := key
    clear hr2 hb2 hs2 hf
    replace hrow := Lib.hid hrow
    replace hB2 := Lib.hid hB2
    go_wp2_with (refine wpList_copy_run _ rfl _ _ 22 22 rfl _ _ rfl rfl hcp ?_)
    go_ret
    obtain ⟨f2, hr3, hf3⟩ := hrow.out
    exact ⟨g, cap, f2, rfl, hg2, hcap, hr3, hf3, hB2.out⟩

theorem low_any (A : Option Addr) (n c : Nat) (d : Nat → Int) (N : Int) (hn : n ≤ 1000000) (w : World) (hs : SlIs w A n (yV d)) : Calls Try.prog 12 #[.slice A n c, .int .i64 N] w fun r w' =>
      ∃ g cap f, r = .returned (.slice (some ⟨g, 0, none⟩) (clampK N) (clampK N)) ∧ w.heap.size ≤ g ∧ clampK N ≤ cap ∧ w'.rowIs g 5 cap f ∧ (∀ j, j < clampK N → f j = yV (fil d n 0) j) ∧ Below w.heap.size w w' := by
  have H := Lib.hid (filled_any A n c d N 0 hn w hs)
  clear hs hn
  go_enter Try.func12, Try.ntmps12
  go_wp2_with fail
  refine H.out.mono ?_
  rintro r w' ⟨g, cap, f, rfl, h⟩
  replace h := Lib.hid h
  go_wp2_with fail
  go_ret
  exact ⟨g, cap, f, rfl, h.out⟩
theorem high_any (A : Option Addr) (n c : Nat) (d : Nat → Int) (N : Int) (hn : n ≤ 1000000) (w : World) (hs : SlIs w A n (yV d)) : Calls Try.prog 14 #[.slice A n c, .int .i64 N] w fun r w' =>
      ∃ g cap f, r = .returned (.slice (some ⟨g, 0, none⟩) (clampK N) (clampK N)) ∧ w.heap.size ≤ g ∧ clampK N ≤ cap ∧ w'.rowIs g 5 cap f ∧ (∀ j, j < clampK N → f j = yV (fil d n 255) j) ∧ Below w.heap.size w w' := by
  have H := Lib.hid (filled_any A n c d N 255 hn w hs)
  clear hs hn
  go_enter Try.func14, Try.ntmps14
  go_wp2_with fail
  refine H.out.mono ?_
  rintro r w' ⟨g, cap, f, rfl, h⟩
  replace h := Lib.hid h
  go_wp2_with fail
  go_ret
  exact ⟨g, cap, f, rfl, h.out⟩
end Go.Proofs.Ytkgjpebekcgagaa
