/-
  slices.Reverse of bytes, walked.
-/
import Derived.Test.YtmlaehjjeadbeaaDoorRefA
import Derived.Deep.RegionHeld
namespace Go.Proofs.YtmlaehjjeadbeaaDoor
set_option linter.unusedVariables false
set_option linter.unusedSimpArgs false
open Go.RowKit

/-- n things, the first and last k exchanged -/
def rvs (f : Nat → Value) (n k j : Nat) : Value := if j < k ∨ n ≤ j + k then f (n - 1 - j) else f j
set_option maxHeartbeats 4000000 in
theorem reverse_any (g cap n c : Nat) (f : Nat → Value) (hn : 0 < n) (hcap : n ≤ cap) (hmax : cap ≤ maxLen) (w : World) (hr : w.rowIs g 5 cap f) (hf : ∀ i, i < n → ∃ x, f i = .int .u8 x) : Calls Tryd.prog 14 #[.slice (some ⟨g, 0, none⟩) n c] w fun r w' =>
      r = .returned (.tuple #[]) ∧ (∃ f', w'.rowIs g 5 cap f' ∧ ∀ j, j < n → f' j = f (n - 1 - j)) ∧ (∀ B w0, Below B w0 w → B ≤ g → Below B w0 w') := by
  unfold maxLen at hmax
  replace hr := Lib.hid hr
  replace hf := Lib.hid hf
  go_enter Tryd.func14, Tryd.ntmps14
  go_wp2
  go_loopw [2, 3] (fun i j wr => ∃ k : Nat, 2 * k ≤ n + 1 ∧ i = .int .i64 k ∧ j = .int .i64 ((n : Int) - 1 - k) ∧ Hid (∃ f', wr.rowIs g 5 cap f' ∧ ∀ j, j < n → f' j = rvs f n k j) ∧ Hid (∀ B w0, Below B w0 w → B ≤ g → Below B w0 wr)) (fun i _ _ => n - (intOf i).toNat)
  case atStart => exact ⟨0, by omega, rfl, by simp, ⟨f, hr.out, fun j hj => by unfold rvs; rw [if_neg (by omega)]⟩, fun B w0 h _ => h⟩
  case round =>
    obtain ⟨k, hk, rfl, rfl, hrow, hb⟩ := hrel
    obtain ⟨f1, hr1, hf1⟩ := hrow.out
    replace hr1 := Lib.hid hr1
    replace hf1 := Lib.hid hf1
    clear hrow hr
    by_cases hlt : 2 * k + 1 < n
    · obtain ⟨x, hx⟩ := hf.out k (by omega)
      obtain ⟨y, hy⟩ := hf.out (n - 1 - k) (by omega)
      obtain ⟨m, hm⟩ : ∃ m, m = n - 1 - k := ⟨_, rfl⟩
      have em : (n : Int) - 1 - k = m := by omega
      have c1 := hr1.out.cell (i := k) (by omega)
      have c2 := hr1.out.cell (i := m) (by omega)
      rw [hf1.out k (by omega)] at c1
      rw [hf1.out m (by omega)] at c2
      rw [show rvs f n k k = .int .u8 x by unfold rvs; rw [if_neg (by omega)]; exact hx] at c1
      rw [show rvs f n k m = .int .u8 y by unfold rvs; rw [if_neg (by omega), hm]; exact hy] at c2
      have c3 := hr1.out.frozen k
      have c4 := hr1.out.frozen m
      have c5 := hr1.out.lt
      have hkm : (k : Int) < m := by omega
      have hmn : m < n := by omega
      have hkn : k < n := by omega
      have hkm2 : (k == m) = false := beq_eq_false_iff_ne.2 (by omega)
      replace hm := Lib.hid hm
      rw [em]
      clear em
      go_wp2
      go_region
      go_wp2
      go_roundw
      case rel =>
        have hmo := hm.out
        refine ⟨k + 1, by omega, by go_num, by congr 1; omega, ⟨_, ((hr1.out.set k _).set m _).drew, fun j hj => ?_⟩, fun B w0 h1 h2 => (((hb.out B w0 h1 h2).setCell (p := ⟨g, k, none⟩) h2 _).setCell (p := ⟨g, m, none⟩) h2 _).drew⟩
        by_cases a : j = m
        · rw [if_pos a, ← hx]; unfold rvs; rw [if_pos (by omega)]; congr 1; omega
        · rw [if_neg a]
          by_cases b : j = k
          · rw [if_pos b, ← hy]; unfold rvs; rw [if_pos (by omega)]; congr 1; omega
          · rw [if_neg b, hf1.out j hj]; unfold rvs
            by_cases c : j < k ∨ n ≤ j + k
            · rw [if_pos c, if_pos (by omega)]
            · rw [if_neg c, if_neg (by omega)]
      case measure => simp [intOf]; omega
    · have hge : decide ((k : Int) < (n : Int) - 1 - k) = false := decide_eq_false (by omega)
      go_wp2
      refine bodyPost_end (results_none rfl _ _ _) rfl ⟨rfl, ⟨f1, hr1.out, fun j hj => ?_⟩, hb.out⟩
      rw [hf1.out j hj]
      unfold rvs
      by_cases a : j < k ∨ n ≤ j + k
      · rw [if_pos a]
      · rw [if_neg a]; congr 1; omega
end Go.Proofs.YtmlaehjjeadbeaaDoor
