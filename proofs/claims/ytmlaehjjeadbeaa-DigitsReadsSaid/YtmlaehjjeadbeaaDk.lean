/-
  The document's form and Read of a text, walked.
-/
import Derived.Test.YtmlaehjjeadbeaaDf
import Derived.Test.YtmlaehjjeadbeaaDj
import Derived.Test.YtmlaehjjeadbeaaRef1
import Derived.Test.YtmlaehjjeadbeaaWideC
namespace Go.Proofs.Ytmlaehjjeadbeaa
set_option linter.unusedVariables false
set_option linter.unusedSimpArgs false
open Go.RowKit

set_option maxHeartbeats 4000000 in
theorem form_any (n : Nat) (d : Nat → Int) (hn : n ≤ maxLen) (hd : ∀ i, 0 ≤ d i ∧ d i < 256) (w : World) : Calls Try.prog 19 #[.string (strF d n)] w fun r w' =>
      r = .returned (.bool (rgt d n)) ∧ Below w.heap.size w w' := by
  unfold maxLen at hn
  have es : (strF d n).size = n := strF_size d n
  replace hd := Lib.hid hd
  by_cases h0 : n = 0
  · subst h0
    have z0 : (strF d 0).toList = [] := (strF_nil d 0).2 rfl
    go_enter Try.func19, Try.ntmps19
    go_wp2
    go_ret
    exact ⟨rfl, by (repeat (first | exact Below.refl _ _ | assumption | refine below_drewN ?_ _ | refine bel_grow ?_ _ | refine Below.drew ?_ | refine bel_alloc ?_ _ | refine bel_set ?_ (by first | exact Nat.le_refl _ | (simp; done) | (simp; omega) | omega) _ | refine bel_trans ?_ (by assumption)))⟩
  have z0 : ¬ (strF d n).toList = [] := fun h => h0 ((strF_nil d n).1 h)
  by_cases hbad : 1 < n ∧ d 0 = 48
  · have f : rgt d n = false := by
      cases q : rgt d n with
      | false => rfl
      | true => have := (rgt_iff.1 q).2.2; omega
    rw [f]
    have hsz : 0 < (strF d n).size := by rw [es]; omega
    have q1 := strF_at hsz (hd.out 0)
    rw [hbad.2] at q1
    have g1 := hbad.1
    go_enter Try.func19, Try.ntmps19
    go_wp2
    go_ret
    exact ⟨rfl, by (repeat (first | exact Below.refl _ _ | assumption | refine below_drewN ?_ _ | refine bel_grow ?_ _ | refine Below.drew ?_ | refine bel_alloc ?_ _ | refine bel_set ?_ (by first | exact Nat.le_refl _ | (simp; done) | (simp; omega) | omega) _ | refine bel_trans ?_ (by assumption)))⟩
  have hgood : (∀ i, i < n → 48 ≤ d i ∧ d i < 58) → rgt d n = true := fun h => rgt_iff.2 ⟨by omega, h, by omega⟩
  replace hgood := Lib.hid hgood
  have hcase : (n = 1) ∨ (1 < n ∧ d 0 ≠ 48) := by omega
  have hsz0 : 0 < (strF d n).size := by rw [es]; omega
  have q0 := strF_at hsz0 (hd.out 0)
  rcases hcase with hc | ⟨hc, hc2⟩
  all_goals (
    first
      | (have c48 : (d 0 == 48) = false := by rw [beq_eq_false_iff_ne]; exact hc2)
      | (have c1n : ¬ (1 : Int) < n := by omega
         replace hc := Lib.hid hc)
    try (have c1m : (1 : Int) < n := by omega)
    have z1 : (strF d n).toList.isEmpty = false := by rw [List.isEmpty_eq_false_iff]; exact z0
    go_enter Try.func19, Try.ntmps19
    go_wp2_with fail
    go_loopw [3] (fun i wr => ∃ k : Nat, k ≤ n ∧ i = .int .i64 k ∧ Hid (∀ j, j < k → 48 ≤ d j ∧ d j < 58) ∧ Hid (Below w.heap.size w wr)) (fun i _ => n - (intOf i).toNat)
    case atStart => exact ⟨0, by omega, rfl, fun j hj => by omega, Below.refl _ _⟩
    case round =>
      obtain ⟨k, hk, rfl, hq, hb⟩ := hrel
      by_cases hin : k < n
      · have hsz : k < (strF d n).size := by rw [es]; exact hin
        have q1 := strF_at hsz (hd.out k)
        have a1 := hd.out k
        by_cases g1 : d k < 48
        · have f := Lib.hid (rgt_bad hin (Or.inl g1))
          have c1 : decide (d k < 48) = true := decide_eq_true g1
          go_wp2
          go_ret
          exact ⟨by rw [f.out]; rfl, by have t := hb.out; (repeat (first | exact Below.refl _ _ | assumption | refine below_drewN ?_ _ | refine bel_grow ?_ _ | refine Below.drew ?_ | refine bel_alloc ?_ _ | refine bel_set ?_ (by first | exact Nat.le_refl _ | (simp; done) | (simp; omega) | omega) _ | refine bel_trans ?_ (by assumption)))⟩
        · by_cases g2 : 57 < d k
          · have f := Lib.hid (rgt_bad hin (Or.inr g2))
            have c1 : decide (d k < 48) = false := decide_eq_false g1
            have c2 : decide (57 < d k) = true := decide_eq_true g2
            go_wp2
            go_ret
            exact ⟨by rw [f.out]; rfl, by have t := hb.out; (repeat (first | exact Below.refl _ _ | assumption | refine below_drewN ?_ _ | refine bel_grow ?_ _ | refine Below.drew ?_ | refine bel_alloc ?_ _ | refine bel_set ?_ (by first | exact Nat.le_refl _ | (simp; done) | (simp; omega) | omega) _ | refine bel_trans ?_ (by assumption)))⟩
          · have c1 : decide (d k < 48) = false := decide_eq_false g1
            have c2 : decide (57 < d k) = false := decide_eq_false g2
            go_wp2
            go_roundw
            case rel =>
              refine ⟨k + 1, by omega, by go_num, ?_, by have t := hb.out; (repeat (first | exact Below.refl _ _ | assumption | refine below_drewN ?_ _ | refine bel_grow ?_ _ | refine Below.drew ?_ | refine bel_alloc ?_ _ | refine bel_set ?_ (by first | exact Nat.le_refl _ | (simp; done) | (simp; omega) | omega) _ | refine bel_trans ?_ (by assumption)))⟩
              intro j hj
              by_cases e : j = k
              · subst e; omega
              · exact hq.out j (by omega)
            case measure => simp [intOf]; omega
      · obtain rfl : k = n := by omega
        have f := Lib.hid (hgood.out hq.out)
        go_wp2
        go_ret
        exact ⟨by rw [f.out]; rfl, hb.out⟩)
end Go.Proofs.Ytmlaehjjeadbeaa
