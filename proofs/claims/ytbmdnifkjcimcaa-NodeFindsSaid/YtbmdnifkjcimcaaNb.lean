/-
  node.Caps and the document's Caps, walked.
-/
import Derived.Test.YtbmdnifkjcimcaaNa
import Derived.IntWalk
namespace Go.Proofs.Ytbmdnifkjcimcaa
set_option linter.unusedVariables false
set_option linter.unusedSimpArgs false
open Go.RowKit

def capOk (k v : Int) : Prop := 1 ≤ k ∧ k ≤ 24 ∧ 0 ≤ v ∧ v ≤ 108
theorem cap_no {k v : Int} (h : ¬ capOk k v) : capL k v = 0 ∧ capI k v = 0 := by
  unfold capOk at h
  unfold capL capI
  rw [if_pos (by omega), if_pos (by omega)]
  exact ⟨rfl, rfl⟩
theorem cap_yes {k v : Int} (h : capOk k v) : capL k v = 498 / (k + v) ∧ capI k v = (498 + k) / (4 + k) := by
  unfold capOk at h
  unfold capL capI
  rw [if_neg (by omega), if_neg (by omega)]
  exact ⟨rfl, rfl⟩
/-- on which way it is refused -/
theorem cap_ways {k v : Int} (h : ¬ capOk k v) : (decide (k < 1) = true) ∨ (decide (k < 1) = false ∧ decide (24 < k) = true) ∨ (decide (k < 1) = false ∧ decide (24 < k) = false ∧ decide (v < 0) = true) ∨ (decide (k < 1) = false ∧ decide (24 < k) = false ∧ decide (v < 0) = false ∧ decide (108 < v) = true) := by
  unfold capOk at h
  simp only [decide_eq_true_eq, decide_eq_false_iff_not]
  omega
set_option maxHeartbeats 1000000 in
theorem caps_any (k v : Int) (w : World) : Calls Try.prog 7 #[.int .i64 k, .int .i64 v] w fun r w' => r = .returned (.tuple #[.int .i64 (capL k v), .int .i64 (capI k v)]) ∧ Below w.heap.size w w' := by
  by_cases h : capOk k v
  · obtain ⟨e1, e2⟩ := cap_yes h
    rw [e1, e2]
    obtain ⟨h1, h2, h3, h4⟩ := h
    have d1 : decide (k < 1) = false := decide_eq_false (by omega)
    have d2 : decide (24 < k) = false := decide_eq_false (by omega)
    have d3 : decide (v < 0) = false := decide_eq_false (by omega)
    have d4 : decide (108 < v) = false := decide_eq_false (by omega)
    have n1 : ¬ k + v = 0 := by omega
    have n2 : ¬ 4 + k = 0 := by omega
    go_enter Try.func7, Try.ntmps7
    go_wp2
    first | (with_reducible refine rgrow2 (by kernel_rfl) (by kernel_rfl) ?_) | (refine rgrow (by kernel_rfl) (by kernel_rfl) ?_)
    repeat (go_big_quiet_step ((fail)))
    refine wpQuiet_nil ?_
    intro dr
    go_wp2
    go_ret2
    exact ⟨rfl, by (repeat (first | exact Below.refl _ _ | assumption | refine below_drewN ?_ _ | refine bel_grow ?_ _ | refine Below.drew ?_ | refine bel_alloc ?_ _ | refine bel_set ?_ (by first | exact Nat.le_refl _ | (simp; done) | (simp; omega) | omega) _ | refine bel_trans ?_ (by assumption)))⟩
  · obtain ⟨e1, e2⟩ := cap_no h
    rw [e1, e2]
    rcases cap_ways h with h1 | ⟨h1, h2⟩ | ⟨h1, h2, h3⟩ | ⟨h1, h2, h3, h4⟩
    all_goals (
      clear h e1 e2
      go_enter Try.func7, Try.ntmps7
      go_wp2
      go_ret2
      exact ⟨rfl, by (repeat (first | exact Below.refl _ _ | assumption | refine below_drewN ?_ _ | refine bel_grow ?_ _ | refine Below.drew ?_ | refine bel_alloc ?_ _ | refine bel_set ?_ (by first | exact Nat.le_refl _ | (simp; done) | (simp; omega) | omega) _ | refine bel_trans ?_ (by assumption)))⟩)

/-- counting up to the caps -/
theorem cap_count {s : Int} (hs : 1 ≤ s) (a : Nat) : (2 + ((a : Int) + 1) * s ≤ 500) ↔ (a : Int) + 1 ≤ 498 / s := by
  rw [Int.le_ediv_iff_mul_le (by omega)]
  omega
theorem cap_countI {k : Int} (hk : 1 ≤ k) (b : Nat) : (2 + 4 * ((b : Int) + 1) + k * b ≤ 500) ↔ (b : Int) + 1 ≤ (498 + k) / (4 + k) := by
  have e : ((b : Int) + 1) * (4 + k) = 4 * b + k * b + (4 + k) := by rw [Int.add_mul, Int.one_mul, Int.mul_add, Int.mul_comm (b : Int) 4, Int.mul_comm (b : Int) k]
  rw [Int.le_ediv_iff_mul_le (by omega), e]
  omega
theorem mul_rng {a s : Int} {m p : Int} (h1 : 0 ≤ a ∧ a ≤ m) (h2 : 0 ≤ s ∧ s ≤ p) : 0 ≤ a * s ∧ a * s ≤ m * p :=
  ⟨Int.mul_nonneg h1.1 h2.1, Int.mul_le_mul h1.2 h2.2 h2.1 (by omega)⟩
set_option maxHeartbeats 2000000 in
theorem refcaps_any (k v : Int) (w : World) : Calls Try.prog 8 #[.int .i64 k, .int .i64 v] w fun r w' => r = .returned (.tuple #[.int .i64 (capL k v), .int .i64 (capI k v)]) ∧ Below w.heap.size w w' := by
  by_cases h : capOk k v
  · obtain ⟨e1, e2⟩ := cap_yes h
    rw [e1, e2]
    obtain ⟨h1, h2, h3, h4⟩ := h
    have d1 : decide (k < 1) = false := decide_eq_false (by omega)
    have d2 : decide (24 < k) = false := decide_eq_false (by omega)
    have d3 : decide (v < 0) = false := decide_eq_false (by omega)
    have d4 : decide (108 < v) = false := decide_eq_false (by omega)
    have q1 : 0 ≤ 498 / (k + v) ∧ 498 / (k + v) ≤ 498 := ⟨Int.ediv_nonneg (by omega) (by omega), Int.ediv_le_self _ (by omega)⟩
    have q2 : 1 ≤ (498 + k) / (4 + k) ∧ (498 + k) / (4 + k) ≤ 522 := ⟨by rw [Int.le_ediv_iff_mul_le (by omega)]; omega, Int.le_trans (Int.ediv_le_self _ (by omega)) (by omega)⟩
    have C1 := Lib.hid (fun a => cap_count (s := k + v) (by omega) a)
    have C2 := Lib.hid (fun b => cap_countI (k := k) h1 b)
    generalize 498 / (k + v) = a0 at *
    generalize (498 + k) / (4 + k) = b0 at *
    clear e1 e2
    go_enter Try.func8, Try.ntmps8
    go_wp2
    go_loop [6] (fun i => ∃ a : Nat, (a : Int) ≤ a0 ∧ i = .int .i64 a) (fun i => (a0 - intOf i).toNat)
    case atStart => exact ⟨0, by omega, rfl⟩
    case round =>
      obtain ⟨a, ha, rfl⟩ := hrel
      have m1 := mul_rng (a := (a : Int) + 1) (s := k + v) (m := 499) (p := 132) (by omega) (by omega)
      obtain ⟨m2, m3⟩ := m1
      by_cases hlt : (a : Int) + 1 ≤ a0
      · have hd : decide (2 + ((a : Int) + 1) * (k + v) ≤ 500) = true := decide_eq_true ((C1.out a).2 hlt)
        go_wp2
        go_round
        case rel => exact ⟨a + 1, by omega, by go_num⟩
        case measure => simp [intOf]; omega
      · have hd : decide (2 + ((a : Int) + 1) * (k + v) ≤ 500) = false := decide_eq_false (fun t => hlt ((C1.out a).1 t))
        obtain rfl : a0 = (a : Int) := by omega
        go_wp2
        go_loop [7] (fun i => ∃ b : Nat, 1 ≤ b ∧ (b : Int) ≤ b0 ∧ i = .int .i64 b) (fun i => (b0 - intOf i).toNat)
        case atStart => exact ⟨1, by omega, by omega, rfl⟩
        case round =>
          obtain ⟨b, hb1, hb, rfl⟩ := hrel
          have m1 := mul_rng (a := k) (s := (b : Int)) (m := 24) (p := 522) (by omega) (by omega)
          obtain ⟨m2, m3⟩ := m1
          by_cases hlt2 : (b : Int) + 1 ≤ b0
          · have hd2 : decide (2 + 4 * ((b : Int) + 1) + k * b ≤ 500) = true := decide_eq_true ((C2.out b).2 hlt2)
            go_wp2
            go_round
            case rel => exact ⟨b + 1, by omega, by omega, by go_num⟩
            case measure => simp [intOf]; omega
          · have hd2 : decide (2 + 4 * ((b : Int) + 1) + k * b ≤ 500) = false := decide_eq_false (fun t => hlt2 ((C2.out b).1 t))
            obtain rfl : b0 = (b : Int) := by omega
            go_wp2
            go_ret2
            exact ⟨rfl, by (repeat (first | exact Below.refl _ _ | assumption | refine below_drewN ?_ _ | refine bel_grow ?_ _ | refine Below.drew ?_ | refine bel_alloc ?_ _ | refine bel_set ?_ (by first | exact Nat.le_refl _ | (simp; done) | (simp; omega) | omega) _ | refine bel_trans ?_ (by assumption)))⟩
  · obtain ⟨e1, e2⟩ := cap_no h
    rw [e1, e2]
    rcases cap_ways h with h1 | ⟨h1, h2⟩ | ⟨h1, h2, h3⟩ | ⟨h1, h2, h3, h4⟩
    all_goals (
      clear h e1 e2
      go_enter Try.func8, Try.ntmps8
      go_wp2
      go_ret2
      exact ⟨rfl, by (repeat (first | exact Below.refl _ _ | assumption | refine below_drewN ?_ _ | refine bel_grow ?_ _ | refine Below.drew ?_ | refine bel_alloc ?_ _ | refine bel_set ?_ (by first | exact Nat.le_refl _ | (simp; done) | (simp; omega) | omega) _ | refine bel_trans ?_ (by assumption)))⟩)
end Go.Proofs.Ytbmdnifkjcimcaa
