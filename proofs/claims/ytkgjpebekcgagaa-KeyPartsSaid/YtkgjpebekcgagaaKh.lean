/-
  The document's Filled, walked.
-/
import Derived.Test.YtkgjpebekcgagaaKg
namespace Go.Proofs.Ytkgjpebekcgagaa
set_option linter.unusedVariables false
set_option linter.unusedSimpArgs false
open Go.RowKit

theorem fil_self (d : Nat → Int) (n : Nat) (x : Int) : strF d n = strF (fil d n x) n := strF_congr (fun i hi => by unfold fil; rw [if_pos hi])
theorem fil_more (d : Nat → Int) (n k : Nat) (x : Int) (h : n ≤ k) : strF (fil d n x) k ++ strF (fun _ => x) 1 = strF (fil d n x) (k + 1) := by
  rw [strF_cat]
  refine strF_congr (fun i hi => ?_)
  unfold cat
  by_cases e : i < k
  · rw [if_pos e]
  · rw [if_neg e]; unfold fil; rw [if_neg (by omega)]

set_option maxHeartbeats 2000000 in
theorem rfilled_any (n : Nat) (d : Nat → Int) (N x : Int) (hn : n ≤ 1000000) (w : World) : Calls Try.prog 13 #[.string (strF d n), .int .i64 N, .int .u8 x] w fun r w' =>
      r = .returned (.string (strF (fil d n x) (clampK N))) ∧ Below w.heap.size w w' := by
  have hC : (clampK N : Int) = if N < 0 then 0 else if 24 < N then 24 else N := by
    unfold clampK; split
    · rfl
    · split
      · rfl
      · omega
  have hCl := clampK_le N
  generalize clampK N = m at *
  rw [fil_self d n x]
  have cv := conv_one x
  go_enter Try.func13, Try.ntmps13
  rcases (by omega : N < 0 ∨ (0 ≤ N ∧ N ≤ 24) ∨ 24 < N) with h | h | h
  · rw [if_pos h] at hC
    obtain rfl : m = 0 := by omega
    clear hC hCl
    go_wp2_with fail
    go_loopw [7] (fun o wr => ∃ k, n ≤ k ∧ k ≤ n + 24 ∧ (n < k → k ≤ 0) ∧ o = .string (strF (fil d n x) k) ∧ Hid (Below w.heap.size w wr)) (fun o _ => 0 - (match o with | .string s => s.size | _ => 0))
    case atStart => exact ⟨n, Nat.le_refl _, by omega, fun h => by omega, rfl, Below.refl _ _⟩
    case round =>
      obtain ⟨k, h1, h2, h3, rfl, hb⟩ := hrel
      have ek := strF_size (fil d n x) k
      have hz := fil_more d n k x h1
      have hs1 := strF_size (fun _ => x) 1
      replace h3 := Lib.hid h3
      go_wp2
      go_ret
      refine ⟨?_, hb.out⟩
      rfl
  · rw [if_neg (by omega), if_neg (by omega)] at hC
    subst hC
    go_wp2_with fail
    go_loopw [7] (fun o wr => ∃ k, n ≤ k ∧ k ≤ n + 24 ∧ (n < k → k ≤ m) ∧ o = .string (strF (fil d n x) k) ∧ Hid (Below w.heap.size w wr)) (fun o _ => m - (match o with | .string s => s.size | _ => 0))
    case atStart => exact ⟨n, Nat.le_refl _, by omega, fun h => by omega, rfl, Below.refl _ _⟩
    case round =>
      obtain ⟨k, h1, h2, h3, rfl, hb⟩ := hrel
      have ek := strF_size (fil d n x) k
      have hz := fil_more d n k x h1
      have hs1 := strF_size (fun _ => x) 1
      replace h3 := Lib.hid h3
      by_cases hlt : k < m
      · go_wp2
        go_roundw
        case rel => exact ⟨k + 1, by omega, by omega, fun _ => by omega, rfl, by have t := hb.out; show Below _ _ _; (repeat (first | exact Below.refl _ _ | assumption | refine below_drewN ?_ _ | refine bel_grow ?_ _ | refine Below.drew ?_ | refine bel_alloc ?_ _ | refine bel_set ?_ (by first | exact Nat.le_refl _ | (simp; done) | (simp; omega) | omega) _ | refine bel_trans ?_ (by assumption)))⟩
        case measure =>
          have ek2 := strF_size (fil d n x) (k + 1)
          simp only [ek, ek2]
          omega
      · have he : (strF (fil d n x) k).extract 0 m = strF (fil d n x) m := by
          rw [strF_ext (by omega) (by omega)]
          exact strF_congr (fun i hi => by unfold shf; rw [Nat.zero_add])
        go_wp2
        go_ret
        refine ⟨?_, hb.out⟩
        show Ending.returned (Value.string _) = _
        rw [← he]
  · rw [if_neg (by omega), if_pos h] at hC
    obtain rfl : m = 24 := by omega
    clear hC hCl
    go_wp2_with fail
    go_loopw [7] (fun o wr => ∃ k, n ≤ k ∧ k ≤ n + 24 ∧ (n < k → k ≤ 24) ∧ o = .string (strF (fil d n x) k) ∧ Hid (Below w.heap.size w wr)) (fun o _ => 24 - (match o with | .string s => s.size | _ => 0))
    case atStart => exact ⟨n, Nat.le_refl _, by omega, fun h => by omega, rfl, Below.refl _ _⟩
    case round =>
      obtain ⟨k, h1, h2, h3, rfl, hb⟩ := hrel
      have ek := strF_size (fil d n x) k
      have hz := fil_more d n k x h1
      have hs1 := strF_size (fun _ => x) 1
      replace h3 := Lib.hid h3
      by_cases hlt : k < 24
      · go_wp2
        go_roundw
        case rel => exact ⟨k + 1, by omega, by omega, fun _ => by omega, rfl, by have t := hb.out; show Below _ _ _; (repeat (first | exact Below.refl _ _ | assumption | refine below_drewN ?_ _ | refine bel_grow ?_ _ | refine Below.drew ?_ | refine bel_alloc ?_ _ | refine bel_set ?_ (by first | exact Nat.le_refl _ | (simp; done) | (simp; omega) | omega) _ | refine bel_trans ?_ (by assumption)))⟩
        case measure =>
          have ek2 := strF_size (fil d n x) (k + 1)
          simp only [ek, ek2]
          omega
      · have he : (strF (fil d n x) k).extract 0 24 = strF (fil d n x) 24 := by
          rw [strF_ext (by omega) (by omega)]
          exact strF_congr (fun i hi => by unfold shf; rw [Nat.zero_add])
        go_wp2
        go_ret
        refine ⟨?_, hb.out⟩
        show Ending.returned (Value.string _) = _
        rw [← he]
end Go.Proofs.Ytkgjpebekcgagaa
