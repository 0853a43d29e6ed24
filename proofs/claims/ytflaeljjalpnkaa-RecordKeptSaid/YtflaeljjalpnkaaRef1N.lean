/-
  The number of sixteen digits: the document's, walked.
-/
import Derived.Test.YtflaeljjalpnkaaBase
namespace Go.Proofs.Ytflaeljjalpnkaa
set_option linter.unusedVariables false
set_option linter.unusedSimpArgs false
open Go.RowKit

/-- the number of k digits of 256 from place s on -/
def num (d : Nat → Int) (s : Nat) : Nat → Int
  | 0 => 0
  | k + 1 => num d s k * 256 + d (s + k)
theorem num_lo (d : Nat → Int) (s : Nat) (hd : ∀ i, 0 ≤ d i ∧ d i < 256) : ∀ k, 0 ≤ num d s k
  | 0 => by simp [num]
  | k + 1 => by have := num_lo d s hd k; have := hd (s + k); simp only [num]; omega
theorem num_hi (d : Nat → Int) (s : Nat) (hd : ∀ i, 0 ≤ d i ∧ d i < 256) : ∀ k, num d s k < 256 ^ k
  | 0 => by simp [num]
  | k + 1 => by have := num_hi d s hd k; have := hd (s + k); simp only [num, Int.pow_succ]; omega
theorem num_lt (d : Nat → Int) (s : Nat) (hd : ∀ i, 0 ≤ d i ∧ d i < 256) (k : Nat) (hk : k < 8) : 0 ≤ num d s k ∧ num d s k < 72057594037927936 := by
  refine ⟨num_lo d s hd k, Int.lt_of_lt_of_le (num_hi d s hd k) ?_⟩
  match k, hk with
  | 0, _ | 1, _ | 2, _ | 3, _ | 4, _ | 5, _ | 6, _ | 7, _ => decide

def numW (w : World) (d : Nat → Int) (k n : Nat) : World := ((w.alloc (.cells #[.int .u64 0, .int .u64 0] 24)).alloc (.cells #[.int .u64 (num d 0 k), .int .u64 (num d 8 k)] 24)).drewN n
theorem numW_below (w : World) (d : Nat → Int) (k n : Nat) : Below w.heap.size w (numW w d k n) := below_drewN (((Below.refl _ _).alloc (Nat.le_refl _) _).alloc (by simp) _) n

set_option maxHeartbeats 400000 in
theorem number_any (d : Nat → Int) (hd : ∀ i, 0 ≤ d i ∧ d i < 256) (b o c : Nat) (w : World) (hb : b < w.heap.size)
    (hc : ∀ i, i < 16 → w.cell? ⟨b, o + i, none⟩ = some (.int .i64 (d i))) :
    Calls Try.prog 76 #[.slice (some ⟨b, o, none⟩) 16 c] w fun r w' =>
      r = .returned (.agg #[.int .u64 (num d 0 8), .int .u64 (num d 8 8)]) ∧ Below w.heap.size w w' := by
  have HC := Lib.hid hc
  clear hc
  go_enter Try.func76, Try.ntmps76
  go_wp2
  go_loopw [4] (fun i wr => ∃ k : Nat, k ≤ 8 ∧ i = .int .i64 k ∧ ∃ n, wr = ((w.alloc (.cells #[.int .u64 0, .int .u64 0] 24)).alloc (.cells #[.int .u64 (num d 0 k), .int .u64 (num d 8 k)] 24)).drewN n) (fun i _ => 8 - (intOf i).toNat)
  case atStart => exact ⟨0, by omega, rfl, 0, rfl⟩
  case round =>
    obtain ⟨k, hk, rfl, n, rfl⟩ := hrel
    by_cases hlt : k < 8
    · have h1 := num_lt d 0 hd k hlt
      have h2 := num_lt d 8 hd k hlt
      have h3 := hd k
      have h4 := hd (8 + k)
      have c1 := HC.out k (by omega)
      have c2 := HC.out (8 + k) (by omega)
      go_wp2
      go_region
      go_wp2
      go_region
      go_wp2
      go_roundw
      case rel => exact ⟨k + 1, by omega, by go_num, _, by simp only [num]; rw [Nat.zero_add]⟩
      case measure => simp [intOf]; omega
    · obtain rfl : k = 8 := by omega
      go_wp2
      refine bodyPost_ret (v := .agg #[.int .u64 (num d 0 8), .int .u64 (num d 8 8)]) (by simp [results, Try.results76, go_sem]) rfl ⟨rfl, ?_⟩
      (repeat (first | exact Below.refl _ _ | assumption | refine below_drewN ?_ _ | refine bel_grow ?_ _ | refine Below.drew ?_ | refine bel_alloc ?_ _ | refine bel_set ?_ (by first | exact Nat.le_refl _ | (simp; done) | (simp; omega) | omega) _ | refine bel_trans ?_ (by assumption)))

end Go.Proofs.Ytflaeljjalpnkaa
