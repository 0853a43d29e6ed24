/-
  Numbers taken from bytes: the contracts in the form that the walks ask.
-/
import Derived.Test.YtflaeljjalpnkaaTakeB
namespace Go.Proofs.Ytflaeljjalpnkaa
set_option linter.unusedVariables false
set_option linter.unusedSimpArgs false
open Go.RowKit

theorem num_two {e : Nat → Int} (he : ∀ i, 0 ≤ e i ∧ e i < 256) (s : Nat) : 0 ≤ num e s 2 ∧ num e s 2 < 65536 := by
  have := he (s + 0); have := he (s + 1); simp only [num]; omega
theorem num_four {e : Nat → Int} (he : ∀ i, 0 ≤ e i ∧ e i < 256) (s : Nat) : 0 ≤ num e s 4 ∧ num e s 4 < 4294967296 := by
  have := he (s + 0); have := he (s + 1); have := he (s + 2); have := he (s + 3); simp only [num]; omega
theorem num_eight {e : Nat → Int} (he : ∀ i, 0 ≤ e i ∧ e i < 256) (s : Nat) : 0 ≤ num e s 8 ∧ num e s 8 < 18446744073709551616 := by
  have := he (s + 0); have := he (s + 1); have := he (s + 2); have := he (s + 3); have := he (s + 4); have := he (s + 5); have := he (s + 6); have := he (s + 7); simp only [num]; omega

theorem tnum_at (tb : Nat) (W0 : World) (A : Option Addr) (m m2 c k s : Nat) (kI : Int) (hkI : kI = k) (e : Nat → Int) (he : ∀ i, 0 ≤ e i ∧ e i < 256) (hk0 : 0 < k) (hk8 : k ≤ 8) (hm : m = k + m2) (hmc : m ≤ c) (hc : c ≤ maxLen) (w : World)
    (hs : SlIs W0 A m (yV (shf e s))) (hB : Below W0.heap.size W0 w) (ht : w.cell? ⟨tb, 0, none⟩ = some (.slice A m c)) (hf : w.frozen? ⟨tb, 0, none⟩ = false) :
    Calls Try.prog 55 #[.pointer (some ⟨tb, 0, none⟩), .int .i64 kI] w fun r w' => ∃ A2 c2, r = .returned (.int .u64 (num e s k)) ∧ m2 ≤ c2 ∧ c2 ≤ maxLen ∧ SlIs W0 A2 m2 (yV (shf e (s + k))) ∧ w' = w.setCell ⟨tb, 0, none⟩ (.slice A2 m2 c2) := by
  refine (tnum_any tb W0 A m c k kI hkI (shf e s) (shf_lo he s) hk0 hk8 (by omega) hmc hc w hs hB ht hf).mono ?_
  rintro r w' ⟨A2, rfl, h1, rfl⟩
  rw [num_shf, shf_shf, show m - k = m2 by omega] at *
  exact ⟨A2, c - k, rfl, by omega, by unfold maxLen at *; omega, h1, rfl⟩
theorem twide_at (tb : Nat) (W0 : World) (A : Option Addr) (m m2 c s : Nat) (e : Nat → Int) (he : ∀ i, 0 ≤ e i ∧ e i < 256) (hm : m = 16 + m2) (hmc : m ≤ c) (hc : c ≤ maxLen) (w : World)
    (hs : SlIs W0 A m (yV (shf e s))) (hB : Below W0.heap.size W0 w) (hW : W0.heap.size ≤ tb) (ht : w.cell? ⟨tb, 0, none⟩ = some (.slice A m c)) (hf : w.frozen? ⟨tb, 0, none⟩ = false) :
    Calls Try.prog 54 #[.pointer (some ⟨tb, 0, none⟩)] w fun r w' => ∃ A2 c2, r = .returned (.agg #[.int .u64 (num e s 8), .int .u64 (num e (s + 8) 8)]) ∧ m2 ≤ c2 ∧ c2 ≤ maxLen ∧ SlIs W0 A2 m2 (yV (shf e (s + 16))) ∧
      w' = (w.setCell ⟨tb, 0, none⟩ (.slice A2 m2 c2)).alloc (.cells #[.int .u64 (num e s 8), .int .u64 (num e (s + 8) 8)] 24) := by
  refine (twide_any tb W0 A m c (shf e s) (shf_lo he s) (by omega) hmc hc w hs hB hW ht hf).mono ?_
  rintro r w' ⟨A2, rfl, h1, rfl⟩
  rw [num_shf, num_shf', shf_shf, show m - 16 = m2 by omega] at *
  exact ⟨A2, c - 16, rfl, by omega, by unfold maxLen at *; omega, h1, rfl⟩
theorem slis_shf0 {W : World} {A : Option Addr} {m : Nat} {e : Nat → Int} (h : SlIs W A m (yV e)) : SlIs W A m (yV (shf e 0)) := by
  have : shf e 0 = e := by funext j; simp [shf]
  rw [this]; exact h
end Go.Proofs.Ytflaeljjalpnkaa
