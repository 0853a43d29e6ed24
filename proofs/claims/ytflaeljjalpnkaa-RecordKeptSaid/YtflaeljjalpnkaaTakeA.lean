/-
  Numbers taken from bytes one by one: record.taker, walked.
-/
import Derived.Test.YtflaeljjalpnkaaByS
import Derived.Test.YtflaeljjalpnkaaWideM
namespace Go.Proofs.Ytflaeljjalpnkaa
set_option linter.unusedVariables false
set_option linter.unusedSimpArgs false
open Go.RowKit

/-- bytes from the k-th on -/
def shf (e : Nat → Int) (k j : Nat) : Int := e (k + j)
theorem shf_lo {e : Nat → Int} (h : ∀ i, 0 ≤ e i ∧ e i < 256) (k i : Nat) : 0 ≤ shf e k i ∧ shf e k i < 256 := h _
theorem shf_shf (e : Nat → Int) (k m : Nat) : shf (shf e k) m = shf e (k + m) := by funext j; simp [shf, Nat.add_assoc]

theorem num_shf (e : Nat → Int) (s : Nat) : ∀ k, num (shf e s) 0 k = num e s k
  | 0 => rfl
  | k + 1 => by simp only [num]; rw [num_shf e s k]; simp [shf]
theorem num_shf' (e : Nat → Int) (s t : Nat) : ∀ k, num (shf e s) t k = num e (s + t) k
  | 0 => rfl
  | k + 1 => by simp only [num]; rw [num_shf' e s t k]; simp [shf, Nat.add_assoc]

set_option maxHeartbeats 2000000 in
theorem tnum_any (tb : Nat) (W0 : World) (A : Option Addr) (m c k : Nat) (kI : Int) (hkI : kI = k) (e : Nat → Int) (he : ∀ i, 0 ≤ e i ∧ e i < 256) (hk0 : 0 < k) (hk8 : k ≤ 8) (hkm : k ≤ m) (hmc : m ≤ c) (hc : c ≤ maxLen) (w : World)
    (hs : SlIs W0 A m (yV e)) (hB : Below W0.heap.size W0 w) (ht : w.cell? ⟨tb, 0, none⟩ = some (.slice A m c)) (hf : w.frozen? ⟨tb, 0, none⟩ = false) :
    Calls Try.prog 55 #[.pointer (some ⟨tb, 0, none⟩), .int .i64 kI] w fun r w' => ∃ A2, r = .returned (.int .u64 (num e 0 k)) ∧ SlIs W0 A2 (m - k) (yV (shf e k)) ∧ w' = w.setCell ⟨tb, 0, none⟩ (.slice A2 (m - k) (c - k)) := by
  subst hkI
  unfold maxLen at hc
  obtain ⟨b, o, rfl, hbl, hcl⟩ := hs (by omega)
  replace hs := Lib.hid hs
  replace hB := Lib.hid hB
  replace hcl := Lib.hid hcl
  replace he := Lib.hid he
  have i1 : (0 : Int) ≤ (k : Int) := by omega
  have i2 : (k : Int) ≤ (c : Int) := by omega
  have i3 : (k : Int) ≤ (m : Int) := by omega
  have i4 : k ≤ c := by omega
  go_enter Try.func55, Try.ntmps55
  go_wp2
  go_loop [5, 15] (fun n i => ∃ j : Nat, j ≤ k ∧ i = .int .i64 j ∧ n = .int .u64 (num e 0 j)) (fun _ i => k - (intOf i).toNat)
  case atStart => exact ⟨0, by omega, rfl, rfl⟩
  case round =>
    obtain ⟨j, hj, rfl, rfl⟩ := hrel
    by_cases hlt : j < k
    · have c0 : w.cell? ⟨b, o + j, none⟩ = some (.int .u8 (e j)) := keepc hB.out (hcl.out j (by omega))
      have l1 := num_lt e 0 he.out j (by omega)
      have l3 := he.out j
      have e1 : bits .or .u64 (num e 0 j * 256) (e j) = num e 0 (j + 1) := by
        rw [or_byte l1 l3]; simp only [num]; rw [Nat.zero_add]
      replace e1 := Lib.hid e1
      go_wp2
      go_round
      case rel => exact ⟨j + 1, by omega, by go_num, by rw [e1.out]⟩
      case measure => simp [intOf]; omega
    · obtain rfl : j = k := by omega
      by_cases hck : c = j
      · subst hck
        obtain rfl : m = c := by omega
        go_wp2
        go_ret
        refine ⟨rfl, some ⟨b, o, none⟩, ?_, by simp⟩
        exact SlIs.nil
      · have i5 : j < c := by omega
        have i6 : (j : Int) < (c : Int) := by omega
        go_wp2
        go_ret
        refine ⟨rfl, some ⟨b, o + j, none⟩, fun hm => ⟨b, o + j, rfl, hbl, fun i hi => ?_⟩, rfl⟩
        rw [Nat.add_assoc, hcl.out (j + i) (by omega)]; rfl
end Go.Proofs.Ytflaeljjalpnkaa
