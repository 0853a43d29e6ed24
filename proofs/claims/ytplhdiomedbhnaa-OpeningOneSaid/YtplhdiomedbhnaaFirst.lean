/-
  The first verdict that applies.
-/
import Derived.Test.YtplhdiomedbhnaaEq
import Derived.Test.YtplhdiomedbhnaaRef1
namespace Go.Proofs.Ytplhdiomedbhnaa
set_option linter.unusedVariables false
set_option linter.unusedSimpArgs false
open Go.RowKit

/-- the first verdict of n whose mark is set; 0: none -/
def firstV (ap : Nat → Bool) (vd : Nat → Int) : Nat → Int
  | 0 => 0
  | n + 1 => if ap 0 then vd 0 else firstV (fun i => ap (i + 1)) (fun i => vd (i + 1)) n
theorem firstV_skip {ap : Nat → Bool} {vd : Nat → Int} : ∀ {k n : Nat}, (∀ j, j < k → ap j = false) → k ≤ n → firstV ap vd n = firstV (fun i => ap (i + k)) (fun i => vd (i + k)) (n - k)
  | 0, n, _, _ => rfl
  | k + 1, n, h, hk => by
    obtain ⟨m, rfl⟩ : ∃ m, n = m + 1 := ⟨n - 1, by omega⟩
    have h0 := h 0 (by omega)
    simp only [firstV, h0, Bool.false_eq_true, if_false]
    rw [firstV_skip (k := k) (fun j hj => h (j + 1) (by omega)) (by omega), show m + 1 - (k + 1) = m - k from by omega]
    simp only [Nat.add_assoc, Nat.add_comm 1 k]
theorem firstV_at {ap : Nat → Bool} {vd : Nat → Int} {k n : Nat} (h : ∀ j, j < k → ap j = false) (hk : k < n) (ha : ap k = true) : firstV ap vd n = vd k := by
  rw [firstV_skip h (by omega)]
  obtain ⟨m, hm⟩ : ∃ m, n - k = m + 1 := ⟨n - k - 1, by omega⟩
  rw [hm]
  simp [firstV, ha]
theorem firstV_none {ap : Nat → Bool} {vd : Nat → Int} {n : Nat} (h : ∀ j, j < n → ap j = false) : firstV ap vd n = 0 := by
  rw [firstV_skip h (Nat.le_refl _), Nat.sub_self]; rfl

set_option maxHeartbeats 1000000 in
theorem first_any (ap : Nat → Bool) (vd : Nat → Int) (n c s : Nat) (w : World) (hs : s < w.heap.size) (hn : n ≤ 1000)
    (ha : ∀ k, k < n → w.cell? ⟨s, k * 2, none⟩ = some (.bool (ap k))) (hv : ∀ k, k < n → w.cell? ⟨s, k * 2 + 1, none⟩ = some (.int .u32 (vd k))) :
    Calls Try.prog 12 #[.slice (some ⟨s, 0, none⟩) n c] w fun r w' => r = .returned (.int .u32 (firstV ap vd n)) ∧ Below w.heap.size w w' := by
  replace ha := Lib.hid ha
  replace hv := Lib.hid hv
  have hw0 : w = Grow w w := grow_of (Below.refl _ _)
  replace hw0 := Lib.hid hw0
  go_enter Try.func12, Try.ntmps12
  go_wp2
  go_loopw [7] (fun i wr => ∃ k : Nat, k ≤ n ∧ i = .int .i64 k ∧ Hid (∀ j, j < k → ap j = false) ∧ ∃ d, wr = Grow w d) (fun i _ => n - (intOf i).toNat)
  case atStart => exact ⟨0, by omega, rfl, fun j h => by omega, w, hw0.out⟩
  case round =>
    obtain ⟨k, hk, rfl, hx, d, rfl⟩ := hrel
    by_cases hlt : k < n
    · have hc := ha.out k hlt
      have hd := hv.out k hlt
      cases hxk : ap k
      · rw [hxk] at hc
        replace hxk := Lib.hid hxk
        go_wp2
        go_roundw
        case rel => exact ⟨k + 1, by omega, by go_num, fun j hj => by by_cases e : j = k; (subst e; exact hxk.out); exact hx.out j (by omega), _, grow_alloc w d _⟩
        case measure => simp [intOf]; omega
      · rw [hxk] at hc
        replace hxk := Lib.hid hxk
        go_wp2
        go_ret
        exact ⟨by rw [firstV_at hx.out hlt hxk.out]; rfl, (by repeat (first | exact Below.refl _ _ | assumption | refine below_drewN ?_ _ | refine bel_grow ?_ _ | refine Below.drew ?_ | refine bel_alloc ?_ _ | refine bel_set ?_ (by first | exact Nat.le_refl _ | (simp; done) | (simp; omega) | omega) _ | refine bel_trans ?_ (by assumption)))⟩
    · obtain rfl : k = n := by omega
      go_wp2
      go_ret
      exact ⟨by rw [firstV_none hx.out]; rfl, (by repeat (first | exact Below.refl _ _ | assumption | refine below_drewN ?_ _ | refine bel_grow ?_ _ | refine Below.drew ?_ | refine bel_alloc ?_ _ | refine bel_set ?_ (by first | exact Nat.le_refl _ | (simp; done) | (simp; omega) | omega) _ | refine bel_trans ?_ (by assumption)))⟩
end Go.Proofs.Ytplhdiomedbhnaa
