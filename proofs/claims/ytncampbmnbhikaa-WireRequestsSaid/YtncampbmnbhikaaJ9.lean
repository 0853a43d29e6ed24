/-
  Joined: TakeA TakeB TakeC.
-/
import Derived.Test.YtncampbmnbhikaaJ7
import Derived.Test.YtncampbmnbhikaaJ8
-- TakeA
namespace Go.Proofs.Ytncampbmnbhikaa
set_option linter.unusedVariables false
set_option linter.unusedSimpArgs false
open Go.RowKit

/-- bytes from the k-th on -/
def shf (e : Nat → Int) (k j : Nat) : Int := e (k + j)
theorem shf_lo {e : Nat → Int} (h : ∀ i, 0 ≤ e i ∧ e i < 256) (k i : Nat) : 0 ≤ shf e k i ∧ shf e k i < 256 := h _
theorem shf_shf (e : Nat → Int) (k m : Nat) : shf (shf e k) m = shf e (k + m) := by funext j; simp [shf, Nat.add_assoc]

theorem num_shf (e : Nat → Int) (s : Nat) : ∀ k, num (shf e s) 0 k = num e s k
  | 0 => rfl
  | k + 1 => by simp only [num]; rw [num_shf e s k]; simp [shf]
theorem num_shf' (e : Nat → Int) (s t : Nat) : ∀ k, num (shf e s) t k = num e (s + t) k
  | 0 => rfl
  | k + 1 => by simp only [num]; rw [num_shf' e s t k]; simp [shf, Nat.add_assoc]

set_option maxHeartbeats 2000000 in
theorem tnum_any (tb : Nat) (W0 : World) (A : Option Addr) (m c k : Nat) (kI : Int) (hkI : kI = k) (e : Nat → Int) (he : ∀ i, 0 ≤ e i ∧ e i < 256) (hk0 : 0 < k) (hk8 : k ≤ 8) (hkm : k ≤ m) (hmc : m ≤ c) (hc : c ≤ maxLen) (w : World)
    (hs : SlIs W0 A m (yV e)) (hB : Below W0.heap.size W0 w) (ht : w.cell? ⟨tb, 0, none⟩ = some (.slice A m c)) (hf : w.frozen? ⟨tb, 0, none⟩ = false) :
    Calls Try.prog 59 #[.pointer (some ⟨tb, 0, none⟩), .int .i64 kI] w fun r w' => ∃ A2, r = .returned (.int .u64 (num e 0 k)) ∧ SlIs W0 A2 (m - k) (yV (shf e k)) ∧ w' = w.setCell ⟨tb, 0, none⟩ (.slice A2 (m - k) (c - k)) := by
  subst hkI
  unfold maxLen at hc
  obtain ⟨b, o, rfl, hbl, hcl⟩ := hs (by omega)
  replace hs := Lib.hid hs
  replace hB := Lib.hid hB
  replace hcl := Lib.hid hcl
  replace he := Lib.hid he
  have i1 : (0 : Int) ≤ (k : Int) := by omega
  have i2 : (k : Int) ≤ (c : Int) := by omega
  have i3 : (k : Int) ≤ (m : Int) := by omega
  have i4 : k ≤ c := by omega
  go_enter Try.func59, Try.ntmps59
  go_wp2
  go_loop [5, 15] (fun n i => ∃ j : Nat, j ≤ k ∧ i = .int .i64 j ∧ n = .int .u64 (num e 0 j)) (fun _ i => k - (intOf i).toNat)
  case atStart => exact ⟨0, by omega, rfl, rfl⟩
  case round =>
    obtain ⟨j, hj, rfl, rfl⟩ := hrel
    by_cases hlt : j < k
    · have c0 : w.cell? ⟨b, o + j, none⟩ = some (.int .u8 (e j)) := keepc hB.out (hcl.out j (by omega))
      have l1 := num_lt e 0 he.out j (by omega)
      have l3 := he.out j
      have e1 : bits .or .u64 (num e 0 j * 256) (e j) = num e 0 (j + 1) := by
        rw [or_byte l1 l3]; simp only [num]; rw [Nat.zero_add]
      replace e1 := Lib.hid e1
      go_wp2
      go_round
      case rel => exact ⟨j + 1, by omega, by go_num, by rw [e1.out]⟩
      case measure => simp [intOf]; omega
    · obtain rfl : j = k := by omega
      by_cases hck : c = j
      · subst hck
        obtain rfl : m = c := by omega
        go_wp2
        go_ret
        refine ⟨rfl, some ⟨b, o, none⟩, ?_, by simp⟩
        exact SlIs.nil
      · have i5 : j < c := by omega
        have i6 : (j : Int) < (c : Int) := by omega
        go_wp2
        go_ret
        refine ⟨rfl, some ⟨b, o + j, none⟩, fun hm => ⟨b, o + j, rfl, hbl, fun i hi => ?_⟩, rfl⟩
        rw [Nat.add_assoc, hcl.out (j + i) (by omega)]; rfl
end Go.Proofs.Ytncampbmnbhikaa
-- TakeB
namespace Go.Proofs.Ytncampbmnbhikaa
set_option linter.unusedVariables false
set_option linter.unusedSimpArgs false
open Go.RowKit

theorem setCell_twice (w : World) (a : Addr) (u v : Value) : (w.setCell a u).setCell a v = w.setCell a v := by
  unfold World.setCell
  congr 1
  apply Array.ext_getElem?
  intro i
  simp only [Array.getElem?_modify]
  by_cases h : a.block = i
  · simp only [h, if_true]
    cases w.heap[i]? with
    | none => rfl
    | some o => cases o with
      | cells c t f =>
        simp only [Option.map_some]
        split
        · simp_all
        · simp_all
      | _ => rfl
  · simp [h]

set_option maxRecDepth 8000 in
set_option maxHeartbeats 2000000 in
theorem twide_any (tb : Nat) (W0 : World) (A : Option Addr) (m c : Nat) (e : Nat → Int) (he : ∀ i, 0 ≤ e i ∧ e i < 256) (hkm : 16 ≤ m) (hmc : m ≤ c) (hc : c ≤ maxLen) (w : World)
    (hs : SlIs W0 A m (yV e)) (hB : Below W0.heap.size W0 w) (hW : W0.heap.size ≤ tb) (ht : w.cell? ⟨tb, 0, none⟩ = some (.slice A m c)) (hf : w.frozen? ⟨tb, 0, none⟩ = false) :
    Calls Try.prog 60 #[.pointer (some ⟨tb, 0, none⟩)] w fun r w' => ∃ A2, r = .returned (.agg #[.int .u64 (num e 0 8), .int .u64 (num e 8 8)]) ∧ SlIs W0 A2 (m - 16) (yV (shf e 16)) ∧
      w' = (w.setCell ⟨tb, 0, none⟩ (.slice A2 (m - 16) (c - 16))).alloc (.cells #[.int .u64 (num e 0 8), .int .u64 (num e 8 8)] 42) := by
  have tl := World.block_lt_of_cell? w _ ht
  have tl2 : tb < w.heap.size := tl
  have H1 := Lib.hid (fun w hB ht hf => tnum_any tb W0 A m c 8 8 rfl e he (by omega) (by omega) (by omega) hmc hc w hs hB ht hf)
  go_enter Try.func60, Try.ntmps60
  go_wp2_with fail
  refine (H1.out _ ?_ ?_ ?_).mono ?_
  · (repeat (first | exact Below.refl _ _ | assumption | refine below_drewN ?_ _ | refine bel_grow ?_ _ | refine Below.drew ?_ | refine bel_alloc ?_ _ | refine bel_set ?_ (by first | exact Nat.le_refl _ | (simp; done) | (simp; omega) | omega) _ | refine bel_trans ?_ (by assumption)))
  · simp [go_sem, ht, tl2]
  · simp [go_sem, hf, tl2]
  rintro e1 w1 ⟨A1, rfl, hs1, rfl⟩
  have H2 := Lib.hid (fun w hB ht hf => tnum_any tb W0 A1 (m - 8) (c - 8) 8 8 rfl (shf e 8) (shf_lo he 8) (by omega) (by omega) (by omega) (by omega) (by omega) w hs1 hB ht hf)
  clear H1 hs1
  have hne : tb ≠ w.heap.size := by omega
  go_wp2_with fail
  refine (H2.out _ ?_ ?_ ?_).mono ?_
  · have t1 : Below W0.heap.size W0 (w.setCell ⟨tb, 0, none⟩ (.slice A1 (m - 8) (c - 8))) := Below.setCell hB hW _
    (repeat (first | exact Below.refl _ _ | assumption | refine below_drewN ?_ _ | refine bel_grow ?_ _ | refine Below.drew ?_ | refine bel_alloc ?_ _ | refine bel_set ?_ (by first | exact Nat.le_refl _ | (simp; done) | (simp; omega) | omega) _ | refine bel_trans ?_ (by assumption)))
  · simp [go_sem, ht, tl2]
  · simp [go_sem, hf, tl2]
  rintro e2 w2 ⟨A2, rfl, hs2, rfl⟩
  rw [show num (shf e 8) 0 8 = num e 8 8 from num_shf e 8 8]
  rw [show m - 8 - 8 = m - 16 by omega, show c - 8 - 8 = c - 16 by omega]
  rw [shf_shf, show m - 8 - 8 = m - 16 by omega] at hs2
  clear H2
  go_wp2_with fail
  refine bodyPost_ret (v := .agg #[.int .u64 (num e 0 8), .int .u64 (num e 8 8)]) (by simp [results, Try.results60, go_sem, ht, tl2]) rfl ⟨A2, rfl, hs2, ?_⟩
  rw [setCell_twice]
end Go.Proofs.Ytncampbmnbhikaa
-- TakeC
namespace Go.Proofs.Ytncampbmnbhikaa
set_option linter.unusedVariables false
set_option linter.unusedSimpArgs false
open Go.RowKit

theorem num_two {e : Nat → Int} (he : ∀ i, 0 ≤ e i ∧ e i < 256) (s : Nat) : 0 ≤ num e s 2 ∧ num e s 2 < 65536 := by
  have := he (s + 0); have := he (s + 1); simp only [num]; omega
theorem num_four {e : Nat → Int} (he : ∀ i, 0 ≤ e i ∧ e i < 256) (s : Nat) : 0 ≤ num e s 4 ∧ num e s 4 < 4294967296 := by
  have := he (s + 0); have := he (s + 1); have := he (s + 2); have := he (s + 3); simp only [num]; omega
theorem num_eight {e : Nat → Int} (he : ∀ i, 0 ≤ e i ∧ e i < 256) (s : Nat) : 0 ≤ num e s 8 ∧ num e s 8 < 18446744073709551616 := by
  have := he (s + 0); have := he (s + 1); have := he (s + 2); have := he (s + 3); have := he (s + 4); have := he (s + 5); have := he (s + 6); have := he (s + 7); simp only [num]; omega

theorem tnum_at (tb : Nat) (W0 : World) (A : Option Addr) (m m2 c k s : Nat) (kI : Int) (hkI : kI = k) (e : Nat → Int) (he : ∀ i, 0 ≤ e i ∧ e i < 256) (hk0 : 0 < k) (hk8 : k ≤ 8) (hm : m = k + m2) (hmc : m ≤ c) (hc : c ≤ maxLen) (w : World)
    (hs : SlIs W0 A m (yV (shf e s))) (hB : Below W0.heap.size W0 w) (ht : w.cell? ⟨tb, 0, none⟩ = some (.slice A m c)) (hf : w.frozen? ⟨tb, 0, none⟩ = false) :
    Calls Try.prog 59 #[.pointer (some ⟨tb, 0, none⟩), .int .i64 kI] w fun r w' => ∃ A2 c2, r = .returned (.int .u64 (num e s k)) ∧ m2 ≤ c2 ∧ c2 ≤ maxLen ∧ SlIs W0 A2 m2 (yV (shf e (s + k))) ∧ w' = w.setCell ⟨tb, 0, none⟩ (.slice A2 m2 c2) := by
  refine (tnum_any tb W0 A m c k kI hkI (shf e s) (shf_lo he s) hk0 hk8 (by omega) hmc hc w hs hB ht hf).mono ?_
  rintro r w' ⟨A2, rfl, h1, rfl⟩
  rw [num_shf, shf_shf, show m - k = m2 by omega] at *
  exact ⟨A2, c - k, rfl, by omega, by unfold maxLen at *; omega, h1, rfl⟩
theorem twide_at (tb : Nat) (W0 : World) (A : Option Addr) (m m2 c s : Nat) (e : Nat → Int) (he : ∀ i, 0 ≤ e i ∧ e i < 256) (hm : m = 16 + m2) (hmc : m ≤ c) (hc : c ≤ maxLen) (w : World)
    (hs : SlIs W0 A m (yV (shf e s))) (hB : Below W0.heap.size W0 w) (hW : W0.heap.size ≤ tb) (ht : w.cell? ⟨tb, 0, none⟩ = some (.slice A m c)) (hf : w.frozen? ⟨tb, 0, none⟩ = false) :
    Calls Try.prog 60 #[.pointer (some ⟨tb, 0, none⟩)] w fun r w' => ∃ A2 c2, r = .returned (.agg #[.int .u64 (num e s 8), .int .u64 (num e (s + 8) 8)]) ∧ m2 ≤ c2 ∧ c2 ≤ maxLen ∧ SlIs W0 A2 m2 (yV (shf e (s + 16))) ∧
      w' = (w.setCell ⟨tb, 0, none⟩ (.slice A2 m2 c2)).alloc (.cells #[.int .u64 (num e s 8), .int .u64 (num e (s + 8) 8)] 42) := by
  refine (twide_any tb W0 A m c (shf e s) (shf_lo he s) (by omega) hmc hc w hs hB hW ht hf).mono ?_
  rintro r w' ⟨A2, rfl, h1, rfl⟩
  rw [num_shf, num_shf', shf_shf, show m - 16 = m2 by omega] at *
  exact ⟨A2, c - 16, rfl, by omega, by unfold maxLen at *; omega, h1, rfl⟩
theorem slis_shf0 {W : World} {A : Option Addr} {m : Nat} {e : Nat → Int} (h : SlIs W A m (yV e)) : SlIs W A m (yV (shf e 0)) := by
  have : shf e 0 = e := by funext j; simp [shf]
  rw [this]; exact h
end Go.Proofs.Ytncampbmnbhikaa
