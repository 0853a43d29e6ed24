/-
  key.number, key.Halves, walked.
-/
import Derived.Test.YtflaeljjalpnkaaTakeC
import Derived.Test.YtflaeljjalpnkaaKeyA
namespace Go.Proofs.Ytflaeljjalpnkaa
set_option linter.unusedVariables false
set_option linter.unusedSimpArgs false
open Go.RowKit

set_option maxHeartbeats 2000000 in
theorem knum_any (A : Option Addr) (n c : Nat) (e : Nat → Int) (he : ∀ i, 0 ≤ e i ∧ e i < 256) (h0 : 0 < n) (h8 : n ≤ 8) (w : World) (hs : SlIs w A n (yV e)) :
    Calls Try.prog 74 #[.slice A n c] w fun r w' => r = .returned (.int .u64 (num e 0 n)) ∧ w' = w := by
  obtain ⟨b, o, rfl, hbl, hcl⟩ := hs (by omega)
  replace hcl := Lib.hid hcl
  replace he := Lib.hid he
  clear hs
  go_enter Try.func74, Try.ntmps74
  go_wp2
  go_loop [3, 8] (fun x i => ∃ j : Nat, j ≤ n ∧ i = .int .i64 j ∧ x = .int .u64 (num e 0 j)) (fun _ i => n - (intOf i).toNat)
  case atStart => exact ⟨0, by omega, rfl, rfl⟩
  case round =>
    obtain ⟨j, hj, rfl, rfl⟩ := hrel
    by_cases hlt : j < n
    · have c0 : w.cell? ⟨b, o + j, none⟩ = some (.int .u8 (e j)) := hcl.out j hlt
      have l1 := num_lt e 0 he.out j (by omega)
      have l3 := he.out j
      have e1 : bits .or .u64 (num e 0 j * 256) (e j) = num e 0 (j + 1) := by
        rw [or_byte l1 l3]; simp only [num]; rw [Nat.zero_add]
      replace e1 := Lib.hid e1
      go_wp2
      go_round
      case rel => exact ⟨j + 1, by omega, by go_num, by rw [e1.out]⟩
      case measure => simp [intOf]; omega
    · obtain rfl : j = n := by omega
      go_wp2
      go_ret
      exact ⟨rfl, rfl⟩
theorem knum_b (A : Option Addr) (n c : Nat) (e : Nat → Int) (he : ∀ i, 0 ≤ e i ∧ e i < 256) (h0 : 0 < n) (h8 : n ≤ 8) (w : World) (hs : SlIs w A n (yV e)) :
    Calls Try.prog 74 #[.slice A n c] w fun r w' => r = .returned (.int .u64 (num e 0 n)) ∧ Below w.heap.size w w' := by
  refine (knum_any A n c e he h0 h8 w hs).mono ?_
  rintro r w' ⟨rfl, rfl⟩
  exact ⟨rfl, Below.refl _ _⟩
theorem slis_at {w : World} {b o n : Nat} {e : Nat → Int} (hbl : b < w.heap.size) (hc : ∀ j, j < n → w.cell? ⟨b, o + j, none⟩ = some (yV e j)) (k m : Nat) (h : k + m ≤ n) : SlIs w (some ⟨b, o + k, none⟩) m (yV (shf e k)) :=
  fun _ => ⟨b, o + k, rfl, hbl, fun j hj => by have h1 := hc (k + j) (by omega); rw [← Nat.add_assoc] at h1; exact h1⟩
theorem slis_at0 {w : World} {b o n : Nat} {e : Nat → Int} (hbl : b < w.heap.size) (hc : ∀ j, j < n → w.cell? ⟨b, o + j, none⟩ = some (yV e j)) (m : Nat) (h : m ≤ n) : SlIs w (some ⟨b, o, none⟩) m (yV e) :=
  fun _ => ⟨b, o, rfl, hbl, fun j hj => hc j (by omega)⟩

set_option maxHeartbeats 2000000 in
theorem halves_no (A : Option Addr) (n c : Nat) (hn : n ≤ maxLen) (h : n ≠ 16) (w : World) : Calls Try.prog 67 #[.slice A n c] w fun r w' => r = .returned (.tuple #[.int .u64 0, .int .u64 0, .bool false]) ∧ Below w.heap.size w w' := by
  unfold maxLen at hn
  have h' : ((n : Int) != 16) = true := by rw [bne_iff_ne]; omega
  go_enter Try.func67, Try.ntmps67
  go_wp2
  refine bodyPost_ret (v := .tuple #[.int .u64 0, .int .u64 0, .bool false]) (by simp [results, Try.results67, go_sem]) rfl ⟨rfl, ?_⟩
  (repeat (first | exact Below.refl _ _ | assumption | refine below_drewN ?_ _ | refine bel_grow ?_ _ | refine Below.drew ?_ | refine bel_alloc ?_ _ | refine bel_set ?_ (by first | exact Nat.le_refl _ | (simp; done) | (simp; omega) | omega) _ | refine bel_trans ?_ (by assumption)))
set_option maxHeartbeats 2000000 in
theorem halves_yes (A : Option Addr) (c : Nat) (e : Nat → Int) (he : ∀ i, 0 ≤ e i ∧ e i < 256) (hmc : 16 ≤ c) (hC : c ≤ maxLen) (w : World) (hs : SlIs w A 16 (yV e)) : Calls Try.prog 67 #[.slice A 16 c] w fun r w' => r = .returned (.tuple #[.int .u64 (num e 0 8), .int .u64 (num e 8 8), .bool true]) ∧ Below w.heap.size w w' := by
  unfold maxLen at hC
  obtain ⟨b, o, rfl, hbl, hcl⟩ := hs (by omega)
  have H1 := Lib.hid (fun d => knum_b (some ⟨b, o, none⟩) 8 c e he (by omega) (by omega) (Grow w d) ((slis_at0 hbl hcl 8 (by omega)).below (grow_below w d)))
  have H2 := Lib.hid (fun d => knum_b (some ⟨b, o + 8, none⟩) 8 (c - 8) (shf e 8) (shf_lo he 8) (by omega) (by omega) (Grow w d) ((slis_at hbl hcl 8 8 (by omega)).below (grow_below w d)))
  rw [show num (shf e 8) 0 8 = num e 8 8 from num_shf e 8 8] at H2
  clear hs hcl he
  generalize num e 0 8 = q0 at *
  generalize num e 8 8 = q1 at *
  go_enter Try.func67, Try.ntmps67
  go_wp2_with fail
  first | (with_reducible refine rgrow2 (by kernel_rfl) (by kernel_rfl) ?_) | (refine rgrow (by kernel_rfl) (by kernel_rfl) ?_)
  repeat (go_big_quiet_step (((go_at_call 74; first | (with_reducible exact grow_call (H1.out _)) | (with_reducible exact grow_call (H2.out _))))))
  refine wpQuiet_nil ?_
  intro dr
  go_wp2_with fail
  refine bodyPost_ret (v := .tuple #[.int .u64 q0, .int .u64 q1, .bool true]) (by simp [results, Try.results67, go_sem]) rfl ⟨rfl, ?_⟩
  (repeat (first | exact Below.refl _ _ | assumption | refine below_drewN ?_ _ | refine bel_grow ?_ _ | refine Below.drew ?_ | refine bel_alloc ?_ _ | refine bel_set ?_ (by first | exact Nat.le_refl _ | (simp; done) | (simp; omega) | omega) _ | refine bel_trans ?_ (by assumption)))
end Go.Proofs.Ytflaeljjalpnkaa
