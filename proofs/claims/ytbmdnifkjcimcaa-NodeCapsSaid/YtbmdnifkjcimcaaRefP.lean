/-
  Two and four bytes as texts (cashbookref06), texts joined: for the seats of nodes.
-/
import Derived.Test.YtbmdnifkjcimcaaNf
namespace Go.Proofs.Ytbmdnifkjcimcaa
set_option linter.unusedVariables false
set_option linter.unusedSimpArgs false
open Go.RowKit

theorem strF_cg {d e : Nat → Int} {n : Nat} (h : ∀ j, j < n → d j = e j) : strF d n = strF e n := by
  unfold strF
  rw [List.map_congr_left (fun i hi => h i (List.mem_range.1 hi))]
theorem Four_any (n : Int) (hn : 0 ≤ n ∧ n < 4294967296) (w : World) : Calls Try.prog 35 #[.int .u32 n] w fun r w' =>
      r = .returned (.string (strF (nb 4 n) 4)) ∧ Below w.heap.size w w' := by
  have hr : (w.alloc (.cells #[.int .u8 (n / 16777216), .int .u8 (n / 65536 % 256), .int .u8 (n / 256 % 256), .int .u8 (n % 256)] 5)).rowIs w.heap.size 5 4 (yV (nb 4 n)) := by
    refine rowIs_of rfl rfl (fun i hi => ?_)
    unfold yV nb
    rcases (by omega : i = 0 ∨ i = 1 ∨ i = 2 ∨ i = 3) with rfl | rfl | rfl | rfl
    · show some (Value.int .u8 _) = some (Value.int .u8 (n / 256 ^ 3 % 256)); congr 2; omega
    · show some (Value.int .u8 _) = some (Value.int .u8 (n / 256 ^ 2 % 256)); congr 2
    · show some (Value.int .u8 _) = some (Value.int .u8 (n / 256 ^ 1 % 256)); congr 2
    · show some (Value.int .u8 _) = some (Value.int .u8 (n / 256 ^ 0 % 256)); congr 2; omega
  have hcv := conv8 (SlIs.row hr (Nat.le_refl 4)) 4
  clear hr
  go_enter Try.func35, Try.ntmps35
  go_wp2
  go_ret
  exact ⟨rfl, (by repeat (first | exact Below.refl _ _ | assumption | refine below_drewN ?_ _ | refine bel_grow ?_ _ | refine Below.drew ?_ | refine bel_alloc ?_ _ | refine bel_set ?_ (by first | exact Nat.le_refl _ | (simp; done) | (simp; omega) | omega) _ | refine bel_trans ?_ (by assumption)))⟩
theorem Two_any (n : Int) (hn : 0 ≤ n ∧ n < 65536) (w : World) : Calls Try.prog 34 #[.int .i64 n] w fun r w' =>
      r = .returned (.string (strF (nb 2 n) 2)) ∧ Below w.heap.size w w' := by
  have hr : (w.alloc (.cells #[.int .u8 (n / 256 % 256), .int .u8 (n % 256)] 5)).rowIs w.heap.size 5 2 (yV (nb 2 n)) := by
    refine rowIs_of rfl rfl (fun i hi => ?_)
    unfold yV nb
    rcases (by omega : i = 0 ∨ i = 1) with rfl | rfl
    · show some (Value.int .u8 _) = some (Value.int .u8 (n / 256 ^ 1 % 256)); congr 2
    · show some (Value.int .u8 _) = some (Value.int .u8 (n / 256 ^ 0 % 256)); congr 2; omega
  have hcv := conv8 (SlIs.row hr (Nat.le_refl 2)) 2
  clear hr
  go_enter Try.func34, Try.ntmps34
  go_wp2
  go_ret
  exact ⟨rfl, (by repeat (first | exact Below.refl _ _ | assumption | refine below_drewN ?_ _ | refine bel_grow ?_ _ | refine Below.drew ?_ | refine bel_alloc ?_ _ | refine bel_set ?_ (by first | exact Nat.le_refl _ | (simp; done) | (simp; omega) | omega) _ | refine bel_trans ?_ (by assumption)))⟩

theorem add_strF {P : Program} (w : World) (d e : Nat → Int) (n m : Nat) (h : n + m ≤ 9223372036854775807) : (Op.stringOp .add (strF d n) (strF e m)).run P w = .ok (.string (strF (cat d n e) (n + m))) w := by
  have h2 := run_string_add_sum (P := P) (w := w) (strF d n) (strF e m) (by rw [strF_size, strF_size]; exact h)
  rw [strF_cat] at h2
  exact h2
end Go.Proofs.Ytbmdnifkjcimcaa
