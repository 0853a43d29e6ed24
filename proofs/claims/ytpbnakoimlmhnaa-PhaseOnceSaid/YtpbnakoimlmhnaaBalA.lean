/-
  balance.debits, credits, chosen, the columns, walked.
-/
import Derived.Test.YtpbnakoimlmhnaaRowC
import Derived.Test.YtpbnakoimlmhnaaEq
namespace Go.Proofs.Ytpbnakoimlmhnaa
set_option linter.unusedVariables false
set_option linter.unusedSimpArgs false
open Go.RowKit

theorem load_Cols (ρ : Operand → Value) (dst : Option Tmp) (x : Operand) (t : TypeId) (pos : String) (after : Array Edge) (guard : Option (Nat × Bool)) (w : World) :
    (execOp ρ { dst, op := Op.load 76 x, type := t, pos, after, guard }).run Try.prog w = (loadV Try.prog 76 3 w (ρ x)).andThen fun v w' => .ok (.value v) w' :=
  exec_load_row Try.underlying76 rfl (by kernel_rfl) ρ dst x t pos after guard w
theorem store_Cols (ρ : Operand → Value) (dst : Option Tmp) (p x : Operand) (t : TypeId) (pos : String) (after : Array Edge) (guard : Option (Nat × Bool)) (w : World) :
    (execOp ρ { dst, op := Op.store 76 p x, type := t, pos, after, guard }).run Try.prog w = (storeV Try.prog 76 3 w (ρ p) (ρ x)).andThen fun _ w' => .ok .skip w' :=
  exec_store_row (by kernel_rfl) ρ dst p x t pos after guard w
theorem one_func (f : Fn) (a b : Array Value) : (Value.func f a b).oneCell' = true := rfl
attribute [local go_sem] loadV_ptr storeV_ptr one_func
attribute [local go_sem ↓] load_Cols store_Cols
theorem debits_any (w : World) : Calls Try.prog 40 #[] w fun r w' => r = .returned (.agg #[.func (.func 73) #[] #[], .func (.func 74) #[] #[], .func (.func 75) #[] #[]]) ∧ Below w.heap.size w w' := by
  go_enter Try.func40, Try.ntmps40
  go_wp2
  refine bodyPost_ret (v := .agg #[.func (.func 73) #[] #[], .func (.func 74) #[] #[], .func (.func 75) #[] #[]]) (by simp [results, Try.results40, go_sem]) rfl ⟨rfl, ?_⟩
  (repeat (first | exact Below.refl _ _ | assumption | refine below_drewN ?_ _ | refine bel_grow ?_ _ | refine Below.drew ?_ | refine bel_alloc ?_ _ | refine bel_set ?_ (by first | exact Nat.le_refl _ | (simp; done) | (simp; omega) | omega) _ | refine bel_trans ?_ (by assumption)))
theorem credits_any (w : World) : Calls Try.prog 42 #[] w fun r w' => r = .returned (.agg #[.func (.func 76) #[] #[], .func (.func 75) #[] #[], .func (.func 74) #[] #[]]) ∧ Below w.heap.size w w' := by
  go_enter Try.func42, Try.ntmps42
  go_wp2
  refine bodyPost_ret (v := .agg #[.func (.func 76) #[] #[], .func (.func 75) #[] #[], .func (.func 74) #[] #[]]) (by simp [results, Try.results42, go_sem]) rfl ⟨rfl, ?_⟩
  (repeat (first | exact Below.refl _ _ | assumption | refine below_drewN ?_ _ | refine bel_grow ?_ _ | refine Below.drew ?_ | refine bel_alloc ?_ _ | refine bel_set ?_ (by first | exact Nat.le_refl _ | (simp; done) | (simp; omega) | omega) _ | refine bel_trans ?_ (by assumption)))
theorem chosen_any (f g h : Value) (hf : f.oneCell' = true) (hg : g.oneCell' = true) (hh : h.oneCell' = true) (xi1 xi2 xd1 xd2 xc1 xc2 xm1 xm2 xw1 xw2 xtg xto xlg xcd xfl xst : Int) (b : Bool) (hb : (bits .and .u16 xfl 2 != 0) = b) (w : World) : Calls Try.prog 41 #[.agg #[f, g, h], .agg #[.int .u64 xi1, .int .u64 xi2, .int .u64 xd1, .int .u64 xd2, .int .u64 xc1, .int .u64 xc2, .int .u64 xm1, .int .u64 xm2, .int .u64 xw1, .int .u64 xw2, .int .u64 xtg, .int .u32 xto, .int .u32 xlg, .int .u16 xcd, .int .u16 xfl, .int .u64 xst]] w fun r w' => r = .returned (if b then f else g) ∧ Below w.heap.size w w' := by
  cases b
  all_goals (
    go_enter Try.func41, Try.ntmps41
    go_wp2_with fail
    go_ret
    exact ⟨rfl, by (repeat (first | exact Below.refl _ _ | assumption | refine below_drewN ?_ _ | refine bel_grow ?_ _ | refine Below.drew ?_ | refine bel_alloc ?_ _ | refine bel_set ?_ (by first | exact Nat.le_refl _ | (simp; done) | (simp; omega) | omega) _ | refine bel_trans ?_ (by assumption)))⟩)
theorem debitsPending_any (g k : Nat) (w : World) : Calls Try.prog 73 #[.agg #[.pointer (some ⟨g, k, none⟩)]] w fun r w' => r = .returned (.pointer (some ⟨g, k + 2, none⟩)) ∧ Below w.heap.size w w' := by
  go_enter Try.func73, Try.ntmps73
  go_wp2_with fail
  go_ret
  exact ⟨rfl, by (repeat (first | exact Below.refl _ _ | assumption | refine below_drewN ?_ _ | refine bel_grow ?_ _ | refine Below.drew ?_ | refine bel_alloc ?_ _ | refine bel_set ?_ (by first | exact Nat.le_refl _ | (simp; done) | (simp; omega) | omega) _ | refine bel_trans ?_ (by assumption)))⟩
theorem debitsPosted_any (g k : Nat) (w : World) : Calls Try.prog 74 #[.agg #[.pointer (some ⟨g, k, none⟩)]] w fun r w' => r = .returned (.pointer (some ⟨g, k + 4, none⟩)) ∧ Below w.heap.size w w' := by
  go_enter Try.func74, Try.ntmps74
  go_wp2_with fail
  go_ret
  exact ⟨rfl, by (repeat (first | exact Below.refl _ _ | assumption | refine below_drewN ?_ _ | refine bel_grow ?_ _ | refine Below.drew ?_ | refine bel_alloc ?_ _ | refine bel_set ?_ (by first | exact Nat.le_refl _ | (simp; done) | (simp; omega) | omega) _ | refine bel_trans ?_ (by assumption)))⟩
theorem creditsPending_any (g k : Nat) (w : World) : Calls Try.prog 76 #[.agg #[.pointer (some ⟨g, k, none⟩)]] w fun r w' => r = .returned (.pointer (some ⟨g, k + 6, none⟩)) ∧ Below w.heap.size w w' := by
  go_enter Try.func76, Try.ntmps76
  go_wp2_with fail
  go_ret
  exact ⟨rfl, by (repeat (first | exact Below.refl _ _ | assumption | refine below_drewN ?_ _ | refine bel_grow ?_ _ | refine Below.drew ?_ | refine bel_alloc ?_ _ | refine bel_set ?_ (by first | exact Nat.le_refl _ | (simp; done) | (simp; omega) | omega) _ | refine bel_trans ?_ (by assumption)))⟩
theorem creditsPosted_any (g k : Nat) (w : World) : Calls Try.prog 75 #[.agg #[.pointer (some ⟨g, k, none⟩)]] w fun r w' => r = .returned (.pointer (some ⟨g, k + 8, none⟩)) ∧ Below w.heap.size w w' := by
  go_enter Try.func75, Try.ntmps75
  go_wp2_with fail
  go_ret
  exact ⟨rfl, by (repeat (first | exact Below.refl _ _ | assumption | refine below_drewN ?_ _ | refine bel_grow ?_ _ | refine Below.drew ?_ | refine bel_alloc ?_ _ | refine bel_set ?_ (by first | exact Nat.le_refl _ | (simp; done) | (simp; omega) | omega) _ | refine bel_trans ?_ (by assumption)))⟩
end Go.Proofs.Ytpbnakoimlmhnaa
