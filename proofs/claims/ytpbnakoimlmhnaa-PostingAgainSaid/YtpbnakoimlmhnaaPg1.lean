/-
  The example of layer 19.
-/
import Derived.Test.YtpbnakoimlmhnaaPt1
import Derived.Test.YtpbnakoimlmhnaaPc1
import Derived.Test.YtpbnakoimlmhnaaPf1
import Derived.Test.YtpbnakoimlmhnaaBj1
import Derived.Test.YtpbnakoimlmhnaaBj2
namespace Go.Proofs.Ytpbnakoimlmhnaa
set_option linter.unusedVariables false
set_option linter.unusedSimpArgs false
open Go.RowKit

attribute [local go_sem] loadV_ptr storeV_ptr one_func drew_hs ext_deb ext_cre ext_cols ext_acc
attribute [local go_sem ↓] load_Cols store_Cols load_Transfer store_Transfer load_Parties store_Parties load_Acct store_Acct
theorem build_Pz (ρ : Operand → Value) (dst : Option Tmp) (t : TypeId) (pos : String) (after : Array Edge) (guard : Option (Nat × Bool)) (w : World) :
    (execOp ρ { dst, op := Op.build 32 #[], type := t, pos, after, guard }).run Try.prog w = .ok (.value (.agg #[.int .u64 0, .int .u64 0, .int .u64 0, .int .u64 0, .int .u64 0, .int .u64 0, .int .u64 0, .int .u64 0, .int .u64 0, .int .u64 0, .int .u64 0, .int .u32 0, .int .u16 0, .int .u16 0, .int .u64 0, .int .u64 0, .int .u64 0, .int .u64 0, .int .u64 0, .int .u64 0, .int .u64 0, .int .u64 0, .int .u64 0, .int .u64 0, .int .u64 0, .int .u64 0, .int .u32 0, .int .u16 0, .int .u16 0, .int .u64 0, .bool false, .bool false])) w := by
  simp [execOp, go_sem]
attribute [local go_sem ↓] build_Pz
def bTrD (e : Result Next) (w : World) (v0 v1 : Value) : Result Next :=
  match v0, v1 with
  | .agg a0, .agg a1 => match a0.toList, a1.toList with
    | [c0_0, c0_1], [c1_0, c1_1] => .ok (.value (.agg #[.int .u64 0, .int .u64 0, c0_0, c0_1, c1_0, c1_1, .int .u64 0, .int .u64 0, .int .u64 0, .int .u64 0, .int .u64 0, .int .u32 0, .int .u32 0, .int .u16 0, .int .u16 0, .int .u64 0])) w
    | _, _ => e
  | _, _ => e
theorem bTrD_is (e : Result Next) (w : World) (c0_0 c0_1 c1_0 c1_1 : Value)  : bTrD e w (.agg #[c0_0, c0_1]) (.agg #[c1_0, c1_1]) = .ok (.value (.agg #[.int .u64 0, .int .u64 0, c0_0, c0_1, c1_0, c1_1, .int .u64 0, .int .u64 0, .int .u64 0, .int .u64 0, .int .u64 0, .int .u32 0, .int .u32 0, .int .u16 0, .int .u16 0, .int .u64 0])) w := rfl
theorem build_TrD (ρ : Operand → Value) (dst : Option Tmp) (x0 x1 : Operand) (t : TypeId) (pos : String) (after : Array Edge) (guard : Option (Nat × Bool)) (w : World) :
    (execOp ρ { dst, op := Op.build 28 #[(1, x0), (2, x1)], type := t, pos, after, guard }).run Try.prog w = bTrD (elseB Try.prog ρ { dst, op := Op.build 28 #[(1, x0), (2, x1)], type := t, pos, after, guard } w) w (ρ x0) (ρ x1) := by
  have key : ∀ u0 u1, ρ x0 = u0 → ρ x1 = u1 → (execOp ρ { dst, op := Op.build 28 #[(1, x0), (2, x1)], type := t, pos, after, guard }).run Try.prog w = bTrD (elseB Try.prog ρ { dst, op := Op.build 28 #[(1, x0), (2, x1)], type := t, pos, after, guard } w) w u0 u1 := by
    intro u0 u1 h0 h1
    unfold bTrD
    split
    · split
      · rename_i e0 e1
        have g0 := arr_lit e0
        subst g0
        have g1 := arr_lit e1
        subst g1
        simp [execOp, go_sem, h0, h1]
      · rfl
    · rfl
  exact key _ _ rfl rfl
attribute [local go_sem] bTrD_is bTrF_is
attribute [local go_sem ↓] build_TrD build_TrF
theorem ck19 (w : World) : Calls Try.prog 26 #[.agg #[.int .u64 0, .int .u64 0, .int .u64 0, .int .u64 5, .int .u64 0, .int .u64 5, .int .u64 0, .int .u64 0, .int .u64 0, .int .u64 0, .int .u64 0, .int .u32 0, .int .u32 0, .int .u16 0, .int .u16 0, .int .u64 0], .int .u64 1, .agg #[.int .u64 0, .int .u64 0, .int .u64 0, .int .u64 0, .int .u64 0, .int .u64 0, .int .u64 0, .int .u64 0, .int .u64 0, .int .u64 0, .int .u64 0, .int .u32 0, .int .u16 0, .int .u16 0, .int .u64 0, .int .u64 0, .int .u64 0, .int .u64 0, .int .u64 0, .int .u64 0, .int .u64 0, .int .u64 0, .int .u64 0, .int .u64 0, .int .u64 0, .int .u64 0, .int .u32 0, .int .u16 0, .int .u16 0, .int .u64 0, .bool false, .bool false]] w fun r w' => r = .returned (.tuple #[.int .u32 23, .agg #[.int .u64 0, .int .u64 0]]) ∧ Below w.heap.size w w' := by
  have h := pcheck_of 0 0 0 5 0 5 0 0 0 0 0 0 0 0 0 0 1 0 0 0 0 0 0 0 0 0 0 0 0 0 0 0 0 0 0 0 0 0 0 0 0 0 0 0 0 0 0 0 0 0 23 27 29 _ false false (by decide) (by decide) rfl rfl rfl rfl (fun w => asked_any 0 0 0 5 0 5 0 0 0 0 0 0 0 0 0 0 0 0 0 0 0 0 0 0 0 0 0 0 0 0 0 0 0 0 0 0 0 0 0 0 0 0 0 0 0 0 false false (by unfold Wd; decide) (by unfold Wd; decide) (by unfold Wd; decide) (by unfold Wd; decide) (by unfold Wd; decide) (by unfold Wd; decide) (by unfold Wd; decide) (by unfold Wd; decide) (by unfold Wd; decide) (by unfold Wd; decide) (by unfold Wd; decide) (by unfold Wd; decide) (by unfold Wd; decide) (by unfold Wd; decide) (by unfold Wd; decide) (by unfold Wd; decide) (by unfold Wd; decide) (by unfold Wd; decide) w) (fun w => room_any_false 0 0 0 5 0 5 0 0 0 0 0 0 0 0 0 0 0 0 0 0 0 0 0 0 0 0 0 0 0 0 0 0 0 0 0 0 0 0 0 0 0 0 0 0 0 0 0 0 false false (by unfold Wd; decide) (by unfold Wd; decide) (by unfold Wd; decide) (by unfold Wd; decide) (by unfold Wd; decide) (by unfold Wd; decide) (by unfold Wd; decide) (by unfold Wd; decide) (by unfold Wd; decide) (by unfold Wd; decide) (by unfold Wd; decide) (by unfold Wd; decide) (by unfold Wd; decide) (by unfold Wd; decide) (by unfold Wd; decide) (by unfold Wd; decide) (by unfold Wd; decide) (by unfold Wd; decide) (by decide) w) w
  exact h
theorem fl19 (w : World) : Calls Try.prog 29 #[.agg #[.int .u64 0, .int .u64 0, .int .u64 0, .int .u64 0, .int .u64 0, .int .u64 0, .int .u64 0, .int .u64 0, .int .u64 0, .int .u64 0, .int .u64 0, .int .u32 0, .int .u32 0, .int .u16 0, .int .u16 12, .int .u64 0]] w fun r w' => r = .returned (.int .u32 17) ∧ Below w.heap.size w w' := flags_of 0 0 0 0 0 0 0 0 0 0 0 0 0 0 12 0 true true false (by decide) (by decide) (by decide) w
set_option maxRecDepth 8000 in
set_option maxHeartbeats 8000000 in
theorem fixed19_any (w : World) : Calls Try.prog 28 #[] w fun r w' => r = .returned (.bool true) ∧ Below w.heap.size w w' := by
  have H1 := Lib.hid ck19
  have H2 := Lib.hid fl19
  have hb0 := Below.refl w.heap.size w
  go_enter Try.func28, Try.ntmps28
  replace hb0 := Lib.hid hb0
  go_wp2_with fail
  refine (H1.out _).mono ?_
  rintro e w_1 ⟨rfl, hb_1⟩
  have z_1 := hb_1.size
  try simp at z_1
  have t_ := hb0.out
  have hB_1 := bel_eld (w := w) (X := _) (by first | ((repeat (first | with_reducible exact Below.refl _ _ | with_reducible assumption | (with_reducible refine bel_set ?_ (by first | exact Nat.le_refl _ | (simp; done) | (simp; omega) | omega) _) | with_reducible refine bel_grow ?_ _ | with_reducible refine Below.drew ?_ | with_reducible refine below_drewN ?_ _ | with_reducible refine bel_alloc ?_ _ | with_reducible refine bel_trans ?_ (by assumption))); done) | (repeat (first | exact Below.refl _ _ | assumption | refine below_drewN ?_ _ | refine bel_grow ?_ _ | refine Below.drew ?_ | refine bel_alloc ?_ _ | refine bel_set ?_ (by first | exact Nat.le_refl _ | (simp; done) | (simp; omega) | omega) _ | refine bel_trans ?_ (by assumption)))) hb_1
  clear t_
  clear hb0 hb_1
  replace hB_1 := Lib.hid hB_1
  go_wp2_with fail
  refine (H2.out _).mono ?_
  rintro e w_2 ⟨rfl, hb_2⟩
  have z_2 := hb_2.size
  try simp at z_2
  have t_ := hB_1.out
  have hB_2 := bel_eld (w := w) (X := _) (by first | ((repeat (first | with_reducible exact Below.refl _ _ | with_reducible assumption | (with_reducible refine bel_set ?_ (by first | exact Nat.le_refl _ | (simp; done) | (simp; omega) | omega) _) | with_reducible refine bel_grow ?_ _ | with_reducible refine Below.drew ?_ | with_reducible refine below_drewN ?_ _ | with_reducible refine bel_alloc ?_ _ | with_reducible refine bel_trans ?_ (by assumption))); done) | (repeat (first | exact Below.refl _ _ | assumption | refine below_drewN ?_ _ | refine bel_grow ?_ _ | refine Below.drew ?_ | refine bel_alloc ?_ _ | refine bel_set ?_ (by first | exact Nat.le_refl _ | (simp; done) | (simp; omega) | omega) _ | refine bel_trans ?_ (by assumption)))) hb_2
  clear t_
  clear hB_1 hb_2
  replace hB_2 := Lib.hid hB_2
  go_wp2_with fail
  go_ret
  exact ⟨rfl, by have t := hB_2.out; (repeat (first | with_reducible exact Below.refl _ _ | with_reducible assumption | (with_reducible refine bel_set ?_ (by first | exact Nat.le_refl _ | (simp; done) | (simp; omega) | omega) _) | with_reducible refine bel_grow ?_ _ | with_reducible refine Below.drew ?_ | with_reducible refine below_drewN ?_ _ | with_reducible refine bel_alloc ?_ _ | with_reducible refine bel_trans ?_ (by assumption)))⟩
end Go.Proofs.Ytpbnakoimlmhnaa
