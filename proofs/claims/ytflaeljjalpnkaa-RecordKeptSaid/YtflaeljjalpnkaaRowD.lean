/-
  Whole balances and rows loaded and stored: one law each.
-/
import Derived.Test.YtflaeljjalpnkaaRowC
namespace Go.Proofs.Ytflaeljjalpnkaa
set_option linter.unusedVariables false
set_option linter.unusedSimpArgs false
open Go.RowKit

theorem load_Balance (ρ : Operand → Value) (dst : Option Tmp) (x : Operand) (t : TypeId) (pos : String) (after : Array Edge) (guard : Option (Nat × Bool)) (w : World) :
    (execOp ρ { dst, op := Op.load 28 x, type := t, pos, after, guard }).run Try.prog w = (loadV Try.prog 28 9 w (ρ x)).andThen fun v w' => .ok (.value v) w' :=
  exec_load_row Try.underlying28 rfl (by kernel_rfl) ρ dst x t pos after guard w
theorem store_Balance (ρ : Operand → Value) (dst : Option Tmp) (p x : Operand) (t : TypeId) (pos : String) (after : Array Edge) (guard : Option (Nat × Bool)) (w : World) :
    (execOp ρ { dst, op := Op.store 28 p x, type := t, pos, after, guard }).run Try.prog w = (storeV Try.prog 28 9 w (ρ p) (ρ x)).andThen fun _ w' => .ok .skip w' :=
  exec_store_row (by kernel_rfl) ρ dst p x t pos after guard w
theorem load_Row (ρ : Operand → Value) (dst : Option Tmp) (x : Operand) (t : TypeId) (pos : String) (after : Array Edge) (guard : Option (Nat × Bool)) (w : World) :
    (execOp ρ { dst, op := Op.load 30 x, type := t, pos, after, guard }).run Try.prog w = (loadV Try.prog 30 10 w (ρ x)).andThen fun v w' => .ok (.value v) w' :=
  exec_load_row Try.underlying30 rfl (by kernel_rfl) ρ dst x t pos after guard w
theorem store_Row (ρ : Operand → Value) (dst : Option Tmp) (p x : Operand) (t : TypeId) (pos : String) (after : Array Edge) (guard : Option (Nat × Bool)) (w : World) :
    (execOp ρ { dst, op := Op.store 30 p x, type := t, pos, after, guard }).run Try.prog w = (storeV Try.prog 30 10 w (ρ p) (ρ x)).andThen fun _ w' => .ok .skip w' :=
  exec_store_row (by kernel_rfl) ρ dst p x t pos after guard w

/-- a row built of a balance and a side -/
def bR (e : Result Next) (w : World) (u v : Value) : Result Next :=
  match u, v with
  | .agg a, .int .u8 s => match a.toList with
    | [a0, a1, a2, a3, a4, a5, a6, a7, a8] => .ok (.value (.agg #[a0, a1, a2, a3, a4, a5, a6, a7, a8, .int .u8 s])) w
    | _ => e
  | _, _ => e
theorem bR_is (e : Result Next) (w : World) (a0 a1 a2 a3 a4 a5 a6 a7 a8 : Value) (s : Int) : bR e w (.agg #[a0, a1, a2, a3, a4, a5, a6, a7, a8]) (.int .u8 s) = .ok (.value (.agg #[a0, a1, a2, a3, a4, a5, a6, a7, a8, .int .u8 s])) w := rfl
theorem build_Row (ρ : Operand → Value) (dst : Option Tmp) (x y : Operand) (t : TypeId) (pos : String) (after : Array Edge) (guard : Option (Nat × Bool)) (w : World) :
    (execOp ρ { dst, op := Op.build 30 #[(0, x), (1, y)], type := t, pos, after, guard }).run Try.prog w = bR (elseB Try.prog ρ { dst, op := Op.build 30 #[(0, x), (1, y)], type := t, pos, after, guard } w) w (ρ x) (ρ y) := by
  have key : ∀ u v, ρ x = u → ρ y = v → (execOp ρ { dst, op := Op.build 30 #[(0, x), (1, y)], type := t, pos, after, guard }).run Try.prog w = bR (elseB Try.prog ρ { dst, op := Op.build 30 #[(0, x), (1, y)], type := t, pos, after, guard } w) w u v := by
    intro u v h1 h2
    unfold bR
    split
    · rename_i a s
      split
      · rename_i e1
        obtain ⟨la⟩ := a
        subst e1
        simp [execOp, go_sem, h1, h2]
      · rfl
    · rfl
  exact key _ _ rfl rfl
end Go.Proofs.Ytflaeljjalpnkaa
