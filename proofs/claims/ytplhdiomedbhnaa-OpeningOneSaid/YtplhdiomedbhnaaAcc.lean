/-
  Accounts loaded and stored whole.
-/
import Derived.Test.YtplhdiomedbhnaaRows2
namespace Go.Proofs.Ytplhdiomedbhnaa
set_option linter.unusedVariables false
set_option linter.unusedSimpArgs false
open Go.RowKit

theorem load_Account (ρ : Operand → Value) (dst : Option Tmp) (x : Operand) (t : TypeId) (pos : String) (after : Array Edge) (guard : Option (Nat × Bool)) (w : World) :
    (execOp ρ { dst, op := Op.load 28 x, type := t, pos, after, guard }).run Try.prog w = (loadV Try.prog 28 15 w (ρ x)).andThen fun v w' => .ok (.value v) w' :=
  exec_load_row Try.underlying28 rfl (by kernel_rfl) ρ dst x t pos after guard w
theorem store_Account (ρ : Operand → Value) (dst : Option Tmp) (p x : Operand) (t : TypeId) (pos : String) (after : Array Edge) (guard : Option (Nat × Bool)) (w : World) :
    (execOp ρ { dst, op := Op.store 28 p x, type := t, pos, after, guard }).run Try.prog w = (storeV Try.prog 28 15 w (ρ p) (ρ x)).andThen fun _ w' => .ok .skip w' :=
  exec_store_row (by kernel_rfl) ρ dst p x t pos after guard w
attribute [go_sem ↓] load_Account store_Account
end Go.Proofs.Ytplhdiomedbhnaa
