/-
  What is known of a world is kept; laws of the great structs.
-/
import Derived.Test.YtpbnakoimlmhnaaBalA
namespace Go.Proofs.Ytpbnakoimlmhnaa
set_option linter.unusedVariables false
set_option linter.unusedSimpArgs false
open Go.RowKit

theorem keepal {W : World} {p : Addr} {v : Value} {o : Obj} (h : W.cell? p = some v) : (W.alloc o).cell? p = some v := by
  rw [World.cell?_alloc_lt W o p (World.block_lt_of_cell? W p h)]; exact h
theorem rowAt_lt {W : World} {n : Nat} {cs : Array Value} (h : rowAt W n = some cs) : n < W.heap.size := by
  rcases Nat.lt_or_ge n W.heap.size with hlt | hge
  · exact hlt
  · unfold rowAt at h; rw [Array.getElem?_eq_none hge] at h; cases h
theorem keepral {W : World} {n : Nat} {cs : Array Value} {o : Obj} (h : rowAt W n = some cs) : rowAt (W.alloc o) n = some cs := (rowAt_alloc_past W o n (rowAt_lt h)).trans h
theorem keeprc {W w1 : World} (hb : Below W.heap.size W w1) {n : Nat} {cs : Array Value} (h : rowAt W n = some cs) : rowAt w1 n = some cs := (rowAt_of (hb.block n (rowAt_lt h))).trans h
theorem keepz {W w1 : World} (hb : Below W.heap.size W w1) {p : Addr} (hp : p.block < W.heap.size) (h : W.frozen? p = false) : w1.frozen? p = false := by rw [hb.frozen hp]; exact h
theorem ext_deb (v0 v1 v2 v3 v4 v5 v6 v7 v8 v9 v10 v11 v12 v13 v14 v15 v16 v17 v18 v19 v20 v21 v22 v23 v24 v25 v26 v27 v28 v29 v30 v31 : Value) : #[v0, v1, v2, v3, v4, v5, v6, v7, v8, v9, v10, v11, v12, v13, v14, v15, v16, v17, v18, v19, v20, v21, v22, v23, v24, v25, v26, v27, v28, v29, v30, v31].extract 0 15 = #[v0, v1, v2, v3, v4, v5, v6, v7, v8, v9, v10, v11, v12, v13, v14] := rfl
theorem ext_cre (v0 v1 v2 v3 v4 v5 v6 v7 v8 v9 v10 v11 v12 v13 v14 v15 v16 v17 v18 v19 v20 v21 v22 v23 v24 v25 v26 v27 v28 v29 v30 v31 : Value) : #[v0, v1, v2, v3, v4, v5, v6, v7, v8, v9, v10, v11, v12, v13, v14, v15, v16, v17, v18, v19, v20, v21, v22, v23, v24, v25, v26, v27, v28, v29, v30, v31].extract 15 30 = #[v15, v16, v17, v18, v19, v20, v21, v22, v23, v24, v25, v26, v27, v28, v29] := rfl
theorem ext_cols (v0 v1 v2 : Value) : #[v0, v1, v2].extract 0 3 = #[v0, v1, v2] := rfl
theorem ext_acc (v0 v1 v2 v3 v4 v5 v6 v7 v8 v9 v10 v11 v12 v13 v14 : Value) : #[v0, v1, v2, v3, v4, v5, v6, v7, v8, v9, v10, v11, v12, v13, v14].extract 0 15 = #[v0, v1, v2, v3, v4, v5, v6, v7, v8, v9, v10, v11, v12, v13, v14] := rfl
theorem load_Parties (ρ : Operand → Value) (dst : Option Tmp) (x : Operand) (t : TypeId) (pos : String) (after : Array Edge) (guard : Option (Nat × Bool)) (w : World) :
    (execOp ρ { dst, op := Op.load 32 x, type := t, pos, after, guard }).run Try.prog w = (loadV Try.prog 32 32 w (ρ x)).andThen fun v w' => .ok (.value v) w' :=
  exec_load_row Try.underlying32 rfl (by kernel_rfl) ρ dst x t pos after guard w
theorem store_Parties (ρ : Operand → Value) (dst : Option Tmp) (p x : Operand) (t : TypeId) (pos : String) (after : Array Edge) (guard : Option (Nat × Bool)) (w : World) :
    (execOp ρ { dst, op := Op.store 32 p x, type := t, pos, after, guard }).run Try.prog w = (storeV Try.prog 32 32 w (ρ p) (ρ x)).andThen fun _ w' => .ok .skip w' :=
  exec_store_row (by kernel_rfl) ρ dst p x t pos after guard w
theorem load_Acct (ρ : Operand → Value) (dst : Option Tmp) (x : Operand) (t : TypeId) (pos : String) (after : Array Edge) (guard : Option (Nat × Bool)) (w : World) :
    (execOp ρ { dst, op := Op.load 30 x, type := t, pos, after, guard }).run Try.prog w = (loadV Try.prog 30 15 w (ρ x)).andThen fun v w' => .ok (.value v) w' :=
  exec_load_row Try.underlying30 rfl (by kernel_rfl) ρ dst x t pos after guard w
theorem store_Acct (ρ : Operand → Value) (dst : Option Tmp) (p x : Operand) (t : TypeId) (pos : String) (after : Array Edge) (guard : Option (Nat × Bool)) (w : World) :
    (execOp ρ { dst, op := Op.store 30 p x, type := t, pos, after, guard }).run Try.prog w = (storeV Try.prog 30 15 w (ρ p) (ρ x)).andThen fun _ w' => .ok .skip w' :=
  exec_store_row (by kernel_rfl) ρ dst p x t pos after guard w
end Go.Proofs.Ytpbnakoimlmhnaa
