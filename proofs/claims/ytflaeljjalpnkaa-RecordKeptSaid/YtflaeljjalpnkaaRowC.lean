/-
  Whole transfers loaded, whole kept things stored: one law each.
-/
import Derived.Test.YtflaeljjalpnkaaRows2
import Derived.Test.YtflaeljjalpnkaaBlk
import Derived.Laws.CopyOwn
namespace Go.Proofs.Ytflaeljjalpnkaa
set_option linter.unusedVariables false
set_option linter.unusedSimpArgs false
open Go.RowKit

theorem rowAt_blk {w : World} {g : Nat} {t : TypeId} {cs : Array Value} (h : Blk w g t cs) : rowAt w g = some cs := by
  unfold Blk at h
  unfold rowAt
  rw [h]
  rfl
theorem Blk.setRow {w : World} {g : Nat} {t : TypeId} {cs : Array Value} (h : Blk w g t cs) {new new' : Array Value} (e : new = new') : Blk (w.setRow g new) g t new' := by
  subst e
  exact setRow_heap w g cs new t (0, 0) h
theorem Blk.setRow_far {w : World} {g k : Nat} {t : TypeId} {cs : Array Value} (h : Blk w g t cs) (hk : g ≠ k) (new : Array Value) : Blk (w.setRow k new) g t cs := (setRow_other w k g new hk).trans h
theorem Blk.eqv {w : World} {g : Nat} {t : TypeId} {cs cs' : Array Value} (h : Blk w g t cs) (e : cs = cs') : Blk w g t cs' := e ▸ h
theorem keepr {W : World} {n : Nat} {q : Addr} {cs : Array Value} {u : Value} (hn : n ≠ q.block) (h : rowAt W n = some cs) : rowAt (W.setCell q u) n = some cs := (rowAt_of (Below.heap_setCell W q u n hn)).trans h
theorem keepR {W : World} {n g : Nat} {cs new : Array Value} (hn : n ≠ g) (h : rowAt W n = some cs) : rowAt (W.setRow g new) n = some cs := (rowAt_of (setRow_other W g n new hn)).trans h
theorem keepC {W : World} {p : Addr} {g : Nat} {v : Value} {new : Array Value} (hp : p.block ≠ g) (h : W.cell? p = some v) : (W.setRow g new).cell? p = some v := (cell_setRow_other W g new p hp).trans h
theorem keepd {W : World} {p : Addr} {v : Value} (h : W.cell? p = some v) : W.drew.cell? p = some v := h
theorem keepdr {W : World} {n : Nat} {cs : Array Value} (h : rowAt W n = some cs) : rowAt W.drew n = some cs := h
theorem drew_hs (w : World) : w.drew.heap.size = w.heap.size := rfl
theorem abs_post {P : Program} {f : Func} {Φ : Ending → World → Prop} {e : Exit} {a : Act} {W : World} (I : World → Prop) (hI : I W) (h : ∀ X, I X → bodyPost P f Φ e a X) : bodyPost P f Φ e a W := h W hI
theorem loadV_blk {P : Program} {ty t : TypeId} {n : Nat} {w : World} {g : Nat} {cs : Array Value} (h : Blk w g t cs) (hn : cs.size = n) : loadV P ty n w (.pointer (some ⟨g, 0, none⟩)) = .ok (.agg cs) w := by
  subst hn
  rw [loadV_ptr, rowAt_blk h]
  simp
theorem storeV_blk {P : Program} {ty t : TypeId} {n : Nat} {w : World} {g : Nat} {cs vs : Array Value} (h : Blk w g t cs) (hn : cs.size = n) (hm : vs.size = n) (ha : vs.toList.all Value.oneCell' = true) : storeV P ty n w (.pointer (some ⟨g, 0, none⟩)) (.agg vs) = .ok () (w.setRow g vs) := by
  subst hn
  rw [storeV_ptr, rowAt_blk h]
  have e : List.drop cs.size cs.toList = [] := List.drop_eq_nil_of_le (by simp)
  simp [hm, ha, e]
theorem load_Transfer (ρ : Operand → Value) (dst : Option Tmp) (x : Operand) (t : TypeId) (pos : String) (after : Array Edge) (guard : Option (Nat × Bool)) (w : World) :
    (execOp ρ { dst, op := Op.load 66 x, type := t, pos, after, guard }).run Try.prog w = (loadV Try.prog 66 16 w (ρ x)).andThen fun v w' => .ok (.value v) w' :=
  exec_load_row Try.underlying66 rfl (by kernel_rfl) ρ dst x t pos after guard w
theorem store_Transfer (ρ : Operand → Value) (dst : Option Tmp) (p x : Operand) (t : TypeId) (pos : String) (after : Array Edge) (guard : Option (Nat × Bool)) (w : World) :
    (execOp ρ { dst, op := Op.store 66 p x, type := t, pos, after, guard }).run Try.prog w = (storeV Try.prog 66 16 w (ρ p) (ρ x)).andThen fun _ w' => .ok .skip w' :=
  exec_store_row (by kernel_rfl) ρ dst p x t pos after guard w
theorem load_Kept (ρ : Operand → Value) (dst : Option Tmp) (x : Operand) (t : TypeId) (pos : String) (after : Array Edge) (guard : Option (Nat × Bool)) (w : World) :
    (execOp ρ { dst, op := Op.load 78 x, type := t, pos, after, guard }).run Try.prog w = (loadV Try.prog 78 18 w (ρ x)).andThen fun v w' => .ok (.value v) w' :=
  exec_load_row Try.underlying78 rfl (by kernel_rfl) ρ dst x t pos after guard w
theorem store_Kept (ρ : Operand → Value) (dst : Option Tmp) (p x : Operand) (t : TypeId) (pos : String) (after : Array Edge) (guard : Option (Nat × Bool)) (w : World) :
    (execOp ρ { dst, op := Op.store 78 p x, type := t, pos, after, guard }).run Try.prog w = (storeV Try.prog 78 18 w (ρ p) (ρ x)).andThen fun _ w' => .ok .skip w' :=
  exec_store_row (by kernel_rfl) ρ dst p x t pos after guard w
/-- a kept thing built of a transfer and a wide number -/
def elseB (P : Program) (ρ : Operand → Value) (o : Oper) (w : World) : Result Next := (execOp ρ o).run P w
def bK (e : Result Next) (w : World) (u v : Value) : Result Next :=
  match u, v with
  | .agg a, .agg b => match a.toList, b.toList with
    | [a0, a1, a2, a3, a4, a5, a6, a7, a8, a9, a10, a11, a12, a13, a14, a15], [b0, b1] => .ok (.value (.agg #[a0, a1, a2, a3, a4, a5, a6, a7, a8, a9, a10, a11, a12, a13, a14, a15, b0, b1])) w
    | _, _ => e
  | _, _ => e
theorem bK_is (e : Result Next) (w : World) (a0 a1 a2 a3 a4 a5 a6 a7 a8 a9 a10 a11 a12 a13 a14 a15 b0 b1 : Value) : bK e w (.agg #[a0, a1, a2, a3, a4, a5, a6, a7, a8, a9, a10, a11, a12, a13, a14, a15]) (.agg #[b0, b1]) = .ok (.value (.agg #[a0, a1, a2, a3, a4, a5, a6, a7, a8, a9, a10, a11, a12, a13, a14, a15, b0, b1])) w := rfl
theorem build_Kept (ρ : Operand → Value) (dst : Option Tmp) (x y : Operand) (t : TypeId) (pos : String) (after : Array Edge) (guard : Option (Nat × Bool)) (w : World) :
    (execOp ρ { dst, op := Op.build 78 #[(0, x), (1, y)], type := t, pos, after, guard }).run Try.prog w = bK (elseB Try.prog ρ { dst, op := Op.build 78 #[(0, x), (1, y)], type := t, pos, after, guard } w) w (ρ x) (ρ y) := by
  have key : ∀ u v, ρ x = u → ρ y = v → (execOp ρ { dst, op := Op.build 78 #[(0, x), (1, y)], type := t, pos, after, guard }).run Try.prog w = bK (elseB Try.prog ρ { dst, op := Op.build 78 #[(0, x), (1, y)], type := t, pos, after, guard } w) w u v := by
    intro u v h1 h2
    unfold bK
    split
    · rename_i a b
      split
      · rename_i e1 e2
        obtain ⟨la⟩ := a
        obtain ⟨lb⟩ := b
        subst e1
        subst e2
        simp [execOp, go_sem, h1, h2]
      · rfl
    · rfl
  exact key _ _ rfl rfl
end Go.Proofs.Ytflaeljjalpnkaa
