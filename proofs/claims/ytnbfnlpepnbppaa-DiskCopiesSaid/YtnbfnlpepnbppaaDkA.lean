/-
  Blocks and writes: great values, one law for each operation.
-/
import Derived.Test.YtnbfnlpepnbppaaTch
import Derived.Test.YtnbfnlpepnbppaaLooseB
import Derived.Test.YtnbfnlpepnbppaaWpg
import Derived.Great.FillDense
import Derived.Great.BuildSlice
import Derived.ArgAppend
import Derived.Deep.DeepCutAuto
import Derived.WideLaws
namespace Go.Proofs.Ytnbfnlpepnbppaa
set_option linter.unusedVariables false
set_option linter.unusedSimpArgs false
open Go.RowKit

def bytesL (d : Nat → Int) : List Value := (List.range 512).map (fun i => .int .u8 (d i))
theorem bytesL_len (d : Nat → Int) : (bytesL d).length = 512 := by simp [bytesL]
theorem bytesL_at (d : Nat → Int) {i : Nat} (h : i < 512) : (bytesL d)[i]? = some (.int .u8 (d i)) := by simp [bytesL, h]
theorem bytesL_one (d : Nat → Int) : ∀ u ∈ bytesL d, u.oneCell' = true := by
  intro u hu
  unfold bytesL at hu
  obtain ⟨i, _, rfl⟩ := List.mem_map.1 hu
  rfl
theorem bytesL_congr {d e : Nat → Int} (h : ∀ i, i < 512 → d i = e i) : bytesL d = bytesL e := by
  unfold bytesL
  apply List.map_congr_left
  intro i hi
  rw [h i (by simpa using hi)]
def wcl (a : Int) (d : Nat → Int) : List Value := .int .i64 a :: bytesL d
theorem wcl_len (a : Int) (d : Nat → Int) : (wcl a d).length = 513 := by simp [wcl, bytesL_len]
theorem wcl_one (a : Int) (d : Nat → Int) : ∀ u ∈ wcl a d, u.oneCell' = true := by
  intro u hu
  rcases List.mem_cons.1 hu with rfl | h
  · rfl
  · exact bytesL_one d u h
/-- a block, a write as values -/
def bytV (d : Nat → Int) : Value := .agg (bytesL d).toArray
def wV (a : Int) (d : Nat → Int) : Value := .agg (wcl a d).toArray
def zB : Value := .agg (Array.replicate 512 (.int .u8 0))
def zW : Value := .agg (#[.int .i64 0] ++ Array.replicate 512 (.int .u8 0))
theorem rep_map (n : Nat) (v : Value) : Array.replicate n v = ((List.range n).map (fun _ => v)).toArray := by apply Array.ext'; simp [List.map_const']
theorem one_app (x : Value) (l : List Value) : #[x] ++ l.toArray = (x :: l).toArray := by simp
theorem zB_is : zB = bytV (fun _ => 0) := by unfold zB bytV bytesL; rw [rep_map]
theorem zW_is : zW = wV 0 (fun _ => 0) := by
  unfold zW wV wcl bytesL
  rw [rep_map, one_app]
set_option maxRecDepth 20000 in
theorem info_B : (Try.prog.info? 67).map (fun i => (i.zero, i.size, i.bytes)) = some (some zB, 512, 512) := by kernel_rfl
set_option maxRecDepth 20000 in
theorem info_W : (Try.prog.info? 69).map (fun i => (i.zero, i.size, i.bytes)) = some (some zW, 513, 520) := by kernel_rfl
set_option maxRecDepth 20000 in
theorem zB_cells : zB.cells.size = 512 := by rw [zB_is]; show (bytesL _).toArray.size = 512; simp [bytesL_len]
set_option maxRecDepth 20000 in
theorem zW_cells : zW.cells.size = 513 := by rw [zW_is]; show (wcl _ _).toArray.size = 513; simp [wcl_len]
section
variable (ρ : Operand → Value) (dst : Option Tmp) (x y : Operand) (t : TypeId) (pos : String) (after : Array Edge) (guard : Option (Nat × Bool)) (w : World)
theorem load_B : (execOp ρ { dst, op := Op.load 67 x, type := t, pos, after, guard }).run Try.prog w = (loadV Try.prog 67 512 w (ρ x)).andThen fun v w' => .ok (.value v) w' :=
  exec_load_row Try.underlying67 rfl (by kernel_rfl) ρ dst x t pos after guard w
theorem store_B : (execOp ρ { dst, op := Op.store 67 x y, type := t, pos, after, guard }).run Try.prog w = (storeV Try.prog 67 512 w (ρ x) (ρ y)).andThen fun _ w' => .ok .skip w' :=
  exec_store_row (by kernel_rfl) ρ dst x y t pos after guard w
theorem load_W : (execOp ρ { dst, op := Op.load 69 x, type := t, pos, after, guard }).run Try.prog w = (loadV Try.prog 69 513 w (ρ x)).andThen fun v w' => .ok (.value v) w' :=
  exec_load_row Try.underlying69 rfl (by kernel_rfl) ρ dst x t pos after guard w
theorem store_W : (execOp ρ { dst, op := Op.store 69 x y, type := t, pos, after, guard }).run Try.prog w = (storeV Try.prog 69 513 w (ρ x) (ρ y)).andThen fun _ w' => .ok .skip w' :=
  exec_store_row (by kernel_rfl) ρ dst x y t pos after guard w
/-- a new write: its cells are all zero -/
def zWc : Array Value := (wcl 0 (fun _ => 0)).toArray
set_option maxRecDepth 20000 in
theorem alloc_W : (execOp ρ { dst, op := Op.alloc 69, type := t, pos, after, guard }).run Try.prog w = .ok (.value (.pointer (some ⟨w.heap.size, 0, none⟩))) (w.alloc (.cells zWc 69)) := by
  obtain ⟨i0, hi0, hz0, hz1, hz2⟩ := info_parts info_W
  have e : zW.cells = zWc := by rw [zW_is]; rfl
  simp [execOp, Instr.alloc, zeroValue, typeInfo, hi0, hz0, newVar, newRow, e, Sem.run_bind]
/-- a write built of a place and a block -/
def bW (e : Result Next) (w : World) (u v : Value) : Result Next :=
  match u, v with
  | .int .i64 a, .agg b => if b.size = 512 then .ok (.value (.agg (.int .i64 a :: b.toList).toArray)) w else e
  | _, _ => e
set_option maxRecDepth 20000 in
theorem bW_is (e : Result Next) (w : World) (a : Int) (d : Nat → Int) : bW e w (.int .i64 a) (bytV d) = .ok (.value (wV a d)) w := by
  unfold bytV
  show (if (bytesL d).toArray.size = 512 then Result.ok (.value (.agg (.int .i64 a :: (bytesL d).toArray.toList).toArray)) w else e) = _
  rw [if_pos (by simp [bytesL_len])]
  rfl
def elseB (P : Program) (ρ : Operand → Value) (o : Oper) (w : World) : Result Next := (execOp ρ o).run P w
end
theorem fill_W (a : Int) (b : Array Value) (hb : b.size = 512) (z : Array Value) (hz : z.size = 513) :
    Instr.fill (fun i => ([(0, 1), (1, 512)] : List (Nat × Nat))[i]?) z [(0, .int .i64 a), (1, .agg b)] = some (.int .i64 a :: b.toList).toArray := by
  have h1 : (Value.int .i64 a).cells = #[.int .i64 a] := rfl
  have h2 : (Value.agg b).cells = b := rfl
  obtain ⟨s1, g1⟩ := Go.Great.foldl_set 0 [.int .i64 a] 0 z
  obtain ⟨s2, g2⟩ := Go.Great.foldl_set 1 b.toList 0 (([Value.int .i64 a].zipIdx 0).foldl (fun cs (x : Value × Nat) => cs.setIfInBounds (0 + x.2) x.1) z)
  unfold Instr.fill
  simp only [List.getElem?_cons_zero, h1, List.size_toArray, List.length_cons, List.length_nil]
  rw [if_neg (by simp [hz])]
  unfold Instr.fill
  simp only [List.getElem?_cons_succ, List.getElem?_cons_zero, h2, hb]
  have hs : (Array.foldl (fun cs (x : Value × Nat) => cs.setIfInBounds (0 + x.2) x.1) z (#[Value.int .i64 a].zipIdx)).size = 513 := by
    rw [← Array.foldl_toList, Array.toList_zipIdx]
    exact s1.trans hz
  rw [if_neg (by simp [hz])]
  unfold Instr.fill
  congr 1
  rw [← Array.foldl_toList, Array.toList_zipIdx, ← Array.foldl_toList, Array.toList_zipIdx]
  apply Array.ext_getElem?
  intro k
  rw [g2 k, g1 k]
  have hl : b.toList.length = 512 := by simpa using hb
  rw [s1, hl]
  by_cases e0 : k = 0
  · subst e0
    rw [if_neg (by omega), if_pos (by simp; omega)]
    simp
  · obtain ⟨k', rfl⟩ : ∃ k', k = k' + 1 := ⟨k - 1, by omega⟩
    have e3 : (Value.int .i64 a :: b.toList).toArray[k' + 1]? = b.toList[k']? := by rw [List.getElem?_toArray, List.getElem?_cons_succ]
    rw [e3]
    by_cases e1 : k' < 512
    · rw [if_pos (by omega), show k' + 1 - (1 + 0) = k' by omega]
    · rw [if_neg (by omega), if_neg (by simp), List.getElem?_eq_none (by omega), Array.getElem?_eq_none (by omega)]
set_option maxRecDepth 20000 in
theorem build_W (ρ : Operand → Value) (dst : Option Tmp) (x y : Operand) (t : TypeId) (pos : String) (after : Array Edge) (guard : Option (Nat × Bool)) (w : World) :
    (execOp ρ { dst, op := Op.build 69 #[(0, x), (1, y)], type := t, pos, after, guard }).run Try.prog w = bW (elseB Try.prog ρ { dst, op := Op.build 69 #[(0, x), (1, y)], type := t, pos, after, guard } w) w (ρ x) (ρ y) := by
  have key : ∀ u v, ρ x = u → ρ y = v → (execOp ρ { dst, op := Op.build 69 #[(0, x), (1, y)], type := t, pos, after, guard }).run Try.prog w = bW (elseB Try.prog ρ { dst, op := Op.build 69 #[(0, x), (1, y)], type := t, pos, after, guard } w) w u v := by
    intro u v h1 h2
    unfold bW
    split
    · rename_i a b
      split
      · rename_i hb
        obtain ⟨i0, hi0, hz0, hz1, hz2⟩ := info_parts info_W
        obtain ⟨i1, hi1, _, hy1, _⟩ := info_parts info_B
        obtain ⟨i2, hi2, hj2⟩ := Option.map_eq_some_iff.1 (show (Try.prog.info? 3).map (·.size) = some 1 by kernel_rfl)
        have hf := fill_W a b hb zW.cells zW_cells
        simp [execOp, Instr.build, zeroValue, typeInfo, hi0, hz0, Sem.run_bind, run_underlying Try.underlying69, sizeOf, hi1, hi2, hy1, hj2, h1, h2, hf]
      · rfl
    · rfl
  exact key _ _ rfl rfl
/-- a slice of one write -/
def bS (e : Result Next) (w : World) (u : Value) : Result Next :=
  match u with
  | .agg b => if b.size = 513 then .ok (.value (.slice (some ⟨w.heap.size, 0, none⟩) 1 1)) (w.alloc (.cells b 69)) else e
  | _ => e
set_option maxRecDepth 20000 in
theorem bS_is (e : Result Next) (w : World) (a : Int) (d : Nat → Int) : bS e w (wV a d) = .ok (.value (.slice (some ⟨w.heap.size, 0, none⟩) 1 1)) (w.alloc (.cells (wcl a d).toArray 69)) := by
  unfold wV
  show (if (wcl a d).toArray.size = 513 then Result.ok (.value (.slice (some ⟨w.heap.size, 0, none⟩) 1 1)) (w.alloc (.cells (wcl a d).toArray 69)) else e) = _
  rw [if_pos (by simp [wcl_len])]
set_option maxRecDepth 20000 in
theorem slice_W (ρ : Operand → Value) (dst : Option Tmp) (x : Operand) (t : TypeId) (pos : String) (after : Array Edge) (guard : Option (Nat × Bool)) (w : World) :
    (execOp ρ { dst, op := Op.buildSlice 63 1 #[(0, x)], type := t, pos, after, guard }).run Try.prog w = bS (elseB Try.prog ρ { dst, op := Op.buildSlice 63 1 #[(0, x)], type := t, pos, after, guard } w) w (ρ x) := by
  have key : ∀ u, ρ x = u → (execOp ρ { dst, op := Op.buildSlice 63 1 #[(0, x)], type := t, pos, after, guard }).run Try.prog w = bS (elseB Try.prog ρ { dst, op := Op.buildSlice 63 1 #[(0, x)], type := t, pos, after, guard } w) w u := by
    intro u h1
    unfold bS
    split
    · rename_i b
      split
      · rename_i hb
        obtain ⟨i0, hi0, hz0, hz1, hz2⟩ := info_parts info_W
        have hf := Go.Great.fill_whole (s := 513) (by omega) [.agg b] ((Array.range (1 * i0.size)).map (zW.cells[· % zW.cells.size]!)) (by intro v hv; simp only [List.mem_cons, List.not_mem_nil, or_false] at hv; subst hv; exact hb) (by simp [hz1])
        have hr := run_buildSlice (P := Try.prog) w 63 69 1 #[(0, .agg b)] b i0 zW Try.underlying63 hi0 hz0 (by rw [hz1]; decide) (by rw [hz1]; decide) (by
          rw [hz1] at hf ⊢
          have e : (([Value.agg b].zipIdx 0).map fun x => (x.2, x.1)) = [(0, .agg b)] := rfl
          rw [e] at hf
          simpa [Value.cells] using hf)
        simp only [execOp, Sem.run_bind, List.map_toArray, List.map_cons, List.map_nil, h1, hr, Result.andThen_ok]
        rfl
      · rfl
    · rfl
  exact key _ rfl
end Go.Proofs.Ytnbfnlpepnbppaa
