/-
  Whole structs loaded out of a row of cells, and stored into one, by one law each: for the walks over great structs.
-/
import Derived.Test.YtnbfnlpepnbppaaTail
namespace Go.Proofs.Ytnbfnlpepnbppaa
set_option linter.unusedVariables false
set_option linter.unusedSimpArgs false
open Go.RowKit

/-- the cells of a block, if it is a row none of whose cells is frozen -/
def rowAt (w : World) (g : Nat) : Option (Array Value) :=
  match w.heap[g]? with
  | some (.cells cs _ (0, 0)) => some cs
  | _ => none

theorem rowAt_some {w : World} {g : Nat} {cs : Array Value} (h : rowAt w g = some cs) : ∃ t, w.heap[g]? = some (.cells cs t (0, 0)) := by
  unfold rowAt at h
  split at h
  · rename_i t e
    cases h
    exact ⟨_, e⟩
  · cases h
theorem rowAt_of {w w' : World} {g : Nat} (h : w'.heap[g]? = w.heap[g]?) : rowAt w' g = rowAt w g := by unfold rowAt; rw [h]

theorem rowAt_alloc_at (w : World) (cs : Array Value) (t : TypeId) (n : Nat) (hn : n = w.heap.size) : rowAt (w.alloc (.cells cs t)) n = some cs := by
  subst hn
  unfold rowAt
  rw [(MapKept.heap_alloc w _).1]
  rfl
theorem rowAt_alloc_past (w : World) (o : Obj) (n : Nat) (hn : n < w.heap.size) : rowAt (w.alloc o) n = rowAt w n := rowAt_of (Below.heap_alloc _ _ _ hn)
theorem rowAt_drew (w : World) (n : Nat) : rowAt w.drew n = rowAt w n := rfl
theorem rowAt_drewN (w : World) (k n : Nat) : rowAt (w.drewN k) n = rowAt w n := rfl
theorem rowAt_grow (w d : World) (n : Nat) (hn : n < w.heap.size) : rowAt (Grow w d) n = rowAt w n := rowAt_of ((grow_below w d).block n hn)
theorem rowAt_grow_d (w d : World) (n : Nat) (hn : n < w.heap.size) : rowAt (Grow w.drew d) n = rowAt w n := rowAt_grow w.drew d n hn
theorem rowAt_setCell_other (w : World) (g i n : Nat) (v : Value) (h : n ≠ g) : rowAt (w.setCell ⟨g, i, none⟩ v) n = rowAt w n := rowAt_of (heap_setCell_other _ _ _ _ h)
theorem rowAt_setCell_same (w : World) (g i : Nat) (v : Value) : rowAt (w.setCell ⟨g, i, none⟩ v) g = (rowAt w g).map (·.setIfInBounds i v) := by
  cases h : rowAt w g with
  | some cs =>
    obtain ⟨t, ht⟩ := rowAt_some h
    unfold rowAt
    rw [heap_setCell_same w g i cs t v ht]
    rfl
  | none =>
    unfold rowAt World.setCell at *
    simp only [Array.getElem?_modify, if_true]
    cases e : w.heap[g]? with
    | none => rfl
    | some o =>
      rw [e] at h
      cases o with
      | cells cs t fr =>
        obtain ⟨f1, f2⟩ := fr
        simp only [Option.map_some]
        split at h
        · cases h
        · rename_i hne
          split
          · rename_i e2
            simp at e2
            exact absurd (show some (Obj.cells cs t (f1, f2)) = some (Obj.cells cs t (0, 0)) by rw [e2.2.2.1, e2.2.2.2]) (hne _ _)
          · rfl
      | _ => simp

/-- what is left as it was -/
def elseLoad (P : Program) (ty : TypeId) (v : Value) (w : World) : Result Value := (Instr.loadAt ty v).run P w
def loadV (P : Program) (ty : TypeId) (n : Nat) (w : World) (v : Value) : Result Value :=
  match v with
  | .pointer (some ⟨g, o, none⟩) => match rowAt w g with
    | some cs => if o + n ≤ cs.size then .ok (.agg (cs.extract o (o + n))) w else elseLoad P ty v w
    | none => elseLoad P ty v w
  | _ => elseLoad P ty v w
theorem loadV_ptr (P : Program) (ty : TypeId) (n : Nat) (w : World) (g o : Nat) : loadV P ty n w (.pointer (some ⟨g, o, none⟩)) = (match rowAt w g with
    | some cs => if o + n ≤ cs.size then .ok (.agg (cs.extract o (o + n))) w else elseLoad P ty (.pointer (some ⟨g, o, none⟩)) w
    | none => elseLoad P ty (.pointer (some ⟨g, o, none⟩)) w) := rfl

section
variable {P : Program}
theorem run_loadAt_row {ty : TypeId} {d : TypeDesc} {n : Nat} (hu : P.underlying ty = some d) (hd : (match d with | .struct _ | .array _ _ => true | _ => false) = true) (hi : (P.info? ty).map (·.size) = some n) (w : World) (v : Value) :
    (Instr.loadAt ty v).run P w = loadV P ty n w v := by
  unfold loadV elseLoad
  split
  · rename_i g o
    split
    · rename_i cs hcs
      split
      · rename_i hle
        obtain ⟨t, ht⟩ := rowAt_some hcs
        have hlen : (cs.extract o (o + n)).toList.length = n := by simp; omega
        have hl : (loadCells ⟨g, o, none⟩ n).run P w = .ok (cs.extract o (o + n)) w := by
          have := run_loadCells_list (P := P) w ⟨g, o, none⟩ (cs.extract o (o + n)).toList (fun j x hx => by
            have hadd : (⟨g, o, none⟩ : Addr).add j = ⟨g, o + j, none⟩ := by unfold Addr.add; split <;> simp_all
            have hj : j < n := by
              rcases Nat.lt_or_ge j n with h | h
              · exact h
              · rw [List.getElem?_eq_none (by omega)] at hx; cases hx
            rw [hadd, cell_of_row w g (o + j) cs t (0, 0) ht]
            rw [Array.getElem?_toList, Array.getElem?_extract_of_lt (by omega)] at hx
            rw [← hx, Array.getElem?_eq_getElem])
          rw [hlen] at this
          simp only [Array.toArray_toList] at this
          exact this
        have hagg : (isAgg ty).run P w = .ok true w := by
          unfold isAgg
          rw [Sem.run_bind, run_underlying hu w]
          cases d <;> simp_all
        cases hq : P.info? ty with
        | none => simp [hq] at hi
        | some i =>
          have hs : i.size = n := by simpa [hq] using hi
          simp [Instr.loadAt, Instr.sureAddr, loadVar, Sem.run_bind, hagg, sizeOf, typeInfo, hq, hs, hl]
      · rfl
    · rfl
  · rfl

def elseStore (P : Program) (ty : TypeId) (p v : Value) (w : World) : Result Unit := (Instr.storeAt ty p v).run P w
def storeV (P : Program) (ty : TypeId) (n : Nat) (w : World) (p v : Value) : Result Unit :=
  match p, v with
  | .pointer (some ⟨g, o, none⟩), .agg vs => match rowAt w g with
    | some cs => if o + n ≤ cs.size ∧ vs.size = n ∧ vs.toList.all Value.oneCell' = true then .ok () (w.setRow g (cs.toList.take o ++ vs.toList ++ cs.toList.drop (o + n)).toArray) else elseStore P ty p v w
    | none => elseStore P ty p v w
  | _, _ => elseStore P ty p v w
theorem storeV_ptr (ty : TypeId) (n : Nat) (w : World) (g o : Nat) (vs : Array Value) : storeV P ty n w (.pointer (some ⟨g, o, none⟩)) (.agg vs) = (match rowAt w g with
    | some cs => if o + n ≤ cs.size ∧ vs.size = n ∧ vs.toList.all Value.oneCell' = true then .ok () (w.setRow g (cs.toList.take o ++ vs.toList ++ cs.toList.drop (o + n)).toArray) else elseStore P ty (.pointer (some ⟨g, o, none⟩)) (.agg vs) w
    | none => elseStore P ty (.pointer (some ⟨g, o, none⟩)) (.agg vs) w) := rfl
theorem run_storeAt_row {ty : TypeId} {n : Nat} (hi : (P.info? ty).map (·.size) = some n) (w : World) (p v : Value) :
    (Instr.storeAt ty p v).run P w = storeV P ty n w p v := by
  unfold storeV elseStore
  split
  · rename_i g o vs
    split
    · rename_i cs hcs
      split
      · rename_i hle
        obtain ⟨h1, h2, h3⟩ := hle
        obtain ⟨t, ht⟩ := rowAt_some hcs
        have hst := run_storeCells_at (P := P) g o t vs.toList 0 cs w ht (by simp; omega) (fun x hx => List.all_eq_true.1 h3 x hx)
        cases hq : P.info? ty with
        | none => simp [hq] at hi
        | some i =>
          have hs : i.size = n := by simpa [hq] using hi
          have hl : vs.toList.length = n := by simpa using h2
          rw [hl] at hst
          simp only [Nat.add_zero] at hst
          simp [Instr.storeAt, Instr.sureAddr, storeVar, Sem.run_bind, sizeOf, typeInfo, hq, hs, Value.cells, h2, hst]
      · rfl
    · rfl
  · rfl
end

theorem exec_load_row {P : Program} {ty : TypeId} {d : TypeDesc} {n : Nat} (hu : P.underlying ty = some d) (hd : (match d with | .struct _ | .array _ _ => true | _ => false) = true) (hi : (P.info? ty).map (·.size) = some n)
    (ρ : Operand → Value) (dst : Option Tmp) (x : Operand) (t : TypeId) (pos : String) (after : Array Edge) (guard : Option (Nat × Bool)) (w : World) :
    (execOp ρ { dst, op := Op.load ty x, type := t, pos, after, guard }).run P w = (loadV P ty n w (ρ x)).andThen fun v w' => .ok (.value v) w' := by
  rw [← run_loadAt_row hu hd hi w (ρ x)]
  simp [execOp, Sem.run_bind]
theorem exec_store_row {P : Program} {ty : TypeId} {n : Nat} (hi : (P.info? ty).map (·.size) = some n)
    (ρ : Operand → Value) (dst : Option Tmp) (p x : Operand) (t : TypeId) (pos : String) (after : Array Edge) (guard : Option (Nat × Bool)) (w : World) :
    (execOp ρ { dst, op := Op.store ty p x, type := t, pos, after, guard }).run P w = (storeV P ty n w (ρ p) (ρ x)).andThen fun _ w' => .ok .skip w' := by
  rw [← run_storeAt_row hi w (ρ p) (ρ x)]
  simp [execOp, Sem.run_bind]

theorem setRow_alloc_at (w : World) (old new : Array Value) (t : TypeId) (n : Nat) (hn : n = w.heap.size) : (w.alloc (.cells old t)).setRow n new = w.alloc (.cells new t) := by
  subst hn
  unfold World.setRow World.alloc
  congr 1
  apply Array.ext_getElem?
  intro i
  simp only [Array.getElem?_modify, Array.getElem?_push]
  by_cases h : w.heap.size = i
  · subst h; simp
  · have h' : ¬ i = w.heap.size := fun e => h e.symm
    simp [h, h']
theorem setRow_alloc_past (w : World) (o : Obj) (new : Array Value) (n : Nat) (hn : n < w.heap.size) : (w.alloc o).setRow n new = (w.setRow n new).alloc o := by
  unfold World.setRow World.alloc
  congr 1
  apply Array.ext_getElem?
  intro i
  simp only [Array.getElem?_modify, Array.getElem?_push, Array.size_modify]
  by_cases h : n = i
  · subst h
    have h' : ¬ n = w.heap.size := by omega
    simp [h']
  · simp [h]
theorem setRow_drew (w : World) (n : Nat) (cs : Array Value) : w.drew.setRow n cs = (w.setRow n cs).drew := rfl

theorem one_int (k : IntKind) (n : Int) : (Value.int k n).oneCell' = true := rfl
theorem one_bool (b : Bool) : (Value.bool b).oneCell' = true := rfl
theorem one_string (b : ByteArray) : (Value.string b).oneCell' = true := rfl
theorem one_pointer (b : Option Addr) : (Value.pointer b).oneCell' = true := rfl
theorem one_slice (b : Option Addr) (n c : Nat) : (Value.slice b n c).oneCell' = true := rfl
attribute [go_sem] one_int one_bool one_string one_pointer one_slice rowAt_alloc_at rowAt_alloc_past rowAt_drew rowAt_drewN rowAt_grow rowAt_grow_d rowAt_setCell_same rowAt_setCell_other setRow_alloc_at setRow_alloc_past setRow_drew
end Go.Proofs.Ytnbfnlpepnbppaa
