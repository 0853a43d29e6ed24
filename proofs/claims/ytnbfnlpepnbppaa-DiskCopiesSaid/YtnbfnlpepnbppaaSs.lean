/-
  A slice of structs: each of as many cells, wherever it lies; nil where it has none. A whole struct loaded out of its middle.
-/
import Derived.Test.YtnbfnlpepnbppaaSlice
import Derived.Test.YtnbfnlpepnbppaaRows2
import Derived.Deep.MidRow
namespace Go.Proofs.Ytnbfnlpepnbppaa
set_option linter.unusedVariables false
set_option linter.unusedSimpArgs false
open Go.RowKit

/-- the n structs of k cells behind the address A are those of f -/
def SsIs (w : World) (A : Option Addr) (n k : Nat) (f : Nat → List Value) : Prop :=
  0 < n → ∃ b o, A = some ⟨b, o, none⟩ ∧ b < w.heap.size ∧ ∀ i, i < n → w.rangeAt b (o + i * k) (f i)
theorem rangeAt_below {w w' : World} {b o : Nat} {cs : List Value} (h : w.rangeAt b o cs) (hb : Below w.heap.size w w') : w'.rangeAt b o cs := fun j v hj => keepc hb (h j v hj)
theorem SsIs.below {w w' : World} {A : Option Addr} {n k : Nat} {f : Nat → List Value} (h : SsIs w A n k f) (hb : Below w.heap.size w w') : SsIs w' A n k f := fun hm => by
  obtain ⟨b, o, e, hl, hc⟩ := h hm
  exact ⟨b, o, e, Nat.lt_of_lt_of_le hl hb.size, fun j hj => rangeAt_below (hc j hj) hb⟩
theorem SsIs.nil {w : World} {A : Option Addr} {k : Nat} {f : Nat → List Value} : SsIs w A 0 k f := fun h => absurd h (by omega)
theorem SsIs.congr {w : World} {A : Option Addr} {n k : Nat} {f g : Nat → List Value} (h : SsIs w A n k f) (e : ∀ i, i < n → f i = g i) : SsIs w A n k g := fun hm => by
  obtain ⟨b, o, e1, hl, hc⟩ := h hm
  exact ⟨b, o, e1, hl, fun j hj => by rw [← e j hj]; exact hc j hj⟩
theorem loadV_mid {P : Program} {ty : TypeId} {d : TypeDesc} {n : Nat} (hu : P.underlying ty = some d) (hd : (match d with | .struct _ | .array _ _ => true | _ => false) = true) (hi : (P.info? ty).map (·.size) = some n)
    {w : World} {b o : Nat} {cs : List Value} (hn : cs.length = n) (h : w.rangeAt b o cs) : loadV P ty n w (.pointer (some ⟨b, o, none⟩)) = .ok (.agg cs.toArray) w := by
  subst hn
  rw [← run_loadAt_row hu hd hi w]
  exact run_loadAt_mid w b o ty cs d h hu (by cases d <;> simp_all [TypeDesc.isRow]) hi
end Go.Proofs.Ytnbfnlpepnbppaa
