/-
  A slice that reads as so many cells, wherever it lies; nil where it has none.
-/
import Derived.Test.YtnbfnlpepnbppaaRow
namespace Go.Proofs.Ytnbfnlpepnbppaa
set_option linter.unusedVariables false
set_option linter.unusedSimpArgs false
open Go.RowKit

/-- the m cells behind the address A are those of f; A may be nil where m is 0 -/
def SlIs (w : World) (A : Option Addr) (m : Nat) (f : Nat → Value) : Prop :=
  0 < m → ∃ b o, A = some ⟨b, o, none⟩ ∧ b < w.heap.size ∧ ∀ j, j < m → w.cell? ⟨b, o + j, none⟩ = some (f j)
theorem SlIs.below {w w' : World} {A : Option Addr} {m : Nat} {f : Nat → Value} (h : SlIs w A m f) (hb : Below w.heap.size w w') : SlIs w' A m f := fun hm => by
  obtain ⟨b, o, e, hl, hc⟩ := h hm
  exact ⟨b, o, e, Nat.lt_of_lt_of_le hl hb.size, fun j hj => keepc hb (hc j hj)⟩
theorem SlIs.nil {w : World} {A : Option Addr} {f : Nat → Value} : SlIs w A 0 f := fun h => absurd h (by omega)
theorem SlIs.row {w : World} {b : Nat} {t : TypeId} {n m : Nat} {f : Nat → Value} (h : w.rowIs b t n f) (hm : m ≤ n) : SlIs w (some ⟨b, 0, none⟩) m f := fun _ =>
  ⟨b, 0, rfl, h.lt, fun j hj => by rw [Nat.zero_add]; exact h.cell (by omega)⟩
theorem SlIs.congr {w : World} {A : Option Addr} {m : Nat} {f g : Nat → Value} (h : SlIs w A m f) (e : ∀ i, i < m → f i = g i) : SlIs w A m g := fun hm => by
  obtain ⟨b, o, e1, hl, hc⟩ := h hm
  exact ⟨b, o, e1, hl, fun j hj => by rw [hc j hj, e j hj]⟩
end Go.Proofs.Ytnbfnlpepnbppaa
