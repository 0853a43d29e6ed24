/-
  Numbers laid behind bytes: record.put at its instances, walked.
-/
import Derived.Test.YtnbfnlpepnbppaaBytesL
namespace Go.Proofs.Ytnbfnlpepnbppaa
set_option linter.unusedVariables false
set_option linter.unusedSimpArgs false
open Go.RowKit

/-- a row of the call's own that reads as n bytes d -/
def OwnB (w : World) (base : Nat) (v : Value) (n : Nat) (d : Nat → Int) : Prop := w.ownsRow base 5 1 v n (yL d n)
theorem OwnB.nil (w : World) (base : Nat) (d : Nat → Int) : OwnB w base (.slice none 0 0) 0 d := World.ownsRow_nil w base _ _
theorem OwnB.congr {w : World} {base : Nat} {v : Value} {n : Nat} {d e : Nat → Int} (h : OwnB w base v n d) (hd : ∀ i, i < n → d i = e i) : OwnB w base v n e := by
  unfold OwnB at *; rw [← yL_congr hd]; exact h
theorem OwnB.slis {w : World} {base : Nat} {v : Value} {n : Nat} {d : Nat → Int} (h : OwnB w base v n d) : ∃ A c, v = .slice A n c ∧ SlIs w A n (yV d) := by
  obtain ⟨A, c, h1, h2⟩ := own_slis h (yL_at d n)
  exact ⟨A, c, h1, by simpa using h2⟩
theorem OwnB.cast {w : World} {base : Nat} {v : Value} {n m : Nat} {d e : Nat → Int} (h : OwnB w base v n d) (hn : n = m) (hd : ∀ i, i < n → d i = e i) : OwnB w base v m e := by
  subst hn; exact h.congr hd

/-- what the steps of a row of the call's own leave: all below base stands -/
theorem belb_alloc {b : Nat} {a w : World} (h : Below b a w) (hb : b ≤ w.heap.size) (o : Obj) : Below b a (w.alloc o) := h.alloc hb o
theorem belb_size {b : Nat} {a w : World} (h : Below b a w) (hb : b ≤ a.heap.size) : b ≤ w.heap.size := Nat.le_trans hb h.size
end Go.Proofs.Ytnbfnlpepnbppaa
