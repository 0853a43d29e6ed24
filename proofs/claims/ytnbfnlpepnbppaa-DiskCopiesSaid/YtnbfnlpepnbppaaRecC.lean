/-
  Rows of bytes of the call's own: what the walks of the record's functions ask.
-/
import Derived.Test.YtnbfnlpepnbppaaRecB
namespace Go.Proofs.Ytnbfnlpepnbppaa
set_option linter.unusedVariables false
set_option linter.unusedSimpArgs false
open Go.RowKit

theorem OwnB.drew {w : World} {base : Nat} {v : Value} {n : Nat} {d : Nat → Int} (h : OwnB w base v n d) : OwnB w.drew base v n d := h
theorem OwnB.base {w : World} {b b' : Nat} {v : Value} {n : Nat} {d : Nat → Int} (h : OwnB w b v n d) (hb : b' ≤ b) : OwnB w b' v n d := by
  obtain ⟨h1, h2⟩ := h
  refine ⟨h1, ?_⟩
  rcases h2 with h2 | ⟨g, cap, cur, e, hg, rest⟩
  · exact Or.inl h2
  · exact Or.inr ⟨g, cap, cur, e, Nat.le_trans hb hg, rest⟩
theorem OwnB.kept {w w' : World} {base : Nat} {v : Value} {n : Nat} {d : Nat → Int} (h : OwnB w base v n d) (hb : Below w.heap.size w w') : OwnB w' base v n d := own_below h hb
theorem belb_drew {b : Nat} {w : World} (h : b ≤ w.heap.size) : b ≤ w.drew.heap.size := h
theorem slis_drew {w : World} {A : Option Addr} {m : Nat} {f : Nat → Value} (h : SlIs w A m f) : SlIs w.drew A m f := h
theorem keepbb {base : Nat} {W w1 : World} {p : Addr} {v : Value} (hb : Below base W w1) (hp : p.block < base) (h : W.cell? p = some v) : w1.cell? p = some v := by rw [hb.cell hp]; exact h
theorem Blk.lowb {base : Nat} {W w1 : World} {g : Nat} {t : TypeId} {cs : Array Value} (h : Blk W g t cs) (hb : Below base W w1) (hp : g < base) : Blk w1 g t cs := h.below hb hp
end Go.Proofs.Ytnbfnlpepnbppaa
