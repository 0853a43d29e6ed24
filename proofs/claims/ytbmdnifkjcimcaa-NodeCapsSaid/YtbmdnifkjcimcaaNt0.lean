/-
  What an append to an own row of numbers leaves as it was.
-/
import Derived.Test.YtbmdnifkjcimcaaNs
import Derived.Test.YtbmdnifkjcimcaaOrF
namespace Go.Proofs.Ytbmdnifkjcimcaa
set_option linter.unusedVariables false
set_option linter.unusedSimpArgs false
open Go.RowKit

theorem OwnB.cells {w : World} {base b o n c : Nat} {d : Nat → Int} (h : OwnB w base (.slice (some ⟨b, o, none⟩) n c) n d) : ∀ j, j < n → w.cell? ⟨b, o + j, none⟩ = some (yV d j) := fun j hj => by
  obtain ⟨A, c', e, _, _, hs⟩ := h.byS
  cases e
  obtain ⟨b', o', e2, _, hc⟩ := hs (by omega)
  cases e2
  exact hc j hj
theorem kid_after {w2 W w1 : World} {base base' n0 b o c9 m : Nat} {obj : Obj} {a : Value} {d : Nat → Int} {f : Nat → Value} {tn : TypeId} {cn : Array Value} (hgr : W.grownBy w1 a.ownBlock) (hW : W.heap = (w2.alloc obj).heap)
    (hX : OwnB w2 base' (.slice (some ⟨b, o, none⟩) 4 c9) 4 d) (hO : OwnV w2 base 62 a m f) (hN : Blk w2 n0 tn cn) (hsz : base ≤ w2.heap.size) (hn : n0 < base) :
    Blk w1 n0 tn cn ∧ (w1.cell? ⟨b, o, none⟩ = some (.int .u8 (d 0)) ∧ w1.cell? ⟨b, o + 1, none⟩ = some (.int .u8 (d 1)) ∧ w1.cell? ⟨b, o + 2, none⟩ = some (.int .u8 (d 2)) ∧ w1.cell? ⟨b, o + 3, none⟩ = some (.int .u8 (d 3))) ∧ Below base W w1 := by
  have hO2 : OwnV W base 62 a m f := by
    obtain ⟨h1, h2⟩ := hO
    refine ⟨h1, ?_⟩
    rcases h2 with h2 | ⟨g, cap, cur, e1, hg, hh, rest⟩
    · exact Or.inl h2
    · exact Or.inr ⟨g, cap, cur, e1, hg, by rw [hW]; exact (Below.heap_alloc w2 obj g (Array.getElem?_eq_some_iff.1 hh).1).trans hh, rest⟩
  have hkb : KB w2 W := fun g cur fz e => by rw [hW]; exact (Below.heap_alloc w2 obj g (Array.getElem?_eq_some_iff.1 e).1).trans e
  have hN2 : Blk W n0 tn cn := by unfold Blk; rw [hW]; exact hN.alloc obj
  have hsW : base ≤ W.heap.size := by
    have : W.heap.size = (w2.alloc obj).heap.size := by rw [hW]
    simp at this; omega
  have hb1 : Below base W w1 := Below.grown (Below.refl base W) hgr hsW (fun j hj => (hO2.lt j hj).1)
  have hc := ((hX.kb hkb).kb (KB.grown hO2 (by decide) hgr)).cells
  exact ⟨hN2.lowb hb1 hn, ⟨hc 0 (by omega), hc 1 (by omega), hc 2 (by omega), hc 3 (by omega)⟩, hb1⟩
end Go.Proofs.Ytbmdnifkjcimcaa
