/-
  Rows of the call's own: what they read as, appended to.
-/
import Derived.Test.YtnbfnlpepnbppaaBlk
namespace Go.Proofs.Ytnbfnlpepnbppaa
set_option linter.unusedVariables false
set_option linter.unusedSimpArgs false
open Go.RowKit

theorem own_slis {w : World} {base : Nat} {e : TypeId} {size : Nat} {v : Value} {n : Nat} {xs : List Value} {f : Nat → Value} (h : w.ownsRow base e size v n xs) (hf : ∀ j u, xs[j]? = some u → u = f j) :
    ∃ A c, v = .slice A n c ∧ SlIs w A (n * size) f := by
  obtain ⟨hl, h2⟩ := h
  rcases h2 with ⟨rfl, rfl⟩ | ⟨g, cap, cur, rfl, hb, hh, h3, h4, h5, h6⟩
  · exact ⟨none, 0, rfl, fun hm => by simp at hm⟩
  · refine ⟨_, _, rfl, fun hm => ⟨g, 0, rfl, ?_, fun j hj => ?_⟩⟩
    · obtain ⟨hlt, _⟩ := Array.getElem?_eq_some_iff.1 hh
      exact hlt
    · have hx : xs[j]? = some (xs[j]'(by omega)) := List.getElem?_eq_getElem (by omega)
      rw [Nat.zero_add, cell_of_row w g j cur e (0, 0) hh, ← hf j _ hx, ← hx, ← h6, ← Array.getElem?_toList, List.getElem?_take, if_pos hj]
theorem news_blk {w : World} {g : Nat} {t : TypeId} {l : List Value} (h : Blk w g t l.toArray) : ∀ j u, l[j]? = some u → w.cell? ((⟨g, 0, none⟩ : Addr).add j) = some u := by
  intro j u hu
  have e : (⟨g, 0, none⟩ : Addr).add j = ⟨g, j, none⟩ := by unfold Addr.add; split <;> simp_all
  rw [e, h.cell j]
  simpa using hu
theorem bel_grown {w X Y : World} {row : Option Nat} (h : Below w.heap.size w X) (hg : X.grownBy Y row) (hr : ∀ k, row = some k → w.heap.size ≤ k) : Below w.heap.size w Y := h.grown hg h.size hr
end Go.Proofs.Ytnbfnlpepnbppaa
