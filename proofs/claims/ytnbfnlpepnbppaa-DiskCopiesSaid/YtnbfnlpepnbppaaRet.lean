/-
  Rows of blocks under whole stores; structs as results; slices of structs where other blocks change.
-/
import Derived.Test.YtnbfnlpepnbppaaSsA
import Derived.Test.YtnbfnlpepnbppaaBlk
import Derived.Laws.CopyOwn
namespace Go.Proofs.Ytnbfnlpepnbppaa
set_option linter.unusedVariables false
set_option linter.unusedSimpArgs false
open Go.RowKit

theorem rowAt_blk {w : World} {g : Nat} {t : TypeId} {cs : Array Value} (h : Blk w g t cs) : rowAt w g = some cs := by
  unfold Blk at h
  unfold rowAt
  rw [h]
  rfl
theorem Blk.setRow {w : World} {g : Nat} {t : TypeId} {cs : Array Value} (h : Blk w g t cs) {new new' : Array Value} (e : new = new') : Blk (w.setRow g new) g t new' := by
  subst e
  exact setRow_heap w g cs new t (0, 0) h
theorem Blk.setRow_far {w : World} {g k : Nat} {t : TypeId} {cs : Array Value} (h : Blk w g t cs) (hk : g ≠ k) (new : Array Value) : Blk (w.setRow k new) g t cs := (setRow_other w k g new hk).trans h
theorem loadV_blk {P : Program} {ty t : TypeId} {n : Nat} {w : World} {g : Nat} {cs : Array Value} (h : Blk w g t cs) (hn : cs.size = n) : loadV P ty n w (.pointer (some ⟨g, 0, none⟩)) = .ok (.agg cs) w := by
  subst hn
  rw [loadV_ptr, rowAt_blk h]
  simp
theorem results_ct {P : Program} {fn : Func} {a u : Tmp} {t : TypeId} {tmps : Array Value} {w : World} {ad : Addr} {v : Value} (h : fn.results = #[.cell a t, .tmp u]) (ha : tmps.getD a undef = .pointer (some ad)) (hl : (loadVar t ad).run P w = .ok v w) : (results fn tmps).run P w = .ok (.tuple #[v, tmps.getD u undef]) w := by
  simp at ha
  simp [results, h, ha, hl, asAddr, Sem.run_bind]
theorem loadVar_blk {P : Program} {ty t : TypeId} {d : TypeDesc} {n : Nat} {w : World} {g : Nat} {cs : Array Value} (hu : P.underlying ty = some d) (hd : (match d with | .struct _ | .array _ _ => true | _ => false) = true) (hi : (P.info? ty).map (·.size) = some n) (h : Blk w g t cs) (hn : cs.size = n) :
    (loadVar ty ⟨g, 0, none⟩).run P w = .ok (.agg cs) w := by
  have e := run_loadAt_row hu hd hi w (.pointer (some ⟨g, 0, none⟩))
  rw [loadV_blk h hn] at e
  simpa [Instr.loadAt, Instr.sureAddr, Sem.run_bind] using e
theorem abs_post {P : Program} {f : Func} {Φ : Ending → World → Prop} {e : Exit} {a : Act} {W : World} (I : World → Prop) (hI : I W) (h : ∀ X, I X → bodyPost P f Φ e a X) : bodyPost P f Φ e a W := h W hI
/-- every block from base on is as it was -/
def AsFrom (base : Nat) (w w' : World) : Prop := w.heap.size ≤ w'.heap.size ∧ ∀ g, base ≤ g → g < w.heap.size → w'.heap[g]? = w.heap[g]?
theorem AsFrom.refl (base : Nat) (w : World) : AsFrom base w w := ⟨Nat.le_refl _, fun _ _ _ => rfl⟩
theorem AsFrom.set {base : Nat} {w w' : World} (h : AsFrom base w w') {p : Addr} (hp : p.block < base) (u : Value) : AsFrom base w (w'.setCell p u) := by
  refine ⟨?_, fun g hg hl => ?_⟩
  · have : (w'.setCell p u).heap.size = w'.heap.size := by unfold World.setCell; simp
    rw [this]; exact h.1
  · rw [Below.heap_setCell w' p u g (by omega)]; exact h.2 g hg hl
theorem AsFrom.row {base : Nat} {w w' : World} (h : AsFrom base w w') {k : Nat} (hk : k < base) (cs : Array Value) : AsFrom base w (w'.setRow k cs) := by
  refine ⟨?_, fun g hg hl => ?_⟩
  · have : (w'.setRow k cs).heap.size = w'.heap.size := by unfold World.setRow; simp
    rw [this]; exact h.1
  · rw [setRow_other w' k g cs (by omega)]; exact h.2 g hg hl
theorem OwnS.asFrom {w w' : World} {base : Nat} {e : TypeId} {k : Nat} {v : Value} {n : Nat} {f : Nat → List Value} (h : OwnS w base e k v n f) (ha : AsFrom base w w') : OwnS w' base e k v n f := by
  obtain ⟨hl, h2⟩ := h
  refine ⟨hl, ?_⟩
  rcases h2 with h3 | ⟨g, cap, cur, h1, hb, hh, h3⟩
  · exact .inl h3
  · obtain ⟨hlt, _⟩ := Array.getElem?_eq_some_iff.1 hh
    exact .inr ⟨g, cap, cur, h1, hb, (ha.2 g hb hlt).trans hh, h3⟩
end Go.Proofs.Ytnbfnlpepnbppaa
