/-
  Wide numbers laid behind bytes: record.wides, walked.
-/
import Derived.Test.YtnbfnlpepnbppaaRecA
import Derived.Test.YtnbfnlpepnbppaaWideL
import Derived.Test.YtnbfnlpepnbppaaWideV
namespace Go.Proofs.Ytnbfnlpepnbppaa
set_option linter.unusedVariables false
set_option linter.unusedSimpArgs false
open Go.RowKit

theorem grownBy_below {w w' : World} (h : Below w.heap.size w w') (row : Option Nat) : w.grownBy w' row := ⟨h.os, h.tape, h.output, h.size, fun i hi _ => h.block i hi⟩
theorem own_below {w w' : World} {base : Nat} {e : TypeId} {size : Nat} {v : Value} {n : Nat} {xs : List Value} (h : w.ownsRow base e size v n xs) (hb : Below w.heap.size w w') : w'.ownsRow base e size v n xs :=
  h.kept (grownBy_below hb none) (by cases v.ownBlock <;> simp)
theorem news_row {w : World} {g : Nat} {t : TypeId} {d : Nat → Int} {n m : Nat} (h : w.rowIs g t n (yV d)) (hm : m ≤ n) : ∀ j u, (yL d m)[j]? = some u → w.cell? ((⟨g, 0, none⟩ : Addr).add j) = some u := by
  intro j u hu
  have hj : j < m := by
    rcases Nat.lt_or_ge j m with h1 | h1
    · exact h1
    · rw [List.getElem?_eq_none (by rw [yL_len]; exact h1)] at hu; cases hu
  have e : (⟨g, 0, none⟩ : Addr).add j = ⟨g, j, none⟩ := by unfold Addr.add; split <;> simp_all
  rw [e, h.cell (by omega), yL_at d m j u hu]
theorem yL_one' (d : Nat → Int) : ∀ m, ∀ u ∈ yL d m, u.oneCell' = true
  | 0, u, h => by simp [yL] at h
  | m + 1, u, h => by
    simp only [yL, List.mem_append, List.mem_singleton] at h
    rcases h with h | h
    · exact yL_one' d m u h
    · rw [h]; rfl
/-- the cells of pairs of words -/
def pV (h l : Nat → Int) (j : Nat) : Value := .int .u64 (if j % 2 = 0 then h (j / 2) else l (j / 2))
theorem pV_0 (h l : Nat → Int) (k : Nat) : pV h l (k * 2) = .int .u64 (h k) := by unfold pV; rw [if_pos (by omega), show k * 2 / 2 = k from by omega]
theorem pV_1 (h l : Nat → Int) (k : Nat) : pV h l (k * 2 + 1) = .int .u64 (l k) := by unfold pV; rw [if_neg (by omega), show (k * 2 + 1) / 2 = k from by omega]

/-- n bytes d, and k wide numbers behind -/
def wcat (d : Nat → Int) (n : Nat) (h l : Nat → Int) : Nat → Nat → Int
  | 0 => d
  | k + 1 => cat (wcat d n h l k) (n + k * 16) (dgt (h k) (l k))

end Go.Proofs.Ytnbfnlpepnbppaa
