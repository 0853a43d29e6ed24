/-
  MergeLazy's sources, made one by one: plain laws.
-/
import Derived.Test.YtecaegjonhimmaaLzB
namespace Go.Proofs.Ytecaegjonhimmaa
set_option linter.unusedVariables false
set_option linter.unusedSimpArgs false
open Go.RowKit Go.Shelf

/-- m sources of MergeLazy, made since base -/
structure LMade (w : World) (base m : Nat) (nb ib bx rb : Nat → Nat) (L : Nat → List (Nat → Int)) : Prop where
  src : ∀ s, s < m → LzIs w (nb s) (ib s) (bx s) (rb s) s (L s)
  lt : ∀ s, s < m → (base ≤ nb s ∧ base ≤ ib s ∧ base ≤ bx s ∧ base ≤ rb s) ∧ nb s < w.heap.size ∧ ib s < w.heap.size ∧ bx s < w.heap.size ∧ rb s < w.heap.size
  bb : ∀ s t, s < m → t < m → s ≠ t → bx s ≠ bx t ∧ rb s ≠ bx t
  nn : ∀ s t, s < m → t < m → nb s ≠ bx t ∧ ib s ≠ bx t
theorem LMade.tch {S : Nat → Prop} {w w' : World} {base m : Nat} {nb ib bx rb : Nat → Nat} {L : Nat → List (Nat → Int)} (h : LMade w base m nb ib bx rb L) (ht : Tch S w w') (h1 : ∀ s, s < m → ¬ S (nb s) ∧ ¬ S (ib s) ∧ ¬ S (bx s) ∧ ¬ S (rb s)) : LMade w' base m nb ib bx rb L :=
  ⟨fun s hs => (h.src s hs).tch ht (h1 s hs).1 (h1 s hs).2.1 (h1 s hs).2.2.1 (h1 s hs).2.2.2, fun s hs => by obtain ⟨a, b, c, d, e⟩ := h.lt s hs; have := ht.size; exact ⟨a, by omega, by omega, by omega, by omega⟩, h.bb, h.nn⟩
theorem LMade.kept {w w' : World} {base m : Nat} {nb ib bx rb : Nat → Nat} {L : Nat → List (Nat → Int)} (h : LMade w base m nb ib bx rb L) (hb : Below w.heap.size w w') : LMade w' base m nb ib bx rb L := h.tch (S := fun _ => False) (tch_of hb _) (fun _ _ => ⟨id, id, id, id⟩)
theorem LMade.nil {w : World} {base : Nat} {nb ib bx rb : Nat → Nat} {L : Nat → List (Nat → Int)} : LMade w base 0 nb ib bx rb L := ⟨fun s h => by omega, fun s h => by omega, fun s t h => by omega, fun s t h => by omega⟩
theorem LMade.next {w w' : World} {base m n1 i1 b1 r1 : Nat} {nb ib bx rb : Nat → Nat} {L : Nat → List (Nat → Int)} (h : LMade w base m nb ib bx rb L) (hb : Below w.heap.size w w') (hs : LzIs w' n1 i1 b1 r1 m (L m))
    (h1 : w.heap.size ≤ n1 ∧ w.heap.size ≤ i1 ∧ w.heap.size ≤ b1 ∧ w.heap.size ≤ r1) (h2 : n1 < w'.heap.size ∧ i1 < w'.heap.size ∧ b1 < w'.heap.size ∧ r1 < w'.heap.size) (h3 : n1 ≠ b1 ∧ i1 ≠ b1) (h5 : base ≤ w.heap.size) :
    LMade w' base (m + 1) (updN nb m n1) (updN ib m i1) (updN bx m b1) (updN rb m r1) L := by
  have hk := h.kept hb
  have o1 : ∀ {p : Nat → Nat} {v s}, s ≠ m → updN p m v s = p s := fun h => if_neg h
  have n1 : ∀ {p : Nat → Nat} {v}, updN p m v m = v := if_pos rfl
  refine ⟨fun s hs2 => ?_, fun s hs2 => ?_, fun s t hs2 ht2 hst => ?_, fun s t hs2 ht2 => ?_⟩
  · by_cases e : s = m
    · subst e; rw [n1, n1, n1, n1]; exact hs
    · rw [o1 e, o1 e, o1 e, o1 e]; exact hk.src s (by omega)
  · by_cases e : s = m
    · subst e; rw [n1, n1, n1, n1]; omega
    · rw [o1 e, o1 e, o1 e, o1 e]; exact hk.lt s (by omega)
  · by_cases e : s = m <;> by_cases e2 : t = m
    · omega
    · subst e; rw [n1, n1, o1 e2]; have := h.lt t (by omega); omega
    · subst e2; rw [n1, o1 e, o1 e]; have := h.lt s (by omega); omega
    · rw [o1 e, o1 e, o1 e2]; exact h.bb s t (by omega) (by omega) hst
  · by_cases e : s = m <;> by_cases e2 : t = m
    · subst e; subst e2; rw [n1, n1, n1]; exact h3
    · subst e; rw [n1, n1, o1 e2]; have := h.lt t (by omega); omega
    · subst e2; rw [n1, o1 e, o1 e]; have := h.lt s (by omega); omega
    · rw [o1 e, o1 e, o1 e2]; exact h.nn s t (by omega) (by omega)
def lzV (tb n i : Nat) : Value := .func (.func 17) #[] #[.pointer (some ⟨n, 0, none⟩), .pointer (some ⟨tb, 0, none⟩), .pointer (some ⟨i, 0, none⟩)]
theorem LMade.apart {w : World} {base m tb tk : Nat} {nb ib bx rb : Nat → Nat} {L : Nat → List (Nat → Int)} (h : LMade w base m nb ib bx rb L) (h1 : tb < base) (h2 : tk < base) (h3 : tb ≠ tk) : LzApart m tb tk nb ib bx rb :=
  ⟨h.bb, h.nn, fun s hs => by have := h.lt s hs; omega, h3⟩
theorem LMade.st {w : World} {base m tb tk : Nat} {nb ib bx rb : Nat → Nat} {L : Nat → List (Nat → Int)} (h : LMade w base m nb ib bx rb L) (ht : TkIs w tb tk m (fun _ => 0)) : (lzSys m tb tk nb ib bx rb L).St w (fun _ => 0) := ⟨ht, fun s hs => h.src s hs⟩
/-- of each source at most one more was taken than was handed on -/
theorem MAt.taken {K tb tk B : Nat} {nb ib bx rb : Nat → Nat} {L : Nat → List (Nat → Int)} {w : World} {dn : Bool} {hd : Nat → Nat} {G : Nat → Prop} (h : MAt (lzSys K tb tk nb ib bx rb L) w B dn hd G) : ∃ p, TkIs w tb tk K p ∧ ∀ s, s < K → p s ≤ hd s + 1 ∧ p s ≤ (L s).length := by
  rcases h with ⟨rfl, A, c, h1, h2, h3⟩ | ⟨g, n, pl, h1, h2, h3, h4⟩
  · exact ⟨_, h3.1, fun s hs => ⟨by omega, by omega⟩⟩
  · exact ⟨_, h1.st.1, fun s hs => ⟨Nat.min_le_left _ _, Nat.min_le_right _ _⟩⟩
end Go.Proofs.Ytecaegjonhimmaa
