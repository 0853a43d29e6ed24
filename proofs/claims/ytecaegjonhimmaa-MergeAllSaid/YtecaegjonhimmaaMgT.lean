/-
  The document's merge: the scan for the first of all heads.
-/
import Derived.Test.YtecaegjonhimmaaMgS
namespace Go.Proofs.Ytecaegjonhimmaa
set_option linter.unusedVariables false
set_option linter.unusedSimpArgs false
open Go.RowKit Go.Shelf

/-- the best of the first m heads -/
def BestTo (S : Sys) (dn : Bool) (p : Nat → Nat) (m b : Nat) : Prop := b < m ∧ p b < S.len b ∧ ∀ t, t < m → p t < S.len t → lessB dn (S.hs p (.slice none 0 0)) t b = false
/-- what the scan holds -/
def ScanV (S : Sys) (dn : Bool) (p : Nat → Nat) (m : Nat) (z : Int) : Prop := (z = -1 ∧ ∀ s, s < m → S.len s ≤ p s) ∨ ∃ b : Nat, z = b ∧ BestTo S dn p m b
section
variable {S : Sys} {dn : Bool} {p : Nat → Nat} {m b : Nat} {z : Int}
theorem ScanV.none : ScanV S dn p 0 (-1) := Or.inl ⟨rfl, fun s h => by omega⟩
theorem less_irr {H : Hs} {s : Nat} : lessB dn H s s = false := by
  cases hr : lessB dn H s s with
  | false => rfl
  | true => rw [less_asym hr] at hr; cases hr
theorem ScanV.skip (h : ScanV S dn p m z) (hs : S.len m ≤ p m) : ScanV S dn p (m + 1) z := by
  rcases h with ⟨h1, h2⟩ | ⟨b, h1, h2, h3, h4⟩
  · exact Or.inl ⟨h1, fun s h => by
      by_cases e : s = m
      · subst e; exact hs
      · exact h2 s (by omega)⟩
  · exact Or.inr ⟨b, h1, by omega, h3, fun t ht hl => by
      by_cases e : t = m
      · subst e; omega
      · exact h4 t (by omega) hl⟩
theorem ScanV.first (h : ScanV S dn p m (-1)) (hs : p m < S.len m) : ScanV S dn p (m + 1) m := by
  rcases h with ⟨_, h2⟩ | ⟨b, h1, _⟩
  · exact Or.inr ⟨m, rfl, by omega, hs, fun t ht hl => by
      by_cases e : t = m
      · subst e; exact less_irr
      · have := h2 t (by omega); omega⟩
  · omega
theorem BestTo.swap (h : BestTo S dn p m b) (hs : p m < S.len m) (hl : lessB dn (S.hs p (.slice none 0 0)) m b = true) : BestTo S dn p (m + 1) m := ⟨by omega, hs, fun t ht hlt => by
  by_cases e : t = m
  · subst e; exact less_irr
  · exact less_ntrans (h.2.2 t (by omega) hlt) (less_asym hl)⟩
theorem BestTo.keep (h : BestTo S dn p m b) (hl : lessB dn (S.hs p (.slice none 0 0)) m b = false) : BestTo S dn p (m + 1) b := ⟨by have := h.1; omega, h.2.1, fun t ht hlt => by
  by_cases e : t = m
  · subst e; exact hl
  · exact h.2.2 t (by omega) hlt⟩
theorem less_up (hb : b < m) : lessB false (S.hs p (.slice none 0 0)) m b = decide (S.X m (p m) 0 < S.X b (p b) 0) := by
  unfold lessB
  show (if S.X m (p m) 0 = S.X b (p b) 0 then decide (m < b) else (decide (S.X m (p m) 0 < S.X b (p b) 0) != false)) = _
  by_cases e : S.X m (p m) 0 = S.X b (p b) 0
  · rw [if_pos e, decide_eq_false (by omega), decide_eq_false (by omega)]
  · rw [if_neg e]; simp
theorem less_dn (hb : b < m) : lessB true (S.hs p (.slice none 0 0)) m b = decide (S.X b (p b) 0 < S.X m (p m) 0) := by
  unfold lessB
  show (if S.X m (p m) 0 = S.X b (p b) 0 then decide (m < b) else (decide (S.X m (p m) 0 < S.X b (p b) 0) != true)) = _
  by_cases e : S.X m (p m) 0 = S.X b (p b) 0
  · rw [if_pos e, decide_eq_false (by omega), decide_eq_false (by omega)]
  · rw [if_neg e]
    by_cases g : S.X m (p m) 0 < S.X b (p b) 0
    · rw [decide_eq_true g, decide_eq_false (by omega)]; rfl
    · rw [decide_eq_false g, decide_eq_true (by omega)]; rfl
end
end Go.Proofs.Ytecaegjonhimmaa
