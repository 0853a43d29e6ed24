/-
  Plain laws of Runs: one way only.
-/
import Derived.Test.YtecaegjonhimmaaMgQ
namespace Go.Proofs.Ytecaegjonhimmaa
set_option linter.unusedVariables false
set_option linter.unusedSimpArgs false
open Go.RowKit Go.Shelf

section
variable {S : Sys} {dn : Bool} {hd0 hd hd' : Nat → Nat} {l l' : List (Nat → Int)} {b b' : Nat}
theorem less_total {H : Hs} {s t : Nat} (h1 : lessB dn H s t = false) (h2 : lessB dn H t s = false) : s = t := by
  unfold lessB at *
  by_cases e : H.it s 0 = H.it t 0
  · rw [if_pos e] at h1
    rw [if_pos e.symm] at h2
    have g1 := of_decide_eq_false h1
    have g2 := of_decide_eq_false h2
    omega
  · rw [if_neg e] at h1
    rw [if_neg (fun h => e h.symm)] at h2
    by_cases g : H.it s 0 < H.it t 0
    · have g' : ¬ H.it t 0 < H.it s 0 := by omega
      rw [decide_eq_true g] at h1
      rw [decide_eq_false g'] at h2
      cases dn <;> simp at h1 h2
    · have g' : H.it t 0 < H.it s 0 := by omega
      rw [decide_eq_false g] at h1
      rw [decide_eq_true g'] at h2
      cases dn <;> simp at h1 h2
theorem Best.one (h : Best S dn hd b) (h' : Best S dn hd b') : b = b' :=
  less_total (h'.2.2 b h.1 h.2.1) (h.2.2 b' h'.1 h'.2.1)
/-- all sources are done -/
def Done (S : Sys) (hd : Nat → Nat) : Prop := ∀ s, s < S.K → S.len s ≤ hd s
theorem Best.not_done (h : Best S dn hd b) (hd' : Done S hd) : False := by
  have := hd' b h.1
  have := h.2.1
  omega
theorem Runs.det (h : Runs S dn hd0 l hd) : ∀ {l' hd'}, Runs S dn hd0 l' hd' → l.length = l'.length → l = l' ∧ hd = hd' := by
  induction h with
  | nil =>
    intro l' hd' h' e
    cases h' with
    | nil => exact ⟨rfl, rfl⟩
    | snoc h1 h2 => simp at e
  | snoc h1 h2 ih =>
    intro l' hd' h' e
    cases h' with
    | nil => simp at e
    | snoc h3 h4 =>
      obtain ⟨rfl, rfl⟩ := ih h3 (by simpa using e)
      obtain rfl := h2.one h4
      exact ⟨rfl, rfl⟩
/-- a run's first part, and the next one -/
theorem Runs.part (h : Runs S dn hd0 l hd) : ∀ k, k ≤ l.length → ∃ hk, Runs S dn hd0 (l.take k) hk ∧ (k < l.length → ∃ b, Best S dn hk b) := by
  induction h with
  | nil => intro k hk; simp at hk; subst hk; exact ⟨_, by simpa using Runs.nil, fun h => by simp at h⟩
  | @snoc l hd b h1 h2 ih =>
    intro k hk
    rw [List.length_append] at hk
    simp at hk
    by_cases e : k = l.length + 1
    · subst e
      refine ⟨updN hd b (hd b + 1), ?_, fun h => by simp at h⟩
      rw [List.take_of_length_le (by simp)]
      exact h1.snoc h2
    · obtain ⟨hk', r, nx⟩ := ih k (by omega)
      refine ⟨hk', by rw [List.take_append_of_le_length (by omega)]; exact r, fun _ => ?_⟩
      by_cases e2 : k = l.length
      · subst e2
        rw [List.take_length] at r
        obtain ⟨_, rfl⟩ := r.det h1 rfl
        exact ⟨b, h2⟩
      · exact nx (by omega)
theorem Runs.max (h : Runs S dn hd0 l hd) (hD : Done S hd) (h' : Runs S dn hd0 l' hd') : l'.length ≤ l.length := by
  rcases Nat.lt_or_ge l.length l'.length with hl | hl
  · obtain ⟨hk, r, nx⟩ := h'.part l.length (by omega)
    obtain ⟨b, hb⟩ := nx hl
    obtain ⟨_, rfl⟩ := h.det r (by rw [List.length_take]; omega)
    exact absurd hD hb.not_done
  · exact hl
theorem Runs.take (h : Runs S dn hd0 l hd) (h' : Runs S dn hd0 l' hd') (hl : l'.length ≤ l.length) : l' = l.take l'.length := by
  obtain ⟨hk, r, _⟩ := h.part l'.length hl
  exact (h'.det r (by rw [List.length_take]; omega)).1
theorem Runs.whole (h : Runs S dn hd0 l hd) (hD : Done S hd) (h' : Runs S dn hd0 l' hd') (hD' : Done S hd') : l = l' ∧ hd = hd' :=
  h.det h' (Nat.le_antisymm (h'.max hD' h) (h.max hD h'))
theorem Runs.none (h : Runs S dn hd0 l hd) (hD : Done S hd0) : l = [] := by
  have := Runs.max (Runs.nil : Runs S dn hd0 [] hd0) hD h
  exact List.eq_nil_of_length_eq_zero (by simpa using this)
/-- a run, and one that goes on from its end -/
theorem Runs.join (h : Runs S dn hd0 l hd) (h' : Runs S dn hd l' hd') : Runs S dn hd0 (l ++ l') hd' := by
  induction h' with
  | nil => simpa using h
  | snoc h1 h2 ih => rw [← List.append_assoc]; exact ih.snoc h2
end
end Go.Proofs.Ytecaegjonhimmaa
