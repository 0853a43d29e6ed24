/-
  Heaps of sources, in plain: what a swap keeps; sifting up and down.
-/
import Derived.Test.YtecaegjonhimmaaMgB
namespace Go.Proofs.Ytecaegjonhimmaa
set_option linter.unusedVariables false
set_option linter.unusedSimpArgs false

section
variable {dn : Bool} {H : Hs}
theorem less_asym {s t : Nat} (h : lessB dn H s t = true) : lessB dn H t s = false := by
  unfold lessB at *
  by_cases e : H.it s 0 = H.it t 0
  · rw [if_pos e] at h
    rw [if_pos e.symm]
    exact decide_eq_false (by have := of_decide_eq_true h; omega)
  · rw [if_neg e] at h
    rw [if_neg (fun x => e x.symm)]
    cases dn <;> simp at h ⊢ <;> omega
theorem less_ntrans {a b c : Nat} (h1 : lessB dn H a b = false) (h2 : lessB dn H b c = false) : lessB dn H a c = false := by
  unfold lessB at *
  by_cases e1 : H.it a 0 = H.it b 0
  · rw [if_pos e1] at h1
    have g1 := of_decide_eq_false h1
    by_cases e2 : H.it b 0 = H.it c 0
    · rw [if_pos e2] at h2
      have g2 := of_decide_eq_false h2
      rw [if_pos (e1.trans e2)]
      exact decide_eq_false (by omega)
    · rw [if_neg e2] at h2
      rw [if_neg (by rw [e1]; exact e2), e1]
      exact h2
  · rw [if_neg e1] at h1
    by_cases e2 : H.it b 0 = H.it c 0
    · rw [if_neg (by rw [← e2]; exact e1), ← e2]
      exact h1
    · rw [if_neg e2] at h2
      by_cases e3 : H.it a 0 = H.it c 0
      · exfalso
        cases dn <;> simp at h1 h2 <;> omega
      · rw [if_neg e3]
        cases dn <;> simp at h1 h2 ⊢ <;> omega
def par (c : Nat) : Nat := (c - 1) / 2
/-- the first m are a heap -/
def Ord (dn : Bool) (H : Hs) (m : Nat) (pl : Nat → Nat) : Prop := ∀ i, 0 < i → i < m → lessB dn H (pl i) (pl (par i)) = false
def UpInv (dn : Bool) (H : Hs) (m : Nat) (pl : Nat → Nat) (j : Nat) : Prop :=
  (∀ i, 0 < i → i < m → i ≠ j → lessB dn H (pl i) (pl (par i)) = false) ∧ (0 < j → ∀ c, 0 < c → c < m → par c = j → lessB dn H (pl c) (pl (par j)) = false)
def DownInv (dn : Bool) (H : Hs) (m : Nat) (pl : Nat → Nat) (i : Nat) : Prop :=
  (∀ c, 0 < c → c < m → par c ≠ i → lessB dn H (pl c) (pl (par c)) = false) ∧ (0 < i → ∀ c, 0 < c → c < m → par c = i → lessB dn H (pl c) (pl (par i)) = false)
theorem par_lt {c : Nat} (h : 0 < c) : par c < c := by unfold par; omega
theorem swp_r {pl : Nat → Nat} {i j : Nat} : swp pl i j j = pl i := if_pos rfl
theorem swp_l {pl : Nat → Nat} {i j : Nat} (h : i ≠ j) : swp pl i j i = pl j := (if_neg h).trans (if_pos rfl)
theorem swp_o {pl : Nat → Nat} {i j m : Nat} (h1 : m ≠ i) (h2 : m ≠ j) : swp pl i j m = pl m := (if_neg h2).trans (if_neg h1)
theorem up_end0 {m : Nat} {pl : Nat → Nat} (h : UpInv dn H m pl 0) : Ord dn H m pl := fun i h1 h2 => h.1 i h1 h2 (by omega)
theorem up_end {m : Nat} {pl : Nat → Nat} {j : Nat} (h : UpInv dn H m pl j) (hl : lessB dn H (pl j) (pl (par j)) = false) : Ord dn H m pl := fun i h1 h2 => by
  by_cases e : i = j
  · subst e; exact hl
  · exact h.1 i h1 h2 e
theorem up_step {m : Nat} {pl : Nat → Nat} {j : Nat} (h : UpInv dn H m pl j) (h0 : 0 < j) (hj : j < m) (hl : lessB dn H (pl j) (pl (par j)) = true) : UpInv dn H m (swp pl (par j) j) (par j) := by
  have hp := par_lt h0
  have hpj : par j ≠ j := by omega
  refine ⟨fun i h1 h2 h3 => ?_, fun h4 c h1 h2 h3 => ?_⟩
  · by_cases e : i = j
    · subst e
      rw [swp_r, swp_l hpj]
      exact less_asym hl
    · rw [swp_o h3 e]
      by_cases e2 : par i = par j
      · rw [e2, swp_l hpj]
        exact less_ntrans (by have := h.1 i h1 h2 e; rwa [e2] at this) (less_asym hl)
      · by_cases e3 : par i = j
        · rw [e3, swp_r]
          exact h.2 h0 i h1 h2 e3
        · rw [swp_o e2 e3]
          exact h.1 i h1 h2 e
  · have hpp := par_lt h4
    rw [swp_o (m := par (par j)) (by omega) (by omega)]
    have hq := h.1 (par j) h4 (by omega) hpj
    by_cases e : c = j
    · subst e; rw [swp_r]; exact hq
    · rw [swp_o (by have := par_lt h1; omega) e]
      exact less_ntrans (by have := h.1 c h1 h2 e; rwa [h3] at this) hq
theorem down_end {m : Nat} {pl : Nat → Nat} {i : Nat} (h : DownInv dn H m pl i) (hc : ∀ c, 0 < c → c < m → par c = i → lessB dn H (pl c) (pl i) = false) : Ord dn H m pl := fun c h1 h2 => by
  by_cases e : par c = i
  · rw [e]; exact hc c h1 h2 e
  · exact h.1 c h1 h2 e
theorem down_step {m : Nat} {pl : Nat → Nat} {i j : Nat} (h : DownInv dn H m pl i) (h0 : 0 < j) (hj : j < m) (hp : par j = i) (hl : lessB dn H (pl j) (pl i) = true) (hmin : ∀ c, 0 < c → c < m → par c = i → lessB dn H (pl c) (pl j) = false) : DownInv dn H m (swp pl i j) j := by
  have hlt := par_lt h0
  have hij : i ≠ j := by omega
  refine ⟨fun c h1 h2 h3 => ?_, fun _ c h1 h2 h3 => ?_⟩
  · by_cases e : c = j
    · subst e
      rw [swp_r, hp, swp_l hij]
      exact less_asym hl
    · by_cases e2 : par c = i
      · have hc := par_lt h1
        rw [swp_o (m := c) (by omega) e, e2, swp_l hij]
        exact hmin c h1 h2 e2
      · by_cases e3 : c = i
        · subst e3
          rw [swp_l hij, swp_o e2 h3]
          exact h.2 h1 j h0 hj hp
        · rw [swp_o e3 e, swp_o e2 h3]
          exact h.1 c h1 h2 e2
  · have hc := par_lt h1
    rw [hp, swp_l hij, swp_o (m := c) (by omega) (by omega)]
    have := h.1 c h1 h2 (by omega)
    rwa [h3] at this
theorem par_iff {c i : Nat} (h : 0 < c) : par c = i ↔ c = 2 * i + 1 ∨ c = 2 * i + 2 := by unfold par; omega
end

/-- the same sources at the first n places, each once -/
def Inj (n : Nat) (pl : Nat → Nat) : Prop := ∀ i j, i < n → j < n → pl i = pl j → i = j
def SameS (n : Nat) (pl pl' : Nat → Nat) : Prop := (∀ s, (∃ i, i < n ∧ pl' i = s) ↔ ∃ i, i < n ∧ pl i = s) ∧ (Inj n pl → Inj n pl')
theorem SameS.refl (n : Nat) (pl : Nat → Nat) : SameS n pl pl := ⟨fun _ => Iff.rfl, id⟩
theorem SameS.trans {n : Nat} {a b c : Nat → Nat} (h : SameS n a b) (k : SameS n b c) : SameS n a c := ⟨fun s => (k.1 s).trans (h.1 s), fun x => k.2 (h.2 x)⟩
theorem same_swp {n : Nat} {pl : Nat → Nat} {i j : Nat} (hi : i < n) (hj : j < n) : SameS n pl (swp pl i j) := by
  refine ⟨fun s => ⟨fun ⟨m, hm, e⟩ => ?_, fun ⟨m, hm, e⟩ => ?_⟩, fun h a b ha hb e => ?_⟩
  · unfold swp at e
    split at e
    · exact ⟨i, hi, e⟩
    · split at e
      · exact ⟨j, hj, e⟩
      · exact ⟨m, hm, e⟩
  · by_cases e1 : m = i
    · subst e1; exact ⟨j, hj, by rw [swp_r]; exact e⟩
    · by_cases e2 : m = j
      · subst e2
        exact ⟨i, hi, by rw [swp_l (by omega)]; exact e⟩
      · exact ⟨m, hm, by rw [swp_o e1 e2]; exact e⟩
  · by_cases hij : i = j
    · subst hij
      have e2 : ∀ m, swp pl i i m = pl m := fun m => by unfold swp; split <;> simp_all
      rw [e2, e2] at e
      exact h a b ha hb e
    · have cs : ∀ m, m < n → ∃ k, k < n ∧ swp pl i j m = pl k ∧ ((m = j ∧ k = i) ∨ (m = i ∧ k = j) ∨ (m ≠ i ∧ m ≠ j ∧ k = m)) := fun m hm => by
        by_cases m1 : m = j
        · subst m1; exact ⟨i, hi, swp_r, Or.inl ⟨rfl, rfl⟩⟩
        · by_cases m2 : m = i
          · subst m2; exact ⟨j, hj, swp_l hij, Or.inr (Or.inl ⟨rfl, rfl⟩)⟩
          · exact ⟨m, hm, swp_o m2 m1, Or.inr (Or.inr ⟨m2, m1, rfl⟩)⟩
      obtain ⟨k1, h1, e1, c1⟩ := cs a ha
      obtain ⟨k2, h2, e2, c2⟩ := cs b hb
      have := h k1 k2 h1 h2 (by rw [← e1, ← e2]; exact e)
      omega
end Go.Proofs.Ytecaegjonhimmaa
