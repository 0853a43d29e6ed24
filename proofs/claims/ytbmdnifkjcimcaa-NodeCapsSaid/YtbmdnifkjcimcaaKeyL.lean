/-
  Plain laws of keys: which one is less.
-/
import Derived.Test.YtbmdnifkjcimcaaJ2
import Derived.Test.YtbmdnifkjcimcaaWideR
namespace Go.Proofs.Ytbmdnifkjcimcaa
set_option linter.unusedVariables false
set_option linter.unusedSimpArgs false
open Go.RowKit

theorem dgt_cat (e s : Int) {j : Nat} (hj : j < 16) : cat (nb 8 e) 8 (nb 8 s) j = dgt e s j := by
  unfold cat dgt nb
  split
  · rw [show 8 - 1 - j = 7 - j by omega]
  · rw [show 8 - 1 - (j - 8) = 15 - j by omega]
theorem rowLess_congr {d d' e e' : Nat → Int} : ∀ {n : Nat}, (∀ i, i < n → d i = d' i) → (∀ i, i < n → e i = e' i) → rowLess d e n = rowLess d' e' n := by
  intro n h1 h2
  rw [Bool.eq_iff_iff, rowLess_iff, rowLess_iff]
  constructor
  · rintro ⟨k, hk, a, b⟩
    exact ⟨k, hk, fun j hj => by rw [← h1 j (by omega), ← h2 j (by omega)]; exact a j hj, by rw [← h1 k hk, ← h2 k hk]; exact b⟩
  · rintro ⟨k, hk, a, b⟩
    exact ⟨k, hk, fun j hj => by rw [h1 j (by omega), h2 j (by omega)]; exact a j hj, by rw [h1 k hk, h2 k hk]; exact b⟩
/-- are the first n alike? -/
def allEq (d e : Nat → Int) : Nat → Bool
  | 0 => true
  | n + 1 => allEq d e n && d n == e n
theorem allEq_iff (d e : Nat → Int) : ∀ n, allEq d e n = true ↔ ∀ i, i < n → d i = e i
  | 0 => by simp [allEq]
  | n + 1 => by
    simp only [allEq, Bool.and_eq_true, allEq_iff d e n, beq_iff_eq]
    constructor
    · rintro ⟨h1, h2⟩ i hi
      by_cases e : i = n
      · rw [e]; exact h2
      · exact h1 i (by omega)
    · intro h; exact ⟨fun i hi => h i (by omega), h n (by omega)⟩
theorem rowLess_cat (d d' e e' : Nat → Int) (n m : Nat) : rowLess (cat d n d') (cat e n e') (n + m) = (rowLess d e n || (allEq d e n && rowLess d' e' m)) := by
  rw [Bool.eq_iff_iff, rowLess_iff, Bool.or_eq_true, Bool.and_eq_true, allEq_iff, rowLess_iff, rowLess_iff]
  constructor
  · rintro ⟨k, hk, a, b⟩
    by_cases h : k < n
    · exact Or.inl ⟨k, h, fun j hj => by have := a j hj; rwa [cat_lo (by omega), cat_lo (by omega)] at this, by rwa [cat_lo h, cat_lo h] at b⟩
    · obtain ⟨i, rfl⟩ : ∃ i, k = n + i := ⟨k - n, by omega⟩
      refine Or.inr ⟨fun j hj => by have := a j (by omega); rwa [cat_lo hj, cat_lo hj] at this, i, by omega, fun j hj => by have := a (n + j) (by omega); rwa [cat_hi, cat_hi] at this, by rwa [cat_hi, cat_hi] at b⟩
  · rintro (⟨k, hk, a, b⟩ | ⟨h, k, hk, a, b⟩)
    · exact ⟨k, by omega, fun j hj => by rw [cat_lo (by omega), cat_lo (by omega)]; exact a j hj, by rw [cat_lo hk, cat_lo hk]; exact b⟩
    · refine ⟨n + k, by omega, fun j hj => ?_, by rw [cat_hi, cat_hi]; exact b⟩
      by_cases hj' : j < n
      · rw [cat_lo hj', cat_lo hj']; exact h j hj'
      · obtain ⟨i, rfl⟩ : ∃ i, j = n + i := ⟨j - n, by omega⟩
        rw [cat_hi, cat_hi]; exact a i (by omega)
theorem rowLess_self (d : Nat → Int) (n : Nat) : rowLess d d n = false := by
  rw [Bool.eq_false_iff]; intro h
  obtain ⟨k, _, _, h⟩ := (rowLess_iff n d d).1 h
  omega
/-- two words stand as their pairs do -/
def lexB (a b c d : Int) : Bool := decide (a < c) || (a == c && decide (b < d))
theorem cmp_lex {a b c d : Int} (hb : Wd b) (hd : Wd d) : decide (cmpV a b c d < 0) = lexB a b c d := by
  unfold lexB
  rw [Bool.eq_iff_iff, decide_eq_true_eq, cmp_lt hb hd]
  unfold V Wd at *
  simp only [Bool.or_eq_true, decide_eq_true_eq, Bool.and_eq_true, beq_iff_eq]
  omega
theorem two_less {a b c d : Int} (ha : Wd a) (hb : Wd b) (hc : Wd c) (hd : Wd d) : Op.bytesLess (strF (cat (nb 8 a) 8 (nb 8 b)) 16).toList (strF (cat (nb 8 c) 8 (nb 8 d)) 16).toList = lexB a b c d := by
  rw [strF_congr (fun i hi => dgt_cat a b hi), strF_congr (d := cat (nb 8 c) 8 (nb 8 d)) (fun i hi => dgt_cat c d hi), dgt_less_at ha hb hc hd, cmp_lex hb hd]
theorem nb_less {a b : Int} (ha : Wd a) (hb : Wd b) : rowLess (nb 8 a) (nb 8 b) 8 = decide (a < b) := by
  have w0 : Wd 0 := by unfold Wd; decide
  have h := rowLess_cat (nb 8 0) (nb 8 a) (nb 8 0) (nb 8 b) 8 8
  rw [rowLess_self, rowLess_congr (fun i hi => dgt_cat 0 a hi) (fun i hi => dgt_cat 0 b hi), dgt_less w0 ha w0 hb, cmp_lex ha hb] at h
  have e : allEq (nb 8 0) (nb 8 0) 8 = true := (allEq_iff _ _ _).2 (fun _ _ => rfl)
  rw [e] at h
  simpa [lexB] using h.symm
theorem pair_less {a b s c d t : Int} (ha : Wd a) (hb : Wd b) (hs : Wd s) (hc : Wd c) (hd : Wd d) (ht : Wd t) : Op.bytesLess (strF (cat (dgt a b) 16 (nb 8 s)) 24).toList (strF (cat (dgt c d) 16 (nb 8 t)) 24).toList = (decide (cmpV a b c d < 0) || (cmpV a b c d == 0 && decide (s < t))) := by
  rw [strF_less (fun i _ => cat_ok (dgt_lo a b) (nb_lo 8 s) i) (fun i _ => cat_ok (dgt_lo c d) (nb_lo 8 t) i), show (24 : Nat) = 16 + 8 from rfl, rowLess_cat, dgt_less ha hb hc hd, nb_less hs ht]
  congr 2
  have h := dgt_eq ha hb hc hd
  have e : allEq (dgt a b) (dgt c d) 16 = (a == c && b == d) := by
    rw [← h, Bool.eq_iff_iff, allEq_iff, decide_eq_true_eq]
    exact ⟨fun h => ⟨rfl, h⟩, fun h => h.2⟩
  rw [e, cmpV_V hb hd]
  unfold cmpI V Wd at *
  rw [Bool.eq_iff_iff]
  simp only [Bool.and_eq_true, beq_iff_eq]
  split
  · constructor
    · omega
    · intro h; exact absurd h (by decide)
  · split
    · constructor
      · omega
      · intro h; exact absurd h (by decide)
    · constructor
      · intro _; rfl
      · intro _; omega
end Go.Proofs.Ytbmdnifkjcimcaa
