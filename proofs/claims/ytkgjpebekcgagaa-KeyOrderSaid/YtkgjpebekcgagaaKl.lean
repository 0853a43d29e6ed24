/-
  KeyOrder: the plain law, and the walk.
-/
import Derived.Test.YtkgjpebekcgagaaKj
import Derived.Test.YtkgjpebekcgagaaWideCmp
import Derived.Test.YtkgjpebekcgagaaEq
import Derived.Deep.DeepCutAuto
import Derived.Deep.RegionWith
namespace Go.Proofs.Ytkgjpebekcgagaa
set_option linter.unusedVariables false
set_option linter.unusedSimpArgs false
open Go.RowKit

theorem cmpB_less {d e : Nat → Int} {n : Nat} (hd : ∀ i, 0 ≤ d i ∧ d i < 256) (he : ∀ i, 0 ≤ e i ∧ e i < 256) : cmpB d n e n = if rowLess d e n = true then -1 else if rowLess e d n = true then 1 else 0 := by
  rcases cmpB_cases hd he (n := n) with ⟨h1, h2⟩ | ⟨k, h1, h2, ⟨h3, h4⟩ | ⟨h3, h4⟩⟩
  · have a : ¬ rowLess d e n = true := by
      rw [rowLess_iff]; rintro ⟨k, hk, _, h⟩; have := h2 k hk; omega
    have b : ¬ rowLess e d n = true := by
      rw [rowLess_iff]; rintro ⟨k, hk, _, h⟩; have := h2 k hk; omega
    rw [if_neg a, if_neg b, h1]
  · rw [if_pos ((rowLess_iff n d e).2 ⟨k, h1, h2, h4⟩), h3]
  · have a : ¬ rowLess d e n = true := by
      rw [rowLess_iff]; rintro ⟨i, hi, g1, g2⟩
      rcases Nat.lt_trichotomy i k with q | q | q
      · have := h2 i q; omega
      · rw [q] at g2; omega
      · have := g1 k q; omega
    rw [if_neg a, if_pos ((rowLess_iff n e d).2 ⟨k, h1, fun j hj => (h2 j hj).symm, h4⟩), h3]
/-- how two pairs stand -/
def wantV (cc n m : Int) : Int := if cc = 0 ∧ n < m then -1 else if cc = 0 ∧ m < n then 1 else cc
theorem pair_row {a b s c d t : Int} (ha : Wd a) (hb : Wd b) (hs : Wd s) (hc : Wd c) (hd : Wd d) (ht : Wd t) : rowLess (cat (dgt a b) 16 (nb 8 s)) (cat (dgt c d) 16 (nb 8 t)) 24 = (decide (cmpV a b c d < 0) || (cmpV a b c d == 0 && decide (s < t))) := by
  rw [← pair_less ha hb hs hc hd ht, strF_less (fun i _ => cat_ok (dgt_lo a b) (nb_lo 8 s) i) (fun i _ => cat_ok (dgt_lo c d) (nb_lo 8 t) i)]
theorem cmpV_3 {a b c d : Int} (hb : Wd b) (hd : Wd d) : cmpV a b c d = -1 ∧ V a b < V c d ∨ cmpV a b c d = 0 ∧ V a b = V c d ∨ cmpV a b c d = 1 ∧ V c d < V a b := by
  rw [cmpV_V hb hd]
  unfold cmpI
  split
  · exact Or.inl ⟨rfl, by assumption⟩
  · split
    · exact Or.inr (Or.inr ⟨rfl, by assumption⟩)
    · exact Or.inr (Or.inl ⟨rfl, by omega⟩)
theorem pair_cmp {a b s c d t : Int} (ha : Wd a) (hb : Wd b) (hs : Wd s) (hc : Wd c) (hd : Wd d) (ht : Wd t) : cmpB (cat (dgt a b) 16 (nb 8 s)) 24 (cat (dgt c d) 16 (nb 8 t)) 24 = wantV (cmpV a b c d) s t := by
  rw [cmpB_less (cat_ok (dgt_lo a b) (nb_lo 8 s)) (cat_ok (dgt_lo c d) (nb_lo 8 t)), pair_row ha hb hs hc hd ht, pair_row hc hd ht ha hb hs]
  unfold wantV
  rcases cmpV_3 (a := a) (c := c) hb hd with ⟨h1, h2⟩ | ⟨h1, h2⟩ | ⟨h1, h2⟩ <;> rcases cmpV_3 (a := c) (c := a) hd hb with ⟨g1, g2⟩ | ⟨g1, g2⟩ | ⟨g1, g2⟩ <;> first | (exfalso; omega) | (rw [h1, g1]; simp; done) | (rw [h1, g1]; simp; (repeat' split) <;> omega)
theorem fil_low (a b : Int) : ∀ i, i < 24 → fil (dgt a b) 16 0 i = cat (dgt a b) 16 (nb 8 0) i := by
  intro i hi
  unfold fil cat nb
  split
  · rfl
  · simp
theorem nb_top : ∀ j, j < 8 → nb 8 18446744073709551615 j = 255 := by decide
theorem fil_high (a b : Int) : ∀ i, i < 24 → fil (dgt a b) 16 255 i = cat (dgt a b) 16 (nb 8 18446744073709551615) i := by
  intro i hi
  unfold fil cat
  split
  · rfl
  · rw [nb_top _ (by omega)]
theorem cmpB_congr {d d' e e' : Nat → Int} {n m : Nat} (h1 : ∀ i, i < n → d i = d' i) (h2 : ∀ i, i < m → e i = e' i) : cmpB d n e m = cmpB d' n e' m := by
  unfold cmpB bL
  rw [List.map_congr_left (g := fun i => UInt8.ofNat (d' i).toNat) (fun i hi => by rw [h1 i (by simpa using hi)]), List.map_congr_left (l := List.range m) (g := fun i => UInt8.ofNat (e' i).toNat) (fun i hi => by rw [h2 i (by simpa using hi)])]
theorem order_in {a b c d t : Int} (ha : Wd a) (hb : Wd b) (hc : Wd c) (hd : Wd d) (ht : Wd t) :
    (decide (cmpB (fil (dgt a b) 16 0) 24 (cat (dgt c d) 16 (nb 8 t)) 24 ≤ 0) && decide (cmpB (cat (dgt c d) 16 (nb 8 t)) 24 (fil (dgt a b) 16 255) 24 ≤ 0)) = (a == c && b == d) := by
  have w0 : Wd 0 := by unfold Wd; decide
  have w1 : Wd 18446744073709551615 := by unfold Wd; decide
  rw [cmpB_congr (fil_low a b) (fun _ _ => rfl), cmpB_congr (d := cat (dgt c d) 16 (nb 8 t)) (fun _ _ => rfl) (fil_high a b), pair_cmp ha hb w0 hc hd ht, pair_cmp hc hd ht ha hb w1]
  have t1 := ht
  unfold Wd at t1
  have key : (a == c && b == d) = decide (V a b = V c d) := by
    rw [Bool.eq_iff_iff]
    unfold V Wd at *
    simp
    omega
  rw [key, Bool.eq_iff_iff]
  simp only [Bool.and_eq_true, decide_eq_true_eq]
  unfold wantV
  rcases cmpV_3 (a := a) (c := c) hb hd with ⟨h1, h2⟩ | ⟨h1, h2⟩ | ⟨h1, h2⟩ <;> rcases cmpV_3 (a := c) (c := a) hd hb with ⟨g1, g2⟩ | ⟨g1, g2⟩ | ⟨g1, g2⟩ <;> first | (exfalso; omega) | (rw [h1, g1]; (repeat' split) <;> omega)
end Go.Proofs.Ytkgjpebekcgagaa
