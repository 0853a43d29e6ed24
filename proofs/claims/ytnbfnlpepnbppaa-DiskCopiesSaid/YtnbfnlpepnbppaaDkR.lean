/-
  DiskSafe: the plain law.
-/
import Derived.Test.YtnbfnlpepnbppaaDkQ
namespace Go.Proofs.Ytnbfnlpepnbppaa
set_option linter.unusedVariables false
set_option linter.unusedSimpArgs false
open Go.RowKit Go.Shelf
attribute [local irreducible] bytesL

/-- a disk of n blocks behind t operations of writing and crashing alone: it isn't down, it has no fuse -/
structure SJ (d : DS) (N : Nat) (t : Nat) : Prop where
  n : d.n = N
  dn : d.dn = false
  f : d.f = -1
  m : d.m ≤ t
  k : d.k ≤ t
  P : ∀ i, i < d.m → d.P i < N
theorem SJ.write {d : DS} {n t : Nat} (h : SJ d n t) (a : Int) (l : Nat) (e : Nat → Int) : SJ (d.write a l e) n (t + 1) ∧ (d.write a l e).S = d.S ∧ ∀ T : Nat → Bool, (∀ i, i < d.m → T (d.P i) = true) → (∀ b, 0 ≤ a → a < n → b = a.toNat → T b = true) → ∀ i, i < (d.write a l e).m → T ((d.write a l e).P i) = true := by
  obtain ⟨h1, h2, h3, h4, h5, h6⟩ := h
  unfold DS.write
  by_cases hw : d.wok a l
  · rw [if_pos hw]
    obtain ⟨w1, w2, w3, w4⟩ := hw
    have hf : (d.put a.toNat e).f = -1 := h3
    unfold DS.act
    rw [if_neg (by omega), if_neg (by omega)]
    refine ⟨⟨h1, h2, h3, by show d.m + 1 ≤ t + 1; omega, by show d.k + 1 ≤ t + 1; omega, fun i hi => ?_⟩, rfl, fun T hT ha i hi => ?_⟩
    · have : i < d.m + 1 := hi
      show updN d.P d.m a.toNat i < n
      unfold updN
      split
      · omega
      · exact h6 i (by omega)
    · have : i < d.m + 1 := hi
      show T (updN d.P d.m a.toNat i) = true
      unfold updN
      split
      · exact ha _ w2 (by omega) rfl
      · exact hT i (by omega)
  · rw [if_neg hw]
    exact ⟨⟨h1, h2, h3, by omega, by omega, h6⟩, rfl, fun T hT _ => hT⟩
theorem SJ.sync {d : DS} {n t : Nat} (h : SJ d n t) : SJ d.sync n t ∧ d.serr = 0 ∧ d.sync.m = 0 := by
  obtain ⟨h1, h2, h3, h4, h5, h6⟩ := h
  unfold DS.sync DS.serr DS.act
  rw [if_neg (by rw [h2]; simp), if_neg (by omega), if_neg (by omega), if_neg (by omega), if_neg (by rw [h2]; simp; omega)]
  exact ⟨⟨h1, h2, h3, Nat.zero_le _, h5, fun i hi => absurd hi (Nat.not_lt_zero i)⟩, rfl, rfl⟩
theorem SJ.new (n : Nat) : SJ (DS.new n) n 0 := ⟨rfl, rfl, rfl, Nat.le_refl _, Nat.le_refl _, fun i hi => absurd hi (Nat.not_lt_zero i)⟩
theorem SJ.up {d : DS} {n t t' : Nat} (h : SJ d n t) (ht : t ≤ t') : SJ d n t' := ⟨h.n, h.dn, h.f, Nat.le_trans h.m ht, Nat.le_trans h.k ht, h.P⟩
theorem SJ.crash {d : DS} {n t : Nat} (h : SJ d n t) (lf lt : Nat → Int) (nl : Nat) : SJ (d.crash lf lt nl) n t := ⟨h.n, rfl, rfl, Nat.zero_le _, h.k, fun i hi => absurd hi (Nat.not_lt_zero i)⟩
theorem SJ.rerr {d : DS} {n t : Nat} (h : SJ d n t) {z : Int} (h1 : 0 ≤ z) (h2 : z < n) : d.rerr z = 0 := by
  unfold DS.rerr
  rw [if_neg (by rw [h.dn]; simp), if_neg (by rw [h.n]; omega)]
theorem crD_same {S : Nat → Nat → Int} {P : Nat → Nat} {D : Nat → Nat → Int} {lf lt : Nat → Int} {nl b : Nat} : ∀ m, (∀ i, i < m → P i ≠ b) → crD S P D lf lt nl m b = S b
  | 0, _ => rfl
  | m + 1, h => by
    show (if m < nl ∧ P m = b then _ else _) = _
    rw [if_neg (fun x => h m (by omega) x.2)]
    exact crD_same m (fun i hi => h i (by omega))
theorem crash_cur {d : DS} {lf lt : Nat → Int} {nl b : Nat} (h : ∀ i, i < d.m → d.P i ≠ b) : (d.crash lf lt nl).cur b = d.S b := by
  show crD d.S d.P d.D lf lt nl d.m b = d.S b
  exact crD_same _ h
theorem cur_zero {d : DS} {b : Nat} (h : d.m = 0) : d.cur b = d.S b := by
  unfold DS.cur
  rw [h]; rfl
/-- ten Booleans -/
def boolsL (T : Nat → Bool) : List Value := (List.range 10).map (fun i => .bool (T i))
theorem boolsL_at (T : Nat → Bool) {i : Nat} (h : i < 10) : (boolsL T)[i]? = some (.bool (T i)) := by
  unfold boolsL
  rw [List.getElem?_map, List.getElem?_range h]; rfl
def updT (T : Nat → Bool) (a : Nat) : Nat → Bool := fun j => if j = a then true else T j
theorem boolsL_set (T : Nat → Bool) (a : Nat) : (boolsL T).toArray.setIfInBounds a (.bool true) = (boolsL (updT T a)).toArray := by
  apply Array.ext'
  rw [Array.toList_setIfInBounds]
  show (boolsL T).set a (.bool true) = boolsL (updT T a)
  apply List.ext_getElem?
  intro j
  have hl : ∀ T, (boolsL T).length = 10 := fun T => by simp [boolsL]
  by_cases hj : j < 10
  · rw [boolsL_at _ hj, List.getElem?_set]
    unfold updT
    by_cases e : a = j
    · rw [if_pos e, if_pos e.symm, if_pos (by rw [hl]; omega)]
    · rw [if_neg e, if_neg (fun h => e h.symm), boolsL_at _ hj]
  · rw [List.getElem?_eq_none (by rw [List.length_set, hl]; omega), List.getElem?_eq_none (by rw [hl]; omega)]
end Go.Proofs.Ytnbfnlpepnbppaa
