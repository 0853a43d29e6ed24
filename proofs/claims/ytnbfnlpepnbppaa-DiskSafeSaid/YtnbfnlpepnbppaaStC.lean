/-
  A slice of structs of whole numbers that came as an argument, opened.
-/
import Derived.Test.YtnbfnlpepnbppaaStB
import Derived.Test.YtnbfnlpepnbppaaSs
namespace Go.Proofs.Ytnbfnlpepnbppaa
set_option linter.unusedVariables false
set_option linter.unusedSimpArgs false
open Go.ChangeShapes Go.WideShapes Go.Deep Go.ChangeAt Go.RowKit

section
variable {H : Type} {enc : TypeId × Value → H} {P : Program}
/-- the number in a cell, if it is one of that kind -/
noncomputable def cellK (k : IntKind) (W : World) (p : Addr) : Int := open Classical in if k.has (cellI W p) then cellI W p else 0
theorem cellK_of {W : World} {p : Addr} {k : IntKind} {z : Int} (h : W.cell? p = some (.int k z)) (hz : k.has z) : W.cell? p = some (.int k (cellK k W p)) := by
  obtain ⟨h1, h2⟩ := cellI_of h
  unfold cellK
  rw [h2, if_pos hz]; exact h
theorem cellK_has (k : IntKind) (h0 : k.has 0) (W : World) (p : Addr) : k.has (cellK k W p) := by
  unfold cellK
  split
  · assumption
  · exact h0
theorem openL_structs {W : World} {t e : TypeId} {cs : List Value} {x : DataW H × List MemPlace} {fuel b : Nat} {sp : Nat → Bool} {hd : Bool} {k : Nat} (K : Nat → IntKind) (hK0 : ∀ j, (K j).has 0) (ht : P.underlying t = some (.slice e)) (hC : P.cellsOf e = k) (hk : 0 < k)
    (hl : ∀ (fuel : Nat) (cs' : List Value) (y : DataW H × List MemPlace), DataW.trod enc P W b sp hd fuel e cs' = some y → ∀ j, j < k → ∃ n, cs'[j]? = some (.int (K j) n) ∧ (K j).has n)
    (hf : DataW.trod enc P W b sp hd fuel t cs = some x) :
    ∃ (A : Option Addr) (n c : Nat) (F : Nat → Nat → Int), cs = [.slice A n c] ∧ n ≤ c ∧ c ≤ maxLen ∧ SsIs W A n k (fun i => (List.range k).map (fun j => .int (K j) (F i j))) ∧ ∀ i j, (K j).has (F i j) := by
  rcases open_slice ht hf with ⟨h1, _⟩ | ⟨a, n, c, m, n', D, Pl, h1, hb, hl1, hm, hmm, hx, hi⟩
  · subst h1
    exact ⟨none, 0, 0, fun _ _ => 0, rfl, Nat.le_refl _, by simp [maxLen], SsIs.nil, fun _ j => hK0 j⟩
  · subst h1
    have hlm : n ≤ m := by rw [hmm]; split <;> omega
    have key : ∀ i, i < n → ∀ j, j < k → W.cell? (a.add (i * k + j)) = some (.int (K j) (cellK (K j) W (a.add (i * k + j)))) := by
      intro i hin j hj
      obtain ⟨cs', hc, ht'⟩ := hi i (by omega)
      rw [hC] at hc
      obtain ⟨_, hcl, hat⟩ := World.cells?_some hc
      obtain ⟨z, h2, h3⟩ := hl _ _ _ ht' j hj
      have h4 := hat j (by omega)
      rw [← Go.Deep.add_add] at *
      exact cellK_of (h4.trans (by rw [← h2])) h3
    refine ⟨_, _, _, fun i j => cellK (K j) W (a.add (i * k + j)), rfl, hl1, hm, ?_, fun i j => cellK_has _ (hK0 j) _ _⟩
    intro hn
    have key0 := key 0 hn 0 hk
    rw [Nat.zero_mul, Nat.add_zero] at key0
    have hs : a.spot = none := spot_none key0
    have hadd : ∀ i, a.add i = ⟨a.block, a.off + i, none⟩ := fun i => by
      obtain ⟨b, o, s⟩ := a
      simp only at hs
      subst hs
      unfold Addr.add
      split <;> simp_all
    refine ⟨a.block, a.off, (by have := hadd 0; obtain ⟨b, o, s⟩ := a; simp only at hs; subst hs; rfl), ?_, fun i hin j v hv => ?_⟩
    · have := World.block_lt_of_cell? W _ key0
      rwa [hadd] at this
    · have hj : j < k := by
        rcases Nat.lt_or_ge j k with h | h
        · exact h
        · rw [List.getElem?_eq_none (by simpa using h)] at hv; cases hv
      rw [List.getElem?_map, List.getElem?_range hj] at hv
      have h5 := key i hin j hj
      rw [hadd] at h5
      rw [Nat.add_assoc, h5]
      simpa [hadd] using hv
end
end Go.Proofs.Ytnbfnlpepnbppaa
