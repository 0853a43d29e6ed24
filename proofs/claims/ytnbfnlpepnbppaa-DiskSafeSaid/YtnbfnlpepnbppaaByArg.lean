/-
  Arguments that are slices of bytes, or texts, opened.
-/
import Derived.Test.YtnbfnlpepnbppaaSlArg
import Derived.Test.YtnbfnlpepnbppaaStr
namespace Go.Proofs.Ytnbfnlpepnbppaa
set_option linter.unusedVariables false
set_option linter.unusedSimpArgs false
open Go.ChangeShapes Go.WideShapes Go.Deep Go.ChangeAt Go.RowKit

section
variable {H : Type} {enc : TypeId × Value → H} {P : Program}
/-- the byte in a cell -/
def cellB (W : World) (p : Addr) : Int := if 0 ≤ cellI W p ∧ cellI W p < 256 then cellI W p else 0
theorem cellB_lo (W : World) (p : Addr) : 0 ≤ cellB W p ∧ cellB W p < 256 := by unfold cellB; split <;> omega
theorem cellB_of {W : World} {p : Addr} {z : Int} (h : W.cell? p = some (.int .u8 z)) (hz : 0 ≤ z ∧ z < 256) : W.cell? p = some (.int .u8 (cellB W p)) := by
  obtain ⟨h1, h2⟩ := cellI_of h
  unfold cellB
  rw [h2, if_pos hz]; exact h

theorem open_bytes {W : World} {t e : TypeId} {v : Value} {d : DataW H} {p : List MemPlace} {b : Nat} {sp : Nat → Bool} {hd : Bool} (ht : P.underlying t = some (.slice e)) (he : P.underlying e = some (.int .u8))
    (hC : P.cellsOf e = 1) (hcell : ∃ A n c, v = .slice A n c) (h : DataW.Trod enc P W b sp hd t v d p) :
    ∃ (A : Option Addr) (n c : Nat) (x : Nat → Int), v = .slice A n c ∧ n ≤ maxLen ∧ SlIs W A n (yV x) ∧ ∀ i, 0 ≤ x i ∧ x i < 256 := by
  obtain ⟨A, n, c, rfl⟩ := hcell
  obtain ⟨fuel, hf⟩ := h
  rcases open_slice ht hf with ⟨h1, _⟩ | ⟨a, len, cap, m, n', D, Pl, h1, hb, hl, hm, hmm, hx, hi⟩
  · cases h1
    exact ⟨none, 0, 0, fun _ => 0, rfl, by simp [maxLen], SlIs.nil, fun _ => (⟨Int.le_refl 0, by decide⟩ : (0 : Int) ≤ 0 ∧ (0 : Int) < 256)⟩
  · cases h1
    have hlm : n ≤ m := by rw [hmm]; split <;> omega
    have key : ∀ i, i < n → W.cell? (a.add i) = some (.int .u8 (cellB W (a.add i))) := by
      intro i hil
      obtain ⟨cs', hc, ht'⟩ := hi i (by omega)
      rw [hC, Nat.mul_one] at hc
      obtain ⟨z0, e0, _, w0⟩ := DataW.trod_int he ht'
      obtain ⟨_, hcl, hat⟩ := World.cells?_some hc
      have := hat 0 (by omega)
      have e1 : (a.add i).add 0 = a.add i := by simp [Addr.add]
      rw [e1, e0] at this
      exact cellB_of this (has_u8 (wf_has w0))
    refine ⟨_, _, _, fun i => cellB W (a.add i), rfl, by omega, fun hn => ?_, fun i => cellB_lo _ _⟩
    have hs : a.spot = none := spot_none (key 0 hn)
    have hadd : ∀ i, a.add i = ⟨a.block, a.off + i, none⟩ := fun i => by
      obtain ⟨b, o, s⟩ := a
      simp only at hs
      subst hs
      unfold Addr.add
      split <;> simp_all
    refine ⟨a.block, a.off, by rw [← Nat.add_zero a.off, ← hadd 0]; rfl, ?_, fun j hj => ?_⟩
    · have := World.block_lt_of_cell? W _ (key 0 hn)
      rwa [hadd] at this
    · rw [← hadd]; exact key j hj
end
end Go.Proofs.Ytnbfnlpepnbppaa
