/-
  A slice of small signed numbers that came as an argument, opened.
-/
import Derived.Test.YtecaegjonhimmaaMgX
namespace Go.Proofs.Ytecaegjonhimmaa
set_option linter.unusedVariables false
set_option linter.unusedSimpArgs false
open Go.ChangeShapes Go.WideShapes Go.Deep Go.ChangeAt Go.RowKit

theorem has_i8' {z : Int} (h : IntKind.i8.has z) : -128 ≤ z ∧ z < 128 := by
  simp [IntKind.has, IntKind.min, IntKind.max, IntKind.signed, IntKind.bits] at h; omega
theorem open_i8s {H : Type} {enc : TypeId × Value → H} {W : World} {v : Value} {d : DataW H} {p : List MemPlace} {b : Nat} {sp : Nat → Bool} {hd : Bool} (hcell : ∃ A n c, v = .slice A n c) (h : DataW.Trod enc Try.prog W b sp hd 41 v d p) :
    ∃ (A : Option Addr) (n c : Nat) (q : Nat → Int), v = .slice A n c ∧ n ≤ c ∧ c ≤ maxLen ∧ SlIs W A n (fun j => .int .i8 (q j)) ∧ ∀ i, -128 ≤ q i ∧ q i < 128 := by
  obtain ⟨A, n, c, rfl⟩ := hcell
  obtain ⟨fuel, hf⟩ := h
  rcases open_slice Try.underlying41 hf with ⟨h1, _⟩ | ⟨a, n, c, m, n', D, Pl, h1, hb, hl, hm, hmm, hx, hi⟩
  · cases h1
    exact ⟨none, 0, 0, fun _ => 0, rfl, Nat.le_refl _, by simp [maxLen], SlIs.nil, fun _ => (⟨by decide, by decide⟩ : (-128 : Int) ≤ 0 ∧ (0 : Int) < 128)⟩
  · cases h1
    have hlm : n ≤ m := by rw [hmm]; split <;> omega
    have key : ∀ i, ∃ z : Int, (i < n → W.cell? (a.add i) = some (.int .i8 z)) ∧ -128 ≤ z ∧ z < 128 := by
      intro i
      by_cases hil : i < n
      · obtain ⟨cs', hc, ht'⟩ := hi i (by omega)
        rw [show Try.prog.cellsOf 42 = 1 by kernel_rfl, Nat.mul_one] at hc
        obtain ⟨z0, e0, _, w0⟩ := DataW.trod_int Try.underlying42 ht'
        obtain ⟨v, e1, hv⟩ := one_cell' hc
        rw [e0] at e1; cases e1
        exact ⟨z0, fun _ => hv, has_i8' (wf_has w0)⟩
      · exact ⟨0, fun h => absurd h hil, by omega, by omega⟩
    obtain ⟨q, hq⟩ := Classical.axiomOfChoice key
    refine ⟨_, _, _, q, rfl, hl, hm, fun hn => ?_, fun i => (hq i).2⟩
    obtain ⟨e, h2, h3⟩ := at_form (f := fun i => .int .i8 (q i)) (fun i h => (hq i).1 h) hn
    exact ⟨a.block, a.off, by rw [← e], h2, h3⟩
end Go.Proofs.Ytecaegjonhimmaa
