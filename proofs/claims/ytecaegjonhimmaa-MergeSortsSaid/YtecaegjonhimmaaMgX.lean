/-
  A list of lists of items that came as an argument, opened.
-/
import Derived.Test.YtecaegjonhimmaaJ2
import Derived.Test.YtecaegjonhimmaaJ4
namespace Go.Proofs.Ytecaegjonhimmaa
set_option linter.unusedVariables false
set_option linter.unusedSimpArgs false
open Go.ChangeShapes Go.WideShapes Go.Deep Go.ChangeAt Go.RowKit

def kdI (j : Nat) : IntKind := ([.u64, .u64, .u64, .u8] : List IntKind).getD j .u8
theorem kdI_zero (j : Nat) : (kdI j).has 0 := by cases h : kdI j <;> exact ⟨by decide, by decide⟩
set_option maxRecDepth 8000 in
theorem leaf_I {H : Type} {enc : TypeId × Value → H} {W : World} {b : Nat} {sp : Nat → Bool} {hd : Bool} (fuel : Nat) (cs' : List Value) (y : DataW H × List MemPlace) (h : DataW.trod enc Try.prog W b sp hd fuel 33 cs' = some y) (j : Nat) (hj : j < 4) : ∃ n, cs'[j]? = some (.int (kdI j) n) ∧ (kdI j).has n := by
  rcases (by omega : j = 0 ∨ j = 1 ∨ j = 2 ∨ j = 3) with rfl | rfl | rfl | rfl
  · exact leaf1 0 Try.underlying33 rfl Try.underlying29 (by kernel_rfl) h
  · exact leaf2 1 0 Try.underlying33 rfl Try.underlying31 rfl Try.underlying29 (by kernel_rfl) h
  · exact leaf2 1 1 Try.underlying33 rfl Try.underlying31 rfl Try.underlying29 (by kernel_rfl) h
  · exact leaf1 2 Try.underlying33 rfl Try.underlying5 (by kernel_rfl) h
theorem atL_map {n i : Nat} {F : Nat → Nat → Int} (h : i < n) : atL ((List.range n).map F) i = F i := by
  unfold atL
  rw [List.getD_eq_getElem?_getD, List.getElem?_map, List.getElem?_range h]; rfl
theorem open_Is {H : Type} {enc : TypeId × Value → H} {W : World} {b : Nat} {sp : Nat → Bool} {hd : Bool} {fuel : Nat} {cs : List Value} {x : DataW H × List MemPlace} (hf : DataW.trod enc Try.prog W b sp hd fuel 27 cs = some x) :
    ∃ (A : Option Addr) (c : Nat) (l : List (Nat → Int)), cs = [.slice A l.length c] ∧ l.length ≤ c ∧ c ≤ maxLen ∧ SsIs W A l.length 4 (fun i => icl (atL l i)) := by
  obtain ⟨A, n, c, F, h1, h2, h3, h4, h5⟩ := openL_structs kdI kdI_zero Try.underlying27 (show Try.prog.cellsOf 33 = 4 by kernel_rfl) (by omega) leaf_I hf
  have hl : ((List.range n).map F).length = n := by simp
  refine ⟨A, c, (List.range n).map F, by rw [hl]; exact h1, by rw [hl]; exact h2, h3, ?_⟩
  rw [hl]
  exact h4.congr (fun i hi => by rw [atL_map hi]; rfl)
theorem one_cell' {W : World} {b : Nat} {a : Addr} {cs : List Value} (h : W.cells? b a 1 = some cs) : ∃ v, cs = [v] ∧ W.cell? a = some v := by
  obtain ⟨_, hcl, hat⟩ := World.cells?_some h
  obtain ⟨v, rfl⟩ : ∃ v, cs = [v] := by
    match cs, hcl with
    | [v], _ => exact ⟨v, rfl⟩
  have := hat 0 (by omega)
  have e1 : a.add 0 = a := by simp [Addr.add]
  rw [e1] at this
  exact ⟨v, rfl, this⟩
theorem at_form {W : World} {a : Addr} {n : Nat} {f : Nat → Value} (key : ∀ i, i < n → W.cell? (a.add i) = some (f i)) (hn : 0 < n) : a = ⟨a.block, a.off, none⟩ ∧ a.block < W.heap.size ∧ ∀ i, i < n → W.cell? ⟨a.block, a.off + i, none⟩ = some (f i) := by
  have hs : a.spot = none := spot_none (key 0 hn)
  have hadd : ∀ i, a.add i = ⟨a.block, a.off + i, none⟩ := fun i => by
    obtain ⟨b, o, s⟩ := a
    simp only at hs
    subst hs
    unfold Addr.add
    split <;> simp_all
  refine ⟨by rw [← Nat.add_zero a.off, ← hadd 0]; simp [Addr.add], ?_, fun j hj => ?_⟩
  · have := World.block_lt_of_cell? W _ (key 0 hn)
    rwa [hadd] at this
  · rw [← hadd]; exact key j hj
theorem open_lists {H : Type} {enc : TypeId × Value → H} {W : World} {b : Nat} {sp : Nat → Bool} {hd : Bool} {fuel : Nat} {cs : List Value} {x : DataW H × List MemPlace} (hf : DataW.trod enc Try.prog W b sp hd fuel 22 cs = some x) :
    ∃ (A : Option Addr) (n c : Nat) (L : Nat → List (Nat → Int)), cs = [.slice A n c] ∧ n ≤ c ∧ c ≤ maxLen ∧ LsIs W A n L := by
  rcases open_slice Try.underlying22 hf with ⟨h1, _⟩ | ⟨a, n, c, m, n', D, Pl, h1, hb, hl, hm, hmm, hx, hi⟩
  · subst h1
    exact ⟨none, 0, 0, fun _ => [], rfl, Nat.le_refl _, by simp [maxLen], fun h => by omega⟩
  · subst h1
    have hlm : n ≤ m := by rw [hmm]; split <;> omega
    have key : ∀ i, ∃ q : Option Addr × Nat × List (Nat → Int), i < n → W.cell? (a.add i) = some (.slice q.1 q.2.2.length q.2.1) ∧ q.2.2.length ≤ q.2.1 ∧ q.2.1 ≤ maxLen ∧ SsIs W q.1 q.2.2.length 4 (fun j => icl (atL q.2.2 j)) := by
      intro i
      by_cases hil : i < n
      · obtain ⟨cs', hc, ht'⟩ := hi i (by omega)
        rw [show Try.prog.cellsOf 27 = 1 by kernel_rfl, Nat.mul_one] at hc
        obtain ⟨A', c', l, e0, q1, q2, q3⟩ := open_Is ht'
        obtain ⟨v, e1, hv⟩ := one_cell' hc
        rw [e0] at e1; cases e1
        exact ⟨⟨A', c', l⟩, fun _ => ⟨hv, q1, q2, q3⟩⟩
      · exact ⟨⟨none, 0, []⟩, fun h => absurd h hil⟩
    obtain ⟨q, hq⟩ := Classical.axiomOfChoice key
    refine ⟨_, _, _, fun i => (q i).2.2, rfl, hl, hm, fun hn => ?_⟩
    obtain ⟨e, h2, h3⟩ := at_form (f := fun i => .slice (q i).1 (q i).2.2.length (q i).2.1) (fun i h => (hq i h).1) hn
    exact ⟨a.block, a.off, by rw [← e], h2, fun i hi => ⟨(q i).1, (q i).2.1, h3 i hi, (hq i hi).2⟩⟩
theorem open_lists2 {H : Type} {enc : TypeId × Value → H} {W : World} {v : Value} {d : DataW H} {p : List MemPlace} {b : Nat} {sp : Nat → Bool} {hd : Bool} (hcell : ∃ A n c, v = .slice A n c) (h : DataW.Trod enc Try.prog W b sp hd 22 v d p) :
    ∃ (A : Option Addr) (n c : Nat) (L : Nat → List (Nat → Int)), v = .slice A n c ∧ n ≤ c ∧ c ≤ maxLen ∧ LsIs W A n L := by
  obtain ⟨A, n, c, rfl⟩ := hcell
  obtain ⟨fuel, hf⟩ := h
  obtain ⟨A', n', c', L, e, r⟩ := open_lists hf
  cases e
  exact ⟨_, _, _, L, rfl, r⟩
end Go.Proofs.Ytecaegjonhimmaa
