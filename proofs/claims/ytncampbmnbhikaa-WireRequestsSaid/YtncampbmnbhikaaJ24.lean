/-
  Joined: StD ByArg ByArg2.
-/
import Derived.Test.YtncampbmnbhikaaJ23
import Derived.Test.YtncampbmnbhikaaJ11
import Derived.Test.YtncampbmnbhikaaJ3
-- StD
namespace Go.Proofs.Ytncampbmnbhikaa
set_option linter.unusedVariables false
set_option linter.unusedSimpArgs false
open Go.ChangeShapes Go.WideShapes Go.Deep Go.ChangeAt Go.RowKit

def kdU (j : Nat) : IntKind := ([.u64, .u64] : List IntKind).getD j .u8
theorem kdU_zero (j : Nat) : (kdU j).has 0 := by cases h : kdU j <;> exact ⟨by decide, by decide⟩
set_option maxRecDepth 8000 in
theorem leaf_U {H : Type} {enc : TypeId × Value → H} {W : World} {b : Nat} {sp : Nat → Bool} {hd : Bool} (fuel : Nat) (cs' : List Value) (y : DataW H × List MemPlace) (h : DataW.trod enc Try.prog W b sp hd fuel 42 cs' = some y) (j : Nat) (hj : j < 2) : ∃ n, cs'[j]? = some (.int (kdU j) n) ∧ (kdU j).has n := by
  rcases (by omega : j = 0 ∨ j = 1) with rfl | rfl
  · exact leaf1 0 Try.underlying42 rfl Try.underlying40 (by kernel_rfl) h
  · exact leaf1 1 Try.underlying42 rfl Try.underlying40 (by kernel_rfl) h
def kdR (j : Nat) : IntKind := ([.u32, .u32] : List IntKind).getD j .u8
theorem kdR_zero (j : Nat) : (kdR j).has 0 := by cases h : kdR j <;> exact ⟨by decide, by decide⟩
set_option maxRecDepth 8000 in
theorem leaf_R {H : Type} {enc : TypeId × Value → H} {W : World} {b : Nat} {sp : Nat → Bool} {hd : Bool} (fuel : Nat) (cs' : List Value) (y : DataW H × List MemPlace) (h : DataW.trod enc Try.prog W b sp hd fuel 58 cs' = some y) (j : Nat) (hj : j < 2) : ∃ n, cs'[j]? = some (.int (kdR j) n) ∧ (kdR j).has n := by
  rcases (by omega : j = 0 ∨ j = 1) with rfl | rfl
  · exact leaf1 0 Try.underlying58 rfl Try.underlying26 (by kernel_rfl) h
  · exact leaf1 1 Try.underlying58 rfl Try.underlying26 (by kernel_rfl) h
def kdB (j : Nat) : IntKind := ([.u64, .u64, .u64, .u64, .u64, .u64, .u64, .u64, .u64] : List IntKind).getD j .u8
theorem kdB_zero (j : Nat) : (kdB j).has 0 := by cases h : kdB j <;> exact ⟨by decide, by decide⟩
set_option maxRecDepth 8000 in
theorem leaf_B {H : Type} {enc : TypeId × Value → H} {W : World} {b : Nat} {sp : Nat → Bool} {hd : Bool} (fuel : Nat) (cs' : List Value) (y : DataW H × List MemPlace) (h : DataW.trod enc Try.prog W b sp hd fuel 71 cs' = some y) (j : Nat) (hj : j < 9) : ∃ n, cs'[j]? = some (.int (kdB j) n) ∧ (kdB j).has n := by
  rcases (by omega : j = 0 ∨ j = 1 ∨ j = 2 ∨ j = 3 ∨ j = 4 ∨ j = 5 ∨ j = 6 ∨ j = 7 ∨ j = 8) with rfl | rfl | rfl | rfl | rfl | rfl | rfl | rfl | rfl
  · exact leaf2 0 0 Try.underlying71 rfl Try.underlying42 rfl Try.underlying40 (by kernel_rfl) h
  · exact leaf2 0 1 Try.underlying71 rfl Try.underlying42 rfl Try.underlying40 (by kernel_rfl) h
  · exact leaf2 1 0 Try.underlying71 rfl Try.underlying42 rfl Try.underlying40 (by kernel_rfl) h
  · exact leaf2 1 1 Try.underlying71 rfl Try.underlying42 rfl Try.underlying40 (by kernel_rfl) h
  · exact leaf2 2 0 Try.underlying71 rfl Try.underlying42 rfl Try.underlying40 (by kernel_rfl) h
  · exact leaf2 2 1 Try.underlying71 rfl Try.underlying42 rfl Try.underlying40 (by kernel_rfl) h
  · exact leaf2 3 0 Try.underlying71 rfl Try.underlying42 rfl Try.underlying40 (by kernel_rfl) h
  · exact leaf2 3 1 Try.underlying71 rfl Try.underlying42 rfl Try.underlying40 (by kernel_rfl) h
  · exact leaf1 4 Try.underlying71 rfl Try.underlying40 (by kernel_rfl) h
def kdA (j : Nat) : IntKind := ([.u64, .u64, .u64, .u64, .u64, .u64, .u64, .u64, .u64, .u64, .u64, .u32, .u16, .u16, .u64] : List IntKind).getD j .u8
theorem kdA_zero (j : Nat) : (kdA j).has 0 := by cases h : kdA j <;> exact ⟨by decide, by decide⟩
set_option maxRecDepth 8000 in
theorem leaf_A {H : Type} {enc : TypeId × Value → H} {W : World} {b : Nat} {sp : Nat → Bool} {hd : Bool} (fuel : Nat) (cs' : List Value) (y : DataW H × List MemPlace) (h : DataW.trod enc Try.prog W b sp hd fuel 63 cs' = some y) (j : Nat) (hj : j < 15) : ∃ n, cs'[j]? = some (.int (kdA j) n) ∧ (kdA j).has n := by
  rcases (by omega : j = 0 ∨ j = 1 ∨ j = 2 ∨ j = 3 ∨ j = 4 ∨ j = 5 ∨ j = 6 ∨ j = 7 ∨ j = 8 ∨ j = 9 ∨ j = 10 ∨ j = 11 ∨ j = 12 ∨ j = 13 ∨ j = 14) with rfl | rfl | rfl | rfl | rfl | rfl | rfl | rfl | rfl | rfl | rfl | rfl | rfl | rfl | rfl
  · exact leaf2 0 0 Try.underlying63 rfl Try.underlying42 rfl Try.underlying40 (by kernel_rfl) h
  · exact leaf2 0 1 Try.underlying63 rfl Try.underlying42 rfl Try.underlying40 (by kernel_rfl) h
  · exact leaf2 1 0 Try.underlying63 rfl Try.underlying42 rfl Try.underlying40 (by kernel_rfl) h
  · exact leaf2 1 1 Try.underlying63 rfl Try.underlying42 rfl Try.underlying40 (by kernel_rfl) h
  · exact leaf2 2 0 Try.underlying63 rfl Try.underlying42 rfl Try.underlying40 (by kernel_rfl) h
  · exact leaf2 2 1 Try.underlying63 rfl Try.underlying42 rfl Try.underlying40 (by kernel_rfl) h
  · exact leaf2 3 0 Try.underlying63 rfl Try.underlying42 rfl Try.underlying40 (by kernel_rfl) h
  · exact leaf2 3 1 Try.underlying63 rfl Try.underlying42 rfl Try.underlying40 (by kernel_rfl) h
  · exact leaf2 4 0 Try.underlying63 rfl Try.underlying42 rfl Try.underlying40 (by kernel_rfl) h
  · exact leaf2 4 1 Try.underlying63 rfl Try.underlying42 rfl Try.underlying40 (by kernel_rfl) h
  · exact leaf1 5 Try.underlying63 rfl Try.underlying40 (by kernel_rfl) h
  · exact leaf1 6 Try.underlying63 rfl Try.underlying26 (by kernel_rfl) h
  · exact leaf1 7 Try.underlying63 rfl Try.underlying61 (by kernel_rfl) h
  · exact leaf1 8 Try.underlying63 rfl Try.underlying61 (by kernel_rfl) h
  · exact leaf1 9 Try.underlying63 rfl Try.underlying40 (by kernel_rfl) h
def kdT (j : Nat) : IntKind := ([.u64, .u64, .u64, .u64, .u64, .u64, .u64, .u64, .u64, .u64, .u64, .u32, .u32, .u16, .u16, .u64] : List IntKind).getD j .u8
theorem kdT_zero (j : Nat) : (kdT j).has 0 := by cases h : kdT j <;> exact ⟨by decide, by decide⟩
set_option maxRecDepth 8000 in
theorem leaf_T {H : Type} {enc : TypeId × Value → H} {W : World} {b : Nat} {sp : Nat → Bool} {hd : Bool} (fuel : Nat) (cs' : List Value) (y : DataW H × List MemPlace) (h : DataW.trod enc Try.prog W b sp hd fuel 67 cs' = some y) (j : Nat) (hj : j < 16) : ∃ n, cs'[j]? = some (.int (kdT j) n) ∧ (kdT j).has n := by
  rcases (by omega : j = 0 ∨ j = 1 ∨ j = 2 ∨ j = 3 ∨ j = 4 ∨ j = 5 ∨ j = 6 ∨ j = 7 ∨ j = 8 ∨ j = 9 ∨ j = 10 ∨ j = 11 ∨ j = 12 ∨ j = 13 ∨ j = 14 ∨ j = 15) with rfl | rfl | rfl | rfl | rfl | rfl | rfl | rfl | rfl | rfl | rfl | rfl | rfl | rfl | rfl | rfl
  · exact leaf2 0 0 Try.underlying67 rfl Try.underlying42 rfl Try.underlying40 (by kernel_rfl) h
  · exact leaf2 0 1 Try.underlying67 rfl Try.underlying42 rfl Try.underlying40 (by kernel_rfl) h
  · exact leaf2 1 0 Try.underlying67 rfl Try.underlying42 rfl Try.underlying40 (by kernel_rfl) h
  · exact leaf2 1 1 Try.underlying67 rfl Try.underlying42 rfl Try.underlying40 (by kernel_rfl) h
  · exact leaf2 2 0 Try.underlying67 rfl Try.underlying42 rfl Try.underlying40 (by kernel_rfl) h
  · exact leaf2 2 1 Try.underlying67 rfl Try.underlying42 rfl Try.underlying40 (by kernel_rfl) h
  · exact leaf2 3 0 Try.underlying67 rfl Try.underlying42 rfl Try.underlying40 (by kernel_rfl) h
  · exact leaf2 3 1 Try.underlying67 rfl Try.underlying42 rfl Try.underlying40 (by kernel_rfl) h
  · exact leaf2 4 0 Try.underlying67 rfl Try.underlying42 rfl Try.underlying40 (by kernel_rfl) h
  · exact leaf2 4 1 Try.underlying67 rfl Try.underlying42 rfl Try.underlying40 (by kernel_rfl) h
  · exact leaf1 5 Try.underlying67 rfl Try.underlying40 (by kernel_rfl) h
  · exact leaf1 6 Try.underlying67 rfl Try.underlying26 (by kernel_rfl) h
  · exact leaf1 7 Try.underlying67 rfl Try.underlying26 (by kernel_rfl) h
  · exact leaf1 8 Try.underlying67 rfl Try.underlying61 (by kernel_rfl) h
  · exact leaf1 9 Try.underlying67 rfl Try.underlying61 (by kernel_rfl) h
  · exact leaf1 10 Try.underlying67 rfl Try.underlying40 (by kernel_rfl) h
/-- the same numbers, nought behind the last -/
def cutU (f : Nat → Int) : Nat → Int := fun j => if j < 2 then f j else 0
theorem cutU_ok {f : Nat → Int} (h : ∀ j, (kdU j).has (f j)) : okU (cutU f)
  | 0 => has_u64 (h 0)
  | 1 => has_u64 (h 1)
  | j + 2 => (show 0 ≤ cutU f (j + 2) ∧ cutU f (j + 2) < 1 from by unfold cutU; rw [if_neg (by omega)]; decide)
theorem open_U {H : Type} {enc : TypeId × Value → H} {W : World} {b : Nat} {sp : Nat → Bool} {hd : Bool} {fuel : Nat} {cs : List Value} {x : DataW H × List MemPlace} (hf : DataW.trod enc Try.prog W b sp hd fuel 39 cs = some x) :
    ∃ (A : Option Addr) (n c : Nat) (F : Nat → Nat → Int), cs = [.slice A n c] ∧ n ≤ c ∧ c ≤ maxLen ∧ SsIs W A n 2 (fun i => clU (F i)) ∧ ∀ i, okU (F i) := by
  obtain ⟨A, n, c, F, h1, h2, h3, h4, h5⟩ := openL_structs kdU kdU_zero Try.underlying39 (show Try.prog.cellsOf 42 = 2 by kernel_rfl) (by omega) leaf_U hf
  exact ⟨A, n, c, fun i => cutU (F i), h1, h2, h3, h4.congr (fun i _ => rfl), fun i => cutU_ok (h5 i)⟩
/-- the same numbers, nought behind the last -/
def cutR (f : Nat → Int) : Nat → Int := fun j => if j < 2 then f j else 0
theorem cutR_ok {f : Nat → Int} (h : ∀ j, (kdR j).has (f j)) : okR (cutR f)
  | 0 => has_u32 (h 0)
  | 1 => has_u32 (h 1)
  | j + 2 => (show 0 ≤ cutR f (j + 2) ∧ cutR f (j + 2) < 1 from by unfold cutR; rw [if_neg (by omega)]; decide)
theorem open_R {H : Type} {enc : TypeId × Value → H} {W : World} {b : Nat} {sp : Nat → Bool} {hd : Bool} {fuel : Nat} {cs : List Value} {x : DataW H × List MemPlace} (hf : DataW.trod enc Try.prog W b sp hd fuel 22 cs = some x) :
    ∃ (A : Option Addr) (n c : Nat) (F : Nat → Nat → Int), cs = [.slice A n c] ∧ n ≤ c ∧ c ≤ maxLen ∧ SsIs W A n 2 (fun i => clR (F i)) ∧ ∀ i, okR (F i) := by
  obtain ⟨A, n, c, F, h1, h2, h3, h4, h5⟩ := openL_structs kdR kdR_zero Try.underlying22 (show Try.prog.cellsOf 58 = 2 by kernel_rfl) (by omega) leaf_R hf
  exact ⟨A, n, c, fun i => cutR (F i), h1, h2, h3, h4.congr (fun i _ => rfl), fun i => cutR_ok (h5 i)⟩
/-- the same numbers, nought behind the last -/
def cutB (f : Nat → Int) : Nat → Int := fun j => if j < 9 then f j else 0
theorem cutB_ok {f : Nat → Int} (h : ∀ j, (kdB j).has (f j)) : okB (cutB f)
  | 0 => has_u64 (h 0)
  | 1 => has_u64 (h 1)
  | 2 => has_u64 (h 2)
  | 3 => has_u64 (h 3)
  | 4 => has_u64 (h 4)
  | 5 => has_u64 (h 5)
  | 6 => has_u64 (h 6)
  | 7 => has_u64 (h 7)
  | 8 => has_u64 (h 8)
  | j + 9 => (show 0 ≤ cutB f (j + 9) ∧ cutB f (j + 9) < 1 from by unfold cutB; rw [if_neg (by omega)]; decide)
theorem open_B {H : Type} {enc : TypeId × Value → H} {W : World} {b : Nat} {sp : Nat → Bool} {hd : Bool} {fuel : Nat} {cs : List Value} {x : DataW H × List MemPlace} (hf : DataW.trod enc Try.prog W b sp hd fuel 25 cs = some x) :
    ∃ (A : Option Addr) (n c : Nat) (F : Nat → Nat → Int), cs = [.slice A n c] ∧ n ≤ c ∧ c ≤ maxLen ∧ SsIs W A n 9 (fun i => clB (F i)) ∧ ∀ i, okB (F i) := by
  obtain ⟨A, n, c, F, h1, h2, h3, h4, h5⟩ := openL_structs kdB kdB_zero Try.underlying25 (show Try.prog.cellsOf 71 = 9 by kernel_rfl) (by omega) leaf_B hf
  exact ⟨A, n, c, fun i => cutB (F i), h1, h2, h3, h4.congr (fun i _ => rfl), fun i => cutB_ok (h5 i)⟩
/-- the same numbers, nought behind the last -/
def cutA (f : Nat → Int) : Nat → Int := fun j => if j < 15 then f j else 0
theorem cutA_ok {f : Nat → Int} (h : ∀ j, (kdA j).has (f j)) : okA (cutA f)
  | 0 => has_u64 (h 0)
  | 1 => has_u64 (h 1)
  | 2 => has_u64 (h 2)
  | 3 => has_u64 (h 3)
  | 4 => has_u64 (h 4)
  | 5 => has_u64 (h 5)
  | 6 => has_u64 (h 6)
  | 7 => has_u64 (h 7)
  | 8 => has_u64 (h 8)
  | 9 => has_u64 (h 9)
  | 10 => has_u64 (h 10)
  | 11 => has_u32 (h 11)
  | 12 => has_u16 (h 12)
  | 13 => has_u16 (h 13)
  | 14 => has_u64 (h 14)
  | j + 15 => (show 0 ≤ cutA f (j + 15) ∧ cutA f (j + 15) < 1 from by unfold cutA; rw [if_neg (by omega)]; decide)
theorem open_A {H : Type} {enc : TypeId × Value → H} {W : World} {b : Nat} {sp : Nat → Bool} {hd : Bool} {fuel : Nat} {cs : List Value} {x : DataW H × List MemPlace} (hf : DataW.trod enc Try.prog W b sp hd fuel 23 cs = some x) :
    ∃ (A : Option Addr) (n c : Nat) (F : Nat → Nat → Int), cs = [.slice A n c] ∧ n ≤ c ∧ c ≤ maxLen ∧ SsIs W A n 15 (fun i => clA (F i)) ∧ ∀ i, okA (F i) := by
  obtain ⟨A, n, c, F, h1, h2, h3, h4, h5⟩ := openL_structs kdA kdA_zero Try.underlying23 (show Try.prog.cellsOf 63 = 15 by kernel_rfl) (by omega) leaf_A hf
  exact ⟨A, n, c, fun i => cutA (F i), h1, h2, h3, h4.congr (fun i _ => rfl), fun i => cutA_ok (h5 i)⟩
/-- the same numbers, nought behind the last -/
def cutT (f : Nat → Int) : Nat → Int := fun j => if j < 16 then f j else 0
theorem cutT_ok {f : Nat → Int} (h : ∀ j, (kdT j).has (f j)) : okT (cutT f)
  | 0 => has_u64 (h 0)
  | 1 => has_u64 (h 1)
  | 2 => has_u64 (h 2)
  | 3 => has_u64 (h 3)
  | 4 => has_u64 (h 4)
  | 5 => has_u64 (h 5)
  | 6 => has_u64 (h 6)
  | 7 => has_u64 (h 7)
  | 8 => has_u64 (h 8)
  | 9 => has_u64 (h 9)
  | 10 => has_u64 (h 10)
  | 11 => has_u32 (h 11)
  | 12 => has_u32 (h 12)
  | 13 => has_u16 (h 13)
  | 14 => has_u16 (h 14)
  | 15 => has_u64 (h 15)
  | j + 16 => (show 0 ≤ cutT f (j + 16) ∧ cutT f (j + 16) < 1 from by unfold cutT; rw [if_neg (by omega)]; decide)
theorem open_T {H : Type} {enc : TypeId × Value → H} {W : World} {b : Nat} {sp : Nat → Bool} {hd : Bool} {fuel : Nat} {cs : List Value} {x : DataW H × List MemPlace} (hf : DataW.trod enc Try.prog W b sp hd fuel 24 cs = some x) :
    ∃ (A : Option Addr) (n c : Nat) (F : Nat → Nat → Int), cs = [.slice A n c] ∧ n ≤ c ∧ c ≤ maxLen ∧ SsIs W A n 16 (fun i => clT (F i)) ∧ ∀ i, okT (F i) := by
  obtain ⟨A, n, c, F, h1, h2, h3, h4, h5⟩ := openL_structs kdT kdT_zero Try.underlying24 (show Try.prog.cellsOf 67 = 16 by kernel_rfl) (by omega) leaf_T hf
  exact ⟨A, n, c, fun i => cutT (F i), h1, h2, h3, h4.congr (fun i _ => rfl), fun i => cutT_ok (h5 i)⟩
end Go.Proofs.Ytncampbmnbhikaa
-- ByArg
namespace Go.Proofs.Ytncampbmnbhikaa
set_option linter.unusedVariables false
set_option linter.unusedSimpArgs false
open Go.ChangeShapes Go.WideShapes Go.Deep Go.ChangeAt Go.RowKit

section
variable {H : Type} {enc : TypeId × Value → H} {P : Program}
/-- the byte in a cell -/
def cellB (W : World) (p : Addr) : Int := if 0 ≤ cellI W p ∧ cellI W p < 256 then cellI W p else 0
theorem cellB_lo (W : World) (p : Addr) : 0 ≤ cellB W p ∧ cellB W p < 256 := by unfold cellB; split <;> omega
theorem cellB_of {W : World} {p : Addr} {z : Int} (h : W.cell? p = some (.int .u8 z)) (hz : 0 ≤ z ∧ z < 256) : W.cell? p = some (.int .u8 (cellB W p)) := by
  obtain ⟨h1, h2⟩ := cellI_of h
  unfold cellB
  rw [h2, if_pos hz]; exact h

theorem open_bytes {W : World} {t e : TypeId} {v : Value} {d : DataW H} {p : List MemPlace} {b : Nat} {sp : Nat → Bool} {hd : Bool} (ht : P.underlying t = some (.slice e)) (he : P.underlying e = some (.int .u8))
    (hC : P.cellsOf e = 1) (hcell : ∃ A n c, v = .slice A n c) (h : DataW.Trod enc P W b sp hd t v d p) :
    ∃ (A : Option Addr) (n c : Nat) (x : Nat → Int), v = .slice A n c ∧ n ≤ maxLen ∧ SlIs W A n (yV x) ∧ ∀ i, 0 ≤ x i ∧ x i < 256 := by
  obtain ⟨A, n, c, rfl⟩ := hcell
  obtain ⟨fuel, hf⟩ := h
  rcases open_slice ht hf with ⟨h1, _⟩ | ⟨a, len, cap, m, n', D, Pl, h1, hb, hl, hm, hmm, hx, hi⟩
  · cases h1
    exact ⟨none, 0, 0, fun _ => 0, rfl, by simp [maxLen], SlIs.nil, fun _ => (⟨Int.le_refl 0, by decide⟩ : (0 : Int) ≤ 0 ∧ (0 : Int) < 256)⟩
  · cases h1
    have hlm : n ≤ m := by rw [hmm]; split <;> omega
    have key : ∀ i, i < n → W.cell? (a.add i) = some (.int .u8 (cellB W (a.add i))) := by
      intro i hil
      obtain ⟨cs', hc, ht'⟩ := hi i (by omega)
      rw [hC, Nat.mul_one] at hc
      obtain ⟨z0, e0, _, w0⟩ := DataW.trod_int he ht'
      obtain ⟨_, hcl, hat⟩ := World.cells?_some hc
      have := hat 0 (by omega)
      have e1 : (a.add i).add 0 = a.add i := by simp [Addr.add]
      rw [e1, e0] at this
      exact cellB_of this (has_u8 (wf_has w0))
    refine ⟨_, _, _, fun i => cellB W (a.add i), rfl, by omega, fun hn => ?_, fun i => cellB_lo _ _⟩
    have hs : a.spot = none := spot_none (key 0 hn)
    have hadd : ∀ i, a.add i = ⟨a.block, a.off + i, none⟩ := fun i => by
      obtain ⟨b, o, s⟩ := a
      simp only at hs
      subst hs
      unfold Addr.add
      split <;> simp_all
    refine ⟨a.block, a.off, by rw [← Nat.add_zero a.off, ← hadd 0]; rfl, ?_, fun j hj => ?_⟩
    · have := World.block_lt_of_cell? W _ (key 0 hn)
      rwa [hadd] at this
    · rw [← hadd]; exact key j hj
end
end Go.Proofs.Ytncampbmnbhikaa
-- ByArg2
namespace Go.Proofs.Ytncampbmnbhikaa
set_option linter.unusedVariables false
set_option linter.unusedSimpArgs false
open Go.ChangeShapes Go.WideShapes Go.Deep Go.ChangeAt Go.RowKit

section
variable {H : Type} {enc : TypeId × Value → H} {P : Program}
theorem open_bytes2 {W : World} {t e : TypeId} {v : Value} {d : DataW H} {p : List MemPlace} {b : Nat} {sp : Nat → Bool} {hd : Bool} (ht : P.underlying t = some (.slice e)) (he : P.underlying e = some (.int .u8))
    (hC : P.cellsOf e = 1) (hcell : ∃ A n c, v = .slice A n c) (h : DataW.Trod enc P W b sp hd t v d p) :
    ∃ (A : Option Addr) (n c : Nat) (x : Nat → Int), v = .slice A n c ∧ (n ≤ c ∧ c ≤ maxLen) ∧ SlIs W A n (yV x) ∧ ∀ i, 0 ≤ x i ∧ x i < 256 := by
  obtain ⟨A, n, c, rfl⟩ := hcell
  obtain ⟨fuel, hf⟩ := h
  rcases open_slice ht hf with ⟨h1, _⟩ | ⟨a, len, cap, m, n', D, Pl, h1, hb, hl, hm, hmm, hx, hi⟩
  · cases h1
    exact ⟨none, 0, 0, fun _ => 0, rfl, by simp [maxLen], SlIs.nil, fun _ => (⟨Int.le_refl 0, by decide⟩ : (0 : Int) ≤ 0 ∧ (0 : Int) < 256)⟩
  · cases h1
    have hlm : n ≤ m := by rw [hmm]; split <;> omega
    have key : ∀ i, i < n → W.cell? (a.add i) = some (.int .u8 (cellB W (a.add i))) := by
      intro i hil
      obtain ⟨cs', hc, ht'⟩ := hi i (by omega)
      rw [hC, Nat.mul_one] at hc
      obtain ⟨z0, e0, _, w0⟩ := DataW.trod_int he ht'
      obtain ⟨_, hcl, hat⟩ := World.cells?_some hc
      have := hat 0 (by omega)
      have e1 : (a.add i).add 0 = a.add i := by simp [Addr.add]
      rw [e1, e0] at this
      exact cellB_of this (has_u8 (wf_has w0))
    refine ⟨_, _, _, fun i => cellB W (a.add i), rfl, ⟨by omega, hm⟩, fun hn => ?_, fun i => cellB_lo _ _⟩
    have hs : a.spot = none := spot_none (key 0 hn)
    have hadd : ∀ i, a.add i = ⟨a.block, a.off + i, none⟩ := fun i => by
      obtain ⟨b, o, s⟩ := a
      simp only at hs
      subst hs
      unfold Addr.add
      split <;> simp_all
    refine ⟨a.block, a.off, by rw [← Nat.add_zero a.off, ← hadd 0]; rfl, ?_, fun j hj => ?_⟩
    · have := World.block_lt_of_cell? W _ (key 0 hn)
      rwa [hadd] at this
    · rw [← hadd]; exact key j hj
end
end Go.Proofs.Ytncampbmnbhikaa
