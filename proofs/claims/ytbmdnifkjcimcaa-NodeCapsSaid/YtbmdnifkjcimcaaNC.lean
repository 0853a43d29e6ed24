/-
  Two own rows of slices of bytes that grow by turns; keys that are counted up rise.
-/
import Derived.Test.YtbmdnifkjcimcaaNv
import Derived.Test.YtbmdnifkjcimcaaNh
import Derived.Test.YtbmdnifkjcimcaaTmv
namespace Go.Proofs.Ytbmdnifkjcimcaa
set_option linter.unusedVariables false
set_option linter.unusedSimpArgs false
open Go.RowKit

theorem Two.kept {W W' : World} {base : Nat} {a b : Value} {m k m' k' : Nat} {K K' : Nat → Nat → Int} (h : Two W base a m k K b m' k' K') (hb : Below W.heap.size W W') : Two W' base a m k K b m' k' K' := by
  obtain ⟨U, U', h1, h2, h3, h4, h5⟩ := h
  exact ⟨U, U', h1.kept hb, fun i hi => (h2 i hi).kept hb, h3.kept hb, fun i hi => (h4 i hi).kept hb, h5⟩
theorem Two.set {W : World} {base n0 j : Nat} {a b : Value} {m k m' k' : Nat} {K K' : Nat → Nat → Int} {tn : TypeId} {cn : Array Value} (h : Two W base a m k K b m' k' K') (hn : Blk W n0 tn cn) (htn : tn ≠ 5) (hnb : n0 < base) (u : Value) : Two (W.setCell ⟨n0, j, none⟩ u) base a m k K b m' k' K' := by
  obtain ⟨U, U', h1, h2, h3, h4, h5⟩ := h
  have hk := KB.set (p := ⟨n0, j, none⟩) hn htn u
  exact ⟨U, U', h1.far (p := ⟨n0, j, none⟩) hnb u, fun i hi => (h2 i hi).kb hk, h3.far (p := ⟨n0, j, none⟩) hnb u, fun i hi => (h4 i hi).kb hk, h5⟩
theorem two_app {W : World} {base g c' : Nat} {x a b : Value} {m k m' k' : Nat} {K K' : Nat → Nat → Int} (ty : TypeId) (h : Two W base a m k K b m' k' K') (hx : OwnB W base x k (K m)) (hc : W.cell? ⟨g, 0, none⟩ = some x) (hm : m ≤ 1000000) (hb : base ≤ W.heap.size) :
    ∃ v' w', (Builtin.append_ #[25, 25] ty #[a, .slice (some ⟨g, 0, none⟩) 1 c']).run Try.prog W = .ok v' w' ∧ Two w' base v' (m + 1) k K b m' k' K' ∧ KB W w' ∧ Below base W w' ∧ W.grownBy w' a.ownBlock := by
  obtain ⟨U, U', h1, h2, h3, h4, h5⟩ := h
  obtain ⟨A, c, e, _, _, _⟩ := hx.byS
  obtain ⟨v', w', hr, ho, hg, hor⟩ := run_appV2 (z := .slice none 0 0) (c := c') (by_ := 24) ty Try.underlying25 info_sl rfl (by omega) (h1.updF x) hc (updF_self U m x) (by rw [e]; rfl) hm hb
  have hk : KB W w' := KB.grown h1 (by decide) hg
  refine ⟨v', w', hr, ⟨updF U m x, U', ho, fun i hi => ?_, ?_, fun i hi => (h4 i hi).kb hk, fun q e1 e2 => ?_⟩, hk, Below.grown (Below.refl base W) hg hb (fun j hj => (h1.lt j hj).1), hg⟩
  · unfold updF
    by_cases e : i = m
    · subst e; rw [if_pos rfl]; exact hx.kb hk
    · rw [if_neg e]; exact (h2 i (by omega)).kb hk
  · refine World.ownsRow.kept h3 hg ?_
    cases hb : b.ownBlock with
    | none => exact .inl rfl
    | some q => exact .inr (fun e => h5 q e.symm hb)
  · rcases hor with h | h
    · exact h5 q (h ▸ e1) e2
    · rw [h] at e1
      injection e1 with e1
      have := (h3.lt q e2).2
      omega
/-- a cell outside the row that is appended to -/
theorem grown_cell {W w' : World} {p : Addr} {v : Value} {r : Option Nat} (hg : W.grownBy w' r) (h : W.cell? p = some v) (hp : some p.block ≠ r) : w'.cell? p = some v := by
  have hl := World.block_lt_of_cell? W p h
  have e := hg.block p.block hl hp
  unfold World.cell? at *
  rw [e]; exact h
/-- the i-th key -/
def kY (k : Nat) (i j : Nat) : Int := if k = 1 then (if j = 0 then (i : Int) % 256 else 0) else if j = 0 then (i : Int) / 256 % 256 else if j = 1 then (i : Int) % 256 else 0
theorem kY_lo (k i j : Nat) : 0 ≤ kY k i j ∧ kY k i j < 256 := by
  unfold kY
  split
  · split <;> omega
  · split
    · omega
    · split <;> omega
theorem cmpB_atN {d e : Nat → Int} {n m : Nat} (hd : ∀ i, 0 ≤ d i ∧ d i < 256) (he : ∀ i, 0 ≤ e i ∧ e i < 256) {k : Nat} (h1 : k < n) (h2 : k < m) (h : ∀ j, j < k → d j = e j) (hk : d k < e k) : cmpB d n e m = -1 := by
  rw [cmpB_lt hd he k (by omega) (by omega) h, cmp_step hd he h1 h2, if_pos hk]
theorem kY_rise {k n : Nat} (hk : 1 ≤ k) (hn : n ≤ 500) (h1 : k = 1 → n ≤ 256) : riseB (fun _ => k) (kY k) n = true := by
  unfold riseB
  rw [anyB_false (fun i hi => ?_)]
  · rfl
  · refine decide_eq_false ?_
    have key : cmpB (kY k i) k (kY k (i + 1)) k = -1 := by
      by_cases e : k = 1
      · have := h1 e
        exact cmpB_atN (kY_lo k i) (kY_lo k (i + 1)) (k := 0) (by omega) (by omega) (fun j hj => by omega) (by unfold kY; rw [if_pos e, if_pos e, if_pos rfl, if_pos rfl]; omega)
      · have v0 : ∀ i, kY k i 0 = (i : Int) / 256 % 256 := fun i => by unfold kY; rw [if_neg e, if_pos rfl]
        have v1 : ∀ i, kY k i 1 = (i : Int) % 256 := fun i => by unfold kY; rw [if_neg e, if_neg (by omega), if_pos rfl]
        by_cases g : i % 256 = 255
        · exact cmpB_atN (kY_lo k i) (kY_lo k (i + 1)) (k := 0) (by omega) (by omega) (fun j hj => by omega) (by rw [v0, v0]; omega)
        · exact cmpB_atN (kY_lo k i) (kY_lo k (i + 1)) (k := 1) (by omega) (by omega) (fun j hj => (by
            obtain rfl : j = 0 := (by omega)
            rw [v0, v0]
            omega)) (by rw [v1, v1]; omega)
    show ¬ 0 ≤ cmpB (kY k i) k (kY k (i + 1)) k
    omega
theorem caps_right {k v A : Nat} (hk : 1 ≤ k ∧ k ≤ 24) (hv : v ≤ 108) (hA : (A : Int) = capL k v) (h1 : k = 1 → A ≤ 256) : rightB ⟨true, A, fun _ => k, kY k, A, fun _ => v, fun _ _ => 0, 0, fun _ => 0⟩ k v = true := by
  have hc : capOk (k : Int) (v : Int) := by unfold capOk; omega
  have e := (cap_yes hc).1
  have hp : (0 : Int) < (k : Int) + v := by omega
  have hA1 : (1 : Int) ≤ A := by rw [hA, e, Int.le_ediv_iff_mul_le hp]; omega
  have hA2 : (A : Int) ≤ 498 := by
    rw [hA, e]
    exact Int.ediv_le_self _ (by omega)
  unfold rightB longB
  dsimp only
  rw [anyB_false (fun i _ => by simp), anyB_false (fun i _ => by simp), kY_rise hk.1 (by omega) h1]
  rw [← hA]
  simp
  omega
theorem caps_more {k v A : Nat} (hA : (A : Int) = capL k v) : rightB ⟨true, A + 1, fun _ => k, kY k, A + 1, fun _ => v, fun _ _ => 0, 0, fun _ => 0⟩ k v = false := by
  unfold rightB
  dsimp only
  rw [← hA]
  simp
  omega
end Go.Proofs.Ytbmdnifkjcimcaa
