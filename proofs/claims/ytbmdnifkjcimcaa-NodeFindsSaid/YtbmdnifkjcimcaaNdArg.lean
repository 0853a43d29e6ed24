/-
  An argument that is a node, opened.
-/
import Derived.Test.YtbmdnifkjcimcaaByArg2
import Derived.Test.YtbmdnifkjcimcaaNa
namespace Go.Proofs.Ytbmdnifkjcimcaa
set_option linter.unusedVariables false
set_option linter.unusedSimpArgs false
open Go.ChangeShapes Go.WideShapes Go.Deep Go.ChangeAt Go.RowKit

section
variable {H : Type} {enc : TypeId × Value → H} {P : Program}
theorem at_slis {W : World} {a : Addr} {n : Nat} {f : Nat → Value} (key : ∀ i, i < n → W.cell? (a.add i) = some (f i)) : SlIs W (some a) n f := by
  intro hn
  have hs : a.spot = none := spot_none (key 0 hn)
  have hadd : ∀ i, a.add i = ⟨a.block, a.off + i, none⟩ := fun i => by
    obtain ⟨b, o, s⟩ := a
    simp only at hs
    subst hs
    unfold Addr.add
    split <;> simp_all
  refine ⟨a.block, a.off, by rw [← Nat.add_zero a.off, ← hadd 0]; rfl, ?_, fun j hj => ?_⟩
  · have := World.block_lt_of_cell? W _ (key 0 hn)
    rwa [hadd] at this
  · rw [← hadd]; exact key j hj
theorem one_cell {W : World} {b : Nat} {a : Addr} {cs : List Value} (h : W.cells? b a 1 = some cs) : ∃ v, cs = [v] ∧ W.cell? a = some v := by
  obtain ⟨_, hcl, hat⟩ := World.cells?_some h
  obtain ⟨v, rfl⟩ : ∃ v, cs = [v] := by
    match cs, hcl with
    | [v], _ => exact ⟨v, rfl⟩
  have := hat 0 (by omega)
  have e1 : a.add 0 = a := by simp [Addr.add]
  rw [e1] at this
  exact ⟨v, rfl, this⟩
theorem openL_bytes {W : World} {t e : TypeId} {cs : List Value} {x : DataW H × List MemPlace} {fuel b : Nat} {sp : Nat → Bool} {hd : Bool} (ht : P.underlying t = some (.slice e)) (he : P.underlying e = some (.int .u8))
    (hC : P.cellsOf e = 1) (hf : DataW.trod enc P W b sp hd fuel t cs = some x) :
    ∃ (A : Option Addr) (n c : Nat) (x : Nat → Int), cs = [.slice A n c] ∧ n ≤ c ∧ c ≤ maxLen ∧ SlIs W A n (yV x) ∧ ∀ i, 0 ≤ x i ∧ x i < 256 := by
  rcases open_slice ht hf with ⟨h1, _⟩ | ⟨a, n, c, m, n', D, Pl, h1, hb, hl, hm, hmm, hx, hi⟩
  · subst h1
    exact ⟨none, 0, 0, fun _ => 0, rfl, Nat.le_refl _, by simp [maxLen], SlIs.nil, fun _ => (⟨Int.le_refl 0, by decide⟩ : (0 : Int) ≤ 0 ∧ (0 : Int) < 256)⟩
  · subst h1
    have hlm : n ≤ m := by rw [hmm]; split <;> omega
    have key : ∀ i, i < n → W.cell? (a.add i) = some (.int .u8 (cellB W (a.add i))) := by
      intro i hil
      obtain ⟨cs', hc, ht'⟩ := hi i (by omega)
      rw [hC, Nat.mul_one] at hc
      obtain ⟨z0, e0, _, w0⟩ := DataW.trod_int he ht'
      obtain ⟨v, e1, hv⟩ := one_cell hc
      rw [e0] at e1; cases e1
      exact cellB_of hv (has_u8 (wf_has w0))
    exact ⟨_, _, _, fun i => cellB W (a.add i), rfl, hl, hm, at_slis key, fun i => cellB_lo _ _⟩
/-- the number of 32 bits in a cell -/
def cellU (W : World) (p : Addr) : Int := if 0 ≤ cellI W p ∧ cellI W p < 4294967296 then cellI W p else 0
theorem cellU_lo (W : World) (p : Addr) : 0 ≤ cellU W p ∧ cellU W p < 4294967296 := by unfold cellU; split <;> omega
theorem cellU_of {W : World} {p : Addr} {z : Int} (h : W.cell? p = some (.int .u32 z)) (hz : 0 ≤ z ∧ z < 4294967296) : W.cell? p = some (.int .u32 (cellU W p)) := by
  obtain ⟨h1, h2⟩ := cellI_of h
  unfold cellU
  rw [h2, if_pos hz]; exact h
theorem openL_u32 {W : World} {t e : TypeId} {cs : List Value} {x : DataW H × List MemPlace} {fuel b : Nat} {sp : Nat → Bool} {hd : Bool} (ht : P.underlying t = some (.slice e)) (he : P.underlying e = some (.int .u32))
    (hC : P.cellsOf e = 1) (hf : DataW.trod enc P W b sp hd fuel t cs = some x) :
    ∃ (A : Option Addr) (n c : Nat) (x : Nat → Int), cs = [.slice A n c] ∧ n ≤ c ∧ c ≤ maxLen ∧ SlIs W A n (fun j => .int .u32 (x j)) ∧ ∀ i, 0 ≤ x i ∧ x i < 4294967296 := by
  rcases open_slice ht hf with ⟨h1, _⟩ | ⟨a, n, c, m, n', D, Pl, h1, hb, hl, hm, hmm, hx, hi⟩
  · subst h1
    exact ⟨none, 0, 0, fun _ => 0, rfl, Nat.le_refl _, by simp [maxLen], SlIs.nil, fun _ => (⟨Int.le_refl 0, by decide⟩ : (0 : Int) ≤ 0 ∧ (0 : Int) < 4294967296)⟩
  · subst h1
    have hlm : n ≤ m := by rw [hmm]; split <;> omega
    have key : ∀ i, i < n → W.cell? (a.add i) = some (.int .u32 (cellU W (a.add i))) := by
      intro i hil
      obtain ⟨cs', hc, ht'⟩ := hi i (by omega)
      rw [hC, Nat.mul_one] at hc
      obtain ⟨z0, e0, _, w0⟩ := DataW.trod_int he ht'
      obtain ⟨v, e1, hv⟩ := one_cell hc
      rw [e0] at e1; cases e1
      exact cellU_of hv (has_u32 (wf_has w0))
    exact ⟨_, _, _, fun i => cellU W (a.add i), rfl, hl, hm, at_slis (f := fun i => .int .u32 (cellU W (a.add i))) key, fun i => cellU_lo _ _⟩
theorem openL_rows {W : World} {t e e2 : TypeId} {cs : List Value} {x : DataW H × List MemPlace} {fuel b : Nat} {sp : Nat → Bool} {hd : Bool} (ht : P.underlying t = some (.slice e)) (he : P.underlying e = some (.slice e2)) (he2 : P.underlying e2 = some (.int .u8))
    (hC : P.cellsOf e = 1) (hC2 : P.cellsOf e2 = 1) (hf : DataW.trod enc P W b sp hd fuel t cs = some x) :
    ∃ (A : Option Addr) (n c : Nat) (L : Nat → Nat) (R : Nat → Nat → Int), cs = [.slice A n c] ∧ n ≤ c ∧ c ≤ maxLen ∧ RsIs W A n L R ∧ ∀ i j, 0 ≤ R i j ∧ R i j < 256 := by
  rcases open_slice ht hf with ⟨h1, _⟩ | ⟨a, n, c, m, n', D, Pl, h1, hb, hl, hm, hmm, hx, hi⟩
  · subst h1
    exact ⟨none, 0, 0, fun _ => 0, fun _ _ => 0, rfl, Nat.le_refl _, by simp [maxLen], RsIs.nil, fun _ _ => (⟨Int.le_refl 0, by decide⟩ : (0 : Int) ≤ 0 ∧ (0 : Int) < 256)⟩
  · subst h1
    have hlm : n ≤ m := by rw [hmm]; split <;> omega
    have key : ∀ i, ∃ q : Option Addr × Nat × Nat × (Nat → Int), (i < n → W.cell? (a.add i) = some (.slice q.1 q.2.1 q.2.2.1) ∧ q.2.1 ≤ q.2.2.1 ∧ q.2.2.1 ≤ maxLen ∧ SlIs W q.1 q.2.1 (yV q.2.2.2)) ∧ ∀ j, 0 ≤ q.2.2.2 j ∧ q.2.2.2 j < 256 := by
      intro i
      by_cases hil : i < n
      · obtain ⟨cs', hc, ht'⟩ := hi i (by omega)
        rw [hC, Nat.mul_one] at hc
        obtain ⟨A', l', c', y, e0, q1, q2, q3, q4⟩ := openL_bytes he he2 hC2 ht'
        obtain ⟨v, e1, hv⟩ := one_cell hc
        rw [e0] at e1; cases e1
        exact ⟨⟨A', l', c', y⟩, fun _ => ⟨hv, q1, q2, q3⟩, q4⟩
      · exact ⟨⟨none, 0, 0, fun _ => 0⟩, fun h => absurd h hil, fun _ => (⟨Int.le_refl 0, by decide⟩ : (0 : Int) ≤ 0 ∧ (0 : Int) < 256)⟩
    obtain ⟨q, hq⟩ := Classical.axiomOfChoice key
    refine ⟨_, _, _, fun i => (q i).2.1, fun i => (q i).2.2.2, rfl, hl, hm, ⟨fun i => (q i).1, fun i => (q i).2.2.1, at_slis (f := fun i => .slice (q i).1 (q i).2.1 (q i).2.2.1) (fun i h => ((hq i).1 h).1), fun i h => ((hq i).1 h).2⟩, fun i j => (hq i).2 j⟩
theorem open_node {W : World} {t e1 e2 e3 : TypeId} {fs : Array Field} {f0 f1 f2 f3 : Field} {x0 x1 x2 x3 : Value} {d : DataW H} {p : List MemPlace} {b : Nat} {sp : Nat → Bool} {hd : Bool} (ht : P.underlying t = some (.struct fs))
    (hfs : fs = #[f0, f1, f2, f3]) (hone : oneCellFields P fs = true) (u1 : P.underlying f1.type = some (.slice e1)) (u2 : P.underlying f2.type = some (.slice e1)) (u3 : P.underlying f3.type = some (.slice e3)) (ue1 : P.underlying e1 = some (.slice e2)) (ue2 : P.underlying e2 = some (.int .u8)) (ue3 : P.underlying e3 = some (.int .u32))
    (c1 : P.cellsOf e1 = 1) (c2 : P.cellsOf e2 = 1) (c3 : P.cellsOf e3 = 1) (h : DataW.Trod enc P W b sp hd t (.agg #[x0, x1, x2, x3]) d p) :
    ∃ (KA VA CA : Option Addr) (kn kc vn vc cn cc : Nat) (KL VL : Nat → Nat) (K V : Nat → Nat → Int) (C : Nat → Int), x1 = .slice KA kn kc ∧ x2 = .slice VA vn vc ∧ x3 = .slice CA cn cc ∧
      (kn ≤ kc ∧ kc ≤ maxLen ∧ vn ≤ vc ∧ vc ≤ maxLen ∧ cn ≤ cc ∧ cc ≤ maxLen) ∧ RsIs W KA kn KL K ∧ RsIs W VA vn VL V ∧ SlIs W CA cn (fun j => .int .u32 (C j)) ∧ (∀ i j, 0 ≤ K i j ∧ K i j < 256) ∧ (∀ i j, 0 ≤ V i j ∧ V i j < 256) ∧ ∀ i, 0 ≤ C i ∧ C i < 4294967296 := by
  subst hfs
  obtain ⟨fuel, hf⟩ := h
  obtain ⟨xs, n, _, _, _, hxl, hfl⟩ := DataW.trod_struct ht hf
  have hs : ∀ j, j < 4 → ∃ y, xs[j]? = some y := fun j hj => ⟨xs[j]'(by rw [hxl]; exact hj), List.getElem?_eq_getElem _⟩
  have g1 := hfl 1 f1 rfl
  have g2 := hfl 2 f2 rfl
  have g3 := hfl 3 f3 rfl
  have o1 := hone_of hone 1 f1 rfl
  have o2 := hone_of hone 2 f2 rfl
  have o3 := hone_of hone 3 f3 rfl
  rw [o1.1, o1.2] at g1
  rw [o2.1, o2.2] at g2
  rw [o3.1, o3.2] at g3
  obtain ⟨y1, r1⟩ := hs 1 (by omega)
  obtain ⟨y2, r2⟩ := hs 2 (by omega)
  obtain ⟨y3, r3⟩ := hs 3 (by omega)
  obtain ⟨KA, kn, kc, KL, K, k0, k1, k2, k3, k4⟩ := openL_rows u1 ue1 ue2 c1 c2 (g1.trans r1)
  obtain ⟨VA, vn, vc, VL, V, v0, v1, v2, v3, v4⟩ := openL_rows u2 ue1 ue2 c1 c2 (g2.trans r2)
  obtain ⟨CA, cn, cc, C, z0, z1, z2, z3, z4⟩ := openL_u32 u3 ue3 c3 (g3.trans r3)
  refine ⟨KA, VA, CA, kn, kc, vn, vc, cn, cc, KL, VL, K, V, C, ?_, ?_, ?_, ⟨k1, k2, v1, v2, z1, z2⟩, k3, v3, z3, k4, v4, z4⟩
  · exact List.head_eq_of_cons_eq k0
  · exact List.head_eq_of_cons_eq v0
  · exact List.head_eq_of_cons_eq z0
end
end Go.Proofs.Ytbmdnifkjcimcaa
