/-
  Joined: StA SlArg StB StC ByArg ByArg2.
-/
import Derived.Test.YtnbfnlpepnbppaaLaw
import Derived.Test.YtnbfnlpepnbppaaBlk
import Derived.Deep.Slices
import Derived.Deep.Fields
import Derived.ChangeSame
import Derived.Test.YtnbfnlpepnbppaaSs
import Derived.Test.YtnbfnlpepnbppaaStr
-- StA
namespace Go.Proofs.Ytnbfnlpepnbppaa
set_option linter.unusedVariables false
set_option linter.unusedSimpArgs false

theorem take1 {cs : List Value} {p : Nat} {v : Value} (h : (cs.drop p).take 1 = [v]) : cs[p]? = some v := by
  have e : ((cs.drop p).take 1)[0]? = some v := by rw [h]; rfl
  rw [List.getElem?_take, if_pos (by omega), List.getElem?_drop] at e
  simpa using e
theorem take2 {cs : List Value} {p q m : Nat} {v : Value} (h : ((((cs.drop p).take m).drop q).take 1) = [v]) : cs[p + q]? = some v := by
  have e := take1 h
  rw [List.getElem?_take] at e
  split at e
  · rwa [List.getElem?_drop] at e
  · cases e
end Go.Proofs.Ytnbfnlpepnbppaa
-- SlArg
namespace Go.Proofs.Ytnbfnlpepnbppaa
set_option linter.unusedVariables false
set_option linter.unusedSimpArgs false
open Go.ChangeShapes Go.WideShapes Go.Deep Go.ChangeAt Go.RowKit

section
variable {H : Type} {enc : TypeId × Value → H} {P : Program} {w : World} {base : Nat} {spare : Nat → Bool} {held : Bool}
theorem open_slice_fields {t e : TypeId} {fs : Array Field} {fuel : Nat} {cs : List Value} {x : DataW H × List MemPlace} (ht : P.underlying t = some (.slice e)) (he : P.underlying e = some (.struct fs))
    (hone : oneCellFields P fs = true) (hC : P.cellsOf e = fs.size) (h : DataW.trod enc P w base spare held fuel t cs = some x) :
    (cs = [.slice none 0 0] ∧ x = (.nil, [])) ∨
    ∃ (a : Addr) (len cap m : Nat) (D : Nat → DataW H) (Pl : Nat → List MemPlace), cs = [.slice (some a) len cap] ∧ base ≤ a.block ∧ len ≤ cap ∧ cap ≤ maxLen ∧ m = (if spare a.block then cap else len) ∧
      x = (.slice ((List.range len).map D) ((List.range (m - len)).map fun j => D (len + j)), MemPlace.row a (m * fs.size) ++ (List.range m).flatMap Pl) ∧
      ∀ i, i < m → ∃ (ys : List (DataW H × List MemPlace)) (n : Nat), D i = .agg (ys.map (·.1)) ∧ Pl i = ys.flatMap (·.2) ∧ ys.length = fs.size ∧
        ∀ (j : Nat) (f : Field), fs[j]? = some f → ∃ (v : Value) (y : DataW H × List MemPlace), w.cell? (a.add (i * fs.size + j)) = some v ∧ ys[j]? = some y ∧ DataW.trod enc P w base spare held n f.type [v] = some y := by
  rcases open_slice ht h with h0 | ⟨a, len, cap, m, n, D, Pl, hcs, hb, hl, hm, hmm, hx, hi⟩
  · exact .inl h0
  · refine .inr ⟨a, len, cap, m, D, Pl, hcs, hb, hl, hm, hmm, by rw [hC] at hx; exact hx, fun i him => ?_⟩
    obtain ⟨cs', hc, ht'⟩ := hi i him
    rw [hC] at hc
    obtain ⟨ys, n', hn', hy, hlen, hyl, hf⟩ := DataW.trod_struct he ht'
    obtain ⟨_, hcl, hat⟩ := World.cells?_some hc
    simp only [Prod.mk.injEq] at hy
    refine ⟨ys, n', hy.1, hy.2, hyl, fun j f hj => ?_⟩
    obtain ⟨ho, hk⟩ := hone_of hone j f hj
    have hjl : j < fs.size := (Array.getElem?_eq_some_iff.1 hj).1
    have hcell := hat j hjl
    have hv : cs'[j]? = some (cs'[j]'(by omega)) := List.getElem?_eq_getElem (by omega)
    have h1 := hf j f hj
    rw [ho, hk] at h1
    have hone' : (cs'.drop j).take 1 = [cs'[j]'(by omega)] := by
      rw [List.drop_eq_getElem_cons (by omega)]
      rfl
    rw [hone'] at h1
    have hys : ys[j]? = some (ys[j]'(by omega)) := List.getElem?_eq_getElem (by omega)
    refine ⟨_, _, ?_, hys, h1.trans hys⟩
    rw [← Go.Deep.add_add, hcell, hv]
end

section
variable {H : Type} {enc : TypeId × Value → H} {P : Program}
theorem trodAll_cons {W : World} {b : Nat} {sp : Nat → Bool} {hd : Bool} {t : TypeId} {ts : List TypeId} {v : Value} {vs : List Value} {ds : List (DataW H)} {ps : List MemPlace}
    (h : DataW.TrodAll enc P W b sp hd (t :: ts) (v :: vs) ds ps) : ∃ d ds' p q, ds = d :: ds' ∧ DataW.Trod enc P W b sp hd t v d p ∧ DataW.TrodAll enc P W b sp hd ts vs ds' q := by
  cases ds with
  | nil => exact h.elim
  | cons d ds =>
    obtain ⟨p, q, h1, h2, _⟩ := h
    exact ⟨d, ds, p, q, rfl, h1, h2⟩
theorem wf_has {k : IntKind} {n : Int} (h : (Lit.int k n).wf = true) : k.has n := by
  have h2 : k.min ≤ n ∧ n ≤ k.max := by simpa [Lit.wf] using h
  exact h2

/-- the number in a cell -/
def cellI (W : World) (p : Addr) : Int := match W.cell? p with
  | some (.int _ z) => z
  | _ => 0
theorem cellI_of {W : World} {p : Addr} {k : IntKind} {z : Int} (h : W.cell? p = some (.int k z)) : W.cell? p = some (.int k (cellI W p)) ∧ cellI W p = z := by
  unfold cellI; rw [h]; exact ⟨rfl, rfl⟩
theorem add_none {W : World} {a : Addr} {i : Nat} {v : Value} (h : W.cell? (a.add i) = some v) (h0 : i = 0 → a.spot = none) : a.add i = ⟨a.block, a.off + i, none⟩ := by
  unfold Addr.add
  split
  · rename_i e; subst e; obtain ⟨b, o, s⟩ := a; simp at h0; subst h0; rfl
  · rfl
theorem spot_none {W : World} {a : Addr} {v : Value} (h : W.cell? (a.add 0) = some v) : a.spot = none := by
  obtain ⟨b, o, s⟩ := a
  simp only [Addr.add, if_true, World.cell?] at h
  cases s with
  | none => rfl
  | some n => simp at h; split at h <;> simp at h

/-- a slice of pairs of words -/
theorem open_pairs {W : World} {t e : TypeId} {fs : Array Field} {f0 f1 : Field} {v : Value} {d : DataW H} {p : List MemPlace} {b : Nat} {sp : Nat → Bool} {hd : Bool} (ht : P.underlying t = some (.slice e)) (he : P.underlying e = some (.struct fs))
    (hfs : fs = #[f0, f1]) (hu0 : P.underlying f0.type = some (.int .u64)) (hu1 : P.underlying f1.type = some (.int .u64)) (hone : oneCellFields P fs = true) (hC : P.cellsOf e = fs.size) (hcell : ∃ A n c, v = .slice A n c) (h : DataW.Trod enc P W b sp hd t v d p) :
    ∃ (A : Option Addr) (n c : Nat) (x y : Nat → Int), v = .slice A n c ∧ n ≤ maxLen ∧ SlIs W A (n * 2) (fun j => .int .u64 (if j % 2 = 0 then x (j / 2) else y (j / 2))) ∧ ∀ i, i < n → (0 ≤ x i ∧ x i < 18446744073709551616) ∧ (0 ≤ y i ∧ y i < 18446744073709551616) := by
  obtain ⟨A, n, c, rfl⟩ := hcell
  obtain ⟨fuel, hf⟩ := h
  subst hfs
  rcases open_slice_fields ht he hone hC hf with ⟨h1, _⟩ | ⟨a, len, cap, m, D, Pl, h1, hb, hl, hm, hmm, hx, hi⟩
  · cases h1
    exact ⟨none, 0, 0, fun _ => 0, fun _ => 0, rfl, by simp [maxLen], SlIs.nil, fun i hi => by omega⟩
  · cases h1
    have hlm : n ≤ m := by rw [hmm]; split <;> omega
    have key : ∀ i, i < n → (W.cell? (a.add (i * 2)) = some (.int .u64 (cellI W (a.add (i * 2)))) ∧ 0 ≤ cellI W (a.add (i * 2)) ∧ cellI W (a.add (i * 2)) < 18446744073709551616) ∧ (W.cell? (a.add (i * 2 + 1)) = some (.int .u64 (cellI W (a.add (i * 2 + 1)))) ∧ 0 ≤ cellI W (a.add (i * 2 + 1)) ∧ cellI W (a.add (i * 2 + 1)) < 18446744073709551616) := by
      intro i hil
      obtain ⟨ys, n', _, _, _, hfld⟩ := hi i (by omega)
      obtain ⟨v0, y0, c0, _, t0⟩ := hfld 0 f0 rfl
      obtain ⟨v1, y1, c1, _, t1⟩ := hfld 1 f1 rfl
      obtain ⟨z0, e0, _, w0⟩ := DataW.trod_int hu0 t0
      obtain ⟨z1, e1, _, w1⟩ := DataW.trod_int hu1 t1
      cases e0; cases e1
      have r0 := has_u64 (wf_has w0)
      have r1 := has_u64 (wf_has w1)
      simp only [List.size_toArray, List.length_cons, List.length_nil, Nat.add_zero] at c0 c1
      obtain ⟨k0, q0⟩ := cellI_of c0
      obtain ⟨k1, q1⟩ := cellI_of c1
      exact ⟨⟨k0, by rw [q0]; exact r0⟩, ⟨k1, by rw [q1]; exact r1⟩⟩
    refine ⟨_, _, _, fun i => cellI W (a.add (i * 2)), fun i => cellI W (a.add (i * 2 + 1)), rfl, by omega, fun hn => ?_, fun i hil => ⟨(key i hil).1.2, (key i hil).2.2⟩⟩
    have hs : a.spot = none := by
      have := (key 0 (by omega)).1.1
      rw [Nat.zero_mul] at this
      exact spot_none this
    have hadd : ∀ i, a.add i = ⟨a.block, a.off + i, none⟩ := fun i => by
      obtain ⟨b, o, s⟩ := a
      simp only at hs
      subst hs
      unfold Addr.add
      split <;> simp_all
    refine ⟨a.block, a.off, by rw [← Nat.add_zero a.off, ← hadd 0]; rfl, ?_, fun j hj => ?_⟩
    · have := World.block_lt_of_cell? W _ (key 0 (by omega)).1.1
      rwa [hadd] at this
    · rw [← hadd]
      dsimp only
      split
      · rename_i h2
        have := (key (j / 2) (by omega)).1.1
        rw [show j / 2 * 2 = j from by omega] at this
        rw [this, show j / 2 * 2 = j from by omega]
      · rename_i h2
        have := (key (j / 2) (by omega)).2.1
        rw [show j / 2 * 2 + 1 = j from by omega] at this
        rw [this, show j / 2 * 2 + 1 = j from by omega]
end
end Go.Proofs.Ytnbfnlpepnbppaa
-- StB
namespace Go.Proofs.Ytnbfnlpepnbppaa
set_option linter.unusedVariables false
set_option linter.unusedSimpArgs false
open Go.ChangeShapes Go.WideShapes Go.Deep Go.ChangeAt Go.RowKit

section
variable {H : Type} {enc : TypeId × Value → H} {P : Program} {W : World} {b fuel : Nat} {sp : Nat → Bool} {hd : Bool} {t : TypeId} {cs : List Value} {x : DataW H × List MemPlace}
theorem leaf1 {fs : Array Field} {f : Field} {k : IntKind} (i : Nat) (ht : P.underlying t = some (.struct fs)) (hf : fs[i]? = some f) (hk : P.underlying f.type = some (.int k)) (h1 : P.cellsOf f.type = 1) (h : DataW.trod enc P W b sp hd fuel t cs = some x) :
    ∃ n, cs[f.offset]? = some (.int k n) ∧ k.has n := by
  obtain ⟨ys, n', _, _, _, hyl, hat⟩ := DataW.trod_struct ht h
  have e := hat i f hf
  have hi : i < ys.length := by rw [hyl]; exact (Array.getElem?_eq_some_iff.1 hf).1
  rw [List.getElem?_eq_getElem hi, h1] at e
  obtain ⟨n, e1, _, e3⟩ := DataW.trod_int hk e
  exact ⟨n, take1 e1, wf_has e3⟩
theorem leaf2 {fs gs : Array Field} {f g : Field} {k : IntKind} (i j : Nat) (ht : P.underlying t = some (.struct fs)) (hf : fs[i]? = some f) (hs : P.underlying f.type = some (.struct gs)) (hg : gs[j]? = some g) (hk : P.underlying g.type = some (.int k)) (h1 : P.cellsOf g.type = 1) (h : DataW.trod enc P W b sp hd fuel t cs = some x) :
    ∃ n, cs[f.offset + g.offset]? = some (.int k n) ∧ k.has n := by
  obtain ⟨ys, n', _, _, _, hyl, hat⟩ := DataW.trod_struct ht h
  have e := hat i f hf
  have hi : i < ys.length := by rw [hyl]; exact (Array.getElem?_eq_some_iff.1 hf).1
  rw [List.getElem?_eq_getElem hi] at e
  obtain ⟨zs, n2, _, _, _, hzl, hat2⟩ := DataW.trod_struct hs e
  have e2 := hat2 j g hg
  have hj : j < zs.length := by rw [hzl]; exact (Array.getElem?_eq_some_iff.1 hg).1
  rw [List.getElem?_eq_getElem hj, h1] at e2
  obtain ⟨n, e1, _, e3⟩ := DataW.trod_int hk e2
  exact ⟨n, take2 e1, wf_has e3⟩
end
end Go.Proofs.Ytnbfnlpepnbppaa
-- StC
namespace Go.Proofs.Ytnbfnlpepnbppaa
set_option linter.unusedVariables false
set_option linter.unusedSimpArgs false
open Go.ChangeShapes Go.WideShapes Go.Deep Go.ChangeAt Go.RowKit

section
variable {H : Type} {enc : TypeId × Value → H} {P : Program}
/-- the number in a cell, if it is one of that kind -/
noncomputable def cellK (k : IntKind) (W : World) (p : Addr) : Int := open Classical in if k.has (cellI W p) then cellI W p else 0
theorem cellK_of {W : World} {p : Addr} {k : IntKind} {z : Int} (h : W.cell? p = some (.int k z)) (hz : k.has z) : W.cell? p = some (.int k (cellK k W p)) := by
  obtain ⟨h1, h2⟩ := cellI_of h
  unfold cellK
  rw [h2, if_pos hz]; exact h
theorem cellK_has (k : IntKind) (h0 : k.has 0) (W : World) (p : Addr) : k.has (cellK k W p) := by
  unfold cellK
  split
  · assumption
  · exact h0
theorem openL_structs {W : World} {t e : TypeId} {cs : List Value} {x : DataW H × List MemPlace} {fuel b : Nat} {sp : Nat → Bool} {hd : Bool} {k : Nat} (K : Nat → IntKind) (hK0 : ∀ j, (K j).has 0) (ht : P.underlying t = some (.slice e)) (hC : P.cellsOf e = k) (hk : 0 < k)
    (hl : ∀ (fuel : Nat) (cs' : List Value) (y : DataW H × List MemPlace), DataW.trod enc P W b sp hd fuel e cs' = some y → ∀ j, j < k → ∃ n, cs'[j]? = some (.int (K j) n) ∧ (K j).has n)
    (hf : DataW.trod enc P W b sp hd fuel t cs = some x) :
    ∃ (A : Option Addr) (n c : Nat) (F : Nat → Nat → Int), cs = [.slice A n c] ∧ n ≤ c ∧ c ≤ maxLen ∧ SsIs W A n k (fun i => (List.range k).map (fun j => .int (K j) (F i j))) ∧ ∀ i j, (K j).has (F i j) := by
  rcases open_slice ht hf with ⟨h1, _⟩ | ⟨a, n, c, m, n', D, Pl, h1, hb, hl1, hm, hmm, hx, hi⟩
  · subst h1
    exact ⟨none, 0, 0, fun _ _ => 0, rfl, Nat.le_refl _, by simp [maxLen], SsIs.nil, fun _ j => hK0 j⟩
  · subst h1
    have hlm : n ≤ m := by rw [hmm]; split <;> omega
    have key : ∀ i, i < n → ∀ j, j < k → W.cell? (a.add (i * k + j)) = some (.int (K j) (cellK (K j) W (a.add (i * k + j)))) := by
      intro i hin j hj
      obtain ⟨cs', hc, ht'⟩ := hi i (by omega)
      rw [hC] at hc
      obtain ⟨_, hcl, hat⟩ := World.cells?_some hc
      obtain ⟨z, h2, h3⟩ := hl _ _ _ ht' j hj
      have h4 := hat j (by omega)
      rw [← Go.Deep.add_add] at *
      exact cellK_of (h4.trans (by rw [← h2])) h3
    refine ⟨_, _, _, fun i j => cellK (K j) W (a.add (i * k + j)), rfl, hl1, hm, ?_, fun i j => cellK_has _ (hK0 j) _ _⟩
    intro hn
    have key0 := key 0 hn 0 hk
    rw [Nat.zero_mul, Nat.add_zero] at key0
    have hs : a.spot = none := spot_none key0
    have hadd : ∀ i, a.add i = ⟨a.block, a.off + i, none⟩ := fun i => by
      obtain ⟨b, o, s⟩ := a
      simp only at hs
      subst hs
      unfold Addr.add
      split <;> simp_all
    refine ⟨a.block, a.off, (by have := hadd 0; obtain ⟨b, o, s⟩ := a; simp only at hs; subst hs; rfl), ?_, fun i hin j v hv => ?_⟩
    · have := World.block_lt_of_cell? W _ key0
      rwa [hadd] at this
    · have hj : j < k := by
        rcases Nat.lt_or_ge j k with h | h
        · exact h
        · rw [List.getElem?_eq_none (by simpa using h)] at hv; cases hv
      rw [List.getElem?_map, List.getElem?_range hj] at hv
      have h5 := key i hin j hj
      rw [hadd] at h5
      rw [Nat.add_assoc, h5]
      simpa [hadd] using hv
end
end Go.Proofs.Ytnbfnlpepnbppaa
-- ByArg
namespace Go.Proofs.Ytnbfnlpepnbppaa
set_option linter.unusedVariables false
set_option linter.unusedSimpArgs false
open Go.ChangeShapes Go.WideShapes Go.Deep Go.ChangeAt Go.RowKit

section
variable {H : Type} {enc : TypeId × Value → H} {P : Program}
/-- the byte in a cell -/
def cellB (W : World) (p : Addr) : Int := if 0 ≤ cellI W p ∧ cellI W p < 256 then cellI W p else 0
theorem cellB_lo (W : World) (p : Addr) : 0 ≤ cellB W p ∧ cellB W p < 256 := by unfold cellB; split <;> omega
theorem cellB_of {W : World} {p : Addr} {z : Int} (h : W.cell? p = some (.int .u8 z)) (hz : 0 ≤ z ∧ z < 256) : W.cell? p = some (.int .u8 (cellB W p)) := by
  obtain ⟨h1, h2⟩ := cellI_of h
  unfold cellB
  rw [h2, if_pos hz]; exact h

theorem open_bytes {W : World} {t e : TypeId} {v : Value} {d : DataW H} {p : List MemPlace} {b : Nat} {sp : Nat → Bool} {hd : Bool} (ht : P.underlying t = some (.slice e)) (he : P.underlying e = some (.int .u8))
    (hC : P.cellsOf e = 1) (hcell : ∃ A n c, v = .slice A n c) (h : DataW.Trod enc P W b sp hd t v d p) :
    ∃ (A : Option Addr) (n c : Nat) (x : Nat → Int), v = .slice A n c ∧ n ≤ maxLen ∧ SlIs W A n (yV x) ∧ ∀ i, 0 ≤ x i ∧ x i < 256 := by
  obtain ⟨A, n, c, rfl⟩ := hcell
  obtain ⟨fuel, hf⟩ := h
  rcases open_slice ht hf with ⟨h1, _⟩ | ⟨a, len, cap, m, n', D, Pl, h1, hb, hl, hm, hmm, hx, hi⟩
  · cases h1
    exact ⟨none, 0, 0, fun _ => 0, rfl, by simp [maxLen], SlIs.nil, fun _ => (⟨Int.le_refl 0, by decide⟩ : (0 : Int) ≤ 0 ∧ (0 : Int) < 256)⟩
  · cases h1
    have hlm : n ≤ m := by rw [hmm]; split <;> omega
    have key : ∀ i, i < n → W.cell? (a.add i) = some (.int .u8 (cellB W (a.add i))) := by
      intro i hil
      obtain ⟨cs', hc, ht'⟩ := hi i (by omega)
      rw [hC, Nat.mul_one] at hc
      obtain ⟨z0, e0, _, w0⟩ := DataW.trod_int he ht'
      obtain ⟨_, hcl, hat⟩ := World.cells?_some hc
      have := hat 0 (by omega)
      have e1 : (a.add i).add 0 = a.add i := by simp [Addr.add]
      rw [e1, e0] at this
      exact cellB_of this (has_u8 (wf_has w0))
    refine ⟨_, _, _, fun i => cellB W (a.add i), rfl, by omega, fun hn => ?_, fun i => cellB_lo _ _⟩
    have hs : a.spot = none := spot_none (key 0 hn)
    have hadd : ∀ i, a.add i = ⟨a.block, a.off + i, none⟩ := fun i => by
      obtain ⟨b, o, s⟩ := a
      simp only at hs
      subst hs
      unfold Addr.add
      split <;> simp_all
    refine ⟨a.block, a.off, by rw [← Nat.add_zero a.off, ← hadd 0]; rfl, ?_, fun j hj => ?_⟩
    · have := World.block_lt_of_cell? W _ (key 0 hn)
      rwa [hadd] at this
    · rw [← hadd]; exact key j hj
end
end Go.Proofs.Ytnbfnlpepnbppaa
-- ByArg2
namespace Go.Proofs.Ytnbfnlpepnbppaa
set_option linter.unusedVariables false
set_option linter.unusedSimpArgs false
open Go.ChangeShapes Go.WideShapes Go.Deep Go.ChangeAt Go.RowKit

section
variable {H : Type} {enc : TypeId × Value → H} {P : Program}
theorem open_bytes2 {W : World} {t e : TypeId} {v : Value} {d : DataW H} {p : List MemPlace} {b : Nat} {sp : Nat → Bool} {hd : Bool} (ht : P.underlying t = some (.slice e)) (he : P.underlying e = some (.int .u8))
    (hC : P.cellsOf e = 1) (hcell : ∃ A n c, v = .slice A n c) (h : DataW.Trod enc P W b sp hd t v d p) :
    ∃ (A : Option Addr) (n c : Nat) (x : Nat → Int), v = .slice A n c ∧ (n ≤ c ∧ c ≤ maxLen) ∧ SlIs W A n (yV x) ∧ ∀ i, 0 ≤ x i ∧ x i < 256 := by
  obtain ⟨A, n, c, rfl⟩ := hcell
  obtain ⟨fuel, hf⟩ := h
  rcases open_slice ht hf with ⟨h1, _⟩ | ⟨a, len, cap, m, n', D, Pl, h1, hb, hl, hm, hmm, hx, hi⟩
  · cases h1
    exact ⟨none, 0, 0, fun _ => 0, rfl, by simp [maxLen], SlIs.nil, fun _ => (⟨Int.le_refl 0, by decide⟩ : (0 : Int) ≤ 0 ∧ (0 : Int) < 256)⟩
  · cases h1
    have hlm : n ≤ m := by rw [hmm]; split <;> omega
    have key : ∀ i, i < n → W.cell? (a.add i) = some (.int .u8 (cellB W (a.add i))) := by
      intro i hil
      obtain ⟨cs', hc, ht'⟩ := hi i (by omega)
      rw [hC, Nat.mul_one] at hc
      obtain ⟨z0, e0, _, w0⟩ := DataW.trod_int he ht'
      obtain ⟨_, hcl, hat⟩ := World.cells?_some hc
      have := hat 0 (by omega)
      have e1 : (a.add i).add 0 = a.add i := by simp [Addr.add]
      rw [e1, e0] at this
      exact cellB_of this (has_u8 (wf_has w0))
    refine ⟨_, _, _, fun i => cellB W (a.add i), rfl, ⟨by omega, hm⟩, fun hn => ?_, fun i => cellB_lo _ _⟩
    have hs : a.spot = none := spot_none (key 0 hn)
    have hadd : ∀ i, a.add i = ⟨a.block, a.off + i, none⟩ := fun i => by
      obtain ⟨b, o, s⟩ := a
      simp only at hs
      subst hs
      unfold Addr.add
      split <;> simp_all
    refine ⟨a.block, a.off, by rw [← Nat.add_zero a.off, ← hadd 0]; rfl, ?_, fun j hj => ?_⟩
    · have := World.block_lt_of_cell? W _ (key 0 hn)
      rwa [hadd] at this
    · rw [← hadd]; exact key j hj
end
end Go.Proofs.Ytnbfnlpepnbppaa
