/-
  An argument that is a slice of structs of integers, opened to its cells.
-/
import Derived.Test.YtnbfnlpepnbppaaLaw
import Derived.Test.YtnbfnlpepnbppaaBlk
import Derived.Deep.Slices
import Derived.Deep.Fields
import Derived.ChangeSame
namespace Go.Proofs.Ytnbfnlpepnbppaa
set_option linter.unusedVariables false
set_option linter.unusedSimpArgs false
open Go.ChangeShapes Go.WideShapes Go.Deep Go.ChangeAt Go.RowKit

section
variable {H : Type} {enc : TypeId × Value → H} {P : Program} {w : World} {base : Nat} {spare : Nat → Bool} {held : Bool}
theorem open_slice_fields {t e : TypeId} {fs : Array Field} {fuel : Nat} {cs : List Value} {x : DataW H × List MemPlace} (ht : P.underlying t = some (.slice e)) (he : P.underlying e = some (.struct fs))
    (hone : oneCellFields P fs = true) (hC : P.cellsOf e = fs.size) (h : DataW.trod enc P w base spare held fuel t cs = some x) :
    (cs = [.slice none 0 0] ∧ x = (.nil, [])) ∨
    ∃ (a : Addr) (len cap m : Nat) (D : Nat → DataW H) (Pl : Nat → List MemPlace), cs = [.slice (some a) len cap] ∧ base ≤ a.block ∧ len ≤ cap ∧ cap ≤ maxLen ∧ m = (if spare a.block then cap else len) ∧
      x = (.slice ((List.range len).map D) ((List.range (m - len)).map fun j => D (len + j)), MemPlace.row a (m * fs.size) ++ (List.range m).flatMap Pl) ∧
      ∀ i, i < m → ∃ (ys : List (DataW H × List MemPlace)) (n : Nat), D i = .agg (ys.map (·.1)) ∧ Pl i = ys.flatMap (·.2) ∧ ys.length = fs.size ∧
        ∀ (j : Nat) (f : Field), fs[j]? = some f → ∃ (v : Value) (y : DataW H × List MemPlace), w.cell? (a.add (i * fs.size + j)) = some v ∧ ys[j]? = some y ∧ DataW.trod enc P w base spare held n f.type [v] = some y := by
  rcases open_slice ht h with h0 | ⟨a, len, cap, m, n, D, Pl, hcs, hb, hl, hm, hmm, hx, hi⟩
  · exact .inl h0
  · refine .inr ⟨a, len, cap, m, D, Pl, hcs, hb, hl, hm, hmm, by rw [hC] at hx; exact hx, fun i him => ?_⟩
    obtain ⟨cs', hc, ht'⟩ := hi i him
    rw [hC] at hc
    obtain ⟨ys, n', hn', hy, hlen, hyl, hf⟩ := DataW.trod_struct he ht'
    obtain ⟨_, hcl, hat⟩ := World.cells?_some hc
    simp only [Prod.mk.injEq] at hy
    refine ⟨ys, n', hy.1, hy.2, hyl, fun j f hj => ?_⟩
    obtain ⟨ho, hk⟩ := hone_of hone j f hj
    have hjl : j < fs.size := (Array.getElem?_eq_some_iff.1 hj).1
    have hcell := hat j hjl
    have hv : cs'[j]? = some (cs'[j]'(by omega)) := List.getElem?_eq_getElem (by omega)
    have h1 := hf j f hj
    rw [ho, hk] at h1
    have hone' : (cs'.drop j).take 1 = [cs'[j]'(by omega)] := by
      rw [List.drop_eq_getElem_cons (by omega)]
      rfl
    rw [hone'] at h1
    have hys : ys[j]? = some (ys[j]'(by omega)) := List.getElem?_eq_getElem (by omega)
    refine ⟨_, _, ?_, hys, h1.trans hys⟩
    rw [← Go.Deep.add_add, hcell, hv]
end

section
variable {H : Type} {enc : TypeId × Value → H} {P : Program}
theorem trodAll_cons {W : World} {b : Nat} {sp : Nat → Bool} {hd : Bool} {t : TypeId} {ts : List TypeId} {v : Value} {vs : List Value} {ds : List (DataW H)} {ps : List MemPlace}
    (h : DataW.TrodAll enc P W b sp hd (t :: ts) (v :: vs) ds ps) : ∃ d ds' p q, ds = d :: ds' ∧ DataW.Trod enc P W b sp hd t v d p ∧ DataW.TrodAll enc P W b sp hd ts vs ds' q := by
  cases ds with
  | nil => exact h.elim
  | cons d ds =>
    obtain ⟨p, q, h1, h2, _⟩ := h
    exact ⟨d, ds, p, q, rfl, h1, h2⟩
theorem wf_has {k : IntKind} {n : Int} (h : (Lit.int k n).wf = true) : k.has n := by
  have h2 : k.min ≤ n ∧ n ≤ k.max := by simpa [Lit.wf] using h
  exact h2

/-- the number in a cell -/
def cellI (W : World) (p : Addr) : Int := match W.cell? p with
  | some (.int _ z) => z
  | _ => 0
theorem cellI_of {W : World} {p : Addr} {k : IntKind} {z : Int} (h : W.cell? p = some (.int k z)) : W.cell? p = some (.int k (cellI W p)) ∧ cellI W p = z := by
  unfold cellI; rw [h]; exact ⟨rfl, rfl⟩
theorem add_none {W : World} {a : Addr} {i : Nat} {v : Value} (h : W.cell? (a.add i) = some v) (h0 : i = 0 → a.spot = none) : a.add i = ⟨a.block, a.off + i, none⟩ := by
  unfold Addr.add
  split
  · rename_i e; subst e; obtain ⟨b, o, s⟩ := a; simp at h0; subst h0; rfl
  · rfl
theorem spot_none {W : World} {a : Addr} {v : Value} (h : W.cell? (a.add 0) = some v) : a.spot = none := by
  obtain ⟨b, o, s⟩ := a
  simp only [Addr.add, if_true, World.cell?] at h
  cases s with
  | none => rfl
  | some n => simp at h; split at h <;> simp at h

/-- a slice of pairs of words -/
theorem open_pairs {W : World} {t e : TypeId} {fs : Array Field} {f0 f1 : Field} {v : Value} {d : DataW H} {p : List MemPlace} {b : Nat} {sp : Nat → Bool} {hd : Bool} (ht : P.underlying t = some (.slice e)) (he : P.underlying e = some (.struct fs))
    (hfs : fs = #[f0, f1]) (hu0 : P.underlying f0.type = some (.int .u64)) (hu1 : P.underlying f1.type = some (.int .u64)) (hone : oneCellFields P fs = true) (hC : P.cellsOf e = fs.size) (hcell : ∃ A n c, v = .slice A n c) (h : DataW.Trod enc P W b sp hd t v d p) :
    ∃ (A : Option Addr) (n c : Nat) (x y : Nat → Int), v = .slice A n c ∧ n ≤ maxLen ∧ SlIs W A (n * 2) (fun j => .int .u64 (if j % 2 = 0 then x (j / 2) else y (j / 2))) ∧ ∀ i, i < n → (0 ≤ x i ∧ x i < 18446744073709551616) ∧ (0 ≤ y i ∧ y i < 18446744073709551616) := by
  obtain ⟨A, n, c, rfl⟩ := hcell
  obtain ⟨fuel, hf⟩ := h
  subst hfs
  rcases open_slice_fields ht he hone hC hf with ⟨h1, _⟩ | ⟨a, len, cap, m, D, Pl, h1, hb, hl, hm, hmm, hx, hi⟩
  · cases h1
    exact ⟨none, 0, 0, fun _ => 0, fun _ => 0, rfl, by simp [maxLen], SlIs.nil, fun i hi => by omega⟩
  · cases h1
    have hlm : n ≤ m := by rw [hmm]; split <;> omega
    have key : ∀ i, i < n → (W.cell? (a.add (i * 2)) = some (.int .u64 (cellI W (a.add (i * 2)))) ∧ 0 ≤ cellI W (a.add (i * 2)) ∧ cellI W (a.add (i * 2)) < 18446744073709551616) ∧ (W.cell? (a.add (i * 2 + 1)) = some (.int .u64 (cellI W (a.add (i * 2 + 1)))) ∧ 0 ≤ cellI W (a.add (i * 2 + 1)) ∧ cellI W (a.add (i * 2 + 1)) < 18446744073709551616) := by
      intro i hil
      obtain ⟨ys, n', _, _, _, hfld⟩ := hi i (by omega)
      obtain ⟨v0, y0, c0, _, t0⟩ := hfld 0 f0 rfl
      obtain ⟨v1, y1, c1, _, t1⟩ := hfld 1 f1 rfl
      obtain ⟨z0, e0, _, w0⟩ := DataW.trod_int hu0 t0
      obtain ⟨z1, e1, _, w1⟩ := DataW.trod_int hu1 t1
      cases e0; cases e1
      have r0 := has_u64 (wf_has w0)
      have r1 := has_u64 (wf_has w1)
      simp only [List.size_toArray, List.length_cons, List.length_nil, Nat.add_zero] at c0 c1
      obtain ⟨k0, q0⟩ := cellI_of c0
      obtain ⟨k1, q1⟩ := cellI_of c1
      exact ⟨⟨k0, by rw [q0]; exact r0⟩, ⟨k1, by rw [q1]; exact r1⟩⟩
    refine ⟨_, _, _, fun i => cellI W (a.add (i * 2)), fun i => cellI W (a.add (i * 2 + 1)), rfl, by omega, fun hn => ?_, fun i hil => ⟨(key i hil).1.2, (key i hil).2.2⟩⟩
    have hs : a.spot = none := by
      have := (key 0 (by omega)).1.1
      rw [Nat.zero_mul] at this
      exact spot_none this
    have hadd : ∀ i, a.add i = ⟨a.block, a.off + i, none⟩ := fun i => by
      obtain ⟨b, o, s⟩ := a
      simp only at hs
      subst hs
      unfold Addr.add
      split <;> simp_all
    refine ⟨a.block, a.off, by rw [← Nat.add_zero a.off, ← hadd 0]; rfl, ?_, fun j hj => ?_⟩
    · have := World.block_lt_of_cell? W _ (key 0 (by omega)).1.1
      rwa [hadd] at this
    · rw [← hadd]
      dsimp only
      split
      · rename_i h2
        have := (key (j / 2) (by omega)).1.1
        rw [show j / 2 * 2 = j from by omega] at this
        rw [this, show j / 2 * 2 = j from by omega]
      · rename_i h2
        have := (key (j / 2) (by omega)).2.1
        rw [show j / 2 * 2 + 1 = j from by omega] at this
        rw [this, show j / 2 * 2 + 1 = j from by omega]
end
end Go.Proofs.Ytnbfnlpepnbppaa
