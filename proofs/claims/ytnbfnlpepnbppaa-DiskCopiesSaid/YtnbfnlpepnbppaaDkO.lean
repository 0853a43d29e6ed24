/-
  A list of operations that came as an argument, opened.
-/
import Derived.Test.YtnbfnlpepnbppaaJ1
import Derived.Test.YtnbfnlpepnbppaaDkK
namespace Go.Proofs.Ytnbfnlpepnbppaa
set_option linter.unusedVariables false
set_option linter.unusedSimpArgs false
open Go.ChangeShapes Go.WideShapes Go.Deep Go.ChangeAt Go.RowKit

structure OpV where
  d : Int
  at_ : Int
  y : Int
  mr : Int
  lg : Int
  A : Option Addr
  n : Nat
  c : Nat
  lf : Nat → Int
  lt : Nat → Int
def ocl (o : OpV) : List Value := [.int .u8 o.d, .int .i64 o.at_, .int .u8 o.y, .int .u16 o.mr, .int .i8 o.lg, .slice o.A o.n o.c]
structure OpV.Ok (W : World) (o : OpV) : Prop where
  d : 0 ≤ o.d ∧ o.d < 256
  y : 0 ≤ o.y ∧ o.y < 256
  mr : 0 ≤ o.mr ∧ o.mr < 65536
  lg : -128 ≤ o.lg ∧ o.lg < 128
  le : o.n ≤ o.c
  max : o.c ≤ maxLen
  ls : SsIs W o.A o.n 2 (fun i => [.int .i64 (o.lf i), .int .i64 (o.lt i)])
  at2 : -9223372036854775808 ≤ o.at_ ∧ o.at_ < 9223372036854775808
def OpsIs (W : World) (A : Option Addr) (n : Nat) (o : Nat → OpV) : Prop := SsIs W A n 6 (fun i => ocl (o i)) ∧ ∀ i, i < n → (o i).Ok W
theorem OpV.Ok.kept {w w' : World} {o : OpV} (h : o.Ok w) (hb : Below w.heap.size w w') : o.Ok w' := ⟨h.d, h.y, h.mr, h.lg, h.le, h.max, h.ls.below hb, h.at2⟩
theorem OpsIs.kept {w w' : World} {A : Option Addr} {n : Nat} {o : Nat → OpV} (h : OpsIs w A n o) (hb : Below w.heap.size w w') : OpsIs w' A n o := ⟨h.1.below hb, fun i hi => (h.2 i hi).kept hb⟩
theorem has_i64b {z : Int} (h : IntKind.i64.has z) : -9223372036854775808 ≤ z ∧ z < 9223372036854775808 := by simp [IntKind.has, IntKind.min, IntKind.max, IntKind.signed, IntKind.bits] at h; omega
theorem has_u8b {z : Int} (h : IntKind.u8.has z) : 0 ≤ z ∧ z < 256 := by simp [IntKind.has, IntKind.min, IntKind.max, IntKind.signed, IntKind.bits] at h; omega
theorem has_u16b {z : Int} (h : IntKind.u16.has z) : 0 ≤ z ∧ z < 65536 := by simp [IntKind.has, IntKind.min, IntKind.max, IntKind.signed, IntKind.bits] at h; omega
theorem has_i8b {z : Int} (h : IntKind.i8.has z) : -128 ≤ z ∧ z < 128 := by simp [IntKind.has, IntKind.min, IntKind.max, IntKind.signed, IntKind.bits] at h; omega
section
variable {H : Type} {enc : TypeId × Value → H} {W : World} {b : Nat} {sp : Nat → Bool} {hd : Bool}
theorem open_loss {fuel : Nat} {cs : List Value} {x : DataW H × List MemPlace} (hf : DataW.trod enc Try.prog W b sp hd fuel 36 cs = some x) :
    ∃ (A : Option Addr) (n c : Nat) (lf lt : Nat → Int), cs = [.slice A n c] ∧ n ≤ c ∧ c ≤ maxLen ∧ SsIs W A n 2 (fun i => [.int .i64 (lf i), .int .i64 (lt i)]) := by
  obtain ⟨A, n, c, F, h1, h2, h3, h4, _⟩ := openL_structs (k := 2) (fun _ => .i64) (fun _ => ⟨by decide, by decide⟩) Try.underlying36 (show Try.prog.cellsOf 61 = 2 by kernel_rfl) (by omega) (fun fuel cs' y h j hj => by
    rcases (by omega : j = 0 ∨ j = 1) with rfl | rfl
    · exact leaf1 0 Try.underlying61 rfl Try.underlying3 (by kernel_rfl) h
    · exact leaf1 1 Try.underlying61 rfl Try.underlying3 (by kernel_rfl) h) hf
  exact ⟨A, n, c, fun i => F i 0, fun i => F i 1, h1, h2, h3, h4.congr (fun i _ => rfl)⟩
theorem leafS {P : Program} {fuel : Nat} {t : TypeId} {cs : List Value} {x : DataW H × List MemPlace} {fs : Array Field} {f : Field} (i : Nat) (ht : P.underlying t = some (.struct fs)) (hf : fs[i]? = some f) (h1 : P.cellsOf f.type = 1) (h : DataW.trod enc P W b sp hd fuel t cs = some x) :
    ∃ n' y, DataW.trod enc P W b sp hd n' f.type ((cs.drop f.offset).take 1) = some y := by
  obtain ⟨ys, n', _, _, _, hyl, hat⟩ := DataW.trod_struct ht h
  have e := hat i f hf
  have hi : i < ys.length := by rw [hyl]; exact (Array.getElem?_eq_some_iff.1 hf).1
  rw [List.getElem?_eq_getElem hi, h1] at e
  exact ⟨n', _, e⟩
theorem open_op {fuel : Nat} {cs : List Value} {x : DataW H × List MemPlace} (h : DataW.trod enc Try.prog W b sp hd fuel 38 cs = some x) : ∃ o : OpV, o.Ok W ∧ ∀ j, j < 6 → cs[j]? = (ocl o)[j]? := by
  obtain ⟨z0, a0, r0⟩ := leaf1 0 Try.underlying38 rfl Try.underlying5 (by kernel_rfl) h
  obtain ⟨z1, a1, r1⟩ := leaf1 1 Try.underlying38 rfl Try.underlying3 (by kernel_rfl) h
  obtain ⟨z2, a2, r2⟩ := leaf1 2 Try.underlying38 rfl Try.underlying5 (by kernel_rfl) h
  obtain ⟨z3, a3, r3⟩ := leaf1 3 Try.underlying38 rfl Try.underlying34 (by kernel_rfl) h
  obtain ⟨z4, a4, r4⟩ := leaf1 4 Try.underlying38 rfl Try.underlying35 (by kernel_rfl) h
  obtain ⟨n', y5, e⟩ := leafS 5 Try.underlying38 rfl (by kernel_rfl) h
  obtain ⟨A, n, c, lf, lt, e1, h2, h3, h4⟩ := open_loss e
  refine ⟨⟨z0, z1, z2, z3, z4, A, n, c, lf, lt⟩, ⟨has_u8b r0, has_u8b r2, has_u16b r3, has_i8b r4, h2, h3, h4, has_i64b r1⟩, fun j hj => ?_⟩
  rcases (by omega : j = 0 ∨ j = 1 ∨ j = 2 ∨ j = 3 ∨ j = 4 ∨ j = 5) with rfl | rfl | rfl | rfl | rfl | rfl
  · exact a0
  · exact a1
  · exact a2
  · exact a3
  · exact a4
  · exact take1 e1
theorem open_ops {v : Value} {d : DataW H} {p : List MemPlace} (hcell : ∃ A n c, v = .slice A n c) (h : DataW.Trod enc Try.prog W b sp hd 22 v d p) :
    ∃ (A : Option Addr) (n c : Nat) (o : Nat → OpV), v = .slice A n c ∧ n ≤ c ∧ c ≤ maxLen ∧ OpsIs W A n o := by
  obtain ⟨A, n, c, rfl⟩ := hcell
  obtain ⟨fuel, hf⟩ := h
  rcases open_slice Try.underlying22 hf with ⟨h1, _⟩ | ⟨a, n, c, m, n', D, Pl, h1, hb, hl, hm, hmm, hx, hi⟩
  · cases h1
    exact ⟨none, 0, 0, fun _ => ⟨0, 0, 0, 0, 0, none, 0, 0, fun _ => 0, fun _ => 0⟩, rfl, Nat.le_refl _, by simp [maxLen], SsIs.nil, fun i h => by omega⟩
  · cases h1
    have hlm : n ≤ m := by rw [hmm]; split <;> omega
    have key : ∀ i, ∃ o : OpV, i < n → o.Ok W ∧ ∀ j, j < 6 → W.cell? (a.add (i * 6 + j)) = (ocl o)[j]? := by
      intro i
      by_cases hil : i < n
      · obtain ⟨cs', hc, ht'⟩ := hi i (by omega)
        rw [show Try.prog.cellsOf 38 = 6 by kernel_rfl] at hc
        obtain ⟨_, hcl, hat⟩ := World.cells?_some hc
        obtain ⟨o, h1, h2⟩ := open_op ht'
        refine ⟨o, fun _ => ⟨h1, fun j hj => ?_⟩⟩
        have h4 := hat j (by omega)
        rw [← h2 j hj, ← h4, Go.Deep.add_add]
      · exact ⟨⟨0, 0, 0, 0, 0, none, 0, 0, fun _ => 0, fun _ => 0⟩, fun h => absurd h hil⟩
    obtain ⟨o, ho⟩ := Classical.axiomOfChoice key
    refine ⟨_, _, _, o, rfl, hl, hm, fun hn => ?_, fun i hi => (ho i hi).1⟩
    have key0 := (ho 0 hn).2 0 (by omega)
    rw [Nat.zero_mul, Nat.add_zero] at key0
    have hs : a.spot = none := spot_none key0
    have hadd : ∀ i, a.add i = ⟨a.block, a.off + i, none⟩ := fun i => by
      obtain ⟨b, o, s⟩ := a
      simp only at hs
      subst hs
      unfold Addr.add
      split <;> simp_all
    refine ⟨a.block, a.off, (by have := hadd 0; obtain ⟨b, o, s⟩ := a; simp only at hs; subst hs; rfl), ?_, fun i hin j v hv => ?_⟩
    · have := World.block_lt_of_cell? W _ key0
      rwa [hadd] at this
    · have hj : j < 6 := by
        rcases Nat.lt_or_ge j 6 with h | h
        · exact h
        · rw [List.getElem?_eq_none (by simpa [ocl] using h)] at hv; cases hv
      have h5 := (ho i hin).2 j hj
      rw [hadd] at h5
      rw [Nat.add_assoc, h5]
      exact hv
end
end Go.Proofs.Ytnbfnlpepnbppaa
