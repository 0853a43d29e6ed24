/-
  The whole numbers in structs that came as arguments: a field's, or a field's of a struct in it.
-/
import Derived.Test.YtnbfnlpepnbppaaStA
import Derived.Test.YtnbfnlpepnbppaaSlArg
namespace Go.Proofs.Ytnbfnlpepnbppaa
set_option linter.unusedVariables false
set_option linter.unusedSimpArgs false
open Go.ChangeShapes Go.WideShapes Go.Deep Go.ChangeAt Go.RowKit

section
variable {H : Type} {enc : TypeId × Value → H} {P : Program} {W : World} {b fuel : Nat} {sp : Nat → Bool} {hd : Bool} {t : TypeId} {cs : List Value} {x : DataW H × List MemPlace}
theorem leaf1 {fs : Array Field} {f : Field} {k : IntKind} (i : Nat) (ht : P.underlying t = some (.struct fs)) (hf : fs[i]? = some f) (hk : P.underlying f.type = some (.int k)) (h1 : P.cellsOf f.type = 1) (h : DataW.trod enc P W b sp hd fuel t cs = some x) :
    ∃ n, cs[f.offset]? = some (.int k n) ∧ k.has n := by
  obtain ⟨ys, n', _, _, _, hyl, hat⟩ := DataW.trod_struct ht h
  have e := hat i f hf
  have hi : i < ys.length := by rw [hyl]; exact (Array.getElem?_eq_some_iff.1 hf).1
  rw [List.getElem?_eq_getElem hi, h1] at e
  obtain ⟨n, e1, _, e3⟩ := DataW.trod_int hk e
  exact ⟨n, take1 e1, wf_has e3⟩
theorem leaf2 {fs gs : Array Field} {f g : Field} {k : IntKind} (i j : Nat) (ht : P.underlying t = some (.struct fs)) (hf : fs[i]? = some f) (hs : P.underlying f.type = some (.struct gs)) (hg : gs[j]? = some g) (hk : P.underlying g.type = some (.int k)) (h1 : P.cellsOf g.type = 1) (h : DataW.trod enc P W b sp hd fuel t cs = some x) :
    ∃ n, cs[f.offset + g.offset]? = some (.int k n) ∧ k.has n := by
  obtain ⟨ys, n', _, _, _, hyl, hat⟩ := DataW.trod_struct ht h
  have e := hat i f hf
  have hi : i < ys.length := by rw [hyl]; exact (Array.getElem?_eq_some_iff.1 hf).1
  rw [List.getElem?_eq_getElem hi] at e
  obtain ⟨zs, n2, _, _, _, hzl, hat2⟩ := DataW.trod_struct hs e
  have e2 := hat2 j g hg
  have hj : j < zs.length := by rw [hzl]; exact (Array.getElem?_eq_some_iff.1 hg).1
  rw [List.getElem?_eq_getElem hj, h1] at e2
  obtain ⟨n, e1, _, e3⟩ := DataW.trod_int hk e2
  exact ⟨n, take2 e1, wf_has e3⟩
end
end Go.Proofs.Ytnbfnlpepnbppaa
