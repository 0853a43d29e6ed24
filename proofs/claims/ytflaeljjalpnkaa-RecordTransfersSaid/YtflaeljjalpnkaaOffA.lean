/-
  An append, within the room, onto a slice that begins inside an own row.
-/
import Derived.Test.YtflaeljjalpnkaaCatA
import Derived.OwnWalk
namespace Go.Proofs.Ytflaeljjalpnkaa
set_option linter.unusedVariables false
set_option linter.unusedSimpArgs false
open Go.RowKit

theorem run_append_off {P : Program} (w w' : World) (t ty e : TypeId) (i : TypeInfo) (h1 : P.underlying t = some (.slice e)) (h2 : P.info? e = some i) (h4 : i.size = 1) (g k0 n cap m c : Nat) (ad : Addr) (v' : Value) (hle : n + m ≤ cap)
    (h : (Builtin.append_ #[t, t] ty #[.slice (some ⟨g, 0, none⟩) (k0 + n) (k0 + cap), .slice (some ad) m c]).run P w = .ok v' w') :
    (Builtin.append_ #[t, t] ty #[.slice (some ⟨g, k0, none⟩) n cap, .slice (some ad) m c]).run P w = .ok (.slice (some ⟨g, k0, none⟩) (n + m) cap) w' := by
  have hle' : k0 + n + m ≤ k0 + cap := by omega
  have ea : (⟨g, 0, none⟩ : Addr).add (k0 + n) = ⟨g, k0 + n, none⟩ := by unfold Addr.add; split <;> simp_all
  have eb : (⟨g, k0, none⟩ : Addr).add n = ⟨g, k0 + n, none⟩ := by unfold Addr.add; split <;> simp_all
  simp [Builtin.append_, run_underlying h1, sizeOf, typeInfo, h2, h4, Builtin.lenOf, hle, hle', ea, eb] at h ⊢
  generalize Sem.run P (Builtin.firstCells 1 m (.slice (some ad) m c)) w = r1 at h ⊢
  cases r1 <;> simp [Result.andThen] at h ⊢
  rename_i a w1
  generalize Sem.run P (storeCells ⟨g, k0 + n, none⟩ a.toList) w1 = r2 at h ⊢
  cases r2 <;> simp [Result.andThen] at h ⊢
  exact h.2
end Go.Proofs.Ytflaeljjalpnkaa
