/-
  NodeWrites, for every input: true; the input reads as it did. No condition.
-/
import Derived.Test.YtbmdnifkjcimcaaNx
import Derived.Test.YtbmdnifkjcimcaaJ4
namespace Go.Proofs.Ytbmdnifkjcimcaa
set_option linter.unusedVariables false
set_option linter.unusedSimpArgs false
open Go.ChangeShapes Go.WideShapes Go.ChangeAt Go.RowKit

set_option maxRecDepth 100000 in
theorem nodeWrites_lifted (os : Os) (started : os.Started) (H : Type) (enc : TypeId × Value → H) :
    ReturnsInHanded {} Try.checked os 5 .any (Rows.nodeWritesSpec.pre6 enc Try.prog Try.f5 Rows.nodeWritesRow.domain false) (Rows.nodeWritesSpec.post enc Try.prog Try.f5 false true false false) := by
  refine returnsInHanded_of_change (C := Try.checked) own0 started (by kernel_rfl) Try.func5
    (ChangeSpec.witness6 (enc := enc) (C := Try.checked) false ⟨#[], #[.agg #[.bool false, .slice none 0 0, .slice none 0 0, .slice none 0 0], .agg #[.int .i64 0, .int .i64 0]], []⟩ 8 (by kernel_rfl) (by kernel_rfl) (by kernel_rfl) (by kernel_rfl)) ?_
  intro W base args ds gs before hval0 hW hcnd _
  have hval : ∀ (j : Nat) t v, Try.f5.params[j]? = some t → args[j]? = some v → Value.okWide Try.prog W .any base t v := hval0
  clear hval0
  have hl := whole_length hW
  obtain ⟨c0, c1, rfl⟩ := args2 (hl.trans rfl)
  rw [Try.params5] at hval
  obtain ⟨pp_, qq_, hA, _⟩ := id hW
  rw [Try.params5] at hA
  obtain ⟨cs, rfl, hcs, hc⟩ := val_cells (ts := [4, 25, 25, 26]) (by kernel_rfl) (by kernel_rfl) (by kernel_rfl) (hval 0 28 c0 rfl rfl)
  obtain ⟨x0, x1, x2, x3, rfl⟩ := list4 hcs
  obtain ⟨lf, rfl⟩ := bool_ok Try.underlying4 (hc 0 4 x0 rfl rfl)
  obtain ⟨d_0, ds_0, p_0, q_0, _, hT_0, hA1⟩ := trodAll_cons hA
  obtain ⟨KA, VA, CA, kn, kc, vn, vc, cn, cc, KL, VL, K, V, C, rfl, rfl, rfl, hN, hKs, hVs, hCs, hKb, hVb, hCb⟩ := open_node Try.underlying28 rfl (by kernel_rfl) Try.underlying25 Try.underlying25 Try.underlying26 Try.underlying29 Try.underlying5 Try.underlying62 (by kernel_rfl) (by kernel_rfl) (by kernel_rfl) hT_0
  clear hc hcs
  obtain ⟨cs, rfl, hcs, hc⟩ := val_cells (ts := [3, 3]) (by kernel_rfl) (by kernel_rfl) (by kernel_rfl) (hval 1 45 c1 rfl rfl)
  obtain ⟨x0, x1, rfl⟩ := list2 hcs
  obtain ⟨k, rfl, h_k⟩ := int_ok Try.underlying3 (hc 0 3 x0 rfl rfl)
  replace h_k := has_i64 h_k
  obtain ⟨v, rfl, h_v⟩ := int_ok Try.underlying3 (hc 1 3 x1 rfl rfl)
  replace h_v := has_i64 h_v
  clear hc hcs
  obtain ⟨_, _, _, _, _, _, hA2⟩ := trodAll_cons hA1
  refine (nodeWrites_any lf KA VA CA kn kc vn vc cn cc KL VL K V C k v W (by omega) (by omega) (by omega) hKb hVb hCb hKs hVs hCs).mono fun e W' ⟨he, hb⟩ => ?_
  subst he
  exact ⟨_, rfl, law_post hW rfl rfl Try.underlying4 (fun l hl => by obtain ⟨y0, y1, rfl⟩ := list2 (hl.trans rfl); rfl) (by kernel_rfl) (by kernel_rfl) hb⟩

theorem nodeWrites_holds : Rows.NodeWritesSaid :=
  OpenClaim.holds_of_wide 5 Try.f5 rfl rfl rfl rfl rfl rfl rfl ⟨rfl, rfl, rfl, rfl, rfl⟩ rfl rfl rfl rfl rfl (by kernel_rfl) Try.func5 (by kernel_rfl)
    (of_decide_eq_true (by kernel_rfl)) (by unfold Func.isWrapper; first | (rw [if_pos (by decide +kernel)]; kernel_rfl) | (rw [if_neg (by decide +kernel)]; exact ⟨rfl, rfl⟩))
    (fun os started H enc _ => nodeWrites_lifted os started H enc)
#print axioms nodeWrites_holds
end Go.Proofs.Ytbmdnifkjcimcaa
