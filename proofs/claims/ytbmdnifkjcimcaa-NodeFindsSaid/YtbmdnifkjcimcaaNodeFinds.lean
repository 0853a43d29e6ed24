/-
  NodeFinds, for every input: true; the input reads as it did. No condition.
-/
import Derived.Test.YtbmdnifkjcimcaaNm
import Derived.Test.YtbmdnifkjcimcaaNdArg
import Derived.Test.YtbmdnifkjcimcaaLaw
import Derived.Test.YtbmdnifkjcimcaaByArg2
namespace Go.Proofs.Ytbmdnifkjcimcaa
set_option linter.unusedVariables false
set_option linter.unusedSimpArgs false
open Go.ChangeShapes Go.WideShapes Go.ChangeAt Go.RowKit

set_option maxRecDepth 100000 in
theorem nodeFinds_lifted (os : Os) (started : os.Started) (H : Type) (enc : TypeId × Value → H) :
    ReturnsInHanded {} Try.checked os 4 .any (Rows.nodeFindsSpec.pre6 enc Try.prog Try.f4 Rows.nodeFindsRow.domain false) (Rows.nodeFindsSpec.post enc Try.prog Try.f4 false true false false) := by
  refine returnsInHanded_of_change (C := Try.checked) own0 started (by kernel_rfl) Try.func4
    (ChangeSpec.witness6 (enc := enc) (C := Try.checked) false ⟨#[], #[.agg #[.bool false, .slice none 0 0, .slice none 0 0, .slice none 0 0], .slice none 0 0], []⟩ 8 (by kernel_rfl) (by kernel_rfl) (by kernel_rfl) (by kernel_rfl)) ?_
  intro W base args ds gs before hval0 hW hcnd _
  have hval : ∀ (j : Nat) t v, Try.f4.params[j]? = some t → args[j]? = some v → Value.okWide Try.prog W .any base t v := hval0
  clear hval0
  have hl := whole_length hW
  obtain ⟨c0, c1, rfl⟩ := args2 (hl.trans rfl)
  rw [Try.params4] at hval
  obtain ⟨pp_, qq_, hA, _⟩ := id hW
  rw [Try.params4] at hA
  obtain ⟨cs, rfl, hcs, hc⟩ := val_cells (ts := [4, 25, 25, 26]) (by kernel_rfl) (by kernel_rfl) (by kernel_rfl) (hval 0 28 c0 rfl rfl)
  obtain ⟨x0, x1, x2, x3, rfl⟩ := list4 hcs
  obtain ⟨lf, rfl⟩ := bool_ok Try.underlying4 (hc 0 4 x0 rfl rfl)
  obtain ⟨d_0, ds_0, p_0, q_0, _, hT_0, hA1⟩ := trodAll_cons hA
  obtain ⟨KA, VA, CA, kn, kc, vn, vc, cn, cc, KL, VL, K, V, C, rfl, rfl, rfl, hN, hKs, hVs, hCs, hKb, hVb, hCb⟩ := open_node Try.underlying28 rfl (by kernel_rfl) Try.underlying25 Try.underlying25 Try.underlying26 Try.underlying29 Try.underlying5 Try.underlying62 (by kernel_rfl) (by kernel_rfl) (by kernel_rfl) hT_0
  clear hc hcs
  obtain ⟨d_1, ds_1, p_1, q_1, _, hT_1, hA2⟩ := trodAll_cons hA1
  obtain ⟨A_b, n_b, c_b, x_b, rfl, hn_b, hs_b, hd_b⟩ := open_bytes Try.underlying29 Try.underlying5 (by kernel_rfl) (okWide_slice Try.underlying29 (hval 1 29 c1 rfl rfl)) hT_1
  refine (nodeFinds_any lf KA VA CA kn kc vn vc cn cc KL VL K V C A_b n_b c_b x_b W (by omega) (by omega) (by omega) hn_b hKb hd_b hKs hVs hCs hs_b).mono fun e W' ⟨he, hb⟩ => ?_
  subst he
  exact ⟨_, rfl, law_post hW rfl rfl Try.underlying4 (fun l hl => by obtain ⟨y0, y1, rfl⟩ := list2 (hl.trans rfl); rfl) (by kernel_rfl) (by kernel_rfl) hb⟩

theorem nodeFinds_holds : Rows.NodeFindsSaid :=
  OpenClaim.holds_of_wide 4 Try.f4 rfl rfl rfl rfl rfl rfl rfl ⟨rfl, rfl, rfl, rfl, rfl⟩ rfl rfl rfl rfl rfl (by kernel_rfl) Try.func4 (by kernel_rfl)
    (of_decide_eq_true (by kernel_rfl)) (by unfold Func.isWrapper; first | (rw [if_pos (by decide +kernel)]; kernel_rfl) | (rw [if_neg (by decide +kernel)]; exact ⟨rfl, rfl⟩))
    (fun os started H enc _ => nodeFinds_lifted os started H enc)
#print axioms nodeFinds_holds
end Go.Proofs.Ytbmdnifkjcimcaa
