/-
  DiskSafe, for every input: true; the input reads as it did. No condition.
-/
import Derived.Test.YtnbfnlpepnbppaaDkM
import Derived.Test.YtnbfnlpepnbppaaDkS
import Derived.Test.YtnbfnlpepnbppaaLaw
import Derived.Test.YtnbfnlpepnbppaaByArg2
namespace Go.Proofs.Ytnbfnlpepnbppaa
set_option linter.unusedVariables false
set_option linter.unusedSimpArgs false
open Go.ChangeShapes Go.WideShapes Go.ChangeAt Go.RowKit

set_option maxRecDepth 100000 in
set_option maxHeartbeats 2000000 in
theorem diskSafe_lifted (os : Os) (started : os.Started) (H : Type) (enc : TypeId × Value → H) :
    ReturnsInHanded {} Try.checked os 6 .any (Rows.diskSafeSpec.pre6 enc Try.prog Try.f6 Rows.diskSafeRow.domain false) (Rows.diskSafeSpec.post enc Try.prog Try.f6 false true false false) := by
  refine returnsInHanded_of_change (C := Try.checked) own0 started (by kernel_rfl) Try.func6
    (ChangeSpec.witness6 (enc := enc) (C := Try.checked) false ⟨#[], #[.slice none 0 0, .slice none 0 0, .slice none 0 0], []⟩ 8 (by kernel_rfl) (by kernel_rfl) (by kernel_rfl) (by kernel_rfl)) ?_
  intro W base args ds gs before hval0 hW hcnd _
  have hval : ∀ (j : Nat) t v, Try.f6.params[j]? = some t → args[j]? = some v → Value.okWide Try.prog W .any base t v := hval0
  clear hval0
  have hl := whole_length hW
  obtain ⟨c0, c1, c2, rfl⟩ := args3 (hl.trans rfl)
  rw [Try.params6] at hval
  obtain ⟨pp_, qq_, hA, _⟩ := id hW
  rw [Try.params6] at hA
  obtain ⟨d_0, ds_0, p_0, q_0, _, hT_0, hA1⟩ := trodAll_cons hA
  obtain ⟨A_x, n_x, c_x, o_x, rfl, hn_x, hc_x, hs_x⟩ := open_ops (okWide_slice Try.underlying22 (hval 0 22 c0 rfl rfl)) hT_0
  obtain ⟨d_1, ds_1, p_1, q_1, _, hT_1, hA2⟩ := trodAll_cons hA1
  obtain ⟨A_y, n_y, c_y, o_y, rfl, hn_y, hc_y, hs_y⟩ := open_ops (okWide_slice Try.underlying22 (hval 1 22 c1 rfl rfl)) hT_1
  obtain ⟨d_2, ds_2, p_2, q_2, _, ⟨fu_2, hT_2⟩, hA3⟩ := trodAll_cons hA2
  obtain ⟨AA_2, nn_2, cc_2, rfl⟩ := okWide_slice Try.underlying36 (hval 2 36 c2 rfl rfl)
  obtain ⟨A_l, n_l, c_l, f_l, t_l, e_l, hn_l, hc_l, hs_l⟩ := open_loss hT_2
  cases e_l
  refine (diskSafe_of fixed_any A_x n_x c_x o_x hn_x hc_x A_y n_y c_y o_y hn_y hc_y AA_2 nn_2 cc_2 f_l t_l hn_l hc_l W hs_x hs_y hs_l).mono fun e W' ⟨he, hb⟩ => ?_
  subst he
  exact ⟨_, rfl, law_post hW rfl rfl Try.underlying4 (fun l hl => by obtain ⟨y0, y1, y2, rfl⟩ := list3 (hl.trans rfl); rfl) (by kernel_rfl) (by kernel_rfl) hb⟩

theorem diskSafe_holds : Rows.DiskSafeSaid :=
  OpenClaim.holds_of_wide 6 Try.f6 rfl rfl rfl rfl rfl rfl rfl ⟨rfl, rfl, rfl, rfl, rfl⟩ rfl rfl rfl rfl rfl (by kernel_rfl) Try.func6 (by kernel_rfl)
    (of_decide_eq_true (by kernel_rfl)) (by unfold Func.isWrapper; first | (rw [if_pos (by decide +kernel)]; kernel_rfl) | (rw [if_neg (by decide +kernel)]; exact ⟨rfl, rfl⟩))
    (fun os started H enc _ => diskSafe_lifted os started H enc)
#print axioms diskSafe_holds
end Go.Proofs.Ytnbfnlpepnbppaa
