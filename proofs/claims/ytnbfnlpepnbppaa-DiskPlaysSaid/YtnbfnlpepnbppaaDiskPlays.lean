/-
  DiskPlays, for every input: true; the input reads as it did. No condition.
-/
import Derived.Test.YtnbfnlpepnbppaaDkM
import Derived.Test.YtnbfnlpepnbppaaDkPl
import Derived.Test.YtnbfnlpepnbppaaLaw
import Derived.Test.YtnbfnlpepnbppaaJ1
namespace Go.Proofs.Ytnbfnlpepnbppaa
set_option linter.unusedVariables false
set_option linter.unusedSimpArgs false
open Go.ChangeShapes Go.WideShapes Go.ChangeAt Go.RowKit

set_option maxRecDepth 100000 in
set_option maxHeartbeats 2000000 in
theorem diskPlays_lifted (os : Os) (started : os.Started) (H : Type) (enc : TypeId × Value → H) :
    ReturnsInHanded {} Try.checked os 5 .any (Rows.diskPlaysSpec.pre6 enc Try.prog Try.f5 Rows.diskPlaysRow.domain false) (Rows.diskPlaysSpec.post enc Try.prog Try.f5 false true false false) := by
  refine returnsInHanded_of_change (C := Try.checked) own0 started (by kernel_rfl) Try.func5
    (ChangeSpec.witness6 (enc := enc) (C := Try.checked) false ⟨#[], #[.int .i64 0, .slice none 0 0], []⟩ 8 (by kernel_rfl) (by kernel_rfl) (by kernel_rfl) (by kernel_rfl)) ?_
  intro W base args ds gs before hval0 hW hcnd _
  have hval : ∀ (j : Nat) t v, Try.f5.params[j]? = some t → args[j]? = some v → Value.okWide Try.prog W .any base t v := hval0
  clear hval0
  have hl := whole_length hW
  obtain ⟨c0, c1, rfl⟩ := args2 (hl.trans rfl)
  rw [Try.params5] at hval
  obtain ⟨pp_, qq_, hA, _⟩ := id hW
  rw [Try.params5] at hA
  obtain ⟨z, rfl, h_z⟩ := val_int Try.underlying3 (hval 0 3 c0 rfl rfl)
  replace h_z := has_i64 h_z
  obtain ⟨_, _, _, _, _, _, hA1⟩ := trodAll_cons hA
  obtain ⟨d_1, ds_1, p_1, q_1, _, hT_1, hA2⟩ := trodAll_cons hA1
  obtain ⟨A_l, n_l, c_l, o_l, rfl, hn_l, hc_l, hs_l⟩ := open_ops (okWide_slice Try.underlying22 (hval 1 22 c1 rfl rfl)) hT_1
  refine (diskPlays_of fixed_any z A_l n_l c_l o_l hn_l hc_l W hs_l).mono fun e W' ⟨he, hb⟩ => ?_
  subst he
  exact ⟨_, rfl, law_post hW rfl rfl Try.underlying4 (fun l hl => by obtain ⟨y0, y1, rfl⟩ := list2 (hl.trans rfl); rfl) (by kernel_rfl) (by kernel_rfl) hb⟩

theorem diskPlays_holds : Rows.DiskPlaysSaid :=
  OpenClaim.holds_of_wide 5 Try.f5 rfl rfl rfl rfl rfl rfl rfl ⟨rfl, rfl, rfl, rfl, rfl⟩ rfl rfl rfl rfl rfl (by kernel_rfl) Try.func5 (by kernel_rfl)
    (of_decide_eq_true (by kernel_rfl)) (by unfold Func.isWrapper; first | (rw [if_pos (by decide +kernel)]; kernel_rfl) | (rw [if_neg (by decide +kernel)]; exact ⟨rfl, rfl⟩))
    (fun os started H enc _ => diskPlays_lifted os started H enc)
#print axioms diskPlays_holds
end Go.Proofs.Ytnbfnlpepnbppaa
