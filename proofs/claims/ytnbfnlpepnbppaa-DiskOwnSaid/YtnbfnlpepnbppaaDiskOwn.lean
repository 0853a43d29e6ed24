/-
  DiskOwn, for every input: true; the input reads as it did. No condition.
-/
import Derived.Test.YtnbfnlpepnbppaaDkM
import Derived.Test.YtnbfnlpepnbppaaDkOw
import Derived.Test.YtnbfnlpepnbppaaLaw
import Derived.Test.YtnbfnlpepnbppaaJ1
namespace Go.Proofs.Ytnbfnlpepnbppaa
set_option linter.unusedVariables false
set_option linter.unusedSimpArgs false
open Go.ChangeShapes Go.WideShapes Go.ChangeAt Go.RowKit

set_option maxRecDepth 100000 in
set_option maxHeartbeats 2000000 in
theorem diskOwn_lifted (os : Os) (started : os.Started) (H : Type) (enc : TypeId × Value → H) :
    ReturnsInHanded {} Try.checked os 3 .any (Rows.diskOwnSpec.pre6 enc Try.prog Try.f3 Rows.diskOwnRow.domain false) (Rows.diskOwnSpec.post enc Try.prog Try.f3 false true false false) := by
  refine returnsInHanded_of_change (C := Try.checked) own0 started (by kernel_rfl) Try.func3
    (ChangeSpec.witness6 (enc := enc) (C := Try.checked) false ⟨#[], #[.slice none 0 0, .int .u8 0], []⟩ 8 (by kernel_rfl) (by kernel_rfl) (by kernel_rfl) (by kernel_rfl)) ?_
  intro W base args ds gs before hval0 hW hcnd _
  have hval : ∀ (j : Nat) t v, Try.f3.params[j]? = some t → args[j]? = some v → Value.okWide Try.prog W .any base t v := hval0
  clear hval0
  have hl := whole_length hW
  obtain ⟨c0, c1, rfl⟩ := args2 (hl.trans rfl)
  rw [Try.params3] at hval
  obtain ⟨pp_, qq_, hA, _⟩ := id hW
  rw [Try.params3] at hA
  obtain ⟨d_0, ds_0, p_0, q_0, _, hT_0, hA1⟩ := trodAll_cons hA
  obtain ⟨A_l, n_l, c_l, o_l, rfl, hn_l, hc_l, hs_l⟩ := open_ops (okWide_slice Try.underlying22 (hval 0 22 c0 rfl rfl)) hT_0
  obtain ⟨z, rfl, h_z⟩ := val_int Try.underlying5 (hval 1 5 c1 rfl rfl)
  replace h_z := has_u8 h_z
  obtain ⟨_, _, _, _, _, _, hA2⟩ := trodAll_cons hA1
  refine (diskOwn_of fixed_any A_l n_l c_l o_l hn_l hc_l z W hs_l).mono fun e W' ⟨he, hb⟩ => ?_
  subst he
  exact ⟨_, rfl, law_post hW rfl rfl Try.underlying4 (fun l hl => by obtain ⟨y0, y1, rfl⟩ := list2 (hl.trans rfl); rfl) (by kernel_rfl) (by kernel_rfl) hb⟩

theorem diskOwn_holds : Rows.DiskOwnSaid :=
  OpenClaim.holds_of_wide 3 Try.f3 rfl rfl rfl rfl rfl rfl rfl ⟨rfl, rfl, rfl, rfl, rfl⟩ rfl rfl rfl rfl rfl (by kernel_rfl) Try.func3 (by kernel_rfl)
    (of_decide_eq_true (by kernel_rfl)) (by unfold Func.isWrapper; first | (rw [if_pos (by decide +kernel)]; kernel_rfl) | (rw [if_neg (by decide +kernel)]; exact ⟨rfl, rfl⟩))
    (fun os started H enc _ => diskOwn_lifted os started H enc)
#print axioms diskOwn_holds
end Go.Proofs.Ytnbfnlpepnbppaa
