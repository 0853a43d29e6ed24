/-
  DiskCopies, for every input: true; the input reads as it did. No condition.
-/
import Derived.Test.YtnbfnlpepnbppaaDkM
import Derived.Test.YtnbfnlpepnbppaaDkPm
import Derived.Test.YtnbfnlpepnbppaaLaw
import Derived.Test.YtnbfnlpepnbppaaJ1
namespace Go.Proofs.Ytnbfnlpepnbppaa
set_option linter.unusedVariables false
set_option linter.unusedSimpArgs false
open Go.ChangeShapes Go.WideShapes Go.ChangeAt Go.RowKit

set_option maxRecDepth 100000 in
set_option maxHeartbeats 2000000 in
theorem diskCopies_lifted (os : Os) (started : os.Started) (H : Type) (enc : TypeId × Value → H) :
    ReturnsInHanded {} Try.checked os 7 .any (Rows.diskCopiesSpec.pre6 enc Try.prog Try.f7 Rows.diskCopiesRow.domain false) (Rows.diskCopiesSpec.post enc Try.prog Try.f7 false true false false) := by
  refine returnsInHanded_of_change (C := Try.checked) own0 started (by kernel_rfl) Try.func7
    (ChangeSpec.witness6 (enc := enc) (C := Try.checked) false ⟨#[], #[.slice none 0 0, .slice none 0 0, .slice none 0 0], []⟩ 8 (by kernel_rfl) (by kernel_rfl) (by kernel_rfl) (by kernel_rfl)) ?_
  intro W base args ds gs before hval0 hW hcnd _
  have hval : ∀ (j : Nat) t v, Try.f7.params[j]? = some t → args[j]? = some v → Value.okWide Try.prog W .any base t v := hval0
  clear hval0
  have hl := whole_length hW
  obtain ⟨c0, c1, c2, rfl⟩ := args3 (hl.trans rfl)
  rw [Try.params7] at hval
  obtain ⟨pp_, qq_, hA, _⟩ := id hW
  rw [Try.params7] at hA
  obtain ⟨d_0, ds_0, p_0, q_0, _, hT_0, hA1⟩ := trodAll_cons hA
  obtain ⟨A_l, n_l, c_l, o_l, rfl, hn_l, hc_l, hs_l⟩ := open_ops (okWide_slice Try.underlying22 (hval 0 22 c0 rfl rfl)) hT_0
  obtain ⟨d_1, ds_1, p_1, q_1, _, hT_1, hA2⟩ := trodAll_cons hA1
  obtain ⟨A_m, n_m, c_m, o_m, rfl, hn_m, hc_m, hs_m⟩ := open_ops (okWide_slice Try.underlying22 (hval 1 22 c1 rfl rfl)) hT_1
  obtain ⟨d_2, ds_2, p_2, q_2, _, hT_2, hA3⟩ := trodAll_cons hA2
  obtain ⟨A_k, n_k, c_k, o_k, rfl, hn_k, hc_k, hs_k⟩ := open_ops (okWide_slice Try.underlying22 (hval 2 22 c2 rfl rfl)) hT_2
  refine (diskCopies_of fixed_any A_l n_l c_l o_l hn_l hc_l A_m n_m c_m o_m hn_m hc_m A_k n_k c_k o_k hn_k hc_k W hs_l hs_m hs_k).mono fun e W' ⟨he, hb⟩ => ?_
  subst he
  exact ⟨_, rfl, law_post hW rfl rfl Try.underlying4 (fun l hl => by obtain ⟨y0, y1, y2, rfl⟩ := list3 (hl.trans rfl); rfl) (by kernel_rfl) (by kernel_rfl) hb⟩

theorem diskCopies_holds : Rows.DiskCopiesSaid :=
  OpenClaim.holds_of_wide 7 Try.f7 rfl rfl rfl rfl rfl rfl rfl ⟨rfl, rfl, rfl, rfl, rfl⟩ rfl rfl rfl rfl rfl (by kernel_rfl) Try.func7 (by kernel_rfl)
    (of_decide_eq_true (by kernel_rfl)) (by unfold Func.isWrapper; first | (rw [if_pos (by decide +kernel)]; kernel_rfl) | (rw [if_neg (by decide +kernel)]; exact ⟨rfl, rfl⟩))
    (fun os started H enc _ => diskCopies_lifted os started H enc)
#print axioms diskCopies_holds
end Go.Proofs.Ytnbfnlpepnbppaa
