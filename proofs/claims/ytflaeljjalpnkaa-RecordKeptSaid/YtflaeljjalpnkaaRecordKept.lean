/-
  RecordKept, for every input: true; the input reads as it did. No condition.
-/
import Derived.Test.YtflaeljjalpnkaaKtH
import Derived.Test.YtflaeljjalpnkaaJ1
namespace Go.Proofs.Ytflaeljjalpnkaa
set_option linter.unusedVariables false
set_option linter.unusedSimpArgs false
open Go.ChangeShapes Go.WideShapes Go.ChangeAt Go.RowKit

set_option maxRecDepth 100000 in
theorem recordKept_lifted (os : Os) (started : os.Started) (H : Type) (enc : TypeId × Value → H) :
    ReturnsInHanded {} Try.checked os 9 .any (Rows.recordKeptSpec.pre6 enc Try.prog Try.f9 Rows.recordKeptRow.domain false) (Rows.recordKeptSpec.post enc Try.prog Try.f9 false true false false) := by
  refine returnsInHanded_of_change (C := Try.checked) own0 started (by kernel_rfl) Try.func9
    (ChangeSpec.witness6 (enc := enc) (C := Try.checked) false ⟨#[], #[.slice none 0 0, .slice none 0 0], []⟩ 8 (by kernel_rfl) (by kernel_rfl) (by kernel_rfl) (by kernel_rfl)) ?_
  intro W base args ds gs before hval0 hW hcnd _
  have hval : ∀ (j : Nat) t v, Try.f9.params[j]? = some t → args[j]? = some v → Value.okWide Try.prog W .any base t v := hval0
  clear hval0
  have hl := whole_length hW
  obtain ⟨c0, c1, rfl⟩ := args2 (hl.trans rfl)
  rw [Try.params9] at hval
  obtain ⟨pp_, qq_, hA, _⟩ := id hW
  rw [Try.params9] at hA
  obtain ⟨d_0, ds_0, p_0, q_0, _, hT_0, hA1⟩ := trodAll_cons hA
  obtain ⟨A_k, n_k, c_k, x_k, rfl, hn_k, hs_k, hd_k⟩ := open_bytes2 Try.underlying32 Try.underlying5 (by kernel_rfl) (okWide_slice Try.underlying32 (hval 0 32 c0 rfl rfl)) hT_0
  obtain ⟨d_1, ds_1, p_1, q_1, _, hT_1, hA2⟩ := trodAll_cons hA1
  obtain ⟨A_v, n_v, c_v, x_v, rfl, hn_v, hs_v, hd_v⟩ := open_bytes2 Try.underlying32 Try.underlying5 (by kernel_rfl) (okWide_slice Try.underlying32 (hval 1 32 c1 rfl rfl)) hT_1
  refine (recordKept_any A_k A_v n_k c_k n_v c_v hn_k hn_v x_k x_v hd_k hd_v W hs_k hs_v).mono fun e W' ⟨he, hb⟩ => ?_
  subst he
  exact ⟨_, rfl, law_post hW rfl rfl Try.underlying4 (fun l hl => by obtain ⟨y0, y1, rfl⟩ := list2 (hl.trans rfl); rfl) (by kernel_rfl) (by kernel_rfl) hb⟩

theorem recordKept_holds : Rows.RecordKeptSaid :=
  OpenClaim.holds_of_wide 9 Try.f9 rfl rfl rfl rfl rfl rfl rfl ⟨rfl, rfl, rfl, rfl, rfl⟩ rfl rfl rfl rfl rfl (by kernel_rfl) Try.func9 (by kernel_rfl)
    (of_decide_eq_true (by kernel_rfl)) (by unfold Func.isWrapper; first | (rw [if_pos (by decide +kernel)]; kernel_rfl) | (rw [if_neg (by decide +kernel)]; exact ⟨rfl, rfl⟩))
    (fun os started H enc _ => recordKept_lifted os started H enc)
#print axioms recordKept_holds
end Go.Proofs.Ytflaeljjalpnkaa
