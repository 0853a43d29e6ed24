/-
  KeyParts, for every input: true; the input reads as it did. No condition.
-/
import Derived.Test.YtkgjpebekcgagaaKo
import Derived.Test.YtkgjpebekcgagaaLaw
import Derived.Test.YtkgjpebekcgagaaByArg2
namespace Go.Proofs.Ytkgjpebekcgagaa
set_option linter.unusedVariables false
set_option linter.unusedSimpArgs false
open Go.ChangeShapes Go.WideShapes Go.ChangeAt Go.RowKit

set_option maxRecDepth 100000 in
theorem keyParts_lifted (os : Os) (started : os.Started) (H : Type) (enc : TypeId × Value → H) :
    ReturnsInHanded {} Try.checked os 6 .any (Rows.keyPartsSpec.pre6 enc Try.prog Try.f6 Rows.keyPartsRow.domain false) (Rows.keyPartsSpec.post enc Try.prog Try.f6 false true false false) := by
  refine returnsInHanded_of_change (C := Try.checked) own0 started (by kernel_rfl) Try.func6
    (ChangeSpec.witness6 (enc := enc) (C := Try.checked) false ⟨#[], #[.agg #[.int .u64 0, .int .u64 0, .int .u64 0], .int .u64 0, .slice none 0 0], []⟩ 8 (by kernel_rfl) (by kernel_rfl) (by kernel_rfl) (by kernel_rfl)) ?_
  intro W base args ds gs before hval0 hW hcnd _
  have hval : ∀ (j : Nat) t v, Try.f6.params[j]? = some t → args[j]? = some v → Value.okWide Try.prog W .any base t v := hval0
  clear hval0
  have hl := whole_length hW
  obtain ⟨c0, c1, c2, rfl⟩ := args3 (hl.trans rfl)
  rw [Try.params6] at hval
  obtain ⟨pp_, qq_, hA, _⟩ := id hW
  rw [Try.params6] at hA
  obtain ⟨cs, rfl, hcs, hc⟩ := val_cells (ts := [34, 34, 34]) (by kernel_rfl) (by kernel_rfl) (by kernel_rfl) (hval 0 38 c0 rfl rfl)
  obtain ⟨x0, x1, x2, rfl⟩ := list3 hcs
  obtain ⟨ah, rfl, h_ah⟩ := int_ok Try.underlying34 (hc 0 34 x0 rfl rfl)
  replace h_ah := has_u64 h_ah
  obtain ⟨al, rfl, h_al⟩ := int_ok Try.underlying34 (hc 1 34 x1 rfl rfl)
  replace h_al := has_u64 h_al
  obtain ⟨n, rfl, h_n⟩ := int_ok Try.underlying34 (hc 2 34 x2 rfl rfl)
  replace h_n := has_u64 h_n
  clear hc hcs
  obtain ⟨_, _, _, _, _, _, hA1⟩ := trodAll_cons hA
  obtain ⟨m, rfl, h_m⟩ := val_int Try.underlying34 (hval 1 34 c1 rfl rfl)
  replace h_m := has_u64 h_m
  obtain ⟨_, _, _, _, _, _, hA2⟩ := trodAll_cons hA1
  obtain ⟨d_2, ds_2, p_2, q_2, _, hT_2, hA3⟩ := trodAll_cons hA2
  obtain ⟨A_b, n_b, c_b, x_b, rfl, hn_b, hs_b, hd_b⟩ := open_bytes2 Try.underlying22 Try.underlying5 (by kernel_rfl) (okWide_slice Try.underlying22 (hval 2 22 c2 rfl rfl)) hT_2
  refine (keyParts_any ah al n m h_ah h_al h_n h_m A_b n_b c_b hn_b x_b hd_b W hs_b).mono fun e W' ⟨he, hb⟩ => ?_
  subst he
  exact ⟨_, rfl, law_post hW rfl rfl Try.underlying4 (fun l hl => by obtain ⟨y0, y1, y2, rfl⟩ := list3 (hl.trans rfl); rfl) (by kernel_rfl) (by kernel_rfl) hb⟩

theorem keyParts_holds : Rows.KeyPartsSaid :=
  OpenClaim.holds_of_wide 6 Try.f6 rfl rfl rfl rfl rfl rfl rfl ⟨rfl, rfl, rfl, rfl, rfl⟩ rfl rfl rfl rfl rfl (by kernel_rfl) Try.func6 (by kernel_rfl)
    (of_decide_eq_true (by kernel_rfl)) (by unfold Func.isWrapper; first | (rw [if_pos (by decide +kernel)]; kernel_rfl) | (rw [if_neg (by decide +kernel)]; exact ⟨rfl, rfl⟩))
    (fun os started H enc _ => keyParts_lifted os started H enc)
#print axioms keyParts_holds
end Go.Proofs.Ytkgjpebekcgagaa
