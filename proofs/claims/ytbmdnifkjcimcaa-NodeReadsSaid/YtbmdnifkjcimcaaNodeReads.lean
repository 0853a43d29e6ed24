/-
  NodeReads, for every input: true; the input reads as it did. No condition.
-/
import Derived.Test.YtbmdnifkjcimcaaJ6
import Derived.Test.YtbmdnifkjcimcaaJ4
namespace Go.Proofs.Ytbmdnifkjcimcaa
set_option linter.unusedVariables false
set_option linter.unusedSimpArgs false
open Go.ChangeShapes Go.WideShapes Go.ChangeAt Go.RowKit

set_option maxRecDepth 100000 in
theorem nodeReads_lifted (os : Os) (started : os.Started) (H : Type) (enc : TypeId × Value → H) :
    ReturnsInHanded {} Try.checked os 6 .any (Rows.nodeReadsSpec.pre6 enc Try.prog Try.f6 Rows.nodeReadsRow.domain false) (Rows.nodeReadsSpec.post enc Try.prog Try.f6 false true false false) := by
  refine returnsInHanded_of_change (C := Try.checked) own0 started (by kernel_rfl) Try.func6
    (ChangeSpec.witness6 (enc := enc) (C := Try.checked) false ⟨#[], #[.int .u8 0, .slice none 0 0, .agg #[.int .i64 0, .int .i64 0]], []⟩ 8 (by kernel_rfl) (by kernel_rfl) (by kernel_rfl) (by kernel_rfl)) ?_
  intro W base args ds gs before hval0 hW hcnd _
  have hval : ∀ (j : Nat) t v, Try.f6.params[j]? = some t → args[j]? = some v → Value.okWide Try.prog W .any base t v := hval0
  clear hval0
  have hl := whole_length hW
  obtain ⟨c0, c1, c2, rfl⟩ := args3 (hl.trans rfl)
  rw [Try.params6] at hval
  obtain ⟨pp_, qq_, hA, _⟩ := id hW
  rw [Try.params6] at hA
  obtain ⟨kd, rfl, h_kd⟩ := val_int Try.underlying5 (hval 0 5 c0 rfl rfl)
  replace h_kd := has_u8 h_kd
  obtain ⟨_, _, _, _, _, _, hA1⟩ := trodAll_cons hA
  obtain ⟨d_1, ds_1, p_1, q_1, _, hT_1, hA2⟩ := trodAll_cons hA1
  obtain ⟨A_b, n_b, c_b, x_b, rfl, hn_b, hs_b, hd_b⟩ := open_bytes2 Try.underlying29 Try.underlying5 (by kernel_rfl) (okWide_slice Try.underlying29 (hval 1 29 c1 rfl rfl)) hT_1
  obtain ⟨cs, rfl, hcs, hc⟩ := val_cells (ts := [3, 3]) (by kernel_rfl) (by kernel_rfl) (by kernel_rfl) (hval 2 45 c2 rfl rfl)
  obtain ⟨x0, x1, rfl⟩ := list2 hcs
  obtain ⟨k, rfl, h_k⟩ := int_ok Try.underlying3 (hc 0 3 x0 rfl rfl)
  replace h_k := has_i64 h_k
  obtain ⟨v, rfl, h_v⟩ := int_ok Try.underlying3 (hc 1 3 x1 rfl rfl)
  replace h_v := has_i64 h_v
  clear hc hcs
  obtain ⟨_, _, _, _, _, _, hA3⟩ := trodAll_cons hA2
  refine (nodeReads_any A_b kd n_b c_b k v x_b W hd_b hn_b.1 hn_b.2 hs_b).mono fun e W' ⟨he, hb⟩ => ?_
  subst he
  exact ⟨_, rfl, law_post hW rfl rfl Try.underlying4 (fun l hl => by obtain ⟨y0, y1, y2, rfl⟩ := list3 (hl.trans rfl); rfl) (by kernel_rfl) (by kernel_rfl) hb⟩

theorem nodeReads_holds : Rows.NodeReadsSaid :=
  OpenClaim.holds_of_wide 6 Try.f6 rfl rfl rfl rfl rfl rfl rfl ⟨rfl, rfl, rfl, rfl, rfl⟩ rfl rfl rfl rfl rfl (by kernel_rfl) Try.func6 (by kernel_rfl)
    (of_decide_eq_true (by kernel_rfl)) (by unfold Func.isWrapper; first | (rw [if_pos (by decide +kernel)]; kernel_rfl) | (rw [if_neg (by decide +kernel)]; exact ⟨rfl, rfl⟩))
    (fun os started H enc _ => nodeReads_lifted os started H enc)
#print axioms nodeReads_holds
end Go.Proofs.Ytbmdnifkjcimcaa
