/-
  Sixteen bytes laid behind 92 that stand inside an own row of 108: in place or grown, what is read back is the same.
-/
import Derived.Test.YtflaeljjalpnkaaOffA
import Derived.Test.YtflaeljjalpnkaaKeyB
import Derived.ArgAppend
namespace Go.Proofs.Ytflaeljjalpnkaa
set_option linter.unusedVariables false
set_option linter.unusedSimpArgs false
open Go.RowKit

theorem yV_eq {d e : Nat → Int} {j : Nat} (h : d j = e j) : yV d j = yV e j := by unfold yV; rw [h]

set_option maxRecDepth 8000 in
theorem run_wide_off (w : World) (base g cap cc : Nat) (ad : Addr) (D E : Nat → Int) (ty : TypeId) (hb0 : base ≤ w.heap.size) (hcap : 92 ≤ cap) (hcm : 16 + cap ≤ maxLen)
    (ho : OwnB w base (.slice (some ⟨g, 0, none⟩) 108 (16 + cap)) 108 D) (hnews : ∀ j u, (yL E 16)[j]? = some u → w.cell? (ad.add j) = some u) :
    ∃ A c' w', (Builtin.append_ #[32, 32] ty #[.slice (some ⟨g, 16, none⟩) 92 cap, .slice (some ad) 16 cc]).run Try.prog w = .ok (.slice A 108 c') w' ∧
      108 ≤ c' ∧ c' ≤ maxLen ∧ SlIs w' A 108 (yV (cat (shf D 16) 92 E)) ∧ SlIs w' (some ⟨g, 0, none⟩) 16 (yV D) ∧ Below base w w' := by
  obtain ⟨i0, hi0, hz0, hz1, hz2⟩ := info_parts info_u8
  have hlt := ho.lt g rfl
  by_cases hf : 108 ≤ cap
  · obtain ⟨w', hrun, hown, hgr⟩ := run_append_fits (P := Try.prog) w base 32 ty 5 i0 1 Try.underlying32 hi0 hz1 g 108 (16 + cap) (yL D 108) ho ad 16 cc (yL E 16) (by rw [yL_len]) hnews (yL_one' _ _) (by omega)
    have h2 := run_append_off w w' 32 ty 5 i0 Try.underlying32 hi0 hz1 g 16 92 cap 16 cc ad _ (by omega) hrun
    rw [← yL_cat] at hown
    obtain ⟨A', c', hA, e1, m1, hs⟩ := OwnB.byS (v := .slice (some ⟨g, 0, none⟩) (108 + 16) (16 + cap)) (n := 108 + 16) (d := cat D 108 E) hown
    cases hA
    obtain ⟨b, o, hbo, hbl, hc⟩ := hs (by omega)
    cases hbo
    refine ⟨_, _, w', h2, by omega, by omega, ?_, ?_, Below.grown (Below.refl _ _) hgr hb0 (fun j hj => by cases hj; exact hlt.1)⟩
    · refine SlIs.congr (slis_at (n := 124) (o := 0) hbl hc 16 108 (by omega)) (fun j hj => ?_)
      refine yV_eq ?_
      unfold shf cat
      by_cases hj2 : j < 92
      · rw [if_pos (by omega), if_pos hj2]
      · rw [if_neg (by omega), if_neg hj2]
        congr 1
        omega
    · refine SlIs.congr (slis_at0 (n := 124) (o := 0) hbl hc 16 (by omega)) (fun j hj => ?_)
      exact yV_eq (cat_lo (by omega))
  · obtain ⟨A', c', hA, e1, m1, hs⟩ := ho.byS
    cases hA
    obtain ⟨b, o, hbo, hbl, hc⟩ := hs (by omega)
    cases hbo
    have hc1 := slis_at (n := 108) (o := 0) hbl hc 16 92 (by omega)
    obtain ⟨b1, o1, hbo1, hbl1, hc2⟩ := hc1 (by omega)
    cases hbo1
    have hk := slis_at0 (n := 108) (o := 0) hbl hc 16 (by omega)
    obtain ⟨v', w', hrun, hown, hgr⟩ := run_append_arg_grows (P := Try.prog) w 32 ty 5 i0 _ 1 1 Try.underlying32 hi0 hz0 hz1 hz2 rfl (by omega) ⟨g, 16, none⟩ 92 cap (yL (shf D 16) 92) (by rw [yL_len]) (news_slis hc2 (Nat.le_refl 92)) ad 16 cc (yL E 16) (by rw [yL_len]) hnews (by omega) (by simp [maxLen]) (by omega)
    rw [← yL_cat] at hown
    obtain ⟨A', c', rfl, e2, m2, hs2⟩ := OwnB.byS (v := v') (n := 92 + 16) (d := cat (shf D 16) 92 E) hown
    exact ⟨A', c', w', hrun, e2, m2, hs2, hk.below (grownBy_bel hgr), (grownBy_bel hgr).mono hb0⟩
end Go.Proofs.Ytflaeljjalpnkaa
