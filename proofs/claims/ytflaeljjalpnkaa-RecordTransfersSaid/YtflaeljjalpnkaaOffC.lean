/-
  record.wides of one number, behind 92 bytes inside an own row.
-/
import Derived.Test.YtflaeljjalpnkaaOffB
import Derived.Test.YtflaeljjalpnkaaRecB
namespace Go.Proofs.Ytflaeljjalpnkaa
set_option linter.unusedVariables false
set_option linter.unusedSimpArgs false
open Go.RowKit

set_option maxRecDepth 8000 in
set_option maxHeartbeats 2000000 in
theorem wides_off (w : World) (base g cap gb : Nat) (D : Nat → Int) (h l : Int) (hh : Wd h) (hl : Wd l) (hb0 : base ≤ w.heap.size) (hcap : 92 ≤ cap) (hcm : 16 + cap ≤ maxLen)
    (ho : OwnB w base (.slice (some ⟨g, 0, none⟩) 108 (16 + cap)) 108 D) (hg : Blk w gb 24 #[.int .u64 h, .int .u64 l]) :
    Calls Try.prog 51 #[.slice (some ⟨g, 16, none⟩) 92 cap, .slice (some ⟨gb, 0, none⟩) 1 1] w fun r w' => ∃ A c', r = .returned (.slice A 108 c') ∧ 108 ≤ c' ∧ c' ≤ maxLen ∧ SlIs w' A 108 (yV (cat (shf D 16) 92 (dgt h l))) ∧ SlIs w' (some ⟨g, 0, none⟩) 16 (yV D) ∧ Below base w w' := by
  have HX := Lib.hid (fun w => bytes_any h l hh hl w)
  have x0 := (hg).cell 0
  have x1 := (hg).cell 1
  have xf0 := (hg).frozen 0
  have xf1 := (hg).frozen 1
  have xl := (hg).lt
  replace ho := Lib.hid ho
  clear hg
  go_enter Try.func51, Try.ntmps51
  go_wp2_with fail
  refine wp_loop_rounds 2 ?_
  rw [rounds_succ]
  go_wp2_with fail
  refine (HX.out _).mono ?_
  rintro e1 w1 ⟨gy, rfl, hgy, hrow, hb1⟩
  have hW : Below w.heap.size w w1 := bel_eld (w := w) (X := _) (by (repeat (first | with_reducible exact Below.refl _ _ | with_reducible assumption | (with_reducible refine bel_set ?_ (by first | exact Nat.le_refl _ | (simp; done) | (simp; omega) | omega) _) | with_reducible refine bel_grow ?_ _ | with_reducible refine Below.drew ?_ | with_reducible refine below_drewN ?_ _ | with_reducible refine bel_alloc ?_ _ | with_reducible refine bel_trans ?_ (by assumption)))) hb1
  obtain ⟨A, c', w2, hrun, j1, j2, s2, s3, hb2⟩ := run_wide_off w1 base g cap 16 ⟨gy, 0, none⟩ D (dgt h l) 32 (Nat.le_trans hb0 hW.size) hcap hcm (ho.out.kept hW) (news_row hrow (Nat.le_refl 16))
  replace s2 := Lib.hid s2
  replace s3 := Lib.hid s3
  have hb3 := Lib.hid ((hW.mono hb0).trans hb2)
  clear hrow hb1 hW hb2 ho x0 x1 xf0 xf1 hgy
  go_wp2_with (at_builtin; refine Lib.wpList_append_run _ rfl _ _ _ _ rfl _ _ rfl rfl _ _ hrun ?_)
  rw [rounds_succ]
  go_wp2_with fail
  go_ret
  exact ⟨A, c', rfl, j1, j2, s2.out, s3.out, hb3.out⟩
end Go.Proofs.Ytflaeljjalpnkaa
