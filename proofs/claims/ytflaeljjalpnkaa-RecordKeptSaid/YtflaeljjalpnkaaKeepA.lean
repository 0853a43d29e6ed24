/-
  The key and value of what expires: the program's, walked.
-/
import Derived.Test.YtflaeljjalpnkaaKeyA
import Derived.Test.YtflaeljjalpnkaaRecD
import Derived.Test.YtflaeljjalpnkaaByS
namespace Go.Proofs.Ytflaeljjalpnkaa
set_option linter.unusedVariables false
set_option linter.unusedSimpArgs false
open Go.RowKit

set_option maxRecDepth 8000 in
set_option maxHeartbeats 2000000 in
theorem keepDue_any (e s h l : Int) (he : Wd e) (hs : Wd s) (hh : Wd h) (hl : Wd l) (w : World) : Calls Try.prog 10 #[.agg #[.int .u64 e, .int .u64 s, .int .u64 h, .int .u64 l]] w fun r w' =>
      ∃ v1 v2, r = .returned (.tuple #[v1, v2]) ∧ ByS w' v1 16 (cat (nb 8 e) 8 (nb 8 s)) ∧ ByS w' v2 16 (dgt h l) ∧ Below w.heap.size w w' := by
  have H1 := Lib.hid (fun w => two_any e s he hs w)
  have H2 := Lib.hid (fun w => id_any h l hh hl w)
  clear he hs hh hl
  go_enter Try.func10, Try.ntmps10
  go_wp2_with fail
  go_region_held3 (fun w' => w'.cell? ⟨w.heap.size, 0, none⟩ = some (.int .u64 e) ∧ w'.cell? ⟨w.heap.size, 1, none⟩ = some (.int .u64 s) ∧ w'.cell? ⟨w.heap.size, 2, none⟩ = some (.int .u64 h) ∧ w'.cell? ⟨w.heap.size, 3, none⟩ = some (.int .u64 l))
    (first | ((try go_split_ands); refine ⟨?_, ?_, ?_, ?_⟩ <;> first | assumption | exact keepc hb_2 (by assumption) | exact keepc hb_1 (by assumption) | (simp [go_sem]; done)))
    (first
      | (go_at_call 46; (with_reducible refine (H1.out _).mono ?_); rintro e w_1 ⟨v_1, rfl, ho_1, hb_1⟩)
      | (go_at_call 47; (with_reducible refine (H2.out _).mono ?_); rintro e w_2 ⟨g_2, rfl, hg_2, hr_2, hb_2⟩))
  have k1 : ByS w_2 v_1 16 (cat (nb 8 e) 8 (nb 8 s)) := ho_1.byS.below hb_2
  have k2 : ByS w_2 (.slice (some ⟨g_2, 0, none⟩) 16 16) 16 (dgt h l) := (byS_row (off := 0) hr_2 (by omega) (by omega) (by simp [maxLen])).congr (fun i hi => by rw [Nat.zero_add])
  have hb : Below w.heap.size w w_2 := by
    refine bel_trans ?_ hb_2
    refine bel_trans ?_ hb_1
    (repeat (first | exact Below.refl _ _ | assumption | refine below_drewN ?_ _ | refine bel_grow ?_ _ | refine Below.drew ?_ | refine bel_alloc ?_ _ | refine bel_set ?_ (by first | exact Nat.le_refl _ | (simp; done) | (simp; omega) | omega) _ | refine bel_trans ?_ (by assumption)))
  replace k1 := Lib.hid k1
  replace k2 := Lib.hid k2
  replace hb := Lib.hid hb
  clear ho_1 hr_2 hb_1 hb_2
  go_wp2_with fail
  go_ret2
  exact ⟨_, _, rfl, k1.out, k2.out, hb.out⟩
end Go.Proofs.Ytflaeljjalpnkaa
