/-
  What is left of a number of 128 bits without another one: the program's, walked.
-/
import Derived.Test.YtpbnakoimlmhnaaWideX
namespace Go.Proofs.Ytpbnakoimlmhnaa
set_option linter.unusedVariables false
set_option linter.unusedSimpArgs false
open Go.RowKit

theorem rest_any (a b c d : Int) (ha : Wd a) (hb : Wd b) (hc : Wd c) (hd : Wd d) (w : World) : Calls Try.prog 78 #[.agg #[.int .u64 a, .int .u64 b], .agg #[.int .u64 c, .int .u64 d]] w fun r w' =>
      r = .returned (.agg #[.int .u64 (subH a b c d), .int .u64 (subL a b c d)]) ∧ Below w.heap.size w w' := by
  have HS := Lib.hid (fun w => sub_any a b c d ha hb hc hd w)
  clear ha hb hc hd
  go_enter Try.func78, Try.ntmps78
  go_wp2_with (go_at_call 77; refine (gro (HS.out _)).mono ?_; rintro e w' ⟨rfl, d1, rfl⟩)
  refine bodyPost_ret (v := .agg #[.int .u64 (subH a b c d), .int .u64 (subL a b c d)]) (by simp [results, Try.results78, go_sem]) rfl ⟨rfl, ?_⟩
  (repeat (first | exact Below.refl _ _ | assumption | refine below_drewN ?_ _ | refine bel_grow ?_ _ | refine Below.drew ?_ | refine bel_alloc ?_ _ | refine bel_set ?_ (by first | exact Nat.le_refl _ | (simp; done) | (simp; omega) | omega) _ | refine bel_trans ?_ (by assumption)))

end Go.Proofs.Ytpbnakoimlmhnaa
