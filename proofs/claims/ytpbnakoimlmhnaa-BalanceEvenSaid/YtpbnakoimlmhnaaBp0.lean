/-
  The sum of three is of two words.
-/
import Derived.Test.YtpbnakoimlmhnaaBv
namespace Go.Proofs.Ytpbnakoimlmhnaa
set_option linter.unusedVariables false
set_option linter.unusedSimpArgs false
open Go.RowKit

theorem s3_u {a b c d e f : Int} (h1 : Wd a) (h2 : Wd b) (h3 : Wd c) (h4 : Wd d) (h5 : Wd e) (h6 : Wd f) : Wd (s3H a b c d e f) ∧ Wd (s3L a b c d e f) := by
  unfold s3H s3L sumH sumL
  have hz : Wd 0 := by unfold Wd; omega
  cases hb : sumB (thr3 a c e) (thr3 b d f) 3
  · exact ⟨hz, hz⟩
  · have hn := tot_nn (thr_wd h1 h2 h3 h4 h5 h6)
    have hl : tot (thr3 a c e) (thr3 b d f) 3 < pw 16 := by simpa [sumB] using hb
    exact Wd_of ⟨hn, hl⟩
end Go.Proofs.Ytpbnakoimlmhnaa
