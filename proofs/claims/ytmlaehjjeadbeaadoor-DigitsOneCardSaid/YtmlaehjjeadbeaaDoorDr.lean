/-
  The table out of the row's laid variables (door seat alone).
-/
import Derived.Test.YtmlaehjjeadbeaaDoorDq
namespace Go.Proofs.YtmlaehjjeadbeaaDoor
set_option linter.unusedVariables false
set_option linter.unusedSimpArgs false
open Go.RowKit

theorem laidMet_tail {P : Program} {W : World} {x : String × DataW Unit} {rest : List (String × DataW Unit)} (h : laidMet P (x :: rest) W) : laidMet P rest W := by
  obtain ⟨ps, ⟨g, t, cs, fuel, p, q, hg, ht, hvar, hd, h1, h2⟩, hn, hall⟩ := h
  first
    | (subst h2
       exact ⟨q, h1, (List.nodup_append.1 hn).2.1, fun b off hm => hall b off (List.mem_append_right _ hm)⟩)
    | (subst h1
       exact ⟨q, h2, (List.nodup_append.1 hn).2.1, fun b off hm => hall b off (List.mem_append_right _ hm)⟩)
theorem digitsOne_all (s : ByteArray) (hn : s.size ≤ maxLen) (w : World) (htab : Lib.TabIs Tryd.prog w "internal/strconv.uint64pow10" .u64 Lib.pow10Tab) : Calls Tryd.prog 4 #[.string s] w fun r w' => r = .returned (.bool true) ∧ Below w.heap.size w w' := by
  have h := digitsOne_any s.size (sB s) hn (sB_lo s) w htab
  rwa [strF_sB] at h
theorem htab_of {W : World} {a b : String × DataW Unit} (hL : laidMet Tryd.prog [a, b, ("internal/strconv.uint64pow10", Rows.laid_internal_strconv_uint64pow10)] W) : Lib.TabIs Tryd.prog W "internal/strconv.uint64pow10" .u64 Lib.pow10Tab := by
  have h := laidMet_tail (laidMet_tail hL)
  exact Lib.tabIs_of_head (g := 2) (by kernel_rfl) (by kernel_rfl) Tryd.underlying62 Tryd.underlying22 (by kernel_rfl) (by kernel_rfl) h
end Go.Proofs.YtmlaehjjeadbeaaDoor
