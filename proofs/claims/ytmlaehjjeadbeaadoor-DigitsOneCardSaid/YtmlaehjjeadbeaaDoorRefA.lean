/-
  The document's numbers in texts, walked.
-/
import Derived.Test.YtmlaehjjeadbeaaDoorWideN
import Derived.Test.YtmlaehjjeadbeaaDoorKeyA
import Derived.Test.YtmlaehjjeadbeaaDoorTakeC
import Derived.Test.YtmlaehjjeadbeaaDoorWideR
namespace Go.Proofs.YtmlaehjjeadbeaaDoor
set_option linter.unusedVariables false
set_option linter.unusedSimpArgs false
open Go.RowKit

theorem strF_ext {d : Nat → Int} {n a b : Nat} (h1 : a ≤ b) (h2 : b ≤ n) : (strF d n).extract a b = strF (shf d a) (b - a) := by
  have h : ((strF d n).extract a b).data.toList = (strF (shf d a) (b - a)).data.toList := by
    have hl : ((strF d n).extract a b).data.toList = (strF d n).data.toList.extract a b := by simp
    rw [hl, strF_list, strF_list]
    apply List.ext_getElem?
    intro i
    rw [List.extract_eq_take_drop]
    rw [List.getElem?_take]
    split
    · rename_i hi
      rw [List.getElem?_drop, List.getElem?_map, List.getElem?_map, List.getElem?_range (by omega), List.getElem?_range hi]
      rfl
    · rename_i hi
      rw [List.getElem?_eq_none (by simp; omega)]
  cases hx : (strF d n).extract a b with
  | mk x => cases hy : strF (shf d a) (b - a) with
    | mk y => rw [hx, hy] at h; congr 1; exact Array.toList_inj.1 h
theorem num_small {d : Nat → Int} (hd : ∀ i, 0 ≤ d i ∧ d i < 256) {k : Nat} (hk : k ≤ 3) : num d 0 k < 16777216 := by
  have h := num_hi d 0 hd k
  have : (256 : Int) ^ k ≤ 16777216 := by
    rcases (by omega : k = 0 ∨ k = 1 ∨ k = 2 ∨ k = 3) with rfl | rfl | rfl | rfl <;> decide
  omega
theorem strF_at {d : Nat → Int} {n k : Nat} (hk : k < (strF d n).size) (hd : 0 ≤ d k ∧ d k < 256) : (((strF d n)[k]'hk).toNat : Int) = d k := by
  have h : k < n := by rwa [strF_size] at hk
  have e := sB_strF (d := d) h hd
  rw [← e]
  unfold sB
  have hk' : k < (strF d n).data.toList.length := by simpa using hk
  simp [List.getD, List.getElem?_eq_getElem hk']
  rfl
theorem strF_tail {d : Nat → Int} {n a : Nat} (h1 : a ≤ n) : (strF d n).extract a n = strF (shf d a) (n - a) := strF_ext h1 (Nat.le_refl _)



end Go.Proofs.YtmlaehjjeadbeaaDoor
