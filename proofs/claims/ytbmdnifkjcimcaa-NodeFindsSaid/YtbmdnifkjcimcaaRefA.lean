/-
  The document's numbers in texts, walked.
-/
import Derived.Test.YtbmdnifkjcimcaaWideN
import Derived.Test.YtbmdnifkjcimcaaKeyA
import Derived.Test.YtbmdnifkjcimcaaTakeC
import Derived.Test.YtbmdnifkjcimcaaWideR
namespace Go.Proofs.Ytbmdnifkjcimcaa
set_option linter.unusedVariables false
set_option linter.unusedSimpArgs false
open Go.RowKit

theorem strF_ext {d : Nat → Int} {n a b : Nat} (h1 : a ≤ b) (h2 : b ≤ n) : (strF d n).extract a b = strF (shf d a) (b - a) := by
  have h : ((strF d n).extract a b).data.toList = (strF (shf d a) (b - a)).data.toList := by
    have hl : ((strF d n).extract a b).data.toList = (strF d n).data.toList.extract a b := by simp
    rw [hl, strF_list, strF_list]
    apply List.ext_getElem?
    intro i
    rw [List.extract_eq_take_drop]
    rw [List.getElem?_take]
    split
    · rename_i hi
      rw [List.getElem?_drop, List.getElem?_map, List.getElem?_map, List.getElem?_range (by omega), List.getElem?_range hi]
      rfl
    · rename_i hi
      rw [List.getElem?_eq_none (by simp; omega)]
  cases hx : (strF d n).extract a b with
  | mk x => cases hy : strF (shf d a) (b - a) with
    | mk y => rw [hx, hy] at h; congr 1; exact Array.toList_inj.1 h
theorem num_small {d : Nat → Int} (hd : ∀ i, 0 ≤ d i ∧ d i < 256) {k : Nat} (hk : k ≤ 3) : num d 0 k < 16777216 := by
  have h := num_hi d 0 hd k
  have : (256 : Int) ^ k ≤ 16777216 := by
    rcases (by omega : k = 0 ∨ k = 1 ∨ k = 2 ∨ k = 3) with rfl | rfl | rfl | rfl <;> decide
  omega
theorem strF_at {d : Nat → Int} {n k : Nat} (hk : k < (strF d n).size) (hd : 0 ≤ d k ∧ d k < 256) : (((strF d n)[k]'hk).toNat : Int) = d k := by
  have h : k < n := by rwa [strF_size] at hk
  have e := sB_strF (d := d) h hd
  rw [← e]
  unfold sB
  have hk' : k < (strF d n).data.toList.length := by simpa using hk
  simp [List.getD, List.getElem?_eq_getElem hk']
  rfl
theorem strF_tail {d : Nat → Int} {n a : Nat} (h1 : a ≤ n) : (strF d n).extract a n = strF (shf d a) (n - a) := strF_ext h1 (Nat.le_refl _)


set_option maxHeartbeats 1000000 in
theorem rnumber_any (d : Nat → Int) (hd : ∀ i, 0 ≤ d i ∧ d i < 256) (n : Nat) (hn : n ≤ 4) (w : World) : Calls Try.prog 38 #[.string (strF d n)] w fun r w' =>
      r = .returned (.int .u32 (num d 0 n)) ∧ Below w.heap.size w w' := by
  have es : (strF d n).size = n := strF_size d n
  replace hd := Lib.hid hd
  go_enter Try.func38, Try.ntmps38
  go_wp2
  go_loop [3, 4] (fun a i => ∃ k : Nat, k ≤ n ∧ i = .int .i64 k ∧ a = .int .u32 (num d 0 k)) (fun _ i => n - (intOf i).toNat)
  case atStart => exact ⟨0, by omega, rfl, rfl⟩
  case round =>
    obtain ⟨k, hk, rfl, rfl⟩ := hrel
    by_cases hlt : k < n
    · have hsz : k < (strF d n).size := by rw [es]; exact hlt
      have b1 := num_lo d 0 hd.out k
      have b2 : num d 0 k < 16777216 := num_small hd.out (by omega)
      have b3 := hd.out k
      go_wp2
      go_round
      case rel =>
        refine ⟨k + 1, by omega, by go_num, ?_⟩
        rw [strF_at hsz b3]
        simp only [num]
        rw [Nat.zero_add]
        congr 1
        omega
      case measure => simp [intOf]; omega
    · obtain rfl : k = n := by omega
      go_wp2
      go_ret
      exact ⟨rfl, Below.refl _ _⟩

end Go.Proofs.Ytbmdnifkjcimcaa
