/-
  Rows of bytes, by their index; one behind another.
-/
import Derived.Test.YtnbfnlpepnbppaaLess
namespace Go.Proofs.Ytnbfnlpepnbppaa
set_option linter.unusedVariables false
set_option linter.unusedSimpArgs false
open Go.RowKit

theorem info_u8 : (Try.prog.info? 5).map (fun i => (i.zero, i.size, i.bytes)) = some (some (.int .u8 0), 1, 1) := by kernel_rfl
/-- the first k of the bytes d -/
def yL (d : Nat → Int) : Nat → List Value
  | 0 => []
  | k + 1 => yL d k ++ [.int .u8 (d k)]
theorem yL_len (d : Nat → Int) : ∀ k, (yL d k).length = k
  | 0 => rfl
  | k + 1 => by simp [yL, yL_len d k]
theorem yL_at (d : Nat → Int) : ∀ k j u, (yL d k)[j]? = some u → u = yV d j
  | 0, j, u, e => by simp [yL] at e
  | k + 1, j, u, e => by
    simp only [yL] at e
    rcases Nat.lt_or_ge j k with hj | hj
    · rw [List.getElem?_append_left (by rw [yL_len]; exact hj)] at e
      exact yL_at d k j u e
    · rw [List.getElem?_append_right (by rw [yL_len]; exact hj), yL_len] at e
      have h2 : j - k = 0 := by
        rcases Nat.eq_zero_or_pos (j - k) with h2 | h2
        · exact h2
        · rw [List.getElem?_eq_none (by simp; omega)] at e; cases e
      rw [h2] at e
      cases e
      obtain rfl : j = k := by omega
      rfl

theorem yL_congr {d e : Nat → Int} : ∀ {k : Nat}, (∀ i, i < k → d i = e i) → yL d k = yL e k
  | 0, _ => rfl
  | k + 1, h => by simp only [yL]; rw [yL_congr (k := k) (fun i hi => h i (by omega)), h k (by omega)]
/-- n bytes d, and e behind -/
def cat (d : Nat → Int) (n : Nat) (e : Nat → Int) (j : Nat) : Int := if j < n then d j else e (j - n)
theorem cat_zero (d e : Nat → Int) : cat d 0 e = e := by funext j; simp [cat]
theorem cat_lo {d e : Nat → Int} {n : Nat} {i : Nat} (h : i < n) : cat d n e i = d i := by simp [cat, h]
theorem cat_hi {d e : Nat → Int} {n : Nat} (i : Nat) : cat d n e (n + i) = e i := by unfold cat; rw [if_neg (by omega)]; congr 1; omega
theorem cat_cat (d e f : Nat → Int) (n m : Nat) : cat d n (cat e m f) = cat (cat d n e) (n + m) f := by
  funext j
  unfold cat
  by_cases h1 : j < n
  · rw [if_pos h1, if_pos (by omega), if_pos h1]
  · by_cases h2 : j - n < m
    · rw [if_neg h1, if_pos h2, if_pos (by omega), if_neg h1]
    · rw [if_neg h1, if_neg h2, if_neg (by omega)]; congr 1; omega
theorem yL_cat (d e : Nat → Int) (n : Nat) : ∀ m, yL (cat d n e) (n + m) = yL d n ++ yL e m
  | 0 => by
    rw [Nat.add_zero, yL_congr (fun i hi => cat_lo hi)]
    simp [yL]
  | m + 1 => by
    show yL (cat d n e) (n + m) ++ [.int .u8 (cat d n e (n + m))] = yL d n ++ (yL e m ++ [.int .u8 (e m)])
    rw [yL_cat d e n m, cat_hi, List.append_assoc]
theorem yL_one (d : Nat → Int) (n : Nat) (x : Int) : yL d n ++ [.int .u8 x] = yL (cat d n (fun _ => x)) (n + 1) := by rw [yL_cat]; rfl
theorem strF_cat (d e : Nat → Int) (n m : Nat) : strF d n ++ strF e m = strF (cat d n e) (n + m) := by
  have h : (strF d n ++ strF e m).data.toList = (strF (cat d n e) (n + m)).data.toList := by
    rw [ByteArray.data_append, Array.toList_append, strF_list, strF_list, strF_list]
    apply List.ext_getElem?
    intro i
    by_cases h1 : i < n
    · rw [List.getElem?_append_left (by simpa using h1), List.getElem?_map, List.getElem?_map, List.getElem?_range h1, List.getElem?_range (by omega)]
      simp only [Option.map_some]
      rw [cat_lo h1]
    · rw [List.getElem?_append_right (by simpa using h1)]
      simp only [List.length_map, List.length_range]
      by_cases h2 : i < n + m
      · rw [List.getElem?_map, List.getElem?_map, List.getElem?_range (by omega), List.getElem?_range h2]
        simp only [Option.map_some]
        obtain ⟨k, rfl⟩ : ∃ k, i = n + k := ⟨i - n, by omega⟩
        rw [cat_hi, Nat.add_sub_cancel_left]
      · rw [List.getElem?_eq_none (by simp; omega), List.getElem?_eq_none (by simp; omega)]
  cases hx : strF d n ++ strF e m with
  | mk a => cases hy : strF (cat d n e) (n + m) with
    | mk b => rw [hx, hy] at h; congr 1; exact Array.toList_inj.1 h
/-- N as k bytes, the highest first -/
def nb (k : Nat) (N : Int) (j : Nat) : Int := N / 256 ^ (k - 1 - j) % 256
theorem nb_lo (k : Nat) (N : Int) (j : Nat) : 0 ≤ nb k N j ∧ nb k N j < 256 := by unfold nb; omega
theorem cat_ok {d e : Nat → Int} {n : Nat} (hd : ∀ i, 0 ≤ d i ∧ d i < 256) (he : ∀ i, 0 ≤ e i ∧ e i < 256) (i : Nat) : 0 ≤ cat d n e i ∧ cat d n e i < 256 := by
  unfold cat; split
  · exact hd i
  · exact he _
end Go.Proofs.Ytnbfnlpepnbppaa
