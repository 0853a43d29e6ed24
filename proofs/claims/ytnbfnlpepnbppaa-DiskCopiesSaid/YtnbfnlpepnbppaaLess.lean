/-
  Plain laws of texts: which one is less.
-/
import Derived.Test.YtnbfnlpepnbppaaStr
namespace Go.Proofs.Ytnbfnlpepnbppaa
set_option linter.unusedVariables false
set_option linter.unusedSimpArgs false
open Go.RowKit

theorem ba_loop (bs : ByteArray) : ∀ (n i : Nat) (r : List UInt8), bs.size - i = n → ByteArray.toList.loop bs i r = r.reverse ++ bs.data.toList.drop i
  | 0, i, r, h => by
    unfold ByteArray.toList.loop
    rw [if_neg (by omega), List.drop_eq_nil_of_le (by simp; omega)]
    simp
  | n + 1, i, r, h => by
    have hi : i < bs.size := by omega
    unfold ByteArray.toList.loop
    rw [if_pos hi, ba_loop bs n (i + 1) _ (by omega)]
    have hi' : i < bs.data.toList.length := by simpa using hi
    rw [List.drop_eq_getElem_cons hi']
    have e : bs.get! i = bs.data.toList[i] := by
      cases bs with
      | mk a => simp [ByteArray.get!, getElem!_pos, show i < a.size from hi]
    simp [e]
theorem ba_toList (bs : ByteArray) : bs.toList = bs.data.toList := by
  unfold ByteArray.toList
  rw [ba_loop bs _ 0 [] rfl]
  simp
theorem strF_toList (d : Nat → Int) (n : Nat) : (strF d n).toList = (List.range n).map (fun i => UInt8.ofNat (d i).toNat) := by rw [ba_toList, strF_list]

theorem less_shift (d e : Nat → Int) : ∀ n, Op.bytesLess ((List.range (n + 1)).map (fun i => UInt8.ofNat (d i).toNat)) ((List.range (n + 1)).map (fun i => UInt8.ofNat (e i).toNat)) =
    (decide (UInt8.ofNat (d 0).toNat < UInt8.ofNat (e 0).toNat) || ((UInt8.ofNat (d 0).toNat == UInt8.ofNat (e 0).toNat) && Op.bytesLess ((List.range n).map (fun i => UInt8.ofNat (d (i + 1)).toNat)) ((List.range n).map (fun i => UInt8.ofNat (e (i + 1)).toNat)))) := by
  intro n
  rw [List.range_succ_eq_map]
  simp only [List.map_cons, List.map_map, Op.bytesLess]
  rfl
/-- which of two rows of bytes is less -/
def rowLess (d e : Nat → Int) : Nat → Bool
  | 0 => false
  | n + 1 => decide (d 0 < e 0) || (d 0 == e 0 && rowLess (fun i => d (i + 1)) (fun i => e (i + 1)) n)
theorem less_row : ∀ (n : Nat) (d e : Nat → Int), (∀ i, i < n → 0 ≤ d i ∧ d i < 256) → (∀ i, i < n → 0 ≤ e i ∧ e i < 256) →
    Op.bytesLess ((List.range n).map (fun i => UInt8.ofNat (d i).toNat)) ((List.range n).map (fun i => UInt8.ofNat (e i).toNat)) = rowLess d e n
  | 0, _, _, _, _ => rfl
  | n + 1, d, e, hd, he => by
    rw [less_shift, less_row n (fun i => d (i + 1)) (fun i => e (i + 1)) (fun i hi => hd (i + 1) (by omega)) (fun i hi => he (i + 1) (by omega))]
    have h1 := hd 0 (by omega)
    have h2 := he 0 (by omega)
    have a : decide (UInt8.ofNat (d 0).toNat < UInt8.ofNat (e 0).toNat) = decide (d 0 < e 0) := by
      rw [decide_eq_decide, UInt8.lt_iff_toNat_lt]
      simp; omega
    have b : (UInt8.ofNat (d 0).toNat == UInt8.ofNat (e 0).toNat) = (d 0 == e 0) := by
      rw [Bool.eq_iff_iff, beq_iff_eq, beq_iff_eq, ← UInt8.toNat_inj]
      simp; omega
    rw [a, b]
    rfl
theorem strF_less {d e : Nat → Int} {n : Nat} (hd : ∀ i, i < n → 0 ≤ d i ∧ d i < 256) (he : ∀ i, i < n → 0 ≤ e i ∧ e i < 256) : Op.bytesLess (strF d n).toList (strF e n).toList = rowLess d e n := by
  rw [strF_toList, strF_toList, less_row n d e hd he]
theorem rowLess_iff : ∀ (n : Nat) (d e : Nat → Int), rowLess d e n = true ↔ ∃ k, k < n ∧ (∀ j, j < k → d j = e j) ∧ d k < e k
  | 0, d, e => by simp [rowLess]
  | n + 1, d, e => by
    simp only [rowLess, Bool.or_eq_true, decide_eq_true_eq, Bool.and_eq_true, beq_iff_eq]
    rw [rowLess_iff n]
    constructor
    · rintro (h | ⟨h, k, hk, h1, h2⟩)
      · exact ⟨0, by omega, fun j hj => by omega, h⟩
      · refine ⟨k + 1, by omega, fun j hj => ?_, h2⟩
        cases j with
        | zero => exact h
        | succ j => exact h1 j (by omega)
    · rintro ⟨k, hk, h1, h2⟩
      cases k with
      | zero => exact Or.inl h2
      | succ k => exact Or.inr ⟨h1 0 (by omega), k, by omega, fun j hj => h1 (j + 1) (by omega), h2⟩
theorem strF_eq {d e : Nat → Int} {n m : Nat} (hd : ∀ i, i < n → 0 ≤ d i ∧ d i < 256) (he : ∀ i, i < m → 0 ≤ e i ∧ e i < 256) : ((strF d n).toList == (strF e m).toList) = decide (n = m ∧ ∀ i, i < n → d i = e i) := by
  rw [Bool.eq_iff_iff, beq_iff_eq, decide_eq_true_eq, ← strF_inj hd he, ba_toList, ba_toList]
  constructor
  · intro h
    cases hx : strF d n with
    | mk a => cases hy : strF e m with
      | mk b => rw [hx, hy] at h; congr 1; exact Array.toList_inj.1 h
  · intro h; rw [h]
end Go.Proofs.Ytnbfnlpepnbppaa
