/-
  What is read is put back: the bytes of the numbers of bytes.
-/
import Derived.Test.YtflaeljjalpnkaaRecT
import Derived.Test.YtflaeljjalpnkaaRefC
import Derived.Test.YtflaeljjalpnkaaKeepB
namespace Go.Proofs.Ytflaeljjalpnkaa
set_option linter.unusedVariables false
set_option linter.unusedSimpArgs false
open Go.RowKit

/-- the value, or nought -/
def bv (b : Bool) (v : Int) : Int := if b = true then v else 0
theorem bv_t (v : Int) : bv true v = v := rfl
theorem bv_f (v : Int) : bv false v = 0 := rfl
theorem bv_rng {b : Bool} {v m : Int} (hm : 0 < m) (h : 0 ≤ v ∧ v < m) : 0 ≤ bv b v ∧ bv b v < m := by cases b <;> simp [bv] <;> omega
theorem gv_bv (n k : Nat) (v : Int) : gv n k v = bv (decide (n = k)) v := by unfold gv bv; simp
theorem num_div {e : Nat → Int} (he : ∀ i, 0 ≤ e i ∧ e i < 256) (s j : Nat) : ∀ k, num e s (j + k) / 256 ^ k = num e s j
  | 0 => by simp
  | k + 1 => by
    have h1 : (num e s (j + k) * 256 + e (s + (j + k))) / 256 = num e s (j + k) := by have := he (s + (j + k)); omega
    have h2 : (256 : Int) ^ (k + 1) = 256 * 256 ^ k := by rw [Int.pow_succ, Int.mul_comm]
    show (num e s (j + k) * 256 + e (s + (j + k))) / 256 ^ (k + 1) = _
    rw [h2, ← Int.ediv_ediv_of_nonneg (by omega), h1, num_div he s j k]
theorem nb_num {e : Nat → Int} (he : ∀ i, 0 ≤ e i ∧ e i < 256) (s k j : Nat) (hj : j < k) : nb k (num e s k) j = e (s + j) := by
  unfold nb
  have h := num_div he s (j + 1) (k - 1 - j)
  rw [show j + 1 + (k - 1 - j) = k by omega] at h
  rw [h]
  show (num e s j * 256 + e (s + j)) % 256 = _
  have := he (s + j)
  omega
theorem dgt_num {e : Nat → Int} (he : ∀ i, 0 ≤ e i ∧ e i < 256) (s t : Nat) (ht : t = s + 8) (j : Nat) (hj : j < 16) : dgt (num e s 8) (num e t 8) j = e (s + j) := by
  subst ht
  by_cases h : j < 8
  · rw [dgt_hi _ _ j h]; exact nb_num he s 8 j h
  · obtain ⟨m, rfl⟩ : ∃ m, j = 8 + m := ⟨j - 8, by omega⟩
    rw [dgt_low _ _ m (by omega)]
    have := nb_num he (s + 8) 8 m (by omega)
    unfold nb at this
    exact this.trans (congrArg e (by omega))
theorem cat_back {d f E : Nat → Int} {n m N : Nat} (hN : n + m = N) (h1 : ∀ j, j < n → d j = E j) (h2 : ∀ j, j < m → f j = E (n + j)) : ∀ j, j < N → cat d n f j = E j := by
  intro j hj
  by_cases h : j < n
  · rw [cat_lo h]; exact h1 j h
  · obtain ⟨i, rfl⟩ : ∃ i, j = n + i := ⟨j - n, by omega⟩
    rw [cat_hi]
    exact h2 i (by omega)
section
variable {E : Nat → Int} (hE : ∀ i, 0 ≤ E i ∧ E i < 256)
include hE
theorem dgt_back : ∀ j, j < 16 → dgt (num E 0 8) (num E 8 8) j = E j := fun j hj => by rw [dgt_num hE 0 8 rfl j hj, Nat.zero_add]
theorem putTransfer_num : ∀ j, j < 108 → putTransferD (num E 0 8) (num E 8 8) (num E 16 8) (num E 24 8) (num E 32 8) (num E 40 8) (num E 48 8) (num E 56 8) (num E 64 8) (num E 72 8) (num E 80 8) (num E 88 4) (num E 92 4) (num E 96 2) (num E 98 2) (num E 100 8) j = E j := by
  rw [refTransfer_D]
  exact (cat_back (n := 100) (m := 8) rfl (cat_back (n := 98) (m := 2) rfl (cat_back (n := 96) (m := 2) rfl (cat_back (n := 92) (m := 4) rfl (cat_back (n := 88) (m := 4) rfl (cat_back (n := 80) (m := 8) rfl (cat_back (n := 64) (m := 16) rfl (cat_back (n := 48) (m := 16) rfl (cat_back (n := 32) (m := 16) rfl (cat_back (n := 16) (m := 16) rfl (fun j hj => (dgt_num hE 0 8 rfl j hj).trans (congrArg E (by omega))) (fun j hj => dgt_num hE 16 24 rfl j hj)) (fun j hj => dgt_num hE 32 40 rfl j hj)) (fun j hj => dgt_num hE 48 56 rfl j hj)) (fun j hj => dgt_num hE 64 72 rfl j hj)) (fun j hj => nb_num hE 80 8 j hj)) (fun j hj => nb_num hE 88 4 j hj)) (fun j hj => nb_num hE 92 4 j hj)) (fun j hj => nb_num hE 96 2 j hj)) (fun j hj => nb_num hE 98 2 j hj)) (fun j hj => nb_num hE 100 8 j hj))
theorem putAccount_num : ∀ j, j < 104 → putAccountD (num E 0 8) (num E 8 8) (num E 16 8) (num E 24 8) (num E 32 8) (num E 40 8) (num E 48 8) (num E 56 8) (num E 64 8) (num E 72 8) (num E 80 8) (num E 88 4) (num E 92 2) (num E 94 2) (num E 96 8) j = E j := by
  rw [refAccount_D]
  exact (cat_back (n := 96) (m := 8) rfl (cat_back (n := 94) (m := 2) rfl (cat_back (n := 92) (m := 2) rfl (cat_back (n := 88) (m := 4) rfl (cat_back (n := 80) (m := 8) rfl (cat_back (n := 64) (m := 16) rfl (cat_back (n := 48) (m := 16) rfl (cat_back (n := 32) (m := 16) rfl (cat_back (n := 16) (m := 16) rfl (fun j hj => (dgt_num hE 0 8 rfl j hj).trans (congrArg E (by omega))) (fun j hj => dgt_num hE 16 24 rfl j hj)) (fun j hj => dgt_num hE 32 40 rfl j hj)) (fun j hj => dgt_num hE 48 56 rfl j hj)) (fun j hj => dgt_num hE 64 72 rfl j hj)) (fun j hj => nb_num hE 80 8 j hj)) (fun j hj => nb_num hE 88 4 j hj)) (fun j hj => nb_num hE 92 2 j hj)) (fun j hj => nb_num hE 94 2 j hj)) (fun j hj => nb_num hE 96 8 j hj))
theorem putBalance_num : ∀ j, j < 72 → putBalanceD (num E 0 8) (num E 8 8) (num E 16 8) (num E 24 8) (num E 32 8) (num E 40 8) (num E 48 8) (num E 56 8) (num E 64 8) j = E j := by
  rw [refBalance_D]
  exact (cat_back (n := 64) (m := 8) rfl (cat_back (n := 48) (m := 16) rfl (cat_back (n := 32) (m := 16) rfl (cat_back (n := 16) (m := 16) rfl (fun j hj => (dgt_num hE 0 8 rfl j hj).trans (congrArg E (by omega))) (fun j hj => dgt_num hE 16 24 rfl j hj)) (fun j hj => dgt_num hE 32 40 rfl j hj)) (fun j hj => dgt_num hE 48 56 rfl j hj)) (fun j hj => nb_num hE 64 8 j hj))
theorem putBalance_one (st : Int) : ∀ j, j < 64 → putBalanceD (num E 1 8) (num E 9 8) (num E 17 8) (num E 25 8) (num E 33 8) (num E 41 8) (num E 49 8) (num E 57 8) st j = E (1 + j) := by
  intro j hj
  rw [refBalance_D, cat_lo hj]
  exact (cat_back (E := fun j => E (1 + j)) (n := 48) (m := 16) rfl (cat_back (E := fun j => E (1 + j)) (n := 32) (m := 16) rfl (cat_back (E := fun j => E (1 + j)) (n := 16) (m := 16) rfl (fun j hj => (dgt_num hE 1 9 rfl j hj)) (fun j hj => (dgt_num hE 17 25 rfl j hj).trans (congrArg E (by omega)))) (fun j hj => (dgt_num hE 33 41 rfl j hj).trans (congrArg E (by omega)))) (fun j hj => (dgt_num hE 49 57 rfl j hj).trans (congrArg E (by omega)))) j hj
theorem pair_num : ∀ j, j < 24 → cat (dgt (num E 0 8) (num E 8 8)) 16 (nb 8 (num E 16 8)) j = E j :=
  cat_back (n := 16) (m := 8) rfl (dgt_back hE) (fun j hj => nb_num hE 16 8 j hj)
theorem two_num : ∀ j, j < 16 → cat (nb 8 (num E 0 8)) 8 (nb 8 (num E 8 8)) j = E j :=
  cat_back (n := 8) (m := 8) rfl (fun j hj => by rw [nb_num hE 0 8 j hj, Nat.zero_add]) (fun j hj => nb_num hE 8 8 j hj)
end
theorem keepT_key {d e : Nat → Int} (hd : ∀ i, 0 ≤ d i ∧ d i < 256) (he : ∀ i, 0 ≤ e i ∧ e i < 256) : strF (putTransferD (num (cat d 16 e) 0 8) (num (cat d 16 e) 8 8) (num (cat d 16 e) 16 8) (num (cat d 16 e) 24 8) (num (cat d 16 e) 32 8) (num (cat d 16 e) 40 8) (num (cat d 16 e) 48 8) (num (cat d 16 e) 56 8) (num (cat d 16 e) 64 8) (num (cat d 16 e) 72 8) (num (cat d 16 e) 80 8) (num (cat d 16 e) 88 4) (num (cat d 16 e) 92 4) (num (cat d 16 e) 96 2) (num (cat d 16 e) 98 2) (num (cat d 16 e) 100 8)) 16 = strF d 16 :=
  strF_congr (fun j hj => by rw [putTransfer_num (E := cat d 16 e) (cat_ok hd he) j (by omega), cat_lo hj])
theorem keepT_val {d e : Nat → Int} (hd : ∀ i, 0 ≤ d i ∧ d i < 256) (he : ∀ i, 0 ≤ e i ∧ e i < 256) : strF (cat (shf (putTransferD (num (cat d 16 e) 0 8) (num (cat d 16 e) 8 8) (num (cat d 16 e) 16 8) (num (cat d 16 e) 24 8) (num (cat d 16 e) 32 8) (num (cat d 16 e) 40 8) (num (cat d 16 e) 48 8) (num (cat d 16 e) 56 8) (num (cat d 16 e) 64 8) (num (cat d 16 e) 72 8) (num (cat d 16 e) 80 8) (num (cat d 16 e) 88 4) (num (cat d 16 e) 92 4) (num (cat d 16 e) 96 2) (num (cat d 16 e) 98 2) (num (cat d 16 e) 100 8)) 16) 92 (dgt (num e 92 8) (num e 100 8))) 108 = strF e 108 :=
  strF_congr (cat_back (n := 92) (m := 16) rfl (fun j hj => by
    show putTransferD _ _ _ _ _ _ _ _ _ _ _ _ _ _ _ _ (16 + j) = _
    rw [putTransfer_num (E := cat d 16 e) (cat_ok hd he) (16 + j) (by omega), cat_hi]) (fun j hj => dgt_num he 92 100 rfl j hj))
theorem keepR_key {d : Nat → Int} (hd : ∀ i, 0 ≤ d i ∧ d i < 256) : strF (cat (dgt (num d 0 8) (num d 8 8)) 16 (nb 8 (num d 16 8))) 24 = strF d 24 := strF_congr (pair_num hd)
theorem keepR_val {e : Nat → Int} (he : ∀ i, 0 ≤ e i ∧ e i < 256) (st : Int) : strF (rowD (e 0) (num e 1 8) (num e 9 8) (num e 17 8) (num e 25 8) (num e 33 8) (num e 41 8) (num e 49 8) (num e 57 8) st) 65 = strF e 65 :=
  strF_congr (cat_back (n := 1) (m := 64) rfl (fun j hj => by obtain rfl : j = 0 := by omega
                                                              rfl) (putBalance_one he st))
theorem keepD_key {d : Nat → Int} (hd : ∀ i, 0 ≤ d i ∧ d i < 256) : strF (cat (nb 8 (num d 0 8)) 8 (nb 8 (num d 8 8))) 16 = strF d 16 := strF_congr (two_num hd)
theorem keepD_val {e : Nat → Int} (he : ∀ i, 0 ≤ e i ∧ e i < 256) : strF (dgt (num e 0 8) (num e 8 8)) 16 = strF e 16 := strF_congr (dgt_back he)
end Go.Proofs.Ytflaeljjalpnkaa
