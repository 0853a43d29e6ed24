/-
  Joined: Str Less BytesL.
-/
import Derived.Test.YtbmdnifkjcimcaaAppend
import Derived.Laws.BytesArg
-- Str
namespace Go.Proofs.Ytbmdnifkjcimcaa
set_option linter.unusedVariables false
set_option linter.unusedSimpArgs false
open Go.RowKit

/-- bytes' values -/
def yV (d : Nat → Int) (j : Nat) : Value := .int .u8 (d j)
/-- the text of n bytes -/
def strF (d : Nat → Int) (n : Nat) : ByteArray := strOfNums ((List.range n).map d)
/-- the bytes of a text -/
def sB (s : ByteArray) (i : Nat) : Int := ((s.data.toList.getD i 0).toNat : Int)
theorem sB_lo (s : ByteArray) (i : Nat) : 0 ≤ sB s i ∧ sB s i < 256 := by unfold sB; have := (s.data.toList.getD i 0).toNat_lt; omega
theorem strF_size (d : Nat → Int) (n : Nat) : (strF d n).size = n := by unfold strF; rw [strOfNums_size]; simp
theorem strF_list (d : Nat → Int) (n : Nat) : (strF d n).data.toList = (List.range n).map (fun i => UInt8.ofNat (d i).toNat) := by unfold strF; rw [strOfNums_data]; simp
theorem strF_congr {d e : Nat → Int} {n : Nat} (h : ∀ i, i < n → d i = e i) : strF d n = strF e n := by
  unfold strF
  rw [List.map_congr_left (fun i hi => h i (by simpa using hi))]
theorem sB_strF {d : Nat → Int} {n j : Nat} (hj : j < n) (hd : 0 ≤ d j ∧ d j < 256) : sB (strF d n) j = d j := by
  unfold sB
  rw [strF_list]
  simp [List.getD, hj]
  omega
theorem strF_sB (s : ByteArray) : strF (sB s) s.size = s := by
  have h : (strF (sB s) s.size).data.toList = s.data.toList := by
    rw [strF_list]
    apply List.ext_getElem?
    intro i
    by_cases hi : i < s.size
    · have hi' : i < s.data.toList.length := by simpa using hi
      rw [List.getElem?_eq_getElem hi', List.getElem?_map, List.getElem?_range hi]
      simp only [Option.map_some]
      congr 1
      unfold sB
      simp [List.getD, List.getElem?_eq_getElem hi']
    · rw [List.getElem?_eq_none (by simpa using hi), List.getElem?_eq_none (by simpa using hi)]
  cases hs : strF (sB s) s.size with
  | mk a =>
    rw [hs] at h
    cases s with
    | mk b => congr 1; exact Array.toList_inj.1 h
theorem strF_inj {d e : Nat → Int} {n m : Nat} (hd : ∀ i, i < n → 0 ≤ d i ∧ d i < 256) (he : ∀ i, i < m → 0 ≤ e i ∧ e i < 256) : strF d n = strF e m ↔ n = m ∧ ∀ i, i < n → d i = e i := by
  constructor
  · intro h
    have h1 : n = m := by rw [← strF_size d n, ← strF_size e m, h]
    subst h1
    exact ⟨rfl, fun i hi => by rw [← sB_strF hi (hd i hi), h, sB_strF hi (he i hi)]⟩
  · rintro ⟨rfl, h⟩; exact strF_congr h
theorem sB_at (s : ByteArray) {k : Nat} (hk : k < s.size) : wrap64 ((s[k].toNat : Int)) = sB s k := by
  have h := s[k].toNat_lt
  have e : sB s k = (s[k].toNat : Int) := by
    unfold sB
    have hk' : k < s.data.toList.length := by simpa using hk
    simp [List.getD, List.getElem?_eq_getElem hk']
    rfl
  rw [e]
  unfold wrap64
  omega

section
variable {P : Program} {w : World}
/-- a slice of bytes made a text -/
theorem conv_str {src e dst : TypeId} (hs : P.underlying src = some (.slice e)) (he : P.underlying e = some (.int .u8)) (hd : P.underlying dst = some .string) {A : Option Addr} {n : Nat} {d : Nat → Int} (h : SlIs w A n (yV d)) (c : Nat) :
    (convert src dst (.slice A n c)).run P w = .ok (.string (strF d n)) w := by
  rcases Nat.eq_zero_or_pos n with h0 | h0
  · subst h0
    cases A with
    | none => rw [run_convert_bytes_nil w src e hs he 0 c dst hd]; rfl
    | some a =>
      rw [run_convert_bytes_string w src dst e _ 0 c hs he hd, run_bytesToString w a 0 c [] (run_loadCells_list (P := P) w a [] (fun j v hj => by simp at hj))]
      rfl
  · obtain ⟨b, o, rfl, _, hc⟩ := h h0
    rw [run_convert_bytes_arg w src e hs he b o n c ((List.range n).map d) (by simp) (fun i hi => by rw [hc i hi]; simp [List.getD, hi, yV]) dst hd]
    rfl
end
end Go.Proofs.Ytbmdnifkjcimcaa
-- Less
namespace Go.Proofs.Ytbmdnifkjcimcaa
set_option linter.unusedVariables false
set_option linter.unusedSimpArgs false
open Go.RowKit

theorem ba_loop (bs : ByteArray) : ∀ (n i : Nat) (r : List UInt8), bs.size - i = n → ByteArray.toList.loop bs i r = r.reverse ++ bs.data.toList.drop i
  | 0, i, r, h => by
    unfold ByteArray.toList.loop
    rw [if_neg (by omega), List.drop_eq_nil_of_le (by simp; omega)]
    simp
  | n + 1, i, r, h => by
    have hi : i < bs.size := by omega
    unfold ByteArray.toList.loop
    rw [if_pos hi, ba_loop bs n (i + 1) _ (by omega)]
    have hi' : i < bs.data.toList.length := by simpa using hi
    rw [List.drop_eq_getElem_cons hi']
    have e : bs.get! i = bs.data.toList[i] := by
      cases bs with
      | mk a => simp [ByteArray.get!, getElem!_pos, show i < a.size from hi]
    simp [e]
theorem ba_toList (bs : ByteArray) : bs.toList = bs.data.toList := by
  unfold ByteArray.toList
  rw [ba_loop bs _ 0 [] rfl]
  simp
theorem strF_toList (d : Nat → Int) (n : Nat) : (strF d n).toList = (List.range n).map (fun i => UInt8.ofNat (d i).toNat) := by rw [ba_toList, strF_list]

theorem less_shift (d e : Nat → Int) : ∀ n, Op.bytesLess ((List.range (n + 1)).map (fun i => UInt8.ofNat (d i).toNat)) ((List.range (n + 1)).map (fun i => UInt8.ofNat (e i).toNat)) =
    (decide (UInt8.ofNat (d 0).toNat < UInt8.ofNat (e 0).toNat) || ((UInt8.ofNat (d 0).toNat == UInt8.ofNat (e 0).toNat) && Op.bytesLess ((List.range n).map (fun i => UInt8.ofNat (d (i + 1)).toNat)) ((List.range n).map (fun i => UInt8.ofNat (e (i + 1)).toNat)))) := by
  intro n
  rw [List.range_succ_eq_map]
  simp only [List.map_cons, List.map_map, Op.bytesLess]
  rfl
/-- which of two rows of bytes is less -/
def rowLess (d e : Nat → Int) : Nat → Bool
  | 0 => false
  | n + 1 => decide (d 0 < e 0) || (d 0 == e 0 && rowLess (fun i => d (i + 1)) (fun i => e (i + 1)) n)
theorem less_row : ∀ (n : Nat) (d e : Nat → Int), (∀ i, i < n → 0 ≤ d i ∧ d i < 256) → (∀ i, i < n → 0 ≤ e i ∧ e i < 256) →
    Op.bytesLess ((List.range n).map (fun i => UInt8.ofNat (d i).toNat)) ((List.range n).map (fun i => UInt8.ofNat (e i).toNat)) = rowLess d e n
  | 0, _, _, _, _ => rfl
  | n + 1, d, e, hd, he => by
    rw [less_shift, less_row n (fun i => d (i + 1)) (fun i => e (i + 1)) (fun i hi => hd (i + 1) (by omega)) (fun i hi => he (i + 1) (by omega))]
    have h1 := hd 0 (by omega)
    have h2 := he 0 (by omega)
    have a : decide (UInt8.ofNat (d 0).toNat < UInt8.ofNat (e 0).toNat) = decide (d 0 < e 0) := by
      rw [decide_eq_decide, UInt8.lt_iff_toNat_lt]
      simp; omega
    have b : (UInt8.ofNat (d 0).toNat == UInt8.ofNat (e 0).toNat) = (d 0 == e 0) := by
      rw [Bool.eq_iff_iff, beq_iff_eq, beq_iff_eq, ← UInt8.toNat_inj]
      simp; omega
    rw [a, b]
    rfl
theorem strF_less {d e : Nat → Int} {n : Nat} (hd : ∀ i, i < n → 0 ≤ d i ∧ d i < 256) (he : ∀ i, i < n → 0 ≤ e i ∧ e i < 256) : Op.bytesLess (strF d n).toList (strF e n).toList = rowLess d e n := by
  rw [strF_toList, strF_toList, less_row n d e hd he]
theorem rowLess_iff : ∀ (n : Nat) (d e : Nat → Int), rowLess d e n = true ↔ ∃ k, k < n ∧ (∀ j, j < k → d j = e j) ∧ d k < e k
  | 0, d, e => by simp [rowLess]
  | n + 1, d, e => by
    simp only [rowLess, Bool.or_eq_true, decide_eq_true_eq, Bool.and_eq_true, beq_iff_eq]
    rw [rowLess_iff n]
    constructor
    · rintro (h | ⟨h, k, hk, h1, h2⟩)
      · exact ⟨0, by omega, fun j hj => by omega, h⟩
      · refine ⟨k + 1, by omega, fun j hj => ?_, h2⟩
        cases j with
        | zero => exact h
        | succ j => exact h1 j (by omega)
    · rintro ⟨k, hk, h1, h2⟩
      cases k with
      | zero => exact Or.inl h2
      | succ k => exact Or.inr ⟨h1 0 (by omega), k, by omega, fun j hj => h1 (j + 1) (by omega), h2⟩
theorem strF_eq {d e : Nat → Int} {n m : Nat} (hd : ∀ i, i < n → 0 ≤ d i ∧ d i < 256) (he : ∀ i, i < m → 0 ≤ e i ∧ e i < 256) : ((strF d n).toList == (strF e m).toList) = decide (n = m ∧ ∀ i, i < n → d i = e i) := by
  rw [Bool.eq_iff_iff, beq_iff_eq, decide_eq_true_eq, ← strF_inj hd he, ba_toList, ba_toList]
  constructor
  · intro h
    cases hx : strF d n with
    | mk a => cases hy : strF e m with
      | mk b => rw [hx, hy] at h; congr 1; exact Array.toList_inj.1 h
  · intro h; rw [h]
end Go.Proofs.Ytbmdnifkjcimcaa
-- BytesL
namespace Go.Proofs.Ytbmdnifkjcimcaa
set_option linter.unusedVariables false
set_option linter.unusedSimpArgs false
open Go.RowKit

theorem info_u8 : (Try.prog.info? 5).map (fun i => (i.zero, i.size, i.bytes)) = some (some (.int .u8 0), 1, 1) := by kernel_rfl
/-- the first k of the bytes d -/
def yL (d : Nat → Int) : Nat → List Value
  | 0 => []
  | k + 1 => yL d k ++ [.int .u8 (d k)]
theorem yL_len (d : Nat → Int) : ∀ k, (yL d k).length = k
  | 0 => rfl
  | k + 1 => by simp [yL, yL_len d k]
theorem yL_at (d : Nat → Int) : ∀ k j u, (yL d k)[j]? = some u → u = yV d j
  | 0, j, u, e => by simp [yL] at e
  | k + 1, j, u, e => by
    simp only [yL] at e
    rcases Nat.lt_or_ge j k with hj | hj
    · rw [List.getElem?_append_left (by rw [yL_len]; exact hj)] at e
      exact yL_at d k j u e
    · rw [List.getElem?_append_right (by rw [yL_len]; exact hj), yL_len] at e
      have h2 : j - k = 0 := by
        rcases Nat.eq_zero_or_pos (j - k) with h2 | h2
        · exact h2
        · rw [List.getElem?_eq_none (by simp; omega)] at e; cases e
      rw [h2] at e
      cases e
      obtain rfl : j = k := by omega
      rfl

theorem yL_congr {d e : Nat → Int} : ∀ {k : Nat}, (∀ i, i < k → d i = e i) → yL d k = yL e k
  | 0, _ => rfl
  | k + 1, h => by simp only [yL]; rw [yL_congr (k := k) (fun i hi => h i (by omega)), h k (by omega)]
/-- n bytes d, and e behind -/
def cat (d : Nat → Int) (n : Nat) (e : Nat → Int) (j : Nat) : Int := if j < n then d j else e (j - n)
theorem cat_zero (d e : Nat → Int) : cat d 0 e = e := by funext j; simp [cat]
theorem cat_lo {d e : Nat → Int} {n : Nat} {i : Nat} (h : i < n) : cat d n e i = d i := by simp [cat, h]
theorem cat_hi {d e : Nat → Int} {n : Nat} (i : Nat) : cat d n e (n + i) = e i := by unfold cat; rw [if_neg (by omega)]; congr 1; omega
theorem cat_cat (d e f : Nat → Int) (n m : Nat) : cat d n (cat e m f) = cat (cat d n e) (n + m) f := by
  funext j
  unfold cat
  by_cases h1 : j < n
  · rw [if_pos h1, if_pos (by omega), if_pos h1]
  · by_cases h2 : j - n < m
    · rw [if_neg h1, if_pos h2, if_pos (by omega), if_neg h1]
    · rw [if_neg h1, if_neg h2, if_neg (by omega)]; congr 1; omega
theorem yL_cat (d e : Nat → Int) (n : Nat) : ∀ m, yL (cat d n e) (n + m) = yL d n ++ yL e m
  | 0 => by
    rw [Nat.add_zero, yL_congr (fun i hi => cat_lo hi)]
    simp [yL]
  | m + 1 => by
    show yL (cat d n e) (n + m) ++ [.int .u8 (cat d n e (n + m))] = yL d n ++ (yL e m ++ [.int .u8 (e m)])
    rw [yL_cat d e n m, cat_hi, List.append_assoc]
theorem yL_one (d : Nat → Int) (n : Nat) (x : Int) : yL d n ++ [.int .u8 x] = yL (cat d n (fun _ => x)) (n + 1) := by rw [yL_cat]; rfl
theorem strF_cat (d e : Nat → Int) (n m : Nat) : strF d n ++ strF e m = strF (cat d n e) (n + m) := by
  have h : (strF d n ++ strF e m).data.toList = (strF (cat d n e) (n + m)).data.toList := by
    rw [ByteArray.data_append, Array.toList_append, strF_list, strF_list, strF_list]
    apply List.ext_getElem?
    intro i
    by_cases h1 : i < n
    · rw [List.getElem?_append_left (by simpa using h1), List.getElem?_map, List.getElem?_map, List.getElem?_range h1, List.getElem?_range (by omega)]
      simp only [Option.map_some]
      rw [cat_lo h1]
    · rw [List.getElem?_append_right (by simpa using h1)]
      simp only [List.length_map, List.length_range]
      by_cases h2 : i < n + m
      · rw [List.getElem?_map, List.getElem?_map, List.getElem?_range (by omega), List.getElem?_range h2]
        simp only [Option.map_some]
        obtain ⟨k, rfl⟩ : ∃ k, i = n + k := ⟨i - n, by omega⟩
        rw [cat_hi, Nat.add_sub_cancel_left]
      · rw [List.getElem?_eq_none (by simp; omega), List.getElem?_eq_none (by simp; omega)]
  cases hx : strF d n ++ strF e m with
  | mk a => cases hy : strF (cat d n e) (n + m) with
    | mk b => rw [hx, hy] at h; congr 1; exact Array.toList_inj.1 h
/-- N as k bytes, the highest first -/
def nb (k : Nat) (N : Int) (j : Nat) : Int := N / 256 ^ (k - 1 - j) % 256
theorem nb_lo (k : Nat) (N : Int) (j : Nat) : 0 ≤ nb k N j ∧ nb k N j < 256 := by unfold nb; omega
theorem cat_ok {d e : Nat → Int} {n : Nat} (hd : ∀ i, 0 ≤ d i ∧ d i < 256) (he : ∀ i, 0 ≤ e i ∧ e i < 256) (i : Nat) : 0 ≤ cat d n e i ∧ cat d n e i < 256 := by
  unfold cat; split
  · exact hd i
  · exact he _
end Go.Proofs.Ytbmdnifkjcimcaa
