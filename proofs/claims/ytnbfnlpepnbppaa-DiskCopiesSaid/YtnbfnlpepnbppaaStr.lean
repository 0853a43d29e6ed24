/-
  Texts by their bytes; a slice of bytes made a text.
-/
import Derived.Test.YtnbfnlpepnbppaaAppend
import Derived.Laws.BytesArg
namespace Go.Proofs.Ytnbfnlpepnbppaa
set_option linter.unusedVariables false
set_option linter.unusedSimpArgs false
open Go.RowKit

/-- bytes' values -/
def yV (d : Nat → Int) (j : Nat) : Value := .int .u8 (d j)
/-- the text of n bytes -/
def strF (d : Nat → Int) (n : Nat) : ByteArray := strOfNums ((List.range n).map d)
/-- the bytes of a text -/
def sB (s : ByteArray) (i : Nat) : Int := ((s.data.toList.getD i 0).toNat : Int)
theorem sB_lo (s : ByteArray) (i : Nat) : 0 ≤ sB s i ∧ sB s i < 256 := by unfold sB; have := (s.data.toList.getD i 0).toNat_lt; omega
theorem strF_size (d : Nat → Int) (n : Nat) : (strF d n).size = n := by unfold strF; rw [strOfNums_size]; simp
theorem strF_list (d : Nat → Int) (n : Nat) : (strF d n).data.toList = (List.range n).map (fun i => UInt8.ofNat (d i).toNat) := by unfold strF; rw [strOfNums_data]; simp
theorem strF_congr {d e : Nat → Int} {n : Nat} (h : ∀ i, i < n → d i = e i) : strF d n = strF e n := by
  unfold strF
  rw [List.map_congr_left (fun i hi => h i (by simpa using hi))]
theorem sB_strF {d : Nat → Int} {n j : Nat} (hj : j < n) (hd : 0 ≤ d j ∧ d j < 256) : sB (strF d n) j = d j := by
  unfold sB
  rw [strF_list]
  simp [List.getD, hj]
  omega
theorem strF_sB (s : ByteArray) : strF (sB s) s.size = s := by
  have h : (strF (sB s) s.size).data.toList = s.data.toList := by
    rw [strF_list]
    apply List.ext_getElem?
    intro i
    by_cases hi : i < s.size
    · have hi' : i < s.data.toList.length := by simpa using hi
      rw [List.getElem?_eq_getElem hi', List.getElem?_map, List.getElem?_range hi]
      simp only [Option.map_some]
      congr 1
      unfold sB
      simp [List.getD, List.getElem?_eq_getElem hi']
    · rw [List.getElem?_eq_none (by simpa using hi), List.getElem?_eq_none (by simpa using hi)]
  cases hs : strF (sB s) s.size with
  | mk a =>
    rw [hs] at h
    cases s with
    | mk b => congr 1; exact Array.toList_inj.1 h
theorem strF_inj {d e : Nat → Int} {n m : Nat} (hd : ∀ i, i < n → 0 ≤ d i ∧ d i < 256) (he : ∀ i, i < m → 0 ≤ e i ∧ e i < 256) : strF d n = strF e m ↔ n = m ∧ ∀ i, i < n → d i = e i := by
  constructor
  · intro h
    have h1 : n = m := by rw [← strF_size d n, ← strF_size e m, h]
    subst h1
    exact ⟨rfl, fun i hi => by rw [← sB_strF hi (hd i hi), h, sB_strF hi (he i hi)]⟩
  · rintro ⟨rfl, h⟩; exact strF_congr h
theorem sB_at (s : ByteArray) {k : Nat} (hk : k < s.size) : wrap64 ((s[k].toNat : Int)) = sB s k := by
  have h := s[k].toNat_lt
  have e : sB s k = (s[k].toNat : Int) := by
    unfold sB
    have hk' : k < s.data.toList.length := by simpa using hk
    simp [List.getD, List.getElem?_eq_getElem hk']
    rfl
  rw [e]
  unfold wrap64
  omega

section
variable {P : Program} {w : World}
/-- a slice of bytes made a text -/
theorem conv_str {src e dst : TypeId} (hs : P.underlying src = some (.slice e)) (he : P.underlying e = some (.int .u8)) (hd : P.underlying dst = some .string) {A : Option Addr} {n : Nat} {d : Nat → Int} (h : SlIs w A n (yV d)) (c : Nat) :
    (convert src dst (.slice A n c)).run P w = .ok (.string (strF d n)) w := by
  rcases Nat.eq_zero_or_pos n with h0 | h0
  · subst h0
    cases A with
    | none => rw [run_convert_bytes_nil w src e hs he 0 c dst hd]; rfl
    | some a =>
      rw [run_convert_bytes_string w src dst e _ 0 c hs he hd, run_bytesToString w a 0 c [] (run_loadCells_list (P := P) w a [] (fun j v hj => by simp at hj))]
      rfl
  · obtain ⟨b, o, rfl, _, hc⟩ := h h0
    rw [run_convert_bytes_arg w src e hs he b o n c ((List.range n).map d) (by simp) (fun i hi => by rw [hc i hi]; simp [List.getD, hi, yV]) dst hd]
    rfl
end
end Go.Proofs.Ytnbfnlpepnbppaa
