/-
  What any bytes are read as: record's and the document's, at one value.
-/
import Derived.Test.YtflaeljjalpnkaaRefD
import Derived.Test.YtflaeljjalpnkaaRecG
namespace Go.Proofs.Ytflaeljjalpnkaa
set_option linter.unusedVariables false
set_option linter.unusedSimpArgs false
open Go.RowKit

/-- v where there are k bytes -/
def gv (n k : Nat) (v : Int) : Int := if n = k then v else 0
theorem gv_yes (k : Nat) (v : Int) : gv k k v = v := if_pos rfl
theorem gv_no {n k : Nat} (v : Int) (h : n ≠ k) : gv n k v = 0 := if_neg h
theorem getFilter_all (A : Option Addr) (n c : Nat) (e : Nat → Int) (he : ∀ i, 0 ≤ e i ∧ e i < 256) (hmc : n ≤ c) (hC : c ≤ maxLen) (w : World) (hs : SlIs w A n (yV e)) : Calls Try.prog 16 #[.slice A n c] w fun r w' => r = .returned (.tuple #[.agg #[.int .u64 (gv n 40 (num e 0 8)), .int .u64 (gv n 40 (num e 8 8)), .int .u64 (gv n 40 (num e 16 8)), .int .u64 (gv n 40 (num e 24 8)), .int .u32 (gv n 40 (num e 32 4)), .int .u32 (gv n 40 (num e 36 4))], .bool (decide (n = 40))]) ∧ Below w.heap.size w w' := by
  by_cases h : n = 40
  · subst h
    have h1 := getFilter_yes A c e he hmc hC w hs
    simp only [gv_yes, decide_true]
    exact h1
  · have h1 := getFilter_no A n c (by omega) h w
    simp only [gv_no _ h, h, decide_false]
    exact h1
theorem refGetFilter_all (n : Nat) (e : Nat → Int) (he : ∀ i, 0 ≤ e i ∧ e i < 256) (hn : n ≤ maxLen) (w : World) : Calls Try.prog 30 #[.string (strF e n)] w fun r w' => r = .returned (.tuple #[.agg #[.int .u64 (gv n 40 (num e 0 8)), .int .u64 (gv n 40 (num e 8 8)), .int .u64 (gv n 40 (num e 16 8)), .int .u64 (gv n 40 (num e 24 8)), .int .u32 (gv n 40 (num e 32 4)), .int .u32 (gv n 40 (num e 36 4))], .bool (decide (n = 40))]) ∧ Below w.heap.size w w' := by
  by_cases h : n = 40
  · subst h
    have h1 := refGetFilter_yes e he w
    simp only [gv_yes, decide_true]
    exact h1
  · have h1 := refGetFilter_no n e hn h w
    simp only [gv_no _ h, h, decide_false]
    exact h1
theorem getResult_all (A : Option Addr) (n c : Nat) (e : Nat → Int) (he : ∀ i, 0 ≤ e i ∧ e i < 256) (hmc : n ≤ c) (hC : c ≤ maxLen) (w : World) (hs : SlIs w A n (yV e)) : Calls Try.prog 17 #[.slice A n c] w fun r w' => r = .returned (.tuple #[.agg #[.int .u32 (gv n 8 (num e 0 4)), .int .u32 (gv n 8 (num e 4 4))], .bool (decide (n = 8))]) ∧ Below w.heap.size w w' := by
  by_cases h : n = 8
  · subst h
    have h1 := getResult_yes A c e he hmc hC w hs
    simp only [gv_yes, decide_true]
    exact h1
  · have h1 := getResult_no A n c (by omega) h w
    simp only [gv_no _ h, h, decide_false]
    exact h1
theorem refGetResult_all (n : Nat) (e : Nat → Int) (he : ∀ i, 0 ≤ e i ∧ e i < 256) (hn : n ≤ maxLen) (w : World) : Calls Try.prog 31 #[.string (strF e n)] w fun r w' => r = .returned (.tuple #[.agg #[.int .u32 (gv n 8 (num e 0 4)), .int .u32 (gv n 8 (num e 4 4))], .bool (decide (n = 8))]) ∧ Below w.heap.size w w' := by
  by_cases h : n = 8
  · subst h
    have h1 := refGetResult_yes e he w
    simp only [gv_yes, decide_true]
    exact h1
  · have h1 := refGetResult_no n e hn h w
    simp only [gv_no _ h, h, decide_false]
    exact h1
theorem getBalance_all (A : Option Addr) (n c : Nat) (e : Nat → Int) (he : ∀ i, 0 ≤ e i ∧ e i < 256) (hmc : n ≤ c) (hC : c ≤ maxLen) (w : World) (hs : SlIs w A n (yV e)) : Calls Try.prog 28 #[.slice A n c] w fun r w' => r = .returned (.tuple #[.agg #[.int .u64 (gv n 72 (num e 0 8)), .int .u64 (gv n 72 (num e 8 8)), .int .u64 (gv n 72 (num e 16 8)), .int .u64 (gv n 72 (num e 24 8)), .int .u64 (gv n 72 (num e 32 8)), .int .u64 (gv n 72 (num e 40 8)), .int .u64 (gv n 72 (num e 48 8)), .int .u64 (gv n 72 (num e 56 8)), .int .u64 (gv n 72 (num e 64 8))], .bool (decide (n = 72))]) ∧ Below w.heap.size w w' := by
  by_cases h : n = 72
  · subst h
    have h1 := getBalance_yes A c e he hmc hC w hs
    simp only [gv_yes, decide_true]
    exact h1
  · have h1 := getBalance_no A n c (by omega) h w
    simp only [gv_no _ h, h, decide_false]
    exact h1
theorem refGetBalance_all (n : Nat) (e : Nat → Int) (he : ∀ i, 0 ≤ e i ∧ e i < 256) (hn : n ≤ maxLen) (w : World) : Calls Try.prog 29 #[.string (strF e n)] w fun r w' => r = .returned (.tuple #[.agg #[.int .u64 (gv n 72 (num e 0 8)), .int .u64 (gv n 72 (num e 8 8)), .int .u64 (gv n 72 (num e 16 8)), .int .u64 (gv n 72 (num e 24 8)), .int .u64 (gv n 72 (num e 32 8)), .int .u64 (gv n 72 (num e 40 8)), .int .u64 (gv n 72 (num e 48 8)), .int .u64 (gv n 72 (num e 56 8)), .int .u64 (gv n 72 (num e 64 8))], .bool (decide (n = 72))]) ∧ Below w.heap.size w w' := by
  by_cases h : n = 72
  · subst h
    have h1 := refGetBalance_yes e he w
    simp only [gv_yes, decide_true]
    exact h1
  · have h1 := refGetBalance_no n e hn h w
    simp only [gv_no _ h, h, decide_false]
    exact h1
theorem getAccount_all (A : Option Addr) (n c : Nat) (e : Nat → Int) (he : ∀ i, 0 ≤ e i ∧ e i < 256) (hmc : n ≤ c) (hC : c ≤ maxLen) (w : World) (hs : SlIs w A n (yV e)) : Calls Try.prog 22 #[.slice A n c] w fun r w' => r = .returned (.tuple #[.agg #[.int .u64 (gv n 104 (num e 0 8)), .int .u64 (gv n 104 (num e 8 8)), .int .u64 (gv n 104 (num e 16 8)), .int .u64 (gv n 104 (num e 24 8)), .int .u64 (gv n 104 (num e 32 8)), .int .u64 (gv n 104 (num e 40 8)), .int .u64 (gv n 104 (num e 48 8)), .int .u64 (gv n 104 (num e 56 8)), .int .u64 (gv n 104 (num e 64 8)), .int .u64 (gv n 104 (num e 72 8)), .int .u64 (gv n 104 (num e 80 8)), .int .u32 (gv n 104 (num e 88 4)), .int .u16 (gv n 104 (num e 92 2)), .int .u16 (gv n 104 (num e 94 2)), .int .u64 (gv n 104 (num e 96 8))], .bool (decide (n = 104))]) ∧ Below w.heap.size w w' := by
  by_cases h : n = 104
  · subst h
    have h1 := getAccount_yes A c e he hmc hC w hs
    simp only [gv_yes, decide_true]
    exact h1
  · have h1 := getAccount_no A n c (by omega) h w
    simp only [gv_no _ h, h, decide_false]
    exact h1
theorem refGetAccount_all (n : Nat) (e : Nat → Int) (he : ∀ i, 0 ≤ e i ∧ e i < 256) (hn : n ≤ maxLen) (w : World) : Calls Try.prog 25 #[.string (strF e n)] w fun r w' => r = .returned (.tuple #[.agg #[.int .u64 (gv n 104 (num e 0 8)), .int .u64 (gv n 104 (num e 8 8)), .int .u64 (gv n 104 (num e 16 8)), .int .u64 (gv n 104 (num e 24 8)), .int .u64 (gv n 104 (num e 32 8)), .int .u64 (gv n 104 (num e 40 8)), .int .u64 (gv n 104 (num e 48 8)), .int .u64 (gv n 104 (num e 56 8)), .int .u64 (gv n 104 (num e 64 8)), .int .u64 (gv n 104 (num e 72 8)), .int .u64 (gv n 104 (num e 80 8)), .int .u32 (gv n 104 (num e 88 4)), .int .u16 (gv n 104 (num e 92 2)), .int .u16 (gv n 104 (num e 94 2)), .int .u64 (gv n 104 (num e 96 8))], .bool (decide (n = 104))]) ∧ Below w.heap.size w w' := by
  by_cases h : n = 104
  · subst h
    have h1 := refGetAccount_yes e he w
    simp only [gv_yes, decide_true]
    exact h1
  · have h1 := refGetAccount_no n e hn h w
    simp only [gv_no _ h, h, decide_false]
    exact h1
theorem getTransfer_all (A : Option Addr) (n c : Nat) (e : Nat → Int) (he : ∀ i, 0 ≤ e i ∧ e i < 256) (hmc : n ≤ c) (hC : c ≤ maxLen) (w : World) (hs : SlIs w A n (yV e)) : Calls Try.prog 26 #[.slice A n c] w fun r w' => r = .returned (.tuple #[.agg #[.int .u64 (gv n 108 (num e 0 8)), .int .u64 (gv n 108 (num e 8 8)), .int .u64 (gv n 108 (num e 16 8)), .int .u64 (gv n 108 (num e 24 8)), .int .u64 (gv n 108 (num e 32 8)), .int .u64 (gv n 108 (num e 40 8)), .int .u64 (gv n 108 (num e 48 8)), .int .u64 (gv n 108 (num e 56 8)), .int .u64 (gv n 108 (num e 64 8)), .int .u64 (gv n 108 (num e 72 8)), .int .u64 (gv n 108 (num e 80 8)), .int .u32 (gv n 108 (num e 88 4)), .int .u32 (gv n 108 (num e 92 4)), .int .u16 (gv n 108 (num e 96 2)), .int .u16 (gv n 108 (num e 98 2)), .int .u64 (gv n 108 (num e 100 8))], .bool (decide (n = 108))]) ∧ Below w.heap.size w w' := by
  by_cases h : n = 108
  · subst h
    have h1 := getTransfer_yes A c e he hmc hC w hs
    simp only [gv_yes, decide_true]
    exact h1
  · have h1 := getTransfer_no A n c (by omega) h w
    simp only [gv_no _ h, h, decide_false]
    exact h1
theorem refGetTransfer_all (n : Nat) (e : Nat → Int) (he : ∀ i, 0 ≤ e i ∧ e i < 256) (hn : n ≤ maxLen) (w : World) : Calls Try.prog 27 #[.string (strF e n)] w fun r w' => r = .returned (.tuple #[.agg #[.int .u64 (gv n 108 (num e 0 8)), .int .u64 (gv n 108 (num e 8 8)), .int .u64 (gv n 108 (num e 16 8)), .int .u64 (gv n 108 (num e 24 8)), .int .u64 (gv n 108 (num e 32 8)), .int .u64 (gv n 108 (num e 40 8)), .int .u64 (gv n 108 (num e 48 8)), .int .u64 (gv n 108 (num e 56 8)), .int .u64 (gv n 108 (num e 64 8)), .int .u64 (gv n 108 (num e 72 8)), .int .u64 (gv n 108 (num e 80 8)), .int .u32 (gv n 108 (num e 88 4)), .int .u32 (gv n 108 (num e 92 4)), .int .u16 (gv n 108 (num e 96 2)), .int .u16 (gv n 108 (num e 98 2)), .int .u64 (gv n 108 (num e 100 8))], .bool (decide (n = 108))]) ∧ Below w.heap.size w w' := by
  by_cases h : n = 108
  · subst h
    have h1 := refGetTransfer_yes e he w
    simp only [gv_yes, decide_true]
    exact h1
  · have h1 := refGetTransfer_no n e hn h w
    simp only [gv_no _ h, h, decide_false]
    exact h1
end Go.Proofs.Ytflaeljjalpnkaa
