/-
  Joined: TakeA TakeB TakeC RefA.
-/
import Derived.Test.YtbmdnifkjcimcaaByS
import Derived.Test.YtbmdnifkjcimcaaWideM
import Derived.Test.YtbmdnifkjcimcaaWideN
import Derived.Test.YtbmdnifkjcimcaaKeyA
import Derived.Test.YtbmdnifkjcimcaaWideR
-- TakeA
namespace Go.Proofs.Ytbmdnifkjcimcaa
set_option linter.unusedVariables false
set_option linter.unusedSimpArgs false
open Go.RowKit

/-- bytes from the k-th on -/
def shf (e : Nat → Int) (k j : Nat) : Int := e (k + j)
theorem shf_lo {e : Nat → Int} (h : ∀ i, 0 ≤ e i ∧ e i < 256) (k i : Nat) : 0 ≤ shf e k i ∧ shf e k i < 256 := h _
theorem shf_shf (e : Nat → Int) (k m : Nat) : shf (shf e k) m = shf e (k + m) := by funext j; simp [shf, Nat.add_assoc]

theorem num_shf (e : Nat → Int) (s : Nat) : ∀ k, num (shf e s) 0 k = num e s k
  | 0 => rfl
  | k + 1 => by simp only [num]; rw [num_shf e s k]; simp [shf]
theorem num_shf' (e : Nat → Int) (s t : Nat) : ∀ k, num (shf e s) t k = num e (s + t) k
  | 0 => rfl
  | k + 1 => by simp only [num]; rw [num_shf' e s t k]; simp [shf, Nat.add_assoc]

end Go.Proofs.Ytbmdnifkjcimcaa
-- TakeB
namespace Go.Proofs.Ytbmdnifkjcimcaa
set_option linter.unusedVariables false
set_option linter.unusedSimpArgs false
open Go.RowKit

theorem setCell_twice (w : World) (a : Addr) (u v : Value) : (w.setCell a u).setCell a v = w.setCell a v := by
  unfold World.setCell
  congr 1
  apply Array.ext_getElem?
  intro i
  simp only [Array.getElem?_modify]
  by_cases h : a.block = i
  · simp only [h, if_true]
    cases w.heap[i]? with
    | none => rfl
    | some o => cases o with
      | cells c t f =>
        simp only [Option.map_some]
        split
        · simp_all
        · simp_all
      | _ => rfl
  · simp [h]

end Go.Proofs.Ytbmdnifkjcimcaa
-- TakeC
namespace Go.Proofs.Ytbmdnifkjcimcaa
set_option linter.unusedVariables false
set_option linter.unusedSimpArgs false
open Go.RowKit

theorem num_two {e : Nat → Int} (he : ∀ i, 0 ≤ e i ∧ e i < 256) (s : Nat) : 0 ≤ num e s 2 ∧ num e s 2 < 65536 := by
  have := he (s + 0); have := he (s + 1); simp only [num]; omega
theorem num_four {e : Nat → Int} (he : ∀ i, 0 ≤ e i ∧ e i < 256) (s : Nat) : 0 ≤ num e s 4 ∧ num e s 4 < 4294967296 := by
  have := he (s + 0); have := he (s + 1); have := he (s + 2); have := he (s + 3); simp only [num]; omega
theorem num_eight {e : Nat → Int} (he : ∀ i, 0 ≤ e i ∧ e i < 256) (s : Nat) : 0 ≤ num e s 8 ∧ num e s 8 < 18446744073709551616 := by
  have := he (s + 0); have := he (s + 1); have := he (s + 2); have := he (s + 3); have := he (s + 4); have := he (s + 5); have := he (s + 6); have := he (s + 7); simp only [num]; omega

theorem slis_shf0 {W : World} {A : Option Addr} {m : Nat} {e : Nat → Int} (h : SlIs W A m (yV e)) : SlIs W A m (yV (shf e 0)) := by
  have : shf e 0 = e := by funext j; simp [shf]
  rw [this]; exact h
end Go.Proofs.Ytbmdnifkjcimcaa
-- RefA
namespace Go.Proofs.Ytbmdnifkjcimcaa
set_option linter.unusedVariables false
set_option linter.unusedSimpArgs false
open Go.RowKit

theorem strF_ext {d : Nat → Int} {n a b : Nat} (h1 : a ≤ b) (h2 : b ≤ n) : (strF d n).extract a b = strF (shf d a) (b - a) := by
  have h : ((strF d n).extract a b).data.toList = (strF (shf d a) (b - a)).data.toList := by
    have hl : ((strF d n).extract a b).data.toList = (strF d n).data.toList.extract a b := by simp
    rw [hl, strF_list, strF_list]
    apply List.ext_getElem?
    intro i
    rw [List.extract_eq_take_drop]
    rw [List.getElem?_take]
    split
    · rename_i hi
      rw [List.getElem?_drop, List.getElem?_map, List.getElem?_map, List.getElem?_range (by omega), List.getElem?_range hi]
      rfl
    · rename_i hi
      rw [List.getElem?_eq_none (by simp; omega)]
  cases hx : (strF d n).extract a b with
  | mk x => cases hy : strF (shf d a) (b - a) with
    | mk y => rw [hx, hy] at h; congr 1; exact Array.toList_inj.1 h
theorem num_small {d : Nat → Int} (hd : ∀ i, 0 ≤ d i ∧ d i < 256) {k : Nat} (hk : k ≤ 3) : num d 0 k < 16777216 := by
  have h := num_hi d 0 hd k
  have : (256 : Int) ^ k ≤ 16777216 := by
    rcases (by omega : k = 0 ∨ k = 1 ∨ k = 2 ∨ k = 3) with rfl | rfl | rfl | rfl <;> decide
  omega
theorem strF_at {d : Nat → Int} {n k : Nat} (hk : k < (strF d n).size) (hd : 0 ≤ d k ∧ d k < 256) : (((strF d n)[k]'hk).toNat : Int) = d k := by
  have h : k < n := by rwa [strF_size] at hk
  have e := sB_strF (d := d) h hd
  rw [← e]
  unfold sB
  have hk' : k < (strF d n).data.toList.length := by simpa using hk
  simp [List.getD, List.getElem?_eq_getElem hk']
  rfl
theorem strF_tail {d : Nat → Int} {n a : Nat} (h1 : a ≤ n) : (strF d n).extract a n = strF (shf d a) (n - a) := strF_ext h1 (Nat.le_refl _)


set_option maxHeartbeats 1000000 in
theorem rnumber_any (d : Nat → Int) (hd : ∀ i, 0 ≤ d i ∧ d i < 256) (n : Nat) (hn : n ≤ 4) (w : World) : Calls Try.prog 38 #[.string (strF d n)] w fun r w' =>
      r = .returned (.int .u32 (num d 0 n)) ∧ Below w.heap.size w w' := by
  have es : (strF d n).size = n := strF_size d n
  replace hd := Lib.hid hd
  go_enter Try.func38, Try.ntmps38
  go_wp2
  go_loop [3, 4] (fun a i => ∃ k : Nat, k ≤ n ∧ i = .int .i64 k ∧ a = .int .u32 (num d 0 k)) (fun _ i => n - (intOf i).toNat)
  case atStart => exact ⟨0, by omega, rfl, rfl⟩
  case round =>
    obtain ⟨k, hk, rfl, rfl⟩ := hrel
    by_cases hlt : k < n
    · have hsz : k < (strF d n).size := by rw [es]; exact hlt
      have b1 := num_lo d 0 hd.out k
      have b2 : num d 0 k < 16777216 := num_small hd.out (by omega)
      have b3 := hd.out k
      go_wp2
      go_round
      case rel =>
        refine ⟨k + 1, by omega, by go_num, ?_⟩
        rw [strF_at hsz b3]
        simp only [num]
        rw [Nat.zero_add]
        congr 1
        omega
      case measure => simp [intOf]; omega
    · obtain rfl : k = n := by omega
      go_wp2
      go_ret
      exact ⟨rfl, Below.refl _ _⟩

end Go.Proofs.Ytbmdnifkjcimcaa
