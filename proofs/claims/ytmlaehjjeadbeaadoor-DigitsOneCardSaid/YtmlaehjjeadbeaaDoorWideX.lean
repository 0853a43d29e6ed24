/-
  Sums, differences and order of two numbers of 128 bits: the program's functions walked.
-/
import Derived.Test.YtmlaehjjeadbeaaDoorEq
import Derived.Test.YtmlaehjjeadbeaaDoorWideV
import Derived.Shelf.Spec.BitsCarry
namespace Go.Proofs.YtmlaehjjeadbeaaDoor
set_option linter.unusedVariables false
set_option linter.unusedSimpArgs false
open Go.RowKit

theorem add64 (x y c : Int) (hx : 0 ≤ x) (hy : 0 ≤ y) (hc0 : 0 ≤ c) (hc : c ≤ 1) (w : World) : (callFunc 23 #[.int .u64 x, .int .u64 y, .int .u64 c]).run Tryd.prog w =
    .ok (.value (.tuple #[.int .u64 ((x + y + c) % 18446744073709551616), .int .u64 ((x + y + c) / 18446744073709551616)])) w := by
  obtain ⟨x, rfl⟩ := Int.eq_ofNat_of_zero_le hx
  obtain ⟨y, rfl⟩ := Int.eq_ofNat_of_zero_le hy
  obtain ⟨c, rfl⟩ := Int.eq_ofNat_of_zero_le hc0
  rw [run_callFunc_extern Tryd.func23 (by kernel_rfl) (by kernel_rfl) (by kernel_rfl) (e := add64Entry) (by kernel_rfl), run_add64 x y c (by omega) (by omega) (by omega) (by omega)]
  rfl

theorem add64_0 (x y : Int) (hx : 0 ≤ x) (hy : 0 ≤ y) (w : World) : (callFunc 23 #[.int .u64 x, .int .u64 y, .int .u64 0]).run Tryd.prog w =
    .ok (.value (.tuple #[.int .u64 ((x + y) % 18446744073709551616), .int .u64 ((x + y) / 18446744073709551616)])) w := by
  simpa using add64 x y 0 hx hy (Int.le_refl 0) (by decide) w

/-- is there a sum? its halves, 0 if there is none -/
def addB (a b c d : Int) : Bool := decide (a * 18446744073709551616 + b + (c * 18446744073709551616 + d) < 340282366920938463463374607431768211456)
def addH (a b c d : Int) : Int := if addB a b c d then (a + c + (b + d) / 18446744073709551616) else 0
def addL (a b c d : Int) : Int := if addB a b c d then (b + d) % 18446744073709551616 else 0
def subB (a b c d : Int) : Bool := decide (c * 18446744073709551616 + d ≤ a * 18446744073709551616 + b)
def subH (a b c d : Int) : Int := if subB a b c d then (a - c - (if b < d then 1 else 0)) else 0
def subL (a b c d : Int) : Int := if subB a b c d then (b - d) % 18446744073709551616 else 0

theorem add_u {a b c d : Int} (ha : Wd a) (hb : Wd b) (hc : Wd c) (hd : Wd d) : Wd (addH a b c d) ∧ Wd (addL a b c d) := by
  unfold Wd addH addL addB at *
  split
  · rename_i h; simp at h; omega
  · omega
theorem sub_u {a b c d : Int} (ha : Wd a) (hb : Wd b) (hc : Wd c) (hd : Wd d) : Wd (subH a b c d) ∧ Wd (subL a b c d) := by
  unfold Wd subH subL subB at *
  split
  · rename_i h; simp at h; split <;> omega
  · omega

theorem add_any (a b c d : Int) (ha : Wd a) (hb : Wd b) (hc : Wd c) (hd : Wd d) (w : World) : Calls Tryd.prog 24 #[.agg #[.int .u64 a, .int .u64 b], .agg #[.int .u64 c, .int .u64 d]] w fun r w' =>
      r = .returned (.tuple #[.agg #[.int .u64 (addH a b c d), .int .u64 (addL a b c d)], .bool (addB a b c d)]) ∧ Below w.heap.size w w' := by
  unfold Wd at *
  have h0 : 0 ≤ (b + d) / 18446744073709551616 := by omega
  have h1 : (b + d) / 18446744073709551616 ≤ 1 := by omega
  cases hB : addB a b c d
  · have e1 : addH a b c d = 0 := by simp [addH, hB]
    have e2 : addL a b c d = 0 := by simp [addL, hB]
    rw [e1, e2]
    have k : ((a + c + (b + d) / 18446744073709551616) / 18446744073709551616 != 0) = true := by simp [addB] at hB; rw [bne_iff_ne]; omega
    clear hB e1 e2
    go_enter Tryd.func24, Tryd.ntmps24
    go_wp2_with (first | simp only [add64_0 b d hb.1 hd.1] | simp only [add64 a c _ ha.1 hc.1 h0 h1])
    refine bodyPost_ret (v := .tuple #[.agg #[.int .u64 0, .int .u64 0], .bool false]) (by simp [results, Tryd.results24, go_sem]) rfl ⟨rfl, ?_⟩
    (repeat (first | exact Below.refl _ _ | assumption | refine below_drewN ?_ _ | refine bel_grow ?_ _ | refine Below.drew ?_ | refine bel_alloc ?_ _ | refine bel_set ?_ (by first | exact Nat.le_refl _ | (simp; done) | (simp; omega) | omega) _ | refine bel_trans ?_ (by assumption)))
  · have e1 : addH a b c d = (a + c + (b + d) / 18446744073709551616) % 18446744073709551616 := by simp [addH, hB]; simp [addB] at hB; omega
    have e2 : addL a b c d = (b + d) % 18446744073709551616 := by simp [addL, hB]
    rw [e1, e2]
    have k : ((a + c + (b + d) / 18446744073709551616) / 18446744073709551616 != 0) = false := by simp [addB] at hB; rw [bne_eq_false_iff_eq]; omega
    clear hB e1 e2
    go_enter Tryd.func24, Tryd.ntmps24
    go_wp2_with (first | simp only [add64_0 b d hb.1 hd.1] | simp only [add64 a c _ ha.1 hc.1 h0 h1])
    refine bodyPost_ret (v := .tuple #[.agg #[.int .u64 ((a + c + (b + d) / 18446744073709551616) % 18446744073709551616), .int .u64 ((b + d) % 18446744073709551616)], .bool true]) (by simp [results, Tryd.results24, go_sem]) rfl ⟨rfl, ?_⟩
    (repeat (first | exact Below.refl _ _ | assumption | refine below_drewN ?_ _ | refine bel_grow ?_ _ | refine Below.drew ?_ | refine bel_alloc ?_ _ | refine bel_set ?_ (by first | exact Nat.le_refl _ | (simp; done) | (simp; omega) | omega) _ | refine bel_trans ?_ (by assumption)))



end Go.Proofs.YtmlaehjjeadbeaaDoor
