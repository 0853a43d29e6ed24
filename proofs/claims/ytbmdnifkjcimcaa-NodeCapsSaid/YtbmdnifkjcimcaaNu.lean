/-
  node.leaf and node.inner where a body does not fit; two bytes put together.
-/
import Derived.Test.YtbmdnifkjcimcaaNt
namespace Go.Proofs.Ytbmdnifkjcimcaa
set_option linter.unusedVariables false
set_option linter.unusedSimpArgs false
open Go.RowKit

theorem or2 (a b : Nat) (ha : a < 256) (hb : b < 256) : bits .or .i64 ((a : Int) * 256) (b : Int) = (a : Int) * 256 + b := by
  have e : ((a : Int) * 256) = ((a * 256 : Nat) : Int) := by omega
  rw [e]
  have hx : a * 256 ||| b < 2 ^ 16 := Nat.or_lt_two_pow (by omega) (by omega)
  have h2 := Nat.shiftLeft_add_eq_or_of_lt (a := a) (b := b) (i := 8) (by omega)
  rw [Nat.shiftLeft_eq] at h2
  have h3 : a * 256 ||| b = a * 256 + b := by rw [← h2]
  show IntKind.i64.wrap ((BitVec.ofInt 64 ((a * 256 : Nat) : Int) ||| BitVec.ofInt 64 (b : Int)).toNat : Int) = _
  rw [BitVec.toNat_or, ofInt_u64 (a * 256) (by omega), ofInt_u64 b (by omega), h3]
  rw [IntKind.wrap_i64]
  omega
/-- how many keys, or kids, a body says that it has -/
def cntY (y : Nat → Int) : Nat := (y 0 * 256 + y 1).toNat
theorem or2_cnt (y : Nat → Int) (hy : ∀ i, 0 ≤ y i ∧ y i < 256) : bits .or .i64 (y 0 * 256) (y 1) = (cntY y : Int) := by
  have h0 := hy 0
  have h1 := hy 1
  unfold cntY
  generalize y 0 = a at *
  generalize y 1 = b at *
  obtain ⟨a, rfl⟩ := Int.eq_ofNat_of_zero_le h0.1
  obtain ⟨b, rfl⟩ := Int.eq_ofNat_of_zero_le h1.1
  rw [or2 a b (by omega) (by omega)]
  omega
theorem cntY_lt (y : Nat → Int) (hy : ∀ i, 0 ≤ y i ∧ y i < 256) : cntY y < 65536 := by
  have h0 := hy 0
  have h1 := hy 1
  unfold cntY
  omega

set_option maxRecDepth 8000 in
set_option maxHeartbeats 4000000 in
theorem leaf_no (B : Option Addr) (l c count k v : Nat) (w : World) (hcn : count ≤ 65535) (hl : l ≠ count * (k + v)) (hl5 : l ≤ 498) (hk : 1 ≤ k ∧ k ≤ 24) (hv : v ≤ 108) :
    Calls Try.prog 36 #[.slice B l c, .int .i64 count, .int .i64 k, .int .i64 v] w fun e w' => e = .returned (.tuple #[.agg #[.bool false, .slice none 0 0, .slice none 0 0, .slice none 0 0], .bool false]) ∧ Below w.heap.size w w' := by
  have hP : count * (k + v) ≤ 65535 * 132 := Nat.mul_le_mul hcn (by omega)
  have hmul : ((count : Int) * ((k : Int) + v)) = ((count * (k + v) : Nat) : Int) := by push_cast; rfl
  have d1 : ((l : Int) != wrap64 ((count : Int) * ((k : Int) + v))) = true := by
    rw [hmul]
    generalize count * (k + v) = P at *
    have : wrap64 (P : Int) = P := by unfold wrap64; omega
    rw [this]; simp; omega
  clear hP hmul hl
  go_enter Try.func36, Try.ntmps36
  go_wp2_with fail
  refine bodyPost_ret (v := .tuple #[.agg #[.bool false, .slice none 0 0, .slice none 0 0, .slice none 0 0], .bool false]) (by simp [results, Try.results36, go_sem]) rfl ⟨rfl, ?_⟩
  (repeat (first | exact Below.refl _ _ | assumption | refine below_drewN ?_ _ | refine bel_grow ?_ _ | refine Below.drew ?_ | refine bel_alloc ?_ _ | refine bel_set ?_ (by first | exact Nat.le_refl _ | (simp; done) | (simp; omega) | omega) _ | refine bel_trans ?_ (by assumption)))
set_option maxRecDepth 8000 in
set_option maxHeartbeats 4000000 in
theorem inner_none (B : Option Addr) (l c k : Nat) (w : World) : Calls Try.prog 37 #[.slice B l c, .int .i64 0, .int .i64 k] w fun e w' => e = .returned (.tuple #[.agg #[.bool false, .slice none 0 0, .slice none 0 0, .slice none 0 0], .bool false]) ∧ Below w.heap.size w w' := by
  go_enter Try.func37, Try.ntmps37
  go_wp2_with fail
  refine bodyPost_ret (v := .tuple #[.agg #[.bool false, .slice none 0 0, .slice none 0 0, .slice none 0 0], .bool false]) (by simp [results, Try.results37, go_sem]) rfl ⟨rfl, ?_⟩
  (repeat (first | exact Below.refl _ _ | assumption | refine below_drewN ?_ _ | refine bel_grow ?_ _ | refine Below.drew ?_ | refine bel_alloc ?_ _ | refine bel_set ?_ (by first | exact Nat.le_refl _ | (simp; done) | (simp; omega) | omega) _ | refine bel_trans ?_ (by assumption)))
set_option maxRecDepth 8000 in
set_option maxHeartbeats 4000000 in
theorem inner_no (B : Option Addr) (l c n k : Nat) (w : World) (hcn : n ≤ 65535) (hl : l ≠ 4 + n * 4 + n * k) (hl5 : l ≤ 498) (hk : 1 ≤ k ∧ k ≤ 24) :
    Calls Try.prog 37 #[.slice B l c, .int .i64 ((n : Int) + 1), .int .i64 k] w fun e w' => e = .returned (.tuple #[.agg #[.bool false, .slice none 0 0, .slice none 0 0, .slice none 0 0], .bool false]) ∧ Below w.heap.size w w' := by
  have hP : n * k ≤ 65535 * 24 := Nat.mul_le_mul hcn (by omega)
  have hmul : ((n : Int) * (k : Int)) = ((n * k : Nat) : Int) := by push_cast; rfl
  have d1 : ((l : Int) != wrap64 (((n : Int) + 1) * 4 + wrap64 ((n : Int) * (k : Int)))) = true := by
    rw [hmul]
    generalize n * k = P at *
    have e1 : wrap64 (P : Int) = P := by unfold wrap64; omega
    have e2 : wrap64 (((n : Int) + 1) * 4 + P) = ((4 + n * 4 + P : Nat) : Int) := by unfold wrap64; omega
    rw [e1, e2]; simp; omega
  have d0 : decide ((n : Int) + 1 < 1) = false := decide_eq_false (by omega)
  clear hP hmul hl
  go_enter Try.func37, Try.ntmps37
  go_wp2_with fail
  refine bodyPost_ret (v := .tuple #[.agg #[.bool false, .slice none 0 0, .slice none 0 0, .slice none 0 0], .bool false]) (by simp [results, Try.results37, go_sem]) rfl ⟨rfl, ?_⟩
  (repeat (first | exact Below.refl _ _ | assumption | refine below_drewN ?_ _ | refine bel_grow ?_ _ | refine Below.drew ?_ | refine bel_alloc ?_ _ | refine bel_set ?_ (by first | exact Nat.le_refl _ | (simp; done) | (simp; omega) | omega) _ | refine bel_trans ?_ (by assumption)))
end Go.Proofs.Ytbmdnifkjcimcaa
