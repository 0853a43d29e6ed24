/-
  Accounts, transfers, balances, filters and results of bytes: the program's, walked.
-/
import Derived.Test.YtncampbmnbhikaaJ9
namespace Go.Proofs.Ytncampbmnbhikaa
set_option linter.unusedVariables false
set_option linter.unusedSimpArgs false
open Go.RowKit

set_option maxRecDepth 8000 in
set_option maxHeartbeats 1000000 in
theorem getFilter_no (A : Option Addr) (n c : Nat) (hn : n ≤ maxLen) (h : n ≠ 40) (w : World) : Calls Try.prog 68 #[.slice A n c] w fun r w' => r = .returned (.tuple #[.agg #[.int .u64 0, .int .u64 0, .int .u64 0, .int .u64 0, .int .u32 0, .int .u32 0], .bool false]) ∧ Below w.heap.size w w' := by
  unfold maxLen at hn
  have h' : ((n : Int) != 40) = true := by rw [bne_iff_ne]; omega
  go_enter Try.func68, Try.ntmps68
  go_wp2
  refine bodyPost_ret (v := .tuple #[.agg #[.int .u64 0, .int .u64 0, .int .u64 0, .int .u64 0, .int .u32 0, .int .u32 0], .bool false]) (by simp [results, Try.results68, go_sem]) rfl ⟨rfl, ?_⟩
  (repeat (first | exact Below.refl _ _ | assumption | refine below_drewN ?_ _ | refine bel_grow ?_ _ | refine Below.drew ?_ | refine bel_alloc ?_ _ | refine bel_set ?_ (by first | exact Nat.le_refl _ | (simp; done) | (simp; omega) | omega) _ | refine bel_trans ?_ (by assumption)))
set_option maxRecDepth 8000 in
set_option maxHeartbeats 8000000 in
theorem getFilter_yes (A : Option Addr) (c : Nat) (e : Nat → Int) (he : ∀ i, 0 ≤ e i ∧ e i < 256) (hmc : 40 ≤ c) (hc : c ≤ maxLen) (w : World) (hs : SlIs w A 40 (yV e)) : Calls Try.prog 68 #[.slice A 40 c] w fun r w' => r = .returned (.tuple #[.agg #[.int .u64 (num e 0 8), .int .u64 (num e 8 8), .int .u64 (num e 16 8), .int .u64 (num e 24 8), .int .u32 (num e 32 4), .int .u32 (num e 36 4)], .bool true]) ∧ Below w.heap.size w w' := by
  replace hs := Lib.hid (slis_shf0 hs)
  replace he := Lib.hid he
  have l32 := num_four he.out 32
  have l36 := num_four he.out 36
  go_enter Try.func68, Try.ntmps68
  go_wp2_with fail
  refine (twide_at (w.heap.size + 1) w _ 40 24 _ 0 e he.out rfl hmc hc _ hs.out ?_ (by omega) ?_ ?_).mono ?_
  · (repeat (first | exact Below.refl _ _ | assumption | refine below_drewN ?_ _ | refine bel_grow ?_ _ | refine Below.drew ?_ | refine bel_alloc ?_ _ | refine bel_set ?_ (by first | exact Nat.le_refl _ | (simp; done) | (simp; omega) | omega) _ | refine bel_trans ?_ (by assumption)))
  · simp [go_sem]
  · simp [go_sem]
  rintro e1 w1 ⟨A1, c1, rfl, hm1, hc1, hs1, rfl⟩
  replace hs1 := Lib.hid hs1
  clear hmc hc
  go_wp2_with fail
  refine (tnum_at (w.heap.size + 1) w _ 24 16 _ 8 16 _ rfl e he.out (by omega) (by omega) rfl hm1 hc1 _ hs1.out ?_ ?_ ?_).mono ?_
  · (repeat (first | exact Below.refl _ _ | assumption | refine below_drewN ?_ _ | refine bel_grow ?_ _ | refine Below.drew ?_ | refine bel_alloc ?_ _ | refine bel_set ?_ (by first | exact Nat.le_refl _ | (simp; done) | (simp; omega) | omega) _ | refine bel_trans ?_ (by assumption)))
  · simp [go_sem]
  · simp [go_sem]
  rintro e2 w2 ⟨A2, c2, rfl, hm2, hc2, hs2, rfl⟩
  replace hs2 := Lib.hid hs2
  clear hs1 hm1 hc1
  go_wp2_with fail
  refine (tnum_at (w.heap.size + 1) w _ 16 8 _ 8 24 _ rfl e he.out (by omega) (by omega) rfl hm2 hc2 _ hs2.out ?_ ?_ ?_).mono ?_
  · (repeat (first | exact Below.refl _ _ | assumption | refine below_drewN ?_ _ | refine bel_grow ?_ _ | refine Below.drew ?_ | refine bel_alloc ?_ _ | refine bel_set ?_ (by first | exact Nat.le_refl _ | (simp; done) | (simp; omega) | omega) _ | refine bel_trans ?_ (by assumption)))
  · simp [go_sem]
  · simp [go_sem]
  rintro e3 w3 ⟨A3, c3, rfl, hm3, hc3, hs3, rfl⟩
  replace hs3 := Lib.hid hs3
  clear hs2 hm2 hc2
  go_wp2_with fail
  refine (tnum_at (w.heap.size + 1) w _ 8 4 _ 4 32 _ rfl e he.out (by omega) (by omega) rfl hm3 hc3 _ hs3.out ?_ ?_ ?_).mono ?_
  · (repeat (first | exact Below.refl _ _ | assumption | refine below_drewN ?_ _ | refine bel_grow ?_ _ | refine Below.drew ?_ | refine bel_alloc ?_ _ | refine bel_set ?_ (by first | exact Nat.le_refl _ | (simp; done) | (simp; omega) | omega) _ | refine bel_trans ?_ (by assumption)))
  · simp [go_sem]
  · simp [go_sem]
  rintro e4 w4 ⟨A4, c4, rfl, hm4, hc4, hs4, rfl⟩
  replace hs4 := Lib.hid hs4
  clear hs3 hm3 hc3
  go_wp2_with fail
  refine (tnum_at (w.heap.size + 1) w _ 4 0 _ 4 36 _ rfl e he.out (by omega) (by omega) rfl hm4 hc4 _ hs4.out ?_ ?_ ?_).mono ?_
  · (repeat (first | exact Below.refl _ _ | assumption | refine below_drewN ?_ _ | refine bel_grow ?_ _ | refine Below.drew ?_ | refine bel_alloc ?_ _ | refine bel_set ?_ (by first | exact Nat.le_refl _ | (simp; done) | (simp; omega) | omega) _ | refine bel_trans ?_ (by assumption)))
  · simp [go_sem]
  · simp [go_sem]
  rintro e5 w5 ⟨A5, c5, rfl, hm5, hc5, hs5, rfl⟩
  replace hs5 := Lib.hid hs5
  clear hs4 hm4 hc4
  go_wp2_with fail
  refine bodyPost_ret (v := .tuple #[.agg #[.int .u64 (num e 0 8), .int .u64 (num e 8 8), .int .u64 (num e 16 8), .int .u64 (num e 24 8), .int .u32 (num e 32 4), .int .u32 (num e 36 4)], .bool true]) (by simp [results, Try.results68, go_sem]) rfl ⟨rfl, ?_⟩
  (repeat (first | exact Below.refl _ _ | assumption | refine below_drewN ?_ _ | refine bel_grow ?_ _ | refine Below.drew ?_ | refine bel_alloc ?_ _ | refine bel_set ?_ (by first | exact Nat.le_refl _ | (simp; done) | (simp; omega) | omega) _ | refine bel_trans ?_ (by assumption)))

set_option maxRecDepth 8000 in
set_option maxHeartbeats 1000000 in
theorem getResult_no (A : Option Addr) (n c : Nat) (hn : n ≤ maxLen) (h : n ≠ 8) (w : World) : Calls Try.prog 32 #[.slice A n c] w fun r w' => r = .returned (.tuple #[.agg #[.int .u32 0, .int .u32 0], .bool false]) ∧ Below w.heap.size w w' := by
  unfold maxLen at hn
  have h' : ((n : Int) != 8) = true := by rw [bne_iff_ne]; omega
  go_enter Try.func32, Try.ntmps32
  go_wp2
  refine bodyPost_ret (v := .tuple #[.agg #[.int .u32 0, .int .u32 0], .bool false]) (by simp [results, Try.results32, go_sem]) rfl ⟨rfl, ?_⟩
  (repeat (first | exact Below.refl _ _ | assumption | refine below_drewN ?_ _ | refine bel_grow ?_ _ | refine Below.drew ?_ | refine bel_alloc ?_ _ | refine bel_set ?_ (by first | exact Nat.le_refl _ | (simp; done) | (simp; omega) | omega) _ | refine bel_trans ?_ (by assumption)))
set_option maxRecDepth 8000 in
set_option maxHeartbeats 8000000 in
theorem getResult_yes (A : Option Addr) (c : Nat) (e : Nat → Int) (he : ∀ i, 0 ≤ e i ∧ e i < 256) (hmc : 8 ≤ c) (hc : c ≤ maxLen) (w : World) (hs : SlIs w A 8 (yV e)) : Calls Try.prog 32 #[.slice A 8 c] w fun r w' => r = .returned (.tuple #[.agg #[.int .u32 (num e 0 4), .int .u32 (num e 4 4)], .bool true]) ∧ Below w.heap.size w w' := by
  replace hs := Lib.hid (slis_shf0 hs)
  replace he := Lib.hid he
  have l0 := num_four he.out 0
  have l4 := num_four he.out 4
  go_enter Try.func32, Try.ntmps32
  go_wp2_with fail
  refine (tnum_at (w.heap.size + 1) w _ 8 4 _ 4 0 _ rfl e he.out (by omega) (by omega) rfl hmc hc _ hs.out ?_ ?_ ?_).mono ?_
  · (repeat (first | exact Below.refl _ _ | assumption | refine below_drewN ?_ _ | refine bel_grow ?_ _ | refine Below.drew ?_ | refine bel_alloc ?_ _ | refine bel_set ?_ (by first | exact Nat.le_refl _ | (simp; done) | (simp; omega) | omega) _ | refine bel_trans ?_ (by assumption)))
  · simp [go_sem]
  · simp [go_sem]
  rintro e1 w1 ⟨A1, c1, rfl, hm1, hc1, hs1, rfl⟩
  replace hs1 := Lib.hid hs1
  clear hmc hc
  go_wp2_with fail
  refine (tnum_at (w.heap.size + 1) w _ 4 0 _ 4 4 _ rfl e he.out (by omega) (by omega) rfl hm1 hc1 _ hs1.out ?_ ?_ ?_).mono ?_
  · (repeat (first | exact Below.refl _ _ | assumption | refine below_drewN ?_ _ | refine bel_grow ?_ _ | refine Below.drew ?_ | refine bel_alloc ?_ _ | refine bel_set ?_ (by first | exact Nat.le_refl _ | (simp; done) | (simp; omega) | omega) _ | refine bel_trans ?_ (by assumption)))
  · simp [go_sem]
  · simp [go_sem]
  rintro e2 w2 ⟨A2, c2, rfl, hm2, hc2, hs2, rfl⟩
  replace hs2 := Lib.hid hs2
  clear hs1 hm1 hc1
  go_wp2_with fail
  refine bodyPost_ret (v := .tuple #[.agg #[.int .u32 (num e 0 4), .int .u32 (num e 4 4)], .bool true]) (by simp [results, Try.results32, go_sem]) rfl ⟨rfl, ?_⟩
  (repeat (first | exact Below.refl _ _ | assumption | refine below_drewN ?_ _ | refine bel_grow ?_ _ | refine Below.drew ?_ | refine bel_alloc ?_ _ | refine bel_set ?_ (by first | exact Nat.le_refl _ | (simp; done) | (simp; omega) | omega) _ | refine bel_trans ?_ (by assumption)))

set_option maxRecDepth 8000 in
set_option maxHeartbeats 1000000 in
theorem getBalance_no (A : Option Addr) (n c : Nat) (hn : n ≤ maxLen) (h : n ≠ 72) (w : World) : Calls Try.prog 38 #[.slice A n c] w fun r w' => r = .returned (.tuple #[.agg #[.int .u64 0, .int .u64 0, .int .u64 0, .int .u64 0, .int .u64 0, .int .u64 0, .int .u64 0, .int .u64 0, .int .u64 0], .bool false]) ∧ Below w.heap.size w w' := by
  unfold maxLen at hn
  have h' : ((n : Int) != 72) = true := by rw [bne_iff_ne]; omega
  go_enter Try.func38, Try.ntmps38
  go_wp2
  refine bodyPost_ret (v := .tuple #[.agg #[.int .u64 0, .int .u64 0, .int .u64 0, .int .u64 0, .int .u64 0, .int .u64 0, .int .u64 0, .int .u64 0, .int .u64 0], .bool false]) (by simp [results, Try.results38, go_sem]) rfl ⟨rfl, ?_⟩
  (repeat (first | exact Below.refl _ _ | assumption | refine below_drewN ?_ _ | refine bel_grow ?_ _ | refine Below.drew ?_ | refine bel_alloc ?_ _ | refine bel_set ?_ (by first | exact Nat.le_refl _ | (simp; done) | (simp; omega) | omega) _ | refine bel_trans ?_ (by assumption)))
set_option maxRecDepth 8000 in
set_option maxHeartbeats 8000000 in
theorem getBalance_yes (A : Option Addr) (c : Nat) (e : Nat → Int) (he : ∀ i, 0 ≤ e i ∧ e i < 256) (hmc : 72 ≤ c) (hc : c ≤ maxLen) (w : World) (hs : SlIs w A 72 (yV e)) : Calls Try.prog 38 #[.slice A 72 c] w fun r w' => r = .returned (.tuple #[.agg #[.int .u64 (num e 0 8), .int .u64 (num e 8 8), .int .u64 (num e 16 8), .int .u64 (num e 24 8), .int .u64 (num e 32 8), .int .u64 (num e 40 8), .int .u64 (num e 48 8), .int .u64 (num e 56 8), .int .u64 (num e 64 8)], .bool true]) ∧ Below w.heap.size w w' := by
  replace hs := Lib.hid (slis_shf0 hs)
  replace he := Lib.hid he
  go_enter Try.func38, Try.ntmps38
  go_wp2_with fail
  refine wp_loop_rounds 5 ?_
  rw [rounds_succ]
  go_wp2_with fail
  refine (twide_at (w.heap.size + 1) w _ 72 56 _ 0 e he.out rfl hmc hc _ hs.out ?_ (by omega) ?_ ?_).mono ?_
  · (repeat (first | exact Below.refl _ _ | assumption | refine below_drewN ?_ _ | refine bel_grow ?_ _ | refine Below.drew ?_ | refine bel_alloc ?_ _ | refine bel_set ?_ (by first | exact Nat.le_refl _ | (simp; done) | (simp; omega) | omega) _ | refine bel_trans ?_ (by assumption)))
  · simp [go_sem]
  · simp [go_sem]
  rintro e1 w1 ⟨A1, c1, rfl, hm1, hc1, hs1, rfl⟩
  replace hs1 := Lib.hid hs1
  clear hmc hc
  go_wp2_with fail
  rw [rounds_succ]
  go_wp2_with fail
  refine (twide_at (w.heap.size + 1) w _ 56 40 _ 16 e he.out rfl hm1 hc1 _ hs1.out ?_ (by omega) ?_ ?_).mono ?_
  · (repeat (first | exact Below.refl _ _ | assumption | refine below_drewN ?_ _ | refine bel_grow ?_ _ | refine Below.drew ?_ | refine bel_alloc ?_ _ | refine bel_set ?_ (by first | exact Nat.le_refl _ | (simp; done) | (simp; omega) | omega) _ | refine bel_trans ?_ (by assumption)))
  · simp [go_sem]
  · simp [go_sem]
  rintro e2 w2 ⟨A2, c2, rfl, hm2, hc2, hs2, rfl⟩
  replace hs2 := Lib.hid hs2
  clear hs1 hm1 hc1
  go_wp2_with fail
  rw [rounds_succ]
  go_wp2_with fail
  refine (twide_at (w.heap.size + 1) w _ 40 24 _ 32 e he.out rfl hm2 hc2 _ hs2.out ?_ (by omega) ?_ ?_).mono ?_
  · (repeat (first | exact Below.refl _ _ | assumption | refine below_drewN ?_ _ | refine bel_grow ?_ _ | refine Below.drew ?_ | refine bel_alloc ?_ _ | refine bel_set ?_ (by first | exact Nat.le_refl _ | (simp; done) | (simp; omega) | omega) _ | refine bel_trans ?_ (by assumption)))
  · simp [go_sem]
  · simp [go_sem]
  rintro e3 w3 ⟨A3, c3, rfl, hm3, hc3, hs3, rfl⟩
  replace hs3 := Lib.hid hs3
  clear hs2 hm2 hc2
  go_wp2_with fail
  rw [rounds_succ]
  go_wp2_with fail
  refine (twide_at (w.heap.size + 1) w _ 24 8 _ 48 e he.out rfl hm3 hc3 _ hs3.out ?_ (by omega) ?_ ?_).mono ?_
  · (repeat (first | exact Below.refl _ _ | assumption | refine below_drewN ?_ _ | refine bel_grow ?_ _ | refine Below.drew ?_ | refine bel_alloc ?_ _ | refine bel_set ?_ (by first | exact Nat.le_refl _ | (simp; done) | (simp; omega) | omega) _ | refine bel_trans ?_ (by assumption)))
  · simp [go_sem]
  · simp [go_sem]
  rintro e4 w4 ⟨A4, c4, rfl, hm4, hc4, hs4, rfl⟩
  replace hs4 := Lib.hid hs4
  clear hs3 hm3 hc3
  go_wp2_with fail
  rw [rounds_succ]
  go_wp2_with fail
  refine (tnum_at (w.heap.size + 1) w _ 8 0 _ 8 64 _ rfl e he.out (by omega) (by omega) rfl hm4 hc4 _ hs4.out ?_ ?_ ?_).mono ?_
  · (repeat (first | exact Below.refl _ _ | assumption | refine below_drewN ?_ _ | refine bel_grow ?_ _ | refine Below.drew ?_ | refine bel_alloc ?_ _ | refine bel_set ?_ (by first | exact Nat.le_refl _ | (simp; done) | (simp; omega) | omega) _ | refine bel_trans ?_ (by assumption)))
  · simp [go_sem]
  · simp [go_sem]
  rintro e5 w5 ⟨A5, c5, rfl, hm5, hc5, hs5, rfl⟩
  replace hs5 := Lib.hid hs5
  clear hs4 hm4 hc4
  go_wp2_with fail
  refine bodyPost_ret (v := .tuple #[.agg #[.int .u64 (num e 0 8), .int .u64 (num e 8 8), .int .u64 (num e 16 8), .int .u64 (num e 24 8), .int .u64 (num e 32 8), .int .u64 (num e 40 8), .int .u64 (num e 48 8), .int .u64 (num e 56 8), .int .u64 (num e 64 8)], .bool true]) (by simp [results, Try.results38, go_sem]) rfl ⟨rfl, ?_⟩
  (repeat (first | exact Below.refl _ _ | assumption | refine below_drewN ?_ _ | refine bel_grow ?_ _ | refine Below.drew ?_ | refine bel_alloc ?_ _ | refine bel_set ?_ (by first | exact Nat.le_refl _ | (simp; done) | (simp; omega) | omega) _ | refine bel_trans ?_ (by assumption)))

set_option maxRecDepth 8000 in
set_option maxHeartbeats 1000000 in
theorem getAccount_no (A : Option Addr) (n c : Nat) (hn : n ≤ maxLen) (h : n ≠ 104) (w : World) : Calls Try.prog 34 #[.slice A n c] w fun r w' => r = .returned (.tuple #[.agg #[.int .u64 0, .int .u64 0, .int .u64 0, .int .u64 0, .int .u64 0, .int .u64 0, .int .u64 0, .int .u64 0, .int .u64 0, .int .u64 0, .int .u64 0, .int .u32 0, .int .u16 0, .int .u16 0, .int .u64 0], .bool false]) ∧ Below w.heap.size w w' := by
  unfold maxLen at hn
  have h' : ((n : Int) != 104) = true := by rw [bne_iff_ne]; omega
  go_enter Try.func34, Try.ntmps34
  go_wp2
  refine bodyPost_ret (v := .tuple #[.agg #[.int .u64 0, .int .u64 0, .int .u64 0, .int .u64 0, .int .u64 0, .int .u64 0, .int .u64 0, .int .u64 0, .int .u64 0, .int .u64 0, .int .u64 0, .int .u32 0, .int .u16 0, .int .u16 0, .int .u64 0], .bool false]) (by simp [results, Try.results34, go_sem]) rfl ⟨rfl, ?_⟩
  (repeat (first | exact Below.refl _ _ | assumption | refine below_drewN ?_ _ | refine bel_grow ?_ _ | refine Below.drew ?_ | refine bel_alloc ?_ _ | refine bel_set ?_ (by first | exact Nat.le_refl _ | (simp; done) | (simp; omega) | omega) _ | refine bel_trans ?_ (by assumption)))
set_option maxRecDepth 8000 in
set_option maxHeartbeats 8000000 in
theorem getAccount_yes (A : Option Addr) (c : Nat) (e : Nat → Int) (he : ∀ i, 0 ≤ e i ∧ e i < 256) (hmc : 104 ≤ c) (hc : c ≤ maxLen) (w : World) (hs : SlIs w A 104 (yV e)) : Calls Try.prog 34 #[.slice A 104 c] w fun r w' => r = .returned (.tuple #[.agg #[.int .u64 (num e 0 8), .int .u64 (num e 8 8), .int .u64 (num e 16 8), .int .u64 (num e 24 8), .int .u64 (num e 32 8), .int .u64 (num e 40 8), .int .u64 (num e 48 8), .int .u64 (num e 56 8), .int .u64 (num e 64 8), .int .u64 (num e 72 8), .int .u64 (num e 80 8), .int .u32 (num e 88 4), .int .u16 (num e 92 2), .int .u16 (num e 94 2), .int .u64 (num e 96 8)], .bool true]) ∧ Below w.heap.size w w' := by
  replace hs := Lib.hid (slis_shf0 hs)
  replace he := Lib.hid he
  have l88 := num_four he.out 88
  have l92 := num_two he.out 92
  have l94 := num_two he.out 94
  go_enter Try.func34, Try.ntmps34
  go_wp2_with fail
  refine wp_loop_rounds 6 ?_
  rw [rounds_succ]
  go_wp2_with fail
  refine (twide_at (w.heap.size + 1) w _ 104 88 _ 0 e he.out rfl hmc hc _ hs.out ?_ (by omega) ?_ ?_).mono ?_
  · (repeat (first | exact Below.refl _ _ | assumption | refine below_drewN ?_ _ | refine bel_grow ?_ _ | refine Below.drew ?_ | refine bel_alloc ?_ _ | refine bel_set ?_ (by first | exact Nat.le_refl _ | (simp; done) | (simp; omega) | omega) _ | refine bel_trans ?_ (by assumption)))
  · simp [go_sem]
  · simp [go_sem]
  rintro e1 w1 ⟨A1, c1, rfl, hm1, hc1, hs1, rfl⟩
  replace hs1 := Lib.hid hs1
  clear hmc hc
  go_wp2_with fail
  rw [rounds_succ]
  go_wp2_with fail
  refine (twide_at (w.heap.size + 1) w _ 88 72 _ 16 e he.out rfl hm1 hc1 _ hs1.out ?_ (by omega) ?_ ?_).mono ?_
  · (repeat (first | exact Below.refl _ _ | assumption | refine below_drewN ?_ _ | refine bel_grow ?_ _ | refine Below.drew ?_ | refine bel_alloc ?_ _ | refine bel_set ?_ (by first | exact Nat.le_refl _ | (simp; done) | (simp; omega) | omega) _ | refine bel_trans ?_ (by assumption)))
  · simp [go_sem]
  · simp [go_sem]
  rintro e2 w2 ⟨A2, c2, rfl, hm2, hc2, hs2, rfl⟩
  replace hs2 := Lib.hid hs2
  clear hs1 hm1 hc1
  go_wp2_with fail
  rw [rounds_succ]
  go_wp2_with fail
  refine (twide_at (w.heap.size + 1) w _ 72 56 _ 32 e he.out rfl hm2 hc2 _ hs2.out ?_ (by omega) ?_ ?_).mono ?_
  · (repeat (first | exact Below.refl _ _ | assumption | refine below_drewN ?_ _ | refine bel_grow ?_ _ | refine Below.drew ?_ | refine bel_alloc ?_ _ | refine bel_set ?_ (by first | exact Nat.le_refl _ | (simp; done) | (simp; omega) | omega) _ | refine bel_trans ?_ (by assumption)))
  · simp [go_sem]
  · simp [go_sem]
  rintro e3 w3 ⟨A3, c3, rfl, hm3, hc3, hs3, rfl⟩
  replace hs3 := Lib.hid hs3
  clear hs2 hm2 hc2
  go_wp2_with fail
  rw [rounds_succ]
  go_wp2_with fail
  refine (twide_at (w.heap.size + 1) w _ 56 40 _ 48 e he.out rfl hm3 hc3 _ hs3.out ?_ (by omega) ?_ ?_).mono ?_
  · (repeat (first | exact Below.refl _ _ | assumption | refine below_drewN ?_ _ | refine bel_grow ?_ _ | refine Below.drew ?_ | refine bel_alloc ?_ _ | refine bel_set ?_ (by first | exact Nat.le_refl _ | (simp; done) | (simp; omega) | omega) _ | refine bel_trans ?_ (by assumption)))
  · simp [go_sem]
  · simp [go_sem]
  rintro e4 w4 ⟨A4, c4, rfl, hm4, hc4, hs4, rfl⟩
  replace hs4 := Lib.hid hs4
  clear hs3 hm3 hc3
  go_wp2_with fail
  rw [rounds_succ]
  go_wp2_with fail
  refine (twide_at (w.heap.size + 1) w _ 40 24 _ 64 e he.out rfl hm4 hc4 _ hs4.out ?_ (by omega) ?_ ?_).mono ?_
  · (repeat (first | exact Below.refl _ _ | assumption | refine below_drewN ?_ _ | refine bel_grow ?_ _ | refine Below.drew ?_ | refine bel_alloc ?_ _ | refine bel_set ?_ (by first | exact Nat.le_refl _ | (simp; done) | (simp; omega) | omega) _ | refine bel_trans ?_ (by assumption)))
  · simp [go_sem]
  · simp [go_sem]
  rintro e5 w5 ⟨A5, c5, rfl, hm5, hc5, hs5, rfl⟩
  replace hs5 := Lib.hid hs5
  clear hs4 hm4 hc4
  go_wp2_with fail
  rw [rounds_succ]
  go_wp2_with fail
  refine (tnum_at (w.heap.size + 1) w _ 24 16 _ 8 80 _ rfl e he.out (by omega) (by omega) rfl hm5 hc5 _ hs5.out ?_ ?_ ?_).mono ?_
  · (repeat (first | exact Below.refl _ _ | assumption | refine below_drewN ?_ _ | refine bel_grow ?_ _ | refine Below.drew ?_ | refine bel_alloc ?_ _ | refine bel_set ?_ (by first | exact Nat.le_refl _ | (simp; done) | (simp; omega) | omega) _ | refine bel_trans ?_ (by assumption)))
  · simp [go_sem]
  · simp [go_sem]
  rintro e6 w6 ⟨A6, c6, rfl, hm6, hc6, hs6, rfl⟩
  replace hs6 := Lib.hid hs6
  clear hs5 hm5 hc5
  go_wp2_with fail
  refine (tnum_at (w.heap.size + 1) w _ 16 12 _ 4 88 _ rfl e he.out (by omega) (by omega) rfl hm6 hc6 _ hs6.out ?_ ?_ ?_).mono ?_
  · (repeat (first | exact Below.refl _ _ | assumption | refine below_drewN ?_ _ | refine bel_grow ?_ _ | refine Below.drew ?_ | refine bel_alloc ?_ _ | refine bel_set ?_ (by first | exact Nat.le_refl _ | (simp; done) | (simp; omega) | omega) _ | refine bel_trans ?_ (by assumption)))
  · simp [go_sem]
  · simp [go_sem]
  rintro e7 w7 ⟨A7, c7, rfl, hm7, hc7, hs7, rfl⟩
  replace hs7 := Lib.hid hs7
  clear hs6 hm6 hc6
  go_wp2_with fail
  refine (tnum_at (w.heap.size + 1) w _ 12 10 _ 2 92 _ rfl e he.out (by omega) (by omega) rfl hm7 hc7 _ hs7.out ?_ ?_ ?_).mono ?_
  · (repeat (first | exact Below.refl _ _ | assumption | refine below_drewN ?_ _ | refine bel_grow ?_ _ | refine Below.drew ?_ | refine bel_alloc ?_ _ | refine bel_set ?_ (by first | exact Nat.le_refl _ | (simp; done) | (simp; omega) | omega) _ | refine bel_trans ?_ (by assumption)))
  · simp [go_sem]
  · simp [go_sem]
  rintro e8 w8 ⟨A8, c8, rfl, hm8, hc8, hs8, rfl⟩
  replace hs8 := Lib.hid hs8
  clear hs7 hm7 hc7
  go_wp2_with fail
  refine (tnum_at (w.heap.size + 1) w _ 10 8 _ 2 94 _ rfl e he.out (by omega) (by omega) rfl hm8 hc8 _ hs8.out ?_ ?_ ?_).mono ?_
  · (repeat (first | exact Below.refl _ _ | assumption | refine below_drewN ?_ _ | refine bel_grow ?_ _ | refine Below.drew ?_ | refine bel_alloc ?_ _ | refine bel_set ?_ (by first | exact Nat.le_refl _ | (simp; done) | (simp; omega) | omega) _ | refine bel_trans ?_ (by assumption)))
  · simp [go_sem]
  · simp [go_sem]
  rintro e9 w9 ⟨A9, c9, rfl, hm9, hc9, hs9, rfl⟩
  replace hs9 := Lib.hid hs9
  clear hs8 hm8 hc8
  go_wp2_with fail
  refine (tnum_at (w.heap.size + 1) w _ 8 0 _ 8 96 _ rfl e he.out (by omega) (by omega) rfl hm9 hc9 _ hs9.out ?_ ?_ ?_).mono ?_
  · (repeat (first | exact Below.refl _ _ | assumption | refine below_drewN ?_ _ | refine bel_grow ?_ _ | refine Below.drew ?_ | refine bel_alloc ?_ _ | refine bel_set ?_ (by first | exact Nat.le_refl _ | (simp; done) | (simp; omega) | omega) _ | refine bel_trans ?_ (by assumption)))
  · simp [go_sem]
  · simp [go_sem]
  rintro e10 w10 ⟨A10, c10, rfl, hm10, hc10, hs10, rfl⟩
  replace hs10 := Lib.hid hs10
  clear hs9 hm9 hc9
  go_wp2_with fail
  refine bodyPost_ret (v := .tuple #[.agg #[.int .u64 (num e 0 8), .int .u64 (num e 8 8), .int .u64 (num e 16 8), .int .u64 (num e 24 8), .int .u64 (num e 32 8), .int .u64 (num e 40 8), .int .u64 (num e 48 8), .int .u64 (num e 56 8), .int .u64 (num e 64 8), .int .u64 (num e 72 8), .int .u64 (num e 80 8), .int .u32 (num e 88 4), .int .u16 (num e 92 2), .int .u16 (num e 94 2), .int .u64 (num e 96 8)], .bool true]) (by simp [results, Try.results34, go_sem]) rfl ⟨rfl, ?_⟩
  (repeat (first | exact Below.refl _ _ | assumption | refine below_drewN ?_ _ | refine bel_grow ?_ _ | refine Below.drew ?_ | refine bel_alloc ?_ _ | refine bel_set ?_ (by first | exact Nat.le_refl _ | (simp; done) | (simp; omega) | omega) _ | refine bel_trans ?_ (by assumption)))

set_option maxRecDepth 8000 in
set_option maxHeartbeats 1000000 in
theorem getTransfer_no (A : Option Addr) (n c : Nat) (hn : n ≤ maxLen) (h : n ≠ 108) (w : World) : Calls Try.prog 36 #[.slice A n c] w fun r w' => r = .returned (.tuple #[.agg #[.int .u64 0, .int .u64 0, .int .u64 0, .int .u64 0, .int .u64 0, .int .u64 0, .int .u64 0, .int .u64 0, .int .u64 0, .int .u64 0, .int .u64 0, .int .u32 0, .int .u32 0, .int .u16 0, .int .u16 0, .int .u64 0], .bool false]) ∧ Below w.heap.size w w' := by
  unfold maxLen at hn
  have h' : ((n : Int) != 108) = true := by rw [bne_iff_ne]; omega
  go_enter Try.func36, Try.ntmps36
  go_wp2
  refine bodyPost_ret (v := .tuple #[.agg #[.int .u64 0, .int .u64 0, .int .u64 0, .int .u64 0, .int .u64 0, .int .u64 0, .int .u64 0, .int .u64 0, .int .u64 0, .int .u64 0, .int .u64 0, .int .u32 0, .int .u32 0, .int .u16 0, .int .u16 0, .int .u64 0], .bool false]) (by simp [results, Try.results36, go_sem]) rfl ⟨rfl, ?_⟩
  (repeat (first | exact Below.refl _ _ | assumption | refine below_drewN ?_ _ | refine bel_grow ?_ _ | refine Below.drew ?_ | refine bel_alloc ?_ _ | refine bel_set ?_ (by first | exact Nat.le_refl _ | (simp; done) | (simp; omega) | omega) _ | refine bel_trans ?_ (by assumption)))
set_option maxRecDepth 8000 in
set_option maxHeartbeats 8000000 in
theorem getTransfer_yes (A : Option Addr) (c : Nat) (e : Nat → Int) (he : ∀ i, 0 ≤ e i ∧ e i < 256) (hmc : 108 ≤ c) (hc : c ≤ maxLen) (w : World) (hs : SlIs w A 108 (yV e)) : Calls Try.prog 36 #[.slice A 108 c] w fun r w' => r = .returned (.tuple #[.agg #[.int .u64 (num e 0 8), .int .u64 (num e 8 8), .int .u64 (num e 16 8), .int .u64 (num e 24 8), .int .u64 (num e 32 8), .int .u64 (num e 40 8), .int .u64 (num e 48 8), .int .u64 (num e 56 8), .int .u64 (num e 64 8), .int .u64 (num e 72 8), .int .u64 (num e 80 8), .int .u32 (num e 88 4), .int .u32 (num e 92 4), .int .u16 (num e 96 2), .int .u16 (num e 98 2), .int .u64 (num e 100 8)], .bool true]) ∧ Below w.heap.size w w' := by
  replace hs := Lib.hid (slis_shf0 hs)
  replace he := Lib.hid he
  have l88 := num_four he.out 88
  have l92 := num_four he.out 92
  have l96 := num_two he.out 96
  have l98 := num_two he.out 98
  go_enter Try.func36, Try.ntmps36
  go_wp2_with fail
  refine wp_loop_rounds 6 ?_
  rw [rounds_succ]
  go_wp2_with fail
  refine (twide_at (w.heap.size + 1) w _ 108 92 _ 0 e he.out rfl hmc hc _ hs.out ?_ (by omega) ?_ ?_).mono ?_
  · (repeat (first | exact Below.refl _ _ | assumption | refine below_drewN ?_ _ | refine bel_grow ?_ _ | refine Below.drew ?_ | refine bel_alloc ?_ _ | refine bel_set ?_ (by first | exact Nat.le_refl _ | (simp; done) | (simp; omega) | omega) _ | refine bel_trans ?_ (by assumption)))
  · simp [go_sem]
  · simp [go_sem]
  rintro e1 w1 ⟨A1, c1, rfl, hm1, hc1, hs1, rfl⟩
  replace hs1 := Lib.hid hs1
  clear hmc hc
  go_wp2_with fail
  rw [rounds_succ]
  go_wp2_with fail
  refine (twide_at (w.heap.size + 1) w _ 92 76 _ 16 e he.out rfl hm1 hc1 _ hs1.out ?_ (by omega) ?_ ?_).mono ?_
  · (repeat (first | exact Below.refl _ _ | assumption | refine below_drewN ?_ _ | refine bel_grow ?_ _ | refine Below.drew ?_ | refine bel_alloc ?_ _ | refine bel_set ?_ (by first | exact Nat.le_refl _ | (simp; done) | (simp; omega) | omega) _ | refine bel_trans ?_ (by assumption)))
  · simp [go_sem]
  · simp [go_sem]
  rintro e2 w2 ⟨A2, c2, rfl, hm2, hc2, hs2, rfl⟩
  replace hs2 := Lib.hid hs2
  clear hs1 hm1 hc1
  go_wp2_with fail
  rw [rounds_succ]
  go_wp2_with fail
  refine (twide_at (w.heap.size + 1) w _ 76 60 _ 32 e he.out rfl hm2 hc2 _ hs2.out ?_ (by omega) ?_ ?_).mono ?_
  · (repeat (first | exact Below.refl _ _ | assumption | refine below_drewN ?_ _ | refine bel_grow ?_ _ | refine Below.drew ?_ | refine bel_alloc ?_ _ | refine bel_set ?_ (by first | exact Nat.le_refl _ | (simp; done) | (simp; omega) | omega) _ | refine bel_trans ?_ (by assumption)))
  · simp [go_sem]
  · simp [go_sem]
  rintro e3 w3 ⟨A3, c3, rfl, hm3, hc3, hs3, rfl⟩
  replace hs3 := Lib.hid hs3
  clear hs2 hm2 hc2
  go_wp2_with fail
  rw [rounds_succ]
  go_wp2_with fail
  refine (twide_at (w.heap.size + 1) w _ 60 44 _ 48 e he.out rfl hm3 hc3 _ hs3.out ?_ (by omega) ?_ ?_).mono ?_
  · (repeat (first | exact Below.refl _ _ | assumption | refine below_drewN ?_ _ | refine bel_grow ?_ _ | refine Below.drew ?_ | refine bel_alloc ?_ _ | refine bel_set ?_ (by first | exact Nat.le_refl _ | (simp; done) | (simp; omega) | omega) _ | refine bel_trans ?_ (by assumption)))
  · simp [go_sem]
  · simp [go_sem]
  rintro e4 w4 ⟨A4, c4, rfl, hm4, hc4, hs4, rfl⟩
  replace hs4 := Lib.hid hs4
  clear hs3 hm3 hc3
  go_wp2_with fail
  rw [rounds_succ]
  go_wp2_with fail
  refine (twide_at (w.heap.size + 1) w _ 44 28 _ 64 e he.out rfl hm4 hc4 _ hs4.out ?_ (by omega) ?_ ?_).mono ?_
  · (repeat (first | exact Below.refl _ _ | assumption | refine below_drewN ?_ _ | refine bel_grow ?_ _ | refine Below.drew ?_ | refine bel_alloc ?_ _ | refine bel_set ?_ (by first | exact Nat.le_refl _ | (simp; done) | (simp; omega) | omega) _ | refine bel_trans ?_ (by assumption)))
  · simp [go_sem]
  · simp [go_sem]
  rintro e5 w5 ⟨A5, c5, rfl, hm5, hc5, hs5, rfl⟩
  replace hs5 := Lib.hid hs5
  clear hs4 hm4 hc4
  go_wp2_with fail
  rw [rounds_succ]
  go_wp2_with fail
  refine (tnum_at (w.heap.size + 1) w _ 28 20 _ 8 80 _ rfl e he.out (by omega) (by omega) rfl hm5 hc5 _ hs5.out ?_ ?_ ?_).mono ?_
  · (repeat (first | exact Below.refl _ _ | assumption | refine below_drewN ?_ _ | refine bel_grow ?_ _ | refine Below.drew ?_ | refine bel_alloc ?_ _ | refine bel_set ?_ (by first | exact Nat.le_refl _ | (simp; done) | (simp; omega) | omega) _ | refine bel_trans ?_ (by assumption)))
  · simp [go_sem]
  · simp [go_sem]
  rintro e6 w6 ⟨A6, c6, rfl, hm6, hc6, hs6, rfl⟩
  replace hs6 := Lib.hid hs6
  clear hs5 hm5 hc5
  go_wp2_with fail
  refine (tnum_at (w.heap.size + 1) w _ 20 16 _ 4 88 _ rfl e he.out (by omega) (by omega) rfl hm6 hc6 _ hs6.out ?_ ?_ ?_).mono ?_
  · (repeat (first | exact Below.refl _ _ | assumption | refine below_drewN ?_ _ | refine bel_grow ?_ _ | refine Below.drew ?_ | refine bel_alloc ?_ _ | refine bel_set ?_ (by first | exact Nat.le_refl _ | (simp; done) | (simp; omega) | omega) _ | refine bel_trans ?_ (by assumption)))
  · simp [go_sem]
  · simp [go_sem]
  rintro e7 w7 ⟨A7, c7, rfl, hm7, hc7, hs7, rfl⟩
  replace hs7 := Lib.hid hs7
  clear hs6 hm6 hc6
  go_wp2_with fail
  refine (tnum_at (w.heap.size + 1) w _ 16 12 _ 4 92 _ rfl e he.out (by omega) (by omega) rfl hm7 hc7 _ hs7.out ?_ ?_ ?_).mono ?_
  · (repeat (first | exact Below.refl _ _ | assumption | refine below_drewN ?_ _ | refine bel_grow ?_ _ | refine Below.drew ?_ | refine bel_alloc ?_ _ | refine bel_set ?_ (by first | exact Nat.le_refl _ | (simp; done) | (simp; omega) | omega) _ | refine bel_trans ?_ (by assumption)))
  · simp [go_sem]
  · simp [go_sem]
  rintro e8 w8 ⟨A8, c8, rfl, hm8, hc8, hs8, rfl⟩
  replace hs8 := Lib.hid hs8
  clear hs7 hm7 hc7
  go_wp2_with fail
  refine (tnum_at (w.heap.size + 1) w _ 12 10 _ 2 96 _ rfl e he.out (by omega) (by omega) rfl hm8 hc8 _ hs8.out ?_ ?_ ?_).mono ?_
  · (repeat (first | exact Below.refl _ _ | assumption | refine below_drewN ?_ _ | refine bel_grow ?_ _ | refine Below.drew ?_ | refine bel_alloc ?_ _ | refine bel_set ?_ (by first | exact Nat.le_refl _ | (simp; done) | (simp; omega) | omega) _ | refine bel_trans ?_ (by assumption)))
  · simp [go_sem]
  · simp [go_sem]
  rintro e9 w9 ⟨A9, c9, rfl, hm9, hc9, hs9, rfl⟩
  replace hs9 := Lib.hid hs9
  clear hs8 hm8 hc8
  go_wp2_with fail
  refine (tnum_at (w.heap.size + 1) w _ 10 8 _ 2 98 _ rfl e he.out (by omega) (by omega) rfl hm9 hc9 _ hs9.out ?_ ?_ ?_).mono ?_
  · (repeat (first | exact Below.refl _ _ | assumption | refine below_drewN ?_ _ | refine bel_grow ?_ _ | refine Below.drew ?_ | refine bel_alloc ?_ _ | refine bel_set ?_ (by first | exact Nat.le_refl _ | (simp; done) | (simp; omega) | omega) _ | refine bel_trans ?_ (by assumption)))
  · simp [go_sem]
  · simp [go_sem]
  rintro e10 w10 ⟨A10, c10, rfl, hm10, hc10, hs10, rfl⟩
  replace hs10 := Lib.hid hs10
  clear hs9 hm9 hc9
  go_wp2_with fail
  refine (tnum_at (w.heap.size + 1) w _ 8 0 _ 8 100 _ rfl e he.out (by omega) (by omega) rfl hm10 hc10 _ hs10.out ?_ ?_ ?_).mono ?_
  · (repeat (first | exact Below.refl _ _ | assumption | refine below_drewN ?_ _ | refine bel_grow ?_ _ | refine Below.drew ?_ | refine bel_alloc ?_ _ | refine bel_set ?_ (by first | exact Nat.le_refl _ | (simp; done) | (simp; omega) | omega) _ | refine bel_trans ?_ (by assumption)))
  · simp [go_sem]
  · simp [go_sem]
  rintro e11 w11 ⟨A11, c11, rfl, hm11, hc11, hs11, rfl⟩
  replace hs11 := Lib.hid hs11
  clear hs10 hm10 hc10
  go_wp2_with fail
  refine bodyPost_ret (v := .tuple #[.agg #[.int .u64 (num e 0 8), .int .u64 (num e 8 8), .int .u64 (num e 16 8), .int .u64 (num e 24 8), .int .u64 (num e 32 8), .int .u64 (num e 40 8), .int .u64 (num e 48 8), .int .u64 (num e 56 8), .int .u64 (num e 64 8), .int .u64 (num e 72 8), .int .u64 (num e 80 8), .int .u32 (num e 88 4), .int .u32 (num e 92 4), .int .u16 (num e 96 2), .int .u16 (num e 98 2), .int .u64 (num e 100 8)], .bool true]) (by simp [results, Try.results36, go_sem]) rfl ⟨rfl, ?_⟩
  (repeat (first | exact Below.refl _ _ | assumption | refine below_drewN ?_ _ | refine bel_grow ?_ _ | refine Below.drew ?_ | refine bel_alloc ?_ _ | refine bel_set ?_ (by first | exact Nat.le_refl _ | (simp; done) | (simp; omega) | omega) _ | refine bel_trans ?_ (by assumption)))

end Go.Proofs.Ytncampbmnbhikaa
