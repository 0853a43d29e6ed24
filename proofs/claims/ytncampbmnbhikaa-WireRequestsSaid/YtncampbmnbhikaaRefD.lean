/-
  What texts are read as: the document's, walked.
-/
import Derived.Test.YtncampbmnbhikaaJ13
import Derived.Test.YtncampbmnbhikaaRecD
namespace Go.Proofs.Ytncampbmnbhikaa
set_option linter.unusedVariables false
set_option linter.unusedSimpArgs false
open Go.RowKit

set_option maxHeartbeats 1000000 in
theorem refGetFilter_no (n : Nat) (d : Nat → Int) (hn : n ≤ maxLen) (h : n ≠ 40) (w : World) : Calls Try.prog 50 #[.string (strF d n)] w fun r w' => r = .returned (.tuple #[.agg #[.int .u64 0, .int .u64 0, .int .u64 0, .int .u64 0, .int .u32 0, .int .u32 0], .bool false]) ∧ Below w.heap.size w w' := by
  unfold maxLen at hn
  have es : (strF d n).size = n := strF_size d n
  have h' : ((n : Int) != 40) = true := by rw [bne_iff_ne]; omega
  go_enter Try.func50, Try.ntmps50
  go_wp2
  refine bodyPost_ret (v := .tuple #[.agg #[.int .u64 0, .int .u64 0, .int .u64 0, .int .u64 0, .int .u32 0, .int .u32 0], .bool false]) (by simp [results, Try.results50, go_sem]) rfl ⟨rfl, ?_⟩
  (repeat (first | exact Below.refl _ _ | assumption | refine below_drewN ?_ _ | refine bel_grow ?_ _ | refine Below.drew ?_ | refine bel_alloc ?_ _ | refine bel_set ?_ (by first | exact Nat.le_refl _ | (simp; done) | (simp; omega) | omega) _ | refine bel_trans ?_ (by assumption)))
set_option maxRecDepth 16000 in
set_option maxHeartbeats 8000000 in
theorem refGetFilter_yes (e : Nat → Int) (he : ∀ i, 0 ≤ e i ∧ e i < 256) (w : World) : Calls Try.prog 50 #[.string (strF e 40)] w fun r w' => r = .returned (.tuple #[.agg #[.int .u64 (num e 0 8), .int .u64 (num e 8 8), .int .u64 (num e 16 8), .int .u64 (num e 24 8), .int .u32 (num e 32 4), .int .u32 (num e 36 4)], .bool true]) ∧ Below w.heap.size w w' := by
  have es : (strF e 40).size = 40 := strF_size e 40
  have H0 := Lib.hid (fun w => rwide_any e he 40 0 0 rfl (by omega) (by omega) w)
  have H1 := Lib.hid (fun w => eight_any e he 40 16 16 rfl (by omega) (by omega) w)
  have H2 := Lib.hid (fun w => eight_any e he 40 24 24 rfl (by omega) (by omega) w)
  have H3 := Lib.hid (fun w => four_any e he 40 32 32 rfl (by omega) (by omega) w)
  have H4 := Lib.hid (fun w => four_any e he 40 36 36 rfl (by omega) (by omega) w)
  clear he
  try simp only [Nat.reduceAdd] at *
  generalize num e 0 8 = q0 at *
  generalize num e 8 8 = q1 at *
  generalize num e 16 8 = q2 at *
  generalize num e 24 8 = q3 at *
  generalize num e 32 4 = q4 at *
  generalize num e 36 4 = q5 at *
  go_enter Try.func50, Try.ntmps50
  go_wp2_with fail
  refine (gro (H0.out _)).mono ?_
  rintro e_ w_ ⟨rfl, d_0, rfl⟩
  go_wp2_with fail
  refine (grow_call (H1.out _)).mono ?_
  rintro e_ w_ ⟨rfl, d_1, rfl⟩
  go_wp2_with fail
  refine (grow_call (H2.out _)).mono ?_
  rintro e_ w_ ⟨rfl, d_2, rfl⟩
  go_wp2_with fail
  refine (grow_call (H3.out _)).mono ?_
  rintro e_ w_ ⟨rfl, d_3, rfl⟩
  go_wp2_with fail
  refine (grow_call (H4.out _)).mono ?_
  rintro e_ w_ ⟨rfl, d_4, rfl⟩
  go_wp2_with fail
  refine bodyPost_ret (v := .tuple #[.agg #[.int .u64 q0, .int .u64 q1, .int .u64 q2, .int .u64 q3, .int .u32 q4, .int .u32 q5], .bool true]) (by simp [results, Try.results50, go_sem]) rfl ⟨rfl, ?_⟩
  (repeat (first | with_reducible exact Below.refl _ _ | with_reducible assumption | (with_reducible refine bel_set ?_ (by first | exact Nat.le_refl _ | (simp; done) | (simp; omega) | omega) _) | with_reducible refine bel_grow ?_ _ | with_reducible refine Below.drew ?_ | with_reducible refine below_drewN ?_ _ | with_reducible refine bel_alloc ?_ _ | with_reducible refine bel_trans ?_ (by assumption)))
set_option maxHeartbeats 1000000 in
theorem refGetResult_no (n : Nat) (d : Nat → Int) (hn : n ≤ maxLen) (h : n ≠ 8) (w : World) : Calls Try.prog 39 #[.string (strF d n)] w fun r w' => r = .returned (.tuple #[.agg #[.int .u32 0, .int .u32 0], .bool false]) ∧ Below w.heap.size w w' := by
  unfold maxLen at hn
  have es : (strF d n).size = n := strF_size d n
  have h' : ((n : Int) != 8) = true := by rw [bne_iff_ne]; omega
  go_enter Try.func39, Try.ntmps39
  go_wp2
  refine bodyPost_ret (v := .tuple #[.agg #[.int .u32 0, .int .u32 0], .bool false]) (by simp [results, Try.results39, go_sem]) rfl ⟨rfl, ?_⟩
  (repeat (first | exact Below.refl _ _ | assumption | refine below_drewN ?_ _ | refine bel_grow ?_ _ | refine Below.drew ?_ | refine bel_alloc ?_ _ | refine bel_set ?_ (by first | exact Nat.le_refl _ | (simp; done) | (simp; omega) | omega) _ | refine bel_trans ?_ (by assumption)))
set_option maxRecDepth 16000 in
set_option maxHeartbeats 8000000 in
theorem refGetResult_yes (e : Nat → Int) (he : ∀ i, 0 ≤ e i ∧ e i < 256) (w : World) : Calls Try.prog 39 #[.string (strF e 8)] w fun r w' => r = .returned (.tuple #[.agg #[.int .u32 (num e 0 4), .int .u32 (num e 4 4)], .bool true]) ∧ Below w.heap.size w w' := by
  have es : (strF e 8).size = 8 := strF_size e 8
  have H0 := Lib.hid (fun w => four_any e he 8 0 0 rfl (by omega) (by omega) w)
  have H1 := Lib.hid (fun w => four_any e he 8 4 4 rfl (by omega) (by omega) w)
  clear he
  try simp only [Nat.reduceAdd] at *
  generalize num e 0 4 = q0 at *
  generalize num e 4 4 = q1 at *
  go_enter Try.func39, Try.ntmps39
  go_wp2_with fail
  refine (gro (H0.out _)).mono ?_
  rintro e_ w_ ⟨rfl, d_0, rfl⟩
  go_wp2_with fail
  refine (grow_call (H1.out _)).mono ?_
  rintro e_ w_ ⟨rfl, d_1, rfl⟩
  go_wp2_with fail
  refine bodyPost_ret (v := .tuple #[.agg #[.int .u32 q0, .int .u32 q1], .bool true]) (by simp [results, Try.results39, go_sem]) rfl ⟨rfl, ?_⟩
  (repeat (first | with_reducible exact Below.refl _ _ | with_reducible assumption | (with_reducible refine bel_set ?_ (by first | exact Nat.le_refl _ | (simp; done) | (simp; omega) | omega) _) | with_reducible refine bel_grow ?_ _ | with_reducible refine Below.drew ?_ | with_reducible refine below_drewN ?_ _ | with_reducible refine bel_alloc ?_ _ | with_reducible refine bel_trans ?_ (by assumption)))
set_option maxHeartbeats 1000000 in
theorem refGetBalance_no (n : Nat) (d : Nat → Int) (hn : n ≤ maxLen) (h : n ≠ 72) (w : World) : Calls Try.prog 42 #[.string (strF d n)] w fun r w' => r = .returned (.tuple #[.agg #[.int .u64 0, .int .u64 0, .int .u64 0, .int .u64 0, .int .u64 0, .int .u64 0, .int .u64 0, .int .u64 0, .int .u64 0], .bool false]) ∧ Below w.heap.size w w' := by
  unfold maxLen at hn
  have es : (strF d n).size = n := strF_size d n
  have h' : ((n : Int) != 72) = true := by rw [bne_iff_ne]; omega
  go_enter Try.func42, Try.ntmps42
  go_wp2
  refine bodyPost_ret (v := .tuple #[.agg #[.int .u64 0, .int .u64 0, .int .u64 0, .int .u64 0, .int .u64 0, .int .u64 0, .int .u64 0, .int .u64 0, .int .u64 0], .bool false]) (by simp [results, Try.results42, go_sem]) rfl ⟨rfl, ?_⟩
  (repeat (first | exact Below.refl _ _ | assumption | refine below_drewN ?_ _ | refine bel_grow ?_ _ | refine Below.drew ?_ | refine bel_alloc ?_ _ | refine bel_set ?_ (by first | exact Nat.le_refl _ | (simp; done) | (simp; omega) | omega) _ | refine bel_trans ?_ (by assumption)))
set_option maxRecDepth 16000 in
set_option maxHeartbeats 8000000 in
theorem refGetBalance_yes (e : Nat → Int) (he : ∀ i, 0 ≤ e i ∧ e i < 256) (w : World) : Calls Try.prog 42 #[.string (strF e 72)] w fun r w' => r = .returned (.tuple #[.agg #[.int .u64 (num e 0 8), .int .u64 (num e 8 8), .int .u64 (num e 16 8), .int .u64 (num e 24 8), .int .u64 (num e 32 8), .int .u64 (num e 40 8), .int .u64 (num e 48 8), .int .u64 (num e 56 8), .int .u64 (num e 64 8)], .bool true]) ∧ Below w.heap.size w w' := by
  have es : (strF e 72).size = 72 := strF_size e 72
  have H0 := Lib.hid (fun w => rwide_any e he 72 0 0 rfl (by omega) (by omega) w)
  have H1 := Lib.hid (fun w => rwide_any e he 72 16 16 rfl (by omega) (by omega) w)
  have H2 := Lib.hid (fun w => rwide_any e he 72 32 32 rfl (by omega) (by omega) w)
  have H3 := Lib.hid (fun w => rwide_any e he 72 48 48 rfl (by omega) (by omega) w)
  have H4 := Lib.hid (fun w => eight_any e he 72 64 64 rfl (by omega) (by omega) w)
  clear he
  try simp only [Nat.reduceAdd] at *
  generalize num e 0 8 = q0 at *
  generalize num e 8 8 = q1 at *
  generalize num e 16 8 = q2 at *
  generalize num e 24 8 = q3 at *
  generalize num e 32 8 = q4 at *
  generalize num e 40 8 = q5 at *
  generalize num e 48 8 = q6 at *
  generalize num e 56 8 = q7 at *
  generalize num e 64 8 = q8 at *
  go_enter Try.func42, Try.ntmps42
  go_wp2_with fail
  refine (gro (H0.out _)).mono ?_
  rintro e_ w_ ⟨rfl, d_0, rfl⟩
  go_wp2_with fail
  refine (grow_call (H1.out _)).mono ?_
  rintro e_ w_ ⟨rfl, d_1, rfl⟩
  go_wp2_with fail
  refine (grow_call (H2.out _)).mono ?_
  rintro e_ w_ ⟨rfl, d_2, rfl⟩
  go_wp2_with fail
  refine (grow_call (H3.out _)).mono ?_
  rintro e_ w_ ⟨rfl, d_3, rfl⟩
  go_wp2_with fail
  refine (grow_call (H4.out _)).mono ?_
  rintro e_ w_ ⟨rfl, d_4, rfl⟩
  go_wp2_with fail
  refine bodyPost_ret (v := .tuple #[.agg #[.int .u64 q0, .int .u64 q1, .int .u64 q2, .int .u64 q3, .int .u64 q4, .int .u64 q5, .int .u64 q6, .int .u64 q7, .int .u64 q8], .bool true]) (by simp [results, Try.results42, go_sem]) rfl ⟨rfl, ?_⟩
  (repeat (first | with_reducible exact Below.refl _ _ | with_reducible assumption | (with_reducible refine bel_set ?_ (by first | exact Nat.le_refl _ | (simp; done) | (simp; omega) | omega) _) | with_reducible refine bel_grow ?_ _ | with_reducible refine Below.drew ?_ | with_reducible refine below_drewN ?_ _ | with_reducible refine bel_alloc ?_ _ | with_reducible refine bel_trans ?_ (by assumption)))
set_option maxHeartbeats 1000000 in
theorem refGetAccount_no (n : Nat) (d : Nat → Int) (hn : n ≤ maxLen) (h : n ≠ 104) (w : World) : Calls Try.prog 40 #[.string (strF d n)] w fun r w' => r = .returned (.tuple #[.agg #[.int .u64 0, .int .u64 0, .int .u64 0, .int .u64 0, .int .u64 0, .int .u64 0, .int .u64 0, .int .u64 0, .int .u64 0, .int .u64 0, .int .u64 0, .int .u32 0, .int .u16 0, .int .u16 0, .int .u64 0], .bool false]) ∧ Below w.heap.size w w' := by
  unfold maxLen at hn
  have es : (strF d n).size = n := strF_size d n
  have h' : ((n : Int) != 104) = true := by rw [bne_iff_ne]; omega
  go_enter Try.func40, Try.ntmps40
  go_wp2
  refine bodyPost_ret (v := .tuple #[.agg #[.int .u64 0, .int .u64 0, .int .u64 0, .int .u64 0, .int .u64 0, .int .u64 0, .int .u64 0, .int .u64 0, .int .u64 0, .int .u64 0, .int .u64 0, .int .u32 0, .int .u16 0, .int .u16 0, .int .u64 0], .bool false]) (by simp [results, Try.results40, go_sem]) rfl ⟨rfl, ?_⟩
  (repeat (first | exact Below.refl _ _ | assumption | refine below_drewN ?_ _ | refine bel_grow ?_ _ | refine Below.drew ?_ | refine bel_alloc ?_ _ | refine bel_set ?_ (by first | exact Nat.le_refl _ | (simp; done) | (simp; omega) | omega) _ | refine bel_trans ?_ (by assumption)))
set_option maxRecDepth 16000 in
set_option maxHeartbeats 8000000 in
theorem refGetAccount_yes (e : Nat → Int) (he : ∀ i, 0 ≤ e i ∧ e i < 256) (w : World) : Calls Try.prog 40 #[.string (strF e 104)] w fun r w' => r = .returned (.tuple #[.agg #[.int .u64 (num e 0 8), .int .u64 (num e 8 8), .int .u64 (num e 16 8), .int .u64 (num e 24 8), .int .u64 (num e 32 8), .int .u64 (num e 40 8), .int .u64 (num e 48 8), .int .u64 (num e 56 8), .int .u64 (num e 64 8), .int .u64 (num e 72 8), .int .u64 (num e 80 8), .int .u32 (num e 88 4), .int .u16 (num e 92 2), .int .u16 (num e 94 2), .int .u64 (num e 96 8)], .bool true]) ∧ Below w.heap.size w w' := by
  have es : (strF e 104).size = 104 := strF_size e 104
  have H0 := Lib.hid (fun w => rwide_any e he 104 0 0 rfl (by omega) (by omega) w)
  have H1 := Lib.hid (fun w => rwide_any e he 104 16 16 rfl (by omega) (by omega) w)
  have H2 := Lib.hid (fun w => rwide_any e he 104 32 32 rfl (by omega) (by omega) w)
  have H3 := Lib.hid (fun w => rwide_any e he 104 48 48 rfl (by omega) (by omega) w)
  have H4 := Lib.hid (fun w => rwide_any e he 104 64 64 rfl (by omega) (by omega) w)
  have H5 := Lib.hid (fun w => eight_any e he 104 80 80 rfl (by omega) (by omega) w)
  have H6 := Lib.hid (fun w => four_any e he 104 88 88 rfl (by omega) (by omega) w)
  have H7 := Lib.hid (fun w => two_any' e he 104 92 92 rfl (by omega) (by omega) w)
  have H8 := Lib.hid (fun w => two_any' e he 104 94 94 rfl (by omega) (by omega) w)
  have H9 := Lib.hid (fun w => eight_any e he 104 96 96 rfl (by omega) (by omega) w)
  clear he
  try simp only [Nat.reduceAdd] at *
  generalize num e 0 8 = q0 at *
  generalize num e 8 8 = q1 at *
  generalize num e 16 8 = q2 at *
  generalize num e 24 8 = q3 at *
  generalize num e 32 8 = q4 at *
  generalize num e 40 8 = q5 at *
  generalize num e 48 8 = q6 at *
  generalize num e 56 8 = q7 at *
  generalize num e 64 8 = q8 at *
  generalize num e 72 8 = q9 at *
  generalize num e 80 8 = q10 at *
  generalize num e 88 4 = q11 at *
  generalize num e 92 2 = q12 at *
  generalize num e 94 2 = q13 at *
  generalize num e 96 8 = q14 at *
  go_enter Try.func40, Try.ntmps40
  go_wp2_with fail
  refine (gro (H0.out _)).mono ?_
  rintro e_ w_ ⟨rfl, d_0, rfl⟩
  go_wp2_with fail
  refine (grow_call (H1.out _)).mono ?_
  rintro e_ w_ ⟨rfl, d_1, rfl⟩
  go_wp2_with fail
  refine (grow_call (H2.out _)).mono ?_
  rintro e_ w_ ⟨rfl, d_2, rfl⟩
  go_wp2_with fail
  refine (grow_call (H3.out _)).mono ?_
  rintro e_ w_ ⟨rfl, d_3, rfl⟩
  go_wp2_with fail
  refine (grow_call (H4.out _)).mono ?_
  rintro e_ w_ ⟨rfl, d_4, rfl⟩
  go_wp2_with fail
  refine (grow_call (H5.out _)).mono ?_
  rintro e_ w_ ⟨rfl, d_5, rfl⟩
  go_wp2_with fail
  refine (grow_call (H6.out _)).mono ?_
  rintro e_ w_ ⟨rfl, d_6, rfl⟩
  go_wp2_with fail
  refine (grow_call (H7.out _)).mono ?_
  rintro e_ w_ ⟨rfl, d_7, rfl⟩
  go_wp2_with fail
  refine (grow_call (H8.out _)).mono ?_
  rintro e_ w_ ⟨rfl, d_8, rfl⟩
  go_wp2_with fail
  refine (grow_call (H9.out _)).mono ?_
  rintro e_ w_ ⟨rfl, d_9, rfl⟩
  go_wp2_with fail
  refine bodyPost_ret (v := .tuple #[.agg #[.int .u64 q0, .int .u64 q1, .int .u64 q2, .int .u64 q3, .int .u64 q4, .int .u64 q5, .int .u64 q6, .int .u64 q7, .int .u64 q8, .int .u64 q9, .int .u64 q10, .int .u32 q11, .int .u16 q12, .int .u16 q13, .int .u64 q14], .bool true]) (by simp [results, Try.results40, go_sem]) rfl ⟨rfl, ?_⟩
  (repeat (first | with_reducible exact Below.refl _ _ | with_reducible assumption | (with_reducible refine bel_set ?_ (by first | exact Nat.le_refl _ | (simp; done) | (simp; omega) | omega) _) | with_reducible refine bel_grow ?_ _ | with_reducible refine Below.drew ?_ | with_reducible refine below_drewN ?_ _ | with_reducible refine bel_alloc ?_ _ | with_reducible refine bel_trans ?_ (by assumption)))
set_option maxHeartbeats 1000000 in
theorem refGetTransfer_no (n : Nat) (d : Nat → Int) (hn : n ≤ maxLen) (h : n ≠ 108) (w : World) : Calls Try.prog 41 #[.string (strF d n)] w fun r w' => r = .returned (.tuple #[.agg #[.int .u64 0, .int .u64 0, .int .u64 0, .int .u64 0, .int .u64 0, .int .u64 0, .int .u64 0, .int .u64 0, .int .u64 0, .int .u64 0, .int .u64 0, .int .u32 0, .int .u32 0, .int .u16 0, .int .u16 0, .int .u64 0], .bool false]) ∧ Below w.heap.size w w' := by
  unfold maxLen at hn
  have es : (strF d n).size = n := strF_size d n
  have h' : ((n : Int) != 108) = true := by rw [bne_iff_ne]; omega
  go_enter Try.func41, Try.ntmps41
  go_wp2
  refine bodyPost_ret (v := .tuple #[.agg #[.int .u64 0, .int .u64 0, .int .u64 0, .int .u64 0, .int .u64 0, .int .u64 0, .int .u64 0, .int .u64 0, .int .u64 0, .int .u64 0, .int .u64 0, .int .u32 0, .int .u32 0, .int .u16 0, .int .u16 0, .int .u64 0], .bool false]) (by simp [results, Try.results41, go_sem]) rfl ⟨rfl, ?_⟩
  (repeat (first | exact Below.refl _ _ | assumption | refine below_drewN ?_ _ | refine bel_grow ?_ _ | refine Below.drew ?_ | refine bel_alloc ?_ _ | refine bel_set ?_ (by first | exact Nat.le_refl _ | (simp; done) | (simp; omega) | omega) _ | refine bel_trans ?_ (by assumption)))
set_option maxRecDepth 16000 in
set_option maxHeartbeats 8000000 in
theorem refGetTransfer_yes (e : Nat → Int) (he : ∀ i, 0 ≤ e i ∧ e i < 256) (w : World) : Calls Try.prog 41 #[.string (strF e 108)] w fun r w' => r = .returned (.tuple #[.agg #[.int .u64 (num e 0 8), .int .u64 (num e 8 8), .int .u64 (num e 16 8), .int .u64 (num e 24 8), .int .u64 (num e 32 8), .int .u64 (num e 40 8), .int .u64 (num e 48 8), .int .u64 (num e 56 8), .int .u64 (num e 64 8), .int .u64 (num e 72 8), .int .u64 (num e 80 8), .int .u32 (num e 88 4), .int .u32 (num e 92 4), .int .u16 (num e 96 2), .int .u16 (num e 98 2), .int .u64 (num e 100 8)], .bool true]) ∧ Below w.heap.size w w' := by
  have es : (strF e 108).size = 108 := strF_size e 108
  have H0 := Lib.hid (fun w => rwide_any e he 108 0 0 rfl (by omega) (by omega) w)
  have H1 := Lib.hid (fun w => rwide_any e he 108 16 16 rfl (by omega) (by omega) w)
  have H2 := Lib.hid (fun w => rwide_any e he 108 32 32 rfl (by omega) (by omega) w)
  have H3 := Lib.hid (fun w => rwide_any e he 108 48 48 rfl (by omega) (by omega) w)
  have H4 := Lib.hid (fun w => rwide_any e he 108 64 64 rfl (by omega) (by omega) w)
  have H5 := Lib.hid (fun w => eight_any e he 108 80 80 rfl (by omega) (by omega) w)
  have H6 := Lib.hid (fun w => four_any e he 108 88 88 rfl (by omega) (by omega) w)
  have H7 := Lib.hid (fun w => four_any e he 108 92 92 rfl (by omega) (by omega) w)
  have H8 := Lib.hid (fun w => two_any' e he 108 96 96 rfl (by omega) (by omega) w)
  have H9 := Lib.hid (fun w => two_any' e he 108 98 98 rfl (by omega) (by omega) w)
  have H10 := Lib.hid (fun w => eight_any e he 108 100 100 rfl (by omega) (by omega) w)
  clear he
  try simp only [Nat.reduceAdd] at *
  generalize num e 0 8 = q0 at *
  generalize num e 8 8 = q1 at *
  generalize num e 16 8 = q2 at *
  generalize num e 24 8 = q3 at *
  generalize num e 32 8 = q4 at *
  generalize num e 40 8 = q5 at *
  generalize num e 48 8 = q6 at *
  generalize num e 56 8 = q7 at *
  generalize num e 64 8 = q8 at *
  generalize num e 72 8 = q9 at *
  generalize num e 80 8 = q10 at *
  generalize num e 88 4 = q11 at *
  generalize num e 92 4 = q12 at *
  generalize num e 96 2 = q13 at *
  generalize num e 98 2 = q14 at *
  generalize num e 100 8 = q15 at *
  go_enter Try.func41, Try.ntmps41
  go_wp2_with fail
  refine (gro (H0.out _)).mono ?_
  rintro e_ w_ ⟨rfl, d_0, rfl⟩
  go_wp2_with fail
  refine (grow_call (H1.out _)).mono ?_
  rintro e_ w_ ⟨rfl, d_1, rfl⟩
  go_wp2_with fail
  refine (grow_call (H2.out _)).mono ?_
  rintro e_ w_ ⟨rfl, d_2, rfl⟩
  go_wp2_with fail
  refine (grow_call (H3.out _)).mono ?_
  rintro e_ w_ ⟨rfl, d_3, rfl⟩
  go_wp2_with fail
  refine (grow_call (H4.out _)).mono ?_
  rintro e_ w_ ⟨rfl, d_4, rfl⟩
  go_wp2_with fail
  refine (grow_call (H5.out _)).mono ?_
  rintro e_ w_ ⟨rfl, d_5, rfl⟩
  go_wp2_with fail
  refine (grow_call (H6.out _)).mono ?_
  rintro e_ w_ ⟨rfl, d_6, rfl⟩
  go_wp2_with fail
  refine (grow_call (H7.out _)).mono ?_
  rintro e_ w_ ⟨rfl, d_7, rfl⟩
  go_wp2_with fail
  refine (grow_call (H8.out _)).mono ?_
  rintro e_ w_ ⟨rfl, d_8, rfl⟩
  go_wp2_with fail
  refine (grow_call (H9.out _)).mono ?_
  rintro e_ w_ ⟨rfl, d_9, rfl⟩
  go_wp2_with fail
  refine (grow_call (H10.out _)).mono ?_
  rintro e_ w_ ⟨rfl, d_10, rfl⟩
  go_wp2_with fail
  refine bodyPost_ret (v := .tuple #[.agg #[.int .u64 q0, .int .u64 q1, .int .u64 q2, .int .u64 q3, .int .u64 q4, .int .u64 q5, .int .u64 q6, .int .u64 q7, .int .u64 q8, .int .u64 q9, .int .u64 q10, .int .u32 q11, .int .u32 q12, .int .u16 q13, .int .u16 q14, .int .u64 q15], .bool true]) (by simp [results, Try.results41, go_sem]) rfl ⟨rfl, ?_⟩
  (repeat (first | with_reducible exact Below.refl _ _ | with_reducible assumption | (with_reducible refine bel_set ?_ (by first | exact Nat.le_refl _ | (simp; done) | (simp; omega) | omega) _) | with_reducible refine bel_grow ?_ _ | with_reducible refine Below.drew ?_ | with_reducible refine below_drewN ?_ _ | with_reducible refine bel_alloc ?_ _ | with_reducible refine bel_trans ?_ (by assumption)))
end Go.Proofs.Ytncampbmnbhikaa
