/-
  The document's GetReply, walked: states, counts, what is no reply.
-/
import Derived.Test.YtncampbmnbhikaaJ19
import Derived.Test.YtncampbmnbhikaaJ15
import Derived.Test.YtncampbmnbhikaaRefD
namespace Go.Proofs.Ytncampbmnbhikaa
set_option linter.unusedVariables false
set_option linter.unusedSimpArgs false
open Go.RowKit

section
attribute [local go_sem] loadV_ptr storeV_ptr
attribute [local go_sem ↓] load_WP store_WP
set_option maxRecDepth 8000 in
set_option maxHeartbeats 4000000 in
theorem refGetReply_zero (n : Nat) (e : Nat → Int) (he : ∀ i, 0 ≤ e i ∧ e i < 256) (hn : n ≤ 100000) (w : World) (h : n = 0) :
    Calls Try.prog 12 #[.string (strF e n)] w fun r w' => r = .returned (.tuple #[.agg #[.int .i64 0, .int .i64 0, .slice none 0 0, .slice none 0 0, .slice none 0 0, .slice none 0 0, .int .u32 0], .bool false]) ∧ Below w.heap.size w w' := by
  subst h
  have es : (strF e 0).size = 0 := strF_size e 0
  go_enter Try.func12, Try.ntmps12
  go_wp2_with fail
  all_goals (
      refine abs_post (fun Y_ => Below w.heap.size w Y_ ∧ Blk Y_ w.heap.size 28 #[.int .i64 0, .int .i64 0, .slice none 0 0, .slice none 0 0, .slice none 0 0, .slice none 0 0, .int .u32 0]) ⟨by (repeat (first | exact Below.refl _ _ | assumption | refine below_drewN ?_ _ | refine bel_grow ?_ _ | refine Below.drew ?_ | refine bel_alloc ?_ _ | refine bel_set ?_ (by first | exact Nat.le_refl _ | (simp; done) | (simp; omega) | omega) _ | refine bel_trans ?_ (by assumption))), by (repeat (first | with_reducible assumption | (with_reducible refine Blk.new' ?_; first | with_reducible rfl | (simp; done)) | with_reducible refine Blk.alloc ?_ _ | with_reducible refine Blk.grow ?_ _ | with_reducible refine Blk.drew ?_ | with_reducible refine Blk.drewN ?_ _ | (with_reducible refine Blk.far ?_ (by first | (dsimp only; omega) | (simp; omega)) _) | (with_reducible apply Blk.two) | (with_reducible refine Blk.set' ?_ _ _ ?_) | (with_reducible rfl) | rfl))⟩ ?_
      rintro Y_ ⟨bZ_, gP_⟩
      have HLV := loadVar_blk (ty := 28) Try.underlying28 rfl (by kernel_rfl) gP_ rfl
      refine bodyPost_ret (v := .tuple #[.agg #[.int .i64 0, .int .i64 0, .slice none 0 0, .slice none 0 0, .slice none 0 0, .slice none 0 0, .int .u32 0], .bool false]) (results_ct Try.results12 rfl HLV) rfl ⟨rfl, bZ_⟩)
set_option maxRecDepth 8000 in
set_option maxHeartbeats 4000000 in
theorem refGetReply_one (n : Nat) (e : Nat → Int) (he : ∀ i, 0 ≤ e i ∧ e i < 256) (hn : n ≤ 100000) (w : World) (h : n = 1) (h0 : e 0 < 1 ∨ 4 < e 0) :
    Calls Try.prog 12 #[.string (strF e n)] w fun r w' => r = .returned (.tuple #[.agg #[.int .i64 0, .int .i64 0, .slice none 0 0, .slice none 0 0, .slice none 0 0, .slice none 0 0, .int .u32 0], .bool false]) ∧ Below w.heap.size w w' := by
  subst h
  have es : (strF e 1).size = 1 := strF_size e 1
  have z0 : 0 < (strF e 1).size := by rw [es]; omega
  have g0 : (((strF e 1)[0]'z0).toNat : Int) = e 0 := strF_at z0 (he 0)
  have y := he 0
  clear he
  generalize e 0 = x at *
  by_cases h1 : x < 1
  · have k1 : decide (1 ≤ x) = false := decide_eq_false (by omega)
    go_enter Try.func12, Try.ntmps12
    go_wp2_with fail
    all_goals (
        refine abs_post (fun Y_ => Below w.heap.size w Y_ ∧ Blk Y_ w.heap.size 28 #[.int .i64 0, .int .i64 0, .slice none 0 0, .slice none 0 0, .slice none 0 0, .slice none 0 0, .int .u32 0]) ⟨by (repeat (first | exact Below.refl _ _ | assumption | refine below_drewN ?_ _ | refine bel_grow ?_ _ | refine Below.drew ?_ | refine bel_alloc ?_ _ | refine bel_set ?_ (by first | exact Nat.le_refl _ | (simp; done) | (simp; omega) | omega) _ | refine bel_trans ?_ (by assumption))), by (repeat (first | with_reducible assumption | (with_reducible refine Blk.new' ?_; first | with_reducible rfl | (simp; done)) | with_reducible refine Blk.alloc ?_ _ | with_reducible refine Blk.grow ?_ _ | with_reducible refine Blk.drew ?_ | with_reducible refine Blk.drewN ?_ _ | (with_reducible refine Blk.far ?_ (by first | (dsimp only; omega) | (simp; omega)) _) | (with_reducible apply Blk.two) | (with_reducible refine Blk.set' ?_ _ _ ?_) | (with_reducible rfl) | rfl))⟩ ?_
        rintro Y_ ⟨bZ_, gP_⟩
        have HLV := loadVar_blk (ty := 28) Try.underlying28 rfl (by kernel_rfl) gP_ rfl
        refine bodyPost_ret (v := .tuple #[.agg #[.int .i64 0, .int .i64 0, .slice none 0 0, .slice none 0 0, .slice none 0 0, .slice none 0 0, .int .u32 0], .bool false]) (results_ct Try.results12 rfl HLV) rfl ⟨rfl, bZ_⟩)
  · have k1 : decide (1 ≤ x) = true := decide_eq_true (by omega)
    have k2 : decide (x ≤ 4) = false := decide_eq_false (by omega)
    go_enter Try.func12, Try.ntmps12
    go_wp2_with fail
    all_goals (
        refine abs_post (fun Y_ => Below w.heap.size w Y_ ∧ Blk Y_ w.heap.size 28 #[.int .i64 0, .int .i64 0, .slice none 0 0, .slice none 0 0, .slice none 0 0, .slice none 0 0, .int .u32 0]) ⟨by (repeat (first | exact Below.refl _ _ | assumption | refine below_drewN ?_ _ | refine bel_grow ?_ _ | refine Below.drew ?_ | refine bel_alloc ?_ _ | refine bel_set ?_ (by first | exact Nat.le_refl _ | (simp; done) | (simp; omega) | omega) _ | refine bel_trans ?_ (by assumption))), by (repeat (first | with_reducible assumption | (with_reducible refine Blk.new' ?_; first | with_reducible rfl | (simp; done)) | with_reducible refine Blk.alloc ?_ _ | with_reducible refine Blk.grow ?_ _ | with_reducible refine Blk.drew ?_ | with_reducible refine Blk.drewN ?_ _ | (with_reducible refine Blk.far ?_ (by first | (dsimp only; omega) | (simp; omega)) _) | (with_reducible apply Blk.two) | (with_reducible refine Blk.set' ?_ _ _ ?_) | (with_reducible rfl) | rfl))⟩ ?_
        rintro Y_ ⟨bZ_, gP_⟩
        have HLV := loadVar_blk (ty := 28) Try.underlying28 rfl (by kernel_rfl) gP_ rfl
        refine bodyPost_ret (v := .tuple #[.agg #[.int .i64 0, .int .i64 0, .slice none 0 0, .slice none 0 0, .slice none 0 0, .slice none 0 0, .int .u32 0], .bool false]) (results_ct Try.results12 rfl HLV) rfl ⟨rfl, bZ_⟩)
set_option maxRecDepth 8000 in
set_option maxHeartbeats 4000000 in
theorem refGetReply_st (n : Nat) (e : Nat → Int) (he : ∀ i, 0 ≤ e i ∧ e i < 256) (hn : n ≤ 100000) (w : World) (h : n = 1) (h0 : 1 ≤ e 0 ∧ e 0 ≤ 4) :
    Calls Try.prog 12 #[.string (strF e n)] w fun r w' => r = .returned (.tuple #[.agg #[.int .i64 (e 0), .int .i64 0, .slice none 0 0, .slice none 0 0, .slice none 0 0, .slice none 0 0, .int .u32 0], .bool true]) ∧ Below w.heap.size w w' := by
  subst h
  have es : (strF e 1).size = 1 := strF_size e 1
  have z0 : 0 < (strF e 1).size := by rw [es]; omega
  have g0 : (((strF e 1)[0]'z0).toNat : Int) = e 0 := strF_at z0 (he 0)
  have y := he 0
  clear he
  generalize e 0 = x at *
  have k1 : decide (1 ≤ x) = true := decide_eq_true (by omega)
  have k2 : decide (x ≤ 4) = true := decide_eq_true (by omega)
  go_enter Try.func12, Try.ntmps12
  go_wp2_with fail
  all_goals (
      refine abs_post (fun Y_ => Below w.heap.size w Y_ ∧ Blk Y_ w.heap.size 28 #[.int .i64 x, .int .i64 0, .slice none 0 0, .slice none 0 0, .slice none 0 0, .slice none 0 0, .int .u32 0]) ⟨by (repeat (first | exact Below.refl _ _ | assumption | refine below_drewN ?_ _ | refine bel_grow ?_ _ | refine Below.drew ?_ | refine bel_alloc ?_ _ | refine bel_set ?_ (by first | exact Nat.le_refl _ | (simp; done) | (simp; omega) | omega) _ | refine bel_trans ?_ (by assumption))), by (repeat (first | with_reducible assumption | (with_reducible refine Blk.new' ?_; first | with_reducible rfl | (simp; done)) | with_reducible refine Blk.alloc ?_ _ | with_reducible refine Blk.grow ?_ _ | with_reducible refine Blk.drew ?_ | with_reducible refine Blk.drewN ?_ _ | (with_reducible refine Blk.far ?_ (by first | (dsimp only; omega) | (simp; omega)) _) | (with_reducible apply Blk.two) | (with_reducible refine Blk.set' ?_ _ _ ?_) | (with_reducible rfl) | rfl))⟩ ?_
      rintro Y_ ⟨bZ_, gP_⟩
      have HLV := loadVar_blk (ty := 28) Try.underlying28 rfl (by kernel_rfl) gP_ rfl
      refine bodyPost_ret (v := .tuple #[.agg #[.int .i64 x, .int .i64 0, .slice none 0 0, .slice none 0 0, .slice none 0 0, .slice none 0 0, .int .u32 0], .bool true]) (results_ct Try.results12 rfl HLV) rfl ⟨rfl, bZ_⟩)
set_option maxRecDepth 8000 in
set_option maxHeartbeats 4000000 in
theorem refGetReply_head (n : Nat) (e : Nat → Int) (he : ∀ i, 0 ≤ e i ∧ e i < 256) (hn : n ≤ 100000) (w : World) (h2 : 2 ≤ n) (h0 : e 0 ≠ 0) :
    Calls Try.prog 12 #[.string (strF e n)] w fun r w' => r = .returned (.tuple #[.agg #[.int .i64 0, .int .i64 0, .slice none 0 0, .slice none 0 0, .slice none 0 0, .slice none 0 0, .int .u32 0], .bool false]) ∧ Below w.heap.size w w' := by
  have es : (strF e n).size = n := strF_size e n
  have z0 : 0 < (strF e n).size := by rw [es]; omega
  have z1 : 1 < (strF e n).size := by rw [es]; omega
  have g0 : (((strF e n)[0]'z0).toNat : Int) = e 0 := strF_at z0 (he 0)
  have g1 : (((strF e n)[1]'z1).toNat : Int) = e 1 := strF_at z1 (he 1)
  have k1 : ((n : Int) == 1) = false := beq_eq_false_iff_ne.2 (by omega)
  have k2 : decide ((n : Int) < 2) = false := decide_eq_false (by omega)
  have y0 := he 0
  have y1 := he 1
  clear he
  generalize e 0 = x at *
  have k3 : (x != 0) = true := by rw [bne_iff_ne]; exact h0
  go_enter Try.func12, Try.ntmps12
  go_wp2_with fail
  all_goals (
      refine abs_post (fun Y_ => Below w.heap.size w Y_ ∧ Blk Y_ w.heap.size 28 #[.int .i64 0, .int .i64 0, .slice none 0 0, .slice none 0 0, .slice none 0 0, .slice none 0 0, .int .u32 0]) ⟨by (repeat (first | exact Below.refl _ _ | assumption | refine below_drewN ?_ _ | refine bel_grow ?_ _ | refine Below.drew ?_ | refine bel_alloc ?_ _ | refine bel_set ?_ (by first | exact Nat.le_refl _ | (simp; done) | (simp; omega) | omega) _ | refine bel_trans ?_ (by assumption))), by (repeat (first | with_reducible assumption | (with_reducible refine Blk.new' ?_; first | with_reducible rfl | (simp; done)) | with_reducible refine Blk.alloc ?_ _ | with_reducible refine Blk.grow ?_ _ | with_reducible refine Blk.drew ?_ | with_reducible refine Blk.drewN ?_ _ | (with_reducible refine Blk.far ?_ (by first | (dsimp only; omega) | (simp; omega)) _) | (with_reducible apply Blk.two) | (with_reducible refine Blk.set' ?_ _ _ ?_) | (with_reducible rfl) | rfl))⟩ ?_
      rintro Y_ ⟨bZ_, gP_⟩
      have HLV := loadVar_blk (ty := 28) Try.underlying28 rfl (by kernel_rfl) gP_ rfl
      refine bodyPost_ret (v := .tuple #[.agg #[.int .i64 0, .int .i64 0, .slice none 0 0, .slice none 0 0, .slice none 0 0, .slice none 0 0, .int .u32 0], .bool false]) (results_ct Try.results12 rfl HLV) rfl ⟨rfl, bZ_⟩)
set_option maxRecDepth 8000 in
set_option maxHeartbeats 4000000 in
theorem refGetReply_kd (n : Nat) (e : Nat → Int) (he : ∀ i, 0 ≤ e i ∧ e i < 256) (hn : n ≤ 100000) (w : World) (h2 : 2 ≤ n) (h0 : e 0 = 0) (h1 : e 1 < 1 ∨ 7 < e 1) :
    Calls Try.prog 12 #[.string (strF e n)] w fun r w' => r = .returned (.tuple #[.agg #[.int .i64 0, .int .i64 0, .slice none 0 0, .slice none 0 0, .slice none 0 0, .slice none 0 0, .int .u32 0], .bool false]) ∧ Below w.heap.size w w' := by
  have es : (strF e n).size = n := strF_size e n
  have z0 : 0 < (strF e n).size := by rw [es]; omega
  have z1 : 1 < (strF e n).size := by rw [es]; omega
  have g0 : (((strF e n)[0]'z0).toNat : Int) = e 0 := strF_at z0 (he 0)
  have g1 : (((strF e n)[1]'z1).toNat : Int) = e 1 := strF_at z1 (he 1)
  have k1 : ((n : Int) == 1) = false := beq_eq_false_iff_ne.2 (by omega)
  have k2 : decide ((n : Int) < 2) = false := decide_eq_false (by omega)
  have y0 := he 0
  have y1 := he 1
  clear he
  rw [h0] at g0
  generalize e 1 = x at *
  by_cases h3 : x < 1
  · have k3 : decide (x < 1) = true := decide_eq_true h3
    go_enter Try.func12, Try.ntmps12
    go_wp2_with fail
    all_goals (
        refine abs_post (fun Y_ => Below w.heap.size w Y_ ∧ Blk Y_ w.heap.size 28 #[.int .i64 0, .int .i64 0, .slice none 0 0, .slice none 0 0, .slice none 0 0, .slice none 0 0, .int .u32 0]) ⟨by (repeat (first | exact Below.refl _ _ | assumption | refine below_drewN ?_ _ | refine bel_grow ?_ _ | refine Below.drew ?_ | refine bel_alloc ?_ _ | refine bel_set ?_ (by first | exact Nat.le_refl _ | (simp; done) | (simp; omega) | omega) _ | refine bel_trans ?_ (by assumption))), by (repeat (first | with_reducible assumption | (with_reducible refine Blk.new' ?_; first | with_reducible rfl | (simp; done)) | with_reducible refine Blk.alloc ?_ _ | with_reducible refine Blk.grow ?_ _ | with_reducible refine Blk.drew ?_ | with_reducible refine Blk.drewN ?_ _ | (with_reducible refine Blk.far ?_ (by first | (dsimp only; omega) | (simp; omega)) _) | (with_reducible apply Blk.two) | (with_reducible refine Blk.set' ?_ _ _ ?_) | (with_reducible rfl) | rfl))⟩ ?_
        rintro Y_ ⟨bZ_, gP_⟩
        have HLV := loadVar_blk (ty := 28) Try.underlying28 rfl (by kernel_rfl) gP_ rfl
        refine bodyPost_ret (v := .tuple #[.agg #[.int .i64 0, .int .i64 0, .slice none 0 0, .slice none 0 0, .slice none 0 0, .slice none 0 0, .int .u32 0], .bool false]) (results_ct Try.results12 rfl HLV) rfl ⟨rfl, bZ_⟩)
  · have k3 : decide (x < 1) = false := decide_eq_false h3
    have k4 : decide (7 < x) = true := decide_eq_true (by omega)
    go_enter Try.func12, Try.ntmps12
    go_wp2_with fail
    all_goals (
        refine abs_post (fun Y_ => Below w.heap.size w Y_ ∧ Blk Y_ w.heap.size 28 #[.int .i64 0, .int .i64 0, .slice none 0 0, .slice none 0 0, .slice none 0 0, .slice none 0 0, .int .u32 0]) ⟨by (repeat (first | exact Below.refl _ _ | assumption | refine below_drewN ?_ _ | refine bel_grow ?_ _ | refine Below.drew ?_ | refine bel_alloc ?_ _ | refine bel_set ?_ (by first | exact Nat.le_refl _ | (simp; done) | (simp; omega) | omega) _ | refine bel_trans ?_ (by assumption))), by (repeat (first | with_reducible assumption | (with_reducible refine Blk.new' ?_; first | with_reducible rfl | (simp; done)) | with_reducible refine Blk.alloc ?_ _ | with_reducible refine Blk.grow ?_ _ | with_reducible refine Blk.drew ?_ | with_reducible refine Blk.drewN ?_ _ | (with_reducible refine Blk.far ?_ (by first | (dsimp only; omega) | (simp; omega)) _) | (with_reducible apply Blk.two) | (with_reducible refine Blk.set' ?_ _ _ ?_) | (with_reducible rfl) | rfl))⟩ ?_
        rintro Y_ ⟨bZ_, gP_⟩
        have HLV := loadVar_blk (ty := 28) Try.underlying28 rfl (by kernel_rfl) gP_ rfl
        refine bodyPost_ret (v := .tuple #[.agg #[.int .i64 0, .int .i64 0, .slice none 0 0, .slice none 0 0, .slice none 0 0, .slice none 0 0, .int .u32 0], .bool false]) (results_ct Try.results12 rfl HLV) rfl ⟨rfl, bZ_⟩)
set_option maxRecDepth 8000 in
set_option maxHeartbeats 4000000 in
theorem refGetReply_n1 (n : Nat) (e : Nat → Int) (he : ∀ i, 0 ≤ e i ∧ e i < 256) (hn : n ≤ 100000) (w : World) (h2 : 2 ≤ n) (hq : (n - 2) % 8 ≠ 0) (h0 : e 0 = 0) (h1 : e 1 = 1) :
    Calls Try.prog 12 #[.string (strF e n)] w fun r w' => r = .returned (.tuple #[.agg #[.int .i64 0, .int .i64 0, .slice none 0 0, .slice none 0 0, .slice none 0 0, .slice none 0 0, .int .u32 0], .bool false]) ∧ Below w.heap.size w w' := by
  have es : (strF e n).size = n := strF_size e n
  have z0 : 0 < (strF e n).size := by rw [es]; omega
  have z1 : 1 < (strF e n).size := by rw [es]; omega
  have g0 : (((strF e n)[0]'z0).toNat : Int) = e 0 := strF_at z0 (he 0)
  have g1 : (((strF e n)[1]'z1).toNat : Int) = e 1 := strF_at z1 (he 1)
  have k1 : ((n : Int) == 1) = false := beq_eq_false_iff_ne.2 (by omega)
  have k2 : decide ((n : Int) < 2) = false := decide_eq_false (by omega)
  have y0 := he 0
  have y1 := he 1
  clear he
  rw [h0] at g0
  rw [h1] at g1
  have k5 : (((n : Int) - 2) % 8 != 0) = true := by rw [bne_iff_ne]; omega
  clear h0 h1 y0 y1 hq
  go_enter Try.func12, Try.ntmps12
  go_wp2_with fail
  all_goals (
      refine abs_post (fun Y_ => Below w.heap.size w Y_ ∧ Blk Y_ w.heap.size 28 #[.int .i64 0, .int .i64 0, .slice none 0 0, .slice none 0 0, .slice none 0 0, .slice none 0 0, .int .u32 0]) ⟨by (repeat (first | exact Below.refl _ _ | assumption | refine below_drewN ?_ _ | refine bel_grow ?_ _ | refine Below.drew ?_ | refine bel_alloc ?_ _ | refine bel_set ?_ (by first | exact Nat.le_refl _ | (simp; done) | (simp; omega) | omega) _ | refine bel_trans ?_ (by assumption))), by (repeat (first | with_reducible assumption | (with_reducible refine Blk.new' ?_; first | with_reducible rfl | (simp; done)) | with_reducible refine Blk.alloc ?_ _ | with_reducible refine Blk.grow ?_ _ | with_reducible refine Blk.drew ?_ | with_reducible refine Blk.drewN ?_ _ | (with_reducible refine Blk.far ?_ (by first | (dsimp only; omega) | (simp; omega)) _) | (with_reducible apply Blk.two) | (with_reducible refine Blk.set' ?_ _ _ ?_) | (with_reducible rfl) | rfl))⟩ ?_
      rintro Y_ ⟨bZ_, gP_⟩
      have HLV := loadVar_blk (ty := 28) Try.underlying28 rfl (by kernel_rfl) gP_ rfl
      refine bodyPost_ret (v := .tuple #[.agg #[.int .i64 0, .int .i64 0, .slice none 0 0, .slice none 0 0, .slice none 0 0, .slice none 0 0, .int .u32 0], .bool false]) (results_ct Try.results12 rfl HLV) rfl ⟨rfl, bZ_⟩)
set_option maxRecDepth 8000 in
set_option maxHeartbeats 4000000 in
theorem refGetReply_n2 (n : Nat) (e : Nat → Int) (he : ∀ i, 0 ≤ e i ∧ e i < 256) (hn : n ≤ 100000) (w : World) (h2 : 2 ≤ n) (hq : (n - 2) % 8 ≠ 0) (h0 : e 0 = 0) (h1 : e 1 = 2) :
    Calls Try.prog 12 #[.string (strF e n)] w fun r w' => r = .returned (.tuple #[.agg #[.int .i64 0, .int .i64 0, .slice none 0 0, .slice none 0 0, .slice none 0 0, .slice none 0 0, .int .u32 0], .bool false]) ∧ Below w.heap.size w w' := by
  have es : (strF e n).size = n := strF_size e n
  have z0 : 0 < (strF e n).size := by rw [es]; omega
  have z1 : 1 < (strF e n).size := by rw [es]; omega
  have g0 : (((strF e n)[0]'z0).toNat : Int) = e 0 := strF_at z0 (he 0)
  have g1 : (((strF e n)[1]'z1).toNat : Int) = e 1 := strF_at z1 (he 1)
  have k1 : ((n : Int) == 1) = false := beq_eq_false_iff_ne.2 (by omega)
  have k2 : decide ((n : Int) < 2) = false := decide_eq_false (by omega)
  have y0 := he 0
  have y1 := he 1
  clear he
  rw [h0] at g0
  rw [h1] at g1
  have k5 : (((n : Int) - 2) % 8 != 0) = true := by rw [bne_iff_ne]; omega
  clear h0 h1 y0 y1 hq
  go_enter Try.func12, Try.ntmps12
  go_wp2_with fail
  all_goals (
      refine abs_post (fun Y_ => Below w.heap.size w Y_ ∧ Blk Y_ w.heap.size 28 #[.int .i64 0, .int .i64 0, .slice none 0 0, .slice none 0 0, .slice none 0 0, .slice none 0 0, .int .u32 0]) ⟨by (repeat (first | exact Below.refl _ _ | assumption | refine below_drewN ?_ _ | refine bel_grow ?_ _ | refine Below.drew ?_ | refine bel_alloc ?_ _ | refine bel_set ?_ (by first | exact Nat.le_refl _ | (simp; done) | (simp; omega) | omega) _ | refine bel_trans ?_ (by assumption))), by (repeat (first | with_reducible assumption | (with_reducible refine Blk.new' ?_; first | with_reducible rfl | (simp; done)) | with_reducible refine Blk.alloc ?_ _ | with_reducible refine Blk.grow ?_ _ | with_reducible refine Blk.drew ?_ | with_reducible refine Blk.drewN ?_ _ | (with_reducible refine Blk.far ?_ (by first | (dsimp only; omega) | (simp; omega)) _) | (with_reducible apply Blk.two) | (with_reducible refine Blk.set' ?_ _ _ ?_) | (with_reducible rfl) | rfl))⟩ ?_
      rintro Y_ ⟨bZ_, gP_⟩
      have HLV := loadVar_blk (ty := 28) Try.underlying28 rfl (by kernel_rfl) gP_ rfl
      refine bodyPost_ret (v := .tuple #[.agg #[.int .i64 0, .int .i64 0, .slice none 0 0, .slice none 0 0, .slice none 0 0, .slice none 0 0, .int .u32 0], .bool false]) (results_ct Try.results12 rfl HLV) rfl ⟨rfl, bZ_⟩)
set_option maxRecDepth 8000 in
set_option maxHeartbeats 4000000 in
theorem refGetReply_n3 (n : Nat) (e : Nat → Int) (he : ∀ i, 0 ≤ e i ∧ e i < 256) (hn : n ≤ 100000) (w : World) (h2 : 2 ≤ n) (hq : (n - 2) % 104 ≠ 0) (h0 : e 0 = 0) (h1 : e 1 = 3) :
    Calls Try.prog 12 #[.string (strF e n)] w fun r w' => r = .returned (.tuple #[.agg #[.int .i64 0, .int .i64 0, .slice none 0 0, .slice none 0 0, .slice none 0 0, .slice none 0 0, .int .u32 0], .bool false]) ∧ Below w.heap.size w w' := by
  have es : (strF e n).size = n := strF_size e n
  have z0 : 0 < (strF e n).size := by rw [es]; omega
  have z1 : 1 < (strF e n).size := by rw [es]; omega
  have g0 : (((strF e n)[0]'z0).toNat : Int) = e 0 := strF_at z0 (he 0)
  have g1 : (((strF e n)[1]'z1).toNat : Int) = e 1 := strF_at z1 (he 1)
  have k1 : ((n : Int) == 1) = false := beq_eq_false_iff_ne.2 (by omega)
  have k2 : decide ((n : Int) < 2) = false := decide_eq_false (by omega)
  have y0 := he 0
  have y1 := he 1
  clear he
  rw [h0] at g0
  rw [h1] at g1
  have k5 : (((n : Int) - 2) % 104 != 0) = true := by rw [bne_iff_ne]; omega
  clear h0 h1 y0 y1 hq
  go_enter Try.func12, Try.ntmps12
  go_wp2_with fail
  all_goals (
      refine abs_post (fun Y_ => Below w.heap.size w Y_ ∧ Blk Y_ w.heap.size 28 #[.int .i64 0, .int .i64 0, .slice none 0 0, .slice none 0 0, .slice none 0 0, .slice none 0 0, .int .u32 0]) ⟨by (repeat (first | exact Below.refl _ _ | assumption | refine below_drewN ?_ _ | refine bel_grow ?_ _ | refine Below.drew ?_ | refine bel_alloc ?_ _ | refine bel_set ?_ (by first | exact Nat.le_refl _ | (simp; done) | (simp; omega) | omega) _ | refine bel_trans ?_ (by assumption))), by (repeat (first | with_reducible assumption | (with_reducible refine Blk.new' ?_; first | with_reducible rfl | (simp; done)) | with_reducible refine Blk.alloc ?_ _ | with_reducible refine Blk.grow ?_ _ | with_reducible refine Blk.drew ?_ | with_reducible refine Blk.drewN ?_ _ | (with_reducible refine Blk.far ?_ (by first | (dsimp only; omega) | (simp; omega)) _) | (with_reducible apply Blk.two) | (with_reducible refine Blk.set' ?_ _ _ ?_) | (with_reducible rfl) | rfl))⟩ ?_
      rintro Y_ ⟨bZ_, gP_⟩
      have HLV := loadVar_blk (ty := 28) Try.underlying28 rfl (by kernel_rfl) gP_ rfl
      refine bodyPost_ret (v := .tuple #[.agg #[.int .i64 0, .int .i64 0, .slice none 0 0, .slice none 0 0, .slice none 0 0, .slice none 0 0, .int .u32 0], .bool false]) (results_ct Try.results12 rfl HLV) rfl ⟨rfl, bZ_⟩)
set_option maxRecDepth 8000 in
set_option maxHeartbeats 4000000 in
theorem refGetReply_n4 (n : Nat) (e : Nat → Int) (he : ∀ i, 0 ≤ e i ∧ e i < 256) (hn : n ≤ 100000) (w : World) (h2 : 2 ≤ n) (hq : (n - 2) % 108 ≠ 0) (h0 : e 0 = 0) (h1 : e 1 = 4) :
    Calls Try.prog 12 #[.string (strF e n)] w fun r w' => r = .returned (.tuple #[.agg #[.int .i64 0, .int .i64 0, .slice none 0 0, .slice none 0 0, .slice none 0 0, .slice none 0 0, .int .u32 0], .bool false]) ∧ Below w.heap.size w w' := by
  have es : (strF e n).size = n := strF_size e n
  have z0 : 0 < (strF e n).size := by rw [es]; omega
  have z1 : 1 < (strF e n).size := by rw [es]; omega
  have g0 : (((strF e n)[0]'z0).toNat : Int) = e 0 := strF_at z0 (he 0)
  have g1 : (((strF e n)[1]'z1).toNat : Int) = e 1 := strF_at z1 (he 1)
  have k1 : ((n : Int) == 1) = false := beq_eq_false_iff_ne.2 (by omega)
  have k2 : decide ((n : Int) < 2) = false := decide_eq_false (by omega)
  have y0 := he 0
  have y1 := he 1
  clear he
  rw [h0] at g0
  rw [h1] at g1
  have k5 : (((n : Int) - 2) % 108 != 0) = true := by rw [bne_iff_ne]; omega
  clear h0 h1 y0 y1 hq
  go_enter Try.func12, Try.ntmps12
  go_wp2_with fail
  all_goals (
      refine abs_post (fun Y_ => Below w.heap.size w Y_ ∧ Blk Y_ w.heap.size 28 #[.int .i64 0, .int .i64 0, .slice none 0 0, .slice none 0 0, .slice none 0 0, .slice none 0 0, .int .u32 0]) ⟨by (repeat (first | exact Below.refl _ _ | assumption | refine below_drewN ?_ _ | refine bel_grow ?_ _ | refine Below.drew ?_ | refine bel_alloc ?_ _ | refine bel_set ?_ (by first | exact Nat.le_refl _ | (simp; done) | (simp; omega) | omega) _ | refine bel_trans ?_ (by assumption))), by (repeat (first | with_reducible assumption | (with_reducible refine Blk.new' ?_; first | with_reducible rfl | (simp; done)) | with_reducible refine Blk.alloc ?_ _ | with_reducible refine Blk.grow ?_ _ | with_reducible refine Blk.drew ?_ | with_reducible refine Blk.drewN ?_ _ | (with_reducible refine Blk.far ?_ (by first | (dsimp only; omega) | (simp; omega)) _) | (with_reducible apply Blk.two) | (with_reducible refine Blk.set' ?_ _ _ ?_) | (with_reducible rfl) | rfl))⟩ ?_
      rintro Y_ ⟨bZ_, gP_⟩
      have HLV := loadVar_blk (ty := 28) Try.underlying28 rfl (by kernel_rfl) gP_ rfl
      refine bodyPost_ret (v := .tuple #[.agg #[.int .i64 0, .int .i64 0, .slice none 0 0, .slice none 0 0, .slice none 0 0, .slice none 0 0, .int .u32 0], .bool false]) (results_ct Try.results12 rfl HLV) rfl ⟨rfl, bZ_⟩)
set_option maxRecDepth 8000 in
set_option maxHeartbeats 4000000 in
theorem refGetReply_n5 (n : Nat) (e : Nat → Int) (he : ∀ i, 0 ≤ e i ∧ e i < 256) (hn : n ≤ 100000) (w : World) (h2 : 2 ≤ n) (hq : (n - 2) % 108 ≠ 0) (h0 : e 0 = 0) (h1 : e 1 = 5) :
    Calls Try.prog 12 #[.string (strF e n)] w fun r w' => r = .returned (.tuple #[.agg #[.int .i64 0, .int .i64 0, .slice none 0 0, .slice none 0 0, .slice none 0 0, .slice none 0 0, .int .u32 0], .bool false]) ∧ Below w.heap.size w w' := by
  have es : (strF e n).size = n := strF_size e n
  have z0 : 0 < (strF e n).size := by rw [es]; omega
  have z1 : 1 < (strF e n).size := by rw [es]; omega
  have g0 : (((strF e n)[0]'z0).toNat : Int) = e 0 := strF_at z0 (he 0)
  have g1 : (((strF e n)[1]'z1).toNat : Int) = e 1 := strF_at z1 (he 1)
  have k1 : ((n : Int) == 1) = false := beq_eq_false_iff_ne.2 (by omega)
  have k2 : decide ((n : Int) < 2) = false := decide_eq_false (by omega)
  have y0 := he 0
  have y1 := he 1
  clear he
  rw [h0] at g0
  rw [h1] at g1
  have k5 : (((n : Int) - 2) % 108 != 0) = true := by rw [bne_iff_ne]; omega
  clear h0 h1 y0 y1 hq
  go_enter Try.func12, Try.ntmps12
  go_wp2_with fail
  all_goals (
      refine abs_post (fun Y_ => Below w.heap.size w Y_ ∧ Blk Y_ w.heap.size 28 #[.int .i64 0, .int .i64 0, .slice none 0 0, .slice none 0 0, .slice none 0 0, .slice none 0 0, .int .u32 0]) ⟨by (repeat (first | exact Below.refl _ _ | assumption | refine below_drewN ?_ _ | refine bel_grow ?_ _ | refine Below.drew ?_ | refine bel_alloc ?_ _ | refine bel_set ?_ (by first | exact Nat.le_refl _ | (simp; done) | (simp; omega) | omega) _ | refine bel_trans ?_ (by assumption))), by (repeat (first | with_reducible assumption | (with_reducible refine Blk.new' ?_; first | with_reducible rfl | (simp; done)) | with_reducible refine Blk.alloc ?_ _ | with_reducible refine Blk.grow ?_ _ | with_reducible refine Blk.drew ?_ | with_reducible refine Blk.drewN ?_ _ | (with_reducible refine Blk.far ?_ (by first | (dsimp only; omega) | (simp; omega)) _) | (with_reducible apply Blk.two) | (with_reducible refine Blk.set' ?_ _ _ ?_) | (with_reducible rfl) | rfl))⟩ ?_
      rintro Y_ ⟨bZ_, gP_⟩
      have HLV := loadVar_blk (ty := 28) Try.underlying28 rfl (by kernel_rfl) gP_ rfl
      refine bodyPost_ret (v := .tuple #[.agg #[.int .i64 0, .int .i64 0, .slice none 0 0, .slice none 0 0, .slice none 0 0, .slice none 0 0, .int .u32 0], .bool false]) (results_ct Try.results12 rfl HLV) rfl ⟨rfl, bZ_⟩)
set_option maxRecDepth 8000 in
set_option maxHeartbeats 4000000 in
theorem refGetReply_n6 (n : Nat) (e : Nat → Int) (he : ∀ i, 0 ≤ e i ∧ e i < 256) (hn : n ≤ 100000) (w : World) (h2 : 2 ≤ n) (hq : (n - 2) % 72 ≠ 0) (h0 : e 0 = 0) (h1 : e 1 = 6) :
    Calls Try.prog 12 #[.string (strF e n)] w fun r w' => r = .returned (.tuple #[.agg #[.int .i64 0, .int .i64 0, .slice none 0 0, .slice none 0 0, .slice none 0 0, .slice none 0 0, .int .u32 0], .bool false]) ∧ Below w.heap.size w w' := by
  have es : (strF e n).size = n := strF_size e n
  have z0 : 0 < (strF e n).size := by rw [es]; omega
  have z1 : 1 < (strF e n).size := by rw [es]; omega
  have g0 : (((strF e n)[0]'z0).toNat : Int) = e 0 := strF_at z0 (he 0)
  have g1 : (((strF e n)[1]'z1).toNat : Int) = e 1 := strF_at z1 (he 1)
  have k1 : ((n : Int) == 1) = false := beq_eq_false_iff_ne.2 (by omega)
  have k2 : decide ((n : Int) < 2) = false := decide_eq_false (by omega)
  have y0 := he 0
  have y1 := he 1
  clear he
  rw [h0] at g0
  rw [h1] at g1
  have k5 : (((n : Int) - 2) % 72 != 0) = true := by rw [bne_iff_ne]; omega
  clear h0 h1 y0 y1 hq
  go_enter Try.func12, Try.ntmps12
  go_wp2_with fail
  all_goals (
      refine abs_post (fun Y_ => Below w.heap.size w Y_ ∧ Blk Y_ w.heap.size 28 #[.int .i64 0, .int .i64 0, .slice none 0 0, .slice none 0 0, .slice none 0 0, .slice none 0 0, .int .u32 0]) ⟨by (repeat (first | exact Below.refl _ _ | assumption | refine below_drewN ?_ _ | refine bel_grow ?_ _ | refine Below.drew ?_ | refine bel_alloc ?_ _ | refine bel_set ?_ (by first | exact Nat.le_refl _ | (simp; done) | (simp; omega) | omega) _ | refine bel_trans ?_ (by assumption))), by (repeat (first | with_reducible assumption | (with_reducible refine Blk.new' ?_; first | with_reducible rfl | (simp; done)) | with_reducible refine Blk.alloc ?_ _ | with_reducible refine Blk.grow ?_ _ | with_reducible refine Blk.drew ?_ | with_reducible refine Blk.drewN ?_ _ | (with_reducible refine Blk.far ?_ (by first | (dsimp only; omega) | (simp; omega)) _) | (with_reducible apply Blk.two) | (with_reducible refine Blk.set' ?_ _ _ ?_) | (with_reducible rfl) | rfl))⟩ ?_
      rintro Y_ ⟨bZ_, gP_⟩
      have HLV := loadVar_blk (ty := 28) Try.underlying28 rfl (by kernel_rfl) gP_ rfl
      refine bodyPost_ret (v := .tuple #[.agg #[.int .i64 0, .int .i64 0, .slice none 0 0, .slice none 0 0, .slice none 0 0, .slice none 0 0, .int .u32 0], .bool false]) (results_ct Try.results12 rfl HLV) rfl ⟨rfl, bZ_⟩)
set_option maxRecDepth 8000 in
set_option maxHeartbeats 4000000 in
theorem refGetReply_n7 (n : Nat) (e : Nat → Int) (he : ∀ i, 0 ≤ e i ∧ e i < 256) (hn : n ≤ 100000) (w : World) (h2 : 2 ≤ n) (h0 : e 0 = 0) (h1 : e 1 = 7) (h6 : n ≠ 6) :
    Calls Try.prog 12 #[.string (strF e n)] w fun r w' => r = .returned (.tuple #[.agg #[.int .i64 0, .int .i64 0, .slice none 0 0, .slice none 0 0, .slice none 0 0, .slice none 0 0, .int .u32 0], .bool false]) ∧ Below w.heap.size w w' := by
  have es : (strF e n).size = n := strF_size e n
  have z0 : 0 < (strF e n).size := by rw [es]; omega
  have z1 : 1 < (strF e n).size := by rw [es]; omega
  have g0 : (((strF e n)[0]'z0).toNat : Int) = e 0 := strF_at z0 (he 0)
  have g1 : (((strF e n)[1]'z1).toNat : Int) = e 1 := strF_at z1 (he 1)
  have k1 : ((n : Int) == 1) = false := beq_eq_false_iff_ne.2 (by omega)
  have k2 : decide ((n : Int) < 2) = false := decide_eq_false (by omega)
  have y0 := he 0
  have y1 := he 1
  clear he
  rw [h0] at g0
  rw [h1] at g1
  have k6 : ((n : Int) != 6) = true := by rw [bne_iff_ne]; omega
  clear h0 h1 y0 y1
  by_cases hq : (n - 2) % 4 = 0
  · have k5 : (((n : Int) - 2) % 4 != 0) = false := by rw [bne_eq_false_iff_eq]; omega
    clear hq
    go_enter Try.func12, Try.ntmps12
    go_wp2_with fail
    all_goals (
        refine abs_post (fun Y_ => Below w.heap.size w Y_ ∧ Blk Y_ w.heap.size 28 #[.int .i64 0, .int .i64 0, .slice none 0 0, .slice none 0 0, .slice none 0 0, .slice none 0 0, .int .u32 0]) ⟨by (repeat (first | exact Below.refl _ _ | assumption | refine below_drewN ?_ _ | refine bel_grow ?_ _ | refine Below.drew ?_ | refine bel_alloc ?_ _ | refine bel_set ?_ (by first | exact Nat.le_refl _ | (simp; done) | (simp; omega) | omega) _ | refine bel_trans ?_ (by assumption))), by (repeat (first | with_reducible assumption | (with_reducible refine Blk.new' ?_; first | with_reducible rfl | (simp; done)) | with_reducible refine Blk.alloc ?_ _ | with_reducible refine Blk.grow ?_ _ | with_reducible refine Blk.drew ?_ | with_reducible refine Blk.drewN ?_ _ | (with_reducible refine Blk.far ?_ (by first | (dsimp only; omega) | (simp; omega)) _) | (with_reducible apply Blk.two) | (with_reducible refine Blk.set' ?_ _ _ ?_) | (with_reducible rfl) | rfl))⟩ ?_
        rintro Y_ ⟨bZ_, gP_⟩
        have HLV := loadVar_blk (ty := 28) Try.underlying28 rfl (by kernel_rfl) gP_ rfl
        refine bodyPost_ret (v := .tuple #[.agg #[.int .i64 0, .int .i64 0, .slice none 0 0, .slice none 0 0, .slice none 0 0, .slice none 0 0, .int .u32 0], .bool false]) (results_ct Try.results12 rfl HLV) rfl ⟨rfl, bZ_⟩)
  · have k5 : (((n : Int) - 2) % 4 != 0) = true := by rw [bne_iff_ne]; omega
    clear hq
    go_enter Try.func12, Try.ntmps12
    go_wp2_with fail
    all_goals (
        refine abs_post (fun Y_ => Below w.heap.size w Y_ ∧ Blk Y_ w.heap.size 28 #[.int .i64 0, .int .i64 0, .slice none 0 0, .slice none 0 0, .slice none 0 0, .slice none 0 0, .int .u32 0]) ⟨by (repeat (first | exact Below.refl _ _ | assumption | refine below_drewN ?_ _ | refine bel_grow ?_ _ | refine Below.drew ?_ | refine bel_alloc ?_ _ | refine bel_set ?_ (by first | exact Nat.le_refl _ | (simp; done) | (simp; omega) | omega) _ | refine bel_trans ?_ (by assumption))), by (repeat (first | with_reducible assumption | (with_reducible refine Blk.new' ?_; first | with_reducible rfl | (simp; done)) | with_reducible refine Blk.alloc ?_ _ | with_reducible refine Blk.grow ?_ _ | with_reducible refine Blk.drew ?_ | with_reducible refine Blk.drewN ?_ _ | (with_reducible refine Blk.far ?_ (by first | (dsimp only; omega) | (simp; omega)) _) | (with_reducible apply Blk.two) | (with_reducible refine Blk.set' ?_ _ _ ?_) | (with_reducible rfl) | rfl))⟩ ?_
        rintro Y_ ⟨bZ_, gP_⟩
        have HLV := loadVar_blk (ty := 28) Try.underlying28 rfl (by kernel_rfl) gP_ rfl
        refine bodyPost_ret (v := .tuple #[.agg #[.int .i64 0, .int .i64 0, .slice none 0 0, .slice none 0 0, .slice none 0 0, .slice none 0 0, .int .u32 0], .bool false]) (results_ct Try.results12 rfl HLV) rfl ⟨rfl, bZ_⟩)
end
end Go.Proofs.Ytncampbmnbhikaa
