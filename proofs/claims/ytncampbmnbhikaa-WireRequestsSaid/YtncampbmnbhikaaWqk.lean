/-
  The document's GetRequest, walked: filters, what is no request, what is too much.
-/
import Derived.Test.YtncampbmnbhikaaWqg
import Derived.Test.YtncampbmnbhikaaJ15
import Derived.Test.YtncampbmnbhikaaRefD
namespace Go.Proofs.Ytncampbmnbhikaa
set_option linter.unusedVariables false
set_option linter.unusedSimpArgs false
open Go.RowKit

section
attribute [local go_sem] loadV_ptr storeV_ptr
attribute [local go_sem ↓] load_WQ store_WQ
set_option maxRecDepth 8000 in
set_option maxHeartbeats 4000000 in
theorem refGetReq_zero (n : Nat) (e : Nat → Int) (he : ∀ i, 0 ≤ e i ∧ e i < 256) (hn : n ≤ 100000) (w : World) (h : n = 0) :
    Calls Try.prog 16 #[.string (strF e n)] w fun r w' => r = .returned (.tuple #[.agg #[.int .i64 0, .slice none 0 0, .slice none 0 0, .slice none 0 0, .int .u64 0, .int .u64 0, .int .u64 0, .int .u64 0, .int .u32 0, .int .u32 0], .int .i64 1]) ∧ Below w.heap.size w w' := by
  subst h
  have es : (strF e 0).size = 0 := strF_size e 0
  go_enter Try.func16, Try.ntmps16
  go_wp2_with fail
  all_goals (
      refine abs_post (fun Y_ => Below w.heap.size w Y_ ∧ Blk Y_ w.heap.size 46 #[.int .i64 0, .slice none 0 0, .slice none 0 0, .slice none 0 0, .int .u64 0, .int .u64 0, .int .u64 0, .int .u64 0, .int .u32 0, .int .u32 0]) ⟨by (repeat (first | exact Below.refl _ _ | assumption | refine below_drewN ?_ _ | refine bel_grow ?_ _ | refine Below.drew ?_ | refine bel_alloc ?_ _ | refine bel_set ?_ (by first | exact Nat.le_refl _ | (simp; done) | (simp; omega) | omega) _ | refine bel_trans ?_ (by assumption))), by (repeat (first | with_reducible assumption | (with_reducible refine Blk.new' ?_; first | with_reducible rfl | (simp; done)) | with_reducible refine Blk.alloc ?_ _ | with_reducible refine Blk.grow ?_ _ | with_reducible refine Blk.drew ?_ | with_reducible refine Blk.drewN ?_ _ | (with_reducible refine Blk.far ?_ (by first | (dsimp only; omega) | (simp; omega)) _) | (with_reducible apply Blk.two) | (with_reducible refine Blk.set' ?_ _ _ ?_) | (with_reducible rfl) | rfl))⟩ ?_
      rintro Y_ ⟨bZ_, gP_⟩
      have HLV := loadVar_blk (ty := 46) Try.underlying46 rfl (by kernel_rfl) gP_ rfl
      refine bodyPost_ret (v := .tuple #[.agg #[.int .i64 0, .slice none 0 0, .slice none 0 0, .slice none 0 0, .int .u64 0, .int .u64 0, .int .u64 0, .int .u64 0, .int .u32 0, .int .u32 0], .int .i64 1]) (results_ct Try.results16 rfl HLV) rfl ⟨rfl, bZ_⟩)
set_option maxRecDepth 8000 in
set_option maxHeartbeats 4000000 in
theorem refGetReq_n1 (n : Nat) (e : Nat → Int) (he : ∀ i, 0 ≤ e i ∧ e i < 256) (hn : n ≤ 100000) (w : World) (h1 : 1 ≤ n) (h0 : e 0 = 1) (hq : (n - 1) % 104 ≠ 0) :
    Calls Try.prog 16 #[.string (strF e n)] w fun r w' => r = .returned (.tuple #[.agg #[.int .i64 0, .slice none 0 0, .slice none 0 0, .slice none 0 0, .int .u64 0, .int .u64 0, .int .u64 0, .int .u64 0, .int .u32 0, .int .u32 0], .int .i64 1]) ∧ Below w.heap.size w w' := by
  have es : (strF e n).size = n := strF_size e n
  have z0 : 0 < (strF e n).size := by rw [es]; omega
  have g0 : (((strF e n)[0]'z0).toNat : Int) = 1 := (strF_at z0 (he 0)).trans h0
  have hx0 : (strF e n).extract 1 n = strF (shf e 1) (n - 1) := strF_ext (by omega) (by omega)
  generalize hf : shf e 1 = f at *
  obtain ⟨l, hl⟩ : ∃ l, l = n - 1 := ⟨_, rfl⟩
  have hl1 : n = l + 1 := by omega
  rw [← hl] at hx0
  have es1 : (strF f l).size = l := strF_size f l
  have k1 : ((n : Int) == 0) = false := beq_eq_false_iff_ne.2 (by omega)
  have k6 : (1 : Int) ≤ (n : Int) := by omega
  have k2 : ((l : Int) % 104 != 0) = true := by rw [bne_iff_ne]; omega
  subst hl1
  clear h0 he hf hl hq
  go_enter Try.func16, Try.ntmps16
  go_wp2_with fail
  all_goals (
      refine abs_post (fun Y_ => Below w.heap.size w Y_ ∧ Blk Y_ w.heap.size 46 #[.int .i64 0, .slice none 0 0, .slice none 0 0, .slice none 0 0, .int .u64 0, .int .u64 0, .int .u64 0, .int .u64 0, .int .u32 0, .int .u32 0]) ⟨by (repeat (first | exact Below.refl _ _ | assumption | refine below_drewN ?_ _ | refine bel_grow ?_ _ | refine Below.drew ?_ | refine bel_alloc ?_ _ | refine bel_set ?_ (by first | exact Nat.le_refl _ | (simp; done) | (simp; omega) | omega) _ | refine bel_trans ?_ (by assumption))), by (repeat (first | with_reducible assumption | (with_reducible refine Blk.new' ?_; first | with_reducible rfl | (simp; done)) | with_reducible refine Blk.alloc ?_ _ | with_reducible refine Blk.grow ?_ _ | with_reducible refine Blk.drew ?_ | with_reducible refine Blk.drewN ?_ _ | (with_reducible refine Blk.far ?_ (by first | (dsimp only; omega) | (simp; omega)) _) | (with_reducible apply Blk.two) | (with_reducible refine Blk.set' ?_ _ _ ?_) | (with_reducible rfl) | rfl))⟩ ?_
      rintro Y_ ⟨bZ_, gP_⟩
      have HLV := loadVar_blk (ty := 46) Try.underlying46 rfl (by kernel_rfl) gP_ rfl
      refine bodyPost_ret (v := .tuple #[.agg #[.int .i64 0, .slice none 0 0, .slice none 0 0, .slice none 0 0, .int .u64 0, .int .u64 0, .int .u64 0, .int .u64 0, .int .u32 0, .int .u32 0], .int .i64 1]) (results_ct Try.results16 rfl HLV) rfl ⟨rfl, bZ_⟩)
set_option maxRecDepth 8000 in
set_option maxHeartbeats 4000000 in
theorem refGetReq_m1 (n : Nat) (e : Nat → Int) (he : ∀ i, 0 ≤ e i ∧ e i < 256) (hn : n ≤ 100000) (w : World) (h1 : 1 ≤ n) (h0 : e 0 = 1) (hq : (n - 1) % 104 = 0) (h30 : 30 < (n - 1) / 104) :
    Calls Try.prog 16 #[.string (strF e n)] w fun r w' => r = .returned (.tuple #[.agg #[.int .i64 0, .slice none 0 0, .slice none 0 0, .slice none 0 0, .int .u64 0, .int .u64 0, .int .u64 0, .int .u64 0, .int .u32 0, .int .u32 0], .int .i64 2]) ∧ Below w.heap.size w w' := by
  have es : (strF e n).size = n := strF_size e n
  have z0 : 0 < (strF e n).size := by rw [es]; omega
  have g0 : (((strF e n)[0]'z0).toNat : Int) = 1 := (strF_at z0 (he 0)).trans h0
  have hx0 : (strF e n).extract 1 n = strF (shf e 1) (n - 1) := strF_ext (by omega) (by omega)
  generalize hf : shf e 1 = f at *
  obtain ⟨l, hl⟩ : ∃ l, l = n - 1 := ⟨_, rfl⟩
  have hl1 : n = l + 1 := by omega
  rw [← hl] at hx0
  have es1 : (strF f l).size = l := strF_size f l
  have k1 : ((n : Int) == 0) = false := beq_eq_false_iff_ne.2 (by omega)
  have k6 : (1 : Int) ≤ (n : Int) := by omega
  have k2 : ((l : Int) % 104 != 0) = false := by rw [bne_eq_false_iff_eq]; omega
  have k3b : decide ((l : Int) > 3120) = true := decide_eq_true (by omega)
  subst hl1
  clear h0 he hf hl hq h30
  go_enter Try.func16, Try.ntmps16
  go_wp2_with fail
  all_goals (
      refine abs_post (fun Y_ => Below w.heap.size w Y_ ∧ Blk Y_ w.heap.size 46 #[.int .i64 0, .slice none 0 0, .slice none 0 0, .slice none 0 0, .int .u64 0, .int .u64 0, .int .u64 0, .int .u64 0, .int .u32 0, .int .u32 0]) ⟨by (repeat (first | exact Below.refl _ _ | assumption | refine below_drewN ?_ _ | refine bel_grow ?_ _ | refine Below.drew ?_ | refine bel_alloc ?_ _ | refine bel_set ?_ (by first | exact Nat.le_refl _ | (simp; done) | (simp; omega) | omega) _ | refine bel_trans ?_ (by assumption))), by (repeat (first | with_reducible assumption | (with_reducible refine Blk.new' ?_; first | with_reducible rfl | (simp; done)) | with_reducible refine Blk.alloc ?_ _ | with_reducible refine Blk.grow ?_ _ | with_reducible refine Blk.drew ?_ | with_reducible refine Blk.drewN ?_ _ | (with_reducible refine Blk.far ?_ (by first | (dsimp only; omega) | (simp; omega)) _) | (with_reducible apply Blk.two) | (with_reducible refine Blk.set' ?_ _ _ ?_) | (with_reducible rfl) | rfl))⟩ ?_
      rintro Y_ ⟨bZ_, gP_⟩
      have HLV := loadVar_blk (ty := 46) Try.underlying46 rfl (by kernel_rfl) gP_ rfl
      refine bodyPost_ret (v := .tuple #[.agg #[.int .i64 0, .slice none 0 0, .slice none 0 0, .slice none 0 0, .int .u64 0, .int .u64 0, .int .u64 0, .int .u64 0, .int .u32 0, .int .u32 0], .int .i64 2]) (results_ct Try.results16 rfl HLV) rfl ⟨rfl, bZ_⟩)
set_option maxRecDepth 8000 in
set_option maxHeartbeats 4000000 in
theorem refGetReq_n2 (n : Nat) (e : Nat → Int) (he : ∀ i, 0 ≤ e i ∧ e i < 256) (hn : n ≤ 100000) (w : World) (h1 : 1 ≤ n) (h0 : e 0 = 2) (hq : (n - 1) % 108 ≠ 0) :
    Calls Try.prog 16 #[.string (strF e n)] w fun r w' => r = .returned (.tuple #[.agg #[.int .i64 0, .slice none 0 0, .slice none 0 0, .slice none 0 0, .int .u64 0, .int .u64 0, .int .u64 0, .int .u64 0, .int .u32 0, .int .u32 0], .int .i64 1]) ∧ Below w.heap.size w w' := by
  have es : (strF e n).size = n := strF_size e n
  have z0 : 0 < (strF e n).size := by rw [es]; omega
  have g0 : (((strF e n)[0]'z0).toNat : Int) = 2 := (strF_at z0 (he 0)).trans h0
  have hx0 : (strF e n).extract 1 n = strF (shf e 1) (n - 1) := strF_ext (by omega) (by omega)
  generalize hf : shf e 1 = f at *
  obtain ⟨l, hl⟩ : ∃ l, l = n - 1 := ⟨_, rfl⟩
  have hl1 : n = l + 1 := by omega
  rw [← hl] at hx0
  have es1 : (strF f l).size = l := strF_size f l
  have k1 : ((n : Int) == 0) = false := beq_eq_false_iff_ne.2 (by omega)
  have k6 : (1 : Int) ≤ (n : Int) := by omega
  have k2 : ((l : Int) % 108 != 0) = true := by rw [bne_iff_ne]; omega
  subst hl1
  clear h0 he hf hl hq
  go_enter Try.func16, Try.ntmps16
  go_wp2_with fail
  all_goals (
      refine abs_post (fun Y_ => Below w.heap.size w Y_ ∧ Blk Y_ w.heap.size 46 #[.int .i64 0, .slice none 0 0, .slice none 0 0, .slice none 0 0, .int .u64 0, .int .u64 0, .int .u64 0, .int .u64 0, .int .u32 0, .int .u32 0]) ⟨by (repeat (first | exact Below.refl _ _ | assumption | refine below_drewN ?_ _ | refine bel_grow ?_ _ | refine Below.drew ?_ | refine bel_alloc ?_ _ | refine bel_set ?_ (by first | exact Nat.le_refl _ | (simp; done) | (simp; omega) | omega) _ | refine bel_trans ?_ (by assumption))), by (repeat (first | with_reducible assumption | (with_reducible refine Blk.new' ?_; first | with_reducible rfl | (simp; done)) | with_reducible refine Blk.alloc ?_ _ | with_reducible refine Blk.grow ?_ _ | with_reducible refine Blk.drew ?_ | with_reducible refine Blk.drewN ?_ _ | (with_reducible refine Blk.far ?_ (by first | (dsimp only; omega) | (simp; omega)) _) | (with_reducible apply Blk.two) | (with_reducible refine Blk.set' ?_ _ _ ?_) | (with_reducible rfl) | rfl))⟩ ?_
      rintro Y_ ⟨bZ_, gP_⟩
      have HLV := loadVar_blk (ty := 46) Try.underlying46 rfl (by kernel_rfl) gP_ rfl
      refine bodyPost_ret (v := .tuple #[.agg #[.int .i64 0, .slice none 0 0, .slice none 0 0, .slice none 0 0, .int .u64 0, .int .u64 0, .int .u64 0, .int .u64 0, .int .u32 0, .int .u32 0], .int .i64 1]) (results_ct Try.results16 rfl HLV) rfl ⟨rfl, bZ_⟩)
set_option maxRecDepth 8000 in
set_option maxHeartbeats 4000000 in
theorem refGetReq_m2 (n : Nat) (e : Nat → Int) (he : ∀ i, 0 ≤ e i ∧ e i < 256) (hn : n ≤ 100000) (w : World) (h1 : 1 ≤ n) (h0 : e 0 = 2) (hq : (n - 1) % 108 = 0) (h30 : 30 < (n - 1) / 108) :
    Calls Try.prog 16 #[.string (strF e n)] w fun r w' => r = .returned (.tuple #[.agg #[.int .i64 0, .slice none 0 0, .slice none 0 0, .slice none 0 0, .int .u64 0, .int .u64 0, .int .u64 0, .int .u64 0, .int .u32 0, .int .u32 0], .int .i64 2]) ∧ Below w.heap.size w w' := by
  have es : (strF e n).size = n := strF_size e n
  have z0 : 0 < (strF e n).size := by rw [es]; omega
  have g0 : (((strF e n)[0]'z0).toNat : Int) = 2 := (strF_at z0 (he 0)).trans h0
  have hx0 : (strF e n).extract 1 n = strF (shf e 1) (n - 1) := strF_ext (by omega) (by omega)
  generalize hf : shf e 1 = f at *
  obtain ⟨l, hl⟩ : ∃ l, l = n - 1 := ⟨_, rfl⟩
  have hl1 : n = l + 1 := by omega
  rw [← hl] at hx0
  have es1 : (strF f l).size = l := strF_size f l
  have k1 : ((n : Int) == 0) = false := beq_eq_false_iff_ne.2 (by omega)
  have k6 : (1 : Int) ≤ (n : Int) := by omega
  have k2 : ((l : Int) % 108 != 0) = false := by rw [bne_eq_false_iff_eq]; omega
  have k3b : decide ((l : Int) > 3240) = true := decide_eq_true (by omega)
  subst hl1
  clear h0 he hf hl hq h30
  go_enter Try.func16, Try.ntmps16
  go_wp2_with fail
  all_goals (
      refine abs_post (fun Y_ => Below w.heap.size w Y_ ∧ Blk Y_ w.heap.size 46 #[.int .i64 0, .slice none 0 0, .slice none 0 0, .slice none 0 0, .int .u64 0, .int .u64 0, .int .u64 0, .int .u64 0, .int .u32 0, .int .u32 0]) ⟨by (repeat (first | exact Below.refl _ _ | assumption | refine below_drewN ?_ _ | refine bel_grow ?_ _ | refine Below.drew ?_ | refine bel_alloc ?_ _ | refine bel_set ?_ (by first | exact Nat.le_refl _ | (simp; done) | (simp; omega) | omega) _ | refine bel_trans ?_ (by assumption))), by (repeat (first | with_reducible assumption | (with_reducible refine Blk.new' ?_; first | with_reducible rfl | (simp; done)) | with_reducible refine Blk.alloc ?_ _ | with_reducible refine Blk.grow ?_ _ | with_reducible refine Blk.drew ?_ | with_reducible refine Blk.drewN ?_ _ | (with_reducible refine Blk.far ?_ (by first | (dsimp only; omega) | (simp; omega)) _) | (with_reducible apply Blk.two) | (with_reducible refine Blk.set' ?_ _ _ ?_) | (with_reducible rfl) | rfl))⟩ ?_
      rintro Y_ ⟨bZ_, gP_⟩
      have HLV := loadVar_blk (ty := 46) Try.underlying46 rfl (by kernel_rfl) gP_ rfl
      refine bodyPost_ret (v := .tuple #[.agg #[.int .i64 0, .slice none 0 0, .slice none 0 0, .slice none 0 0, .int .u64 0, .int .u64 0, .int .u64 0, .int .u64 0, .int .u32 0, .int .u32 0], .int .i64 2]) (results_ct Try.results16 rfl HLV) rfl ⟨rfl, bZ_⟩)
set_option maxRecDepth 8000 in
set_option maxHeartbeats 4000000 in
theorem refGetReq_n3 (n : Nat) (e : Nat → Int) (he : ∀ i, 0 ≤ e i ∧ e i < 256) (hn : n ≤ 100000) (w : World) (h1 : 1 ≤ n) (h0 : e 0 = 3) (hq : (n - 1) % 16 ≠ 0) :
    Calls Try.prog 16 #[.string (strF e n)] w fun r w' => r = .returned (.tuple #[.agg #[.int .i64 0, .slice none 0 0, .slice none 0 0, .slice none 0 0, .int .u64 0, .int .u64 0, .int .u64 0, .int .u64 0, .int .u32 0, .int .u32 0], .int .i64 1]) ∧ Below w.heap.size w w' := by
  have es : (strF e n).size = n := strF_size e n
  have z0 : 0 < (strF e n).size := by rw [es]; omega
  have g0 : (((strF e n)[0]'z0).toNat : Int) = 3 := (strF_at z0 (he 0)).trans h0
  have hx0 : (strF e n).extract 1 n = strF (shf e 1) (n - 1) := strF_ext (by omega) (by omega)
  generalize hf : shf e 1 = f at *
  obtain ⟨l, hl⟩ : ∃ l, l = n - 1 := ⟨_, rfl⟩
  have hl1 : n = l + 1 := by omega
  rw [← hl] at hx0
  have es1 : (strF f l).size = l := strF_size f l
  have k1 : ((n : Int) == 0) = false := beq_eq_false_iff_ne.2 (by omega)
  have k6 : (1 : Int) ≤ (n : Int) := by omega
  have k2 : ((l : Int) % 16 != 0) = true := by rw [bne_iff_ne]; omega
  subst hl1
  clear h0 he hf hl hq
  go_enter Try.func16, Try.ntmps16
  go_wp2_with fail
  all_goals (
      refine abs_post (fun Y_ => Below w.heap.size w Y_ ∧ Blk Y_ w.heap.size 46 #[.int .i64 0, .slice none 0 0, .slice none 0 0, .slice none 0 0, .int .u64 0, .int .u64 0, .int .u64 0, .int .u64 0, .int .u32 0, .int .u32 0]) ⟨by (repeat (first | exact Below.refl _ _ | assumption | refine below_drewN ?_ _ | refine bel_grow ?_ _ | refine Below.drew ?_ | refine bel_alloc ?_ _ | refine bel_set ?_ (by first | exact Nat.le_refl _ | (simp; done) | (simp; omega) | omega) _ | refine bel_trans ?_ (by assumption))), by (repeat (first | with_reducible assumption | (with_reducible refine Blk.new' ?_; first | with_reducible rfl | (simp; done)) | with_reducible refine Blk.alloc ?_ _ | with_reducible refine Blk.grow ?_ _ | with_reducible refine Blk.drew ?_ | with_reducible refine Blk.drewN ?_ _ | (with_reducible refine Blk.far ?_ (by first | (dsimp only; omega) | (simp; omega)) _) | (with_reducible apply Blk.two) | (with_reducible refine Blk.set' ?_ _ _ ?_) | (with_reducible rfl) | rfl))⟩ ?_
      rintro Y_ ⟨bZ_, gP_⟩
      have HLV := loadVar_blk (ty := 46) Try.underlying46 rfl (by kernel_rfl) gP_ rfl
      refine bodyPost_ret (v := .tuple #[.agg #[.int .i64 0, .slice none 0 0, .slice none 0 0, .slice none 0 0, .int .u64 0, .int .u64 0, .int .u64 0, .int .u64 0, .int .u32 0, .int .u32 0], .int .i64 1]) (results_ct Try.results16 rfl HLV) rfl ⟨rfl, bZ_⟩)
set_option maxRecDepth 8000 in
set_option maxHeartbeats 4000000 in
theorem refGetReq_m3 (n : Nat) (e : Nat → Int) (he : ∀ i, 0 ≤ e i ∧ e i < 256) (hn : n ≤ 100000) (w : World) (h1 : 1 ≤ n) (h0 : e 0 = 3) (hq : (n - 1) % 16 = 0) (h30 : 30 < (n - 1) / 16) :
    Calls Try.prog 16 #[.string (strF e n)] w fun r w' => r = .returned (.tuple #[.agg #[.int .i64 0, .slice none 0 0, .slice none 0 0, .slice none 0 0, .int .u64 0, .int .u64 0, .int .u64 0, .int .u64 0, .int .u32 0, .int .u32 0], .int .i64 2]) ∧ Below w.heap.size w w' := by
  have es : (strF e n).size = n := strF_size e n
  have z0 : 0 < (strF e n).size := by rw [es]; omega
  have g0 : (((strF e n)[0]'z0).toNat : Int) = 3 := (strF_at z0 (he 0)).trans h0
  have hx0 : (strF e n).extract 1 n = strF (shf e 1) (n - 1) := strF_ext (by omega) (by omega)
  generalize hf : shf e 1 = f at *
  obtain ⟨l, hl⟩ : ∃ l, l = n - 1 := ⟨_, rfl⟩
  have hl1 : n = l + 1 := by omega
  rw [← hl] at hx0
  have es1 : (strF f l).size = l := strF_size f l
  have k1 : ((n : Int) == 0) = false := beq_eq_false_iff_ne.2 (by omega)
  have k6 : (1 : Int) ≤ (n : Int) := by omega
  have k2 : ((l : Int) % 16 != 0) = false := by rw [bne_eq_false_iff_eq]; omega
  have k3b : decide ((l : Int) > 480) = true := decide_eq_true (by omega)
  subst hl1
  clear h0 he hf hl hq h30
  go_enter Try.func16, Try.ntmps16
  go_wp2_with fail
  all_goals (
      refine abs_post (fun Y_ => Below w.heap.size w Y_ ∧ Blk Y_ w.heap.size 46 #[.int .i64 0, .slice none 0 0, .slice none 0 0, .slice none 0 0, .int .u64 0, .int .u64 0, .int .u64 0, .int .u64 0, .int .u32 0, .int .u32 0]) ⟨by (repeat (first | exact Below.refl _ _ | assumption | refine below_drewN ?_ _ | refine bel_grow ?_ _ | refine Below.drew ?_ | refine bel_alloc ?_ _ | refine bel_set ?_ (by first | exact Nat.le_refl _ | (simp; done) | (simp; omega) | omega) _ | refine bel_trans ?_ (by assumption))), by (repeat (first | with_reducible assumption | (with_reducible refine Blk.new' ?_; first | with_reducible rfl | (simp; done)) | with_reducible refine Blk.alloc ?_ _ | with_reducible refine Blk.grow ?_ _ | with_reducible refine Blk.drew ?_ | with_reducible refine Blk.drewN ?_ _ | (with_reducible refine Blk.far ?_ (by first | (dsimp only; omega) | (simp; omega)) _) | (with_reducible apply Blk.two) | (with_reducible refine Blk.set' ?_ _ _ ?_) | (with_reducible rfl) | rfl))⟩ ?_
      rintro Y_ ⟨bZ_, gP_⟩
      have HLV := loadVar_blk (ty := 46) Try.underlying46 rfl (by kernel_rfl) gP_ rfl
      refine bodyPost_ret (v := .tuple #[.agg #[.int .i64 0, .slice none 0 0, .slice none 0 0, .slice none 0 0, .int .u64 0, .int .u64 0, .int .u64 0, .int .u64 0, .int .u32 0, .int .u32 0], .int .i64 2]) (results_ct Try.results16 rfl HLV) rfl ⟨rfl, bZ_⟩)
set_option maxRecDepth 8000 in
set_option maxHeartbeats 4000000 in
theorem refGetReq_n4 (n : Nat) (e : Nat → Int) (he : ∀ i, 0 ≤ e i ∧ e i < 256) (hn : n ≤ 100000) (w : World) (h1 : 1 ≤ n) (h0 : e 0 = 4) (hq : (n - 1) % 16 ≠ 0) :
    Calls Try.prog 16 #[.string (strF e n)] w fun r w' => r = .returned (.tuple #[.agg #[.int .i64 0, .slice none 0 0, .slice none 0 0, .slice none 0 0, .int .u64 0, .int .u64 0, .int .u64 0, .int .u64 0, .int .u32 0, .int .u32 0], .int .i64 1]) ∧ Below w.heap.size w w' := by
  have es : (strF e n).size = n := strF_size e n
  have z0 : 0 < (strF e n).size := by rw [es]; omega
  have g0 : (((strF e n)[0]'z0).toNat : Int) = 4 := (strF_at z0 (he 0)).trans h0
  have hx0 : (strF e n).extract 1 n = strF (shf e 1) (n - 1) := strF_ext (by omega) (by omega)
  generalize hf : shf e 1 = f at *
  obtain ⟨l, hl⟩ : ∃ l, l = n - 1 := ⟨_, rfl⟩
  have hl1 : n = l + 1 := by omega
  rw [← hl] at hx0
  have es1 : (strF f l).size = l := strF_size f l
  have k1 : ((n : Int) == 0) = false := beq_eq_false_iff_ne.2 (by omega)
  have k6 : (1 : Int) ≤ (n : Int) := by omega
  have k2 : ((l : Int) % 16 != 0) = true := by rw [bne_iff_ne]; omega
  subst hl1
  clear h0 he hf hl hq
  go_enter Try.func16, Try.ntmps16
  go_wp2_with fail
  all_goals (
      refine abs_post (fun Y_ => Below w.heap.size w Y_ ∧ Blk Y_ w.heap.size 46 #[.int .i64 0, .slice none 0 0, .slice none 0 0, .slice none 0 0, .int .u64 0, .int .u64 0, .int .u64 0, .int .u64 0, .int .u32 0, .int .u32 0]) ⟨by (repeat (first | exact Below.refl _ _ | assumption | refine below_drewN ?_ _ | refine bel_grow ?_ _ | refine Below.drew ?_ | refine bel_alloc ?_ _ | refine bel_set ?_ (by first | exact Nat.le_refl _ | (simp; done) | (simp; omega) | omega) _ | refine bel_trans ?_ (by assumption))), by (repeat (first | with_reducible assumption | (with_reducible refine Blk.new' ?_; first | with_reducible rfl | (simp; done)) | with_reducible refine Blk.alloc ?_ _ | with_reducible refine Blk.grow ?_ _ | with_reducible refine Blk.drew ?_ | with_reducible refine Blk.drewN ?_ _ | (with_reducible refine Blk.far ?_ (by first | (dsimp only; omega) | (simp; omega)) _) | (with_reducible apply Blk.two) | (with_reducible refine Blk.set' ?_ _ _ ?_) | (with_reducible rfl) | rfl))⟩ ?_
      rintro Y_ ⟨bZ_, gP_⟩
      have HLV := loadVar_blk (ty := 46) Try.underlying46 rfl (by kernel_rfl) gP_ rfl
      refine bodyPost_ret (v := .tuple #[.agg #[.int .i64 0, .slice none 0 0, .slice none 0 0, .slice none 0 0, .int .u64 0, .int .u64 0, .int .u64 0, .int .u64 0, .int .u32 0, .int .u32 0], .int .i64 1]) (results_ct Try.results16 rfl HLV) rfl ⟨rfl, bZ_⟩)
set_option maxRecDepth 8000 in
set_option maxHeartbeats 4000000 in
theorem refGetReq_m4 (n : Nat) (e : Nat → Int) (he : ∀ i, 0 ≤ e i ∧ e i < 256) (hn : n ≤ 100000) (w : World) (h1 : 1 ≤ n) (h0 : e 0 = 4) (hq : (n - 1) % 16 = 0) (h30 : 30 < (n - 1) / 16) :
    Calls Try.prog 16 #[.string (strF e n)] w fun r w' => r = .returned (.tuple #[.agg #[.int .i64 0, .slice none 0 0, .slice none 0 0, .slice none 0 0, .int .u64 0, .int .u64 0, .int .u64 0, .int .u64 0, .int .u32 0, .int .u32 0], .int .i64 2]) ∧ Below w.heap.size w w' := by
  have es : (strF e n).size = n := strF_size e n
  have z0 : 0 < (strF e n).size := by rw [es]; omega
  have g0 : (((strF e n)[0]'z0).toNat : Int) = 4 := (strF_at z0 (he 0)).trans h0
  have hx0 : (strF e n).extract 1 n = strF (shf e 1) (n - 1) := strF_ext (by omega) (by omega)
  generalize hf : shf e 1 = f at *
  obtain ⟨l, hl⟩ : ∃ l, l = n - 1 := ⟨_, rfl⟩
  have hl1 : n = l + 1 := by omega
  rw [← hl] at hx0
  have es1 : (strF f l).size = l := strF_size f l
  have k1 : ((n : Int) == 0) = false := beq_eq_false_iff_ne.2 (by omega)
  have k6 : (1 : Int) ≤ (n : Int) := by omega
  have k2 : ((l : Int) % 16 != 0) = false := by rw [bne_eq_false_iff_eq]; omega
  have k3b : decide ((l : Int) > 480) = true := decide_eq_true (by omega)
  subst hl1
  clear h0 he hf hl hq h30
  go_enter Try.func16, Try.ntmps16
  go_wp2_with fail
  all_goals (
      refine abs_post (fun Y_ => Below w.heap.size w Y_ ∧ Blk Y_ w.heap.size 46 #[.int .i64 0, .slice none 0 0, .slice none 0 0, .slice none 0 0, .int .u64 0, .int .u64 0, .int .u64 0, .int .u64 0, .int .u32 0, .int .u32 0]) ⟨by (repeat (first | exact Below.refl _ _ | assumption | refine below_drewN ?_ _ | refine bel_grow ?_ _ | refine Below.drew ?_ | refine bel_alloc ?_ _ | refine bel_set ?_ (by first | exact Nat.le_refl _ | (simp; done) | (simp; omega) | omega) _ | refine bel_trans ?_ (by assumption))), by (repeat (first | with_reducible assumption | (with_reducible refine Blk.new' ?_; first | with_reducible rfl | (simp; done)) | with_reducible refine Blk.alloc ?_ _ | with_reducible refine Blk.grow ?_ _ | with_reducible refine Blk.drew ?_ | with_reducible refine Blk.drewN ?_ _ | (with_reducible refine Blk.far ?_ (by first | (dsimp only; omega) | (simp; omega)) _) | (with_reducible apply Blk.two) | (with_reducible refine Blk.set' ?_ _ _ ?_) | (with_reducible rfl) | rfl))⟩ ?_
      rintro Y_ ⟨bZ_, gP_⟩
      have HLV := loadVar_blk (ty := 46) Try.underlying46 rfl (by kernel_rfl) gP_ rfl
      refine bodyPost_ret (v := .tuple #[.agg #[.int .i64 0, .slice none 0 0, .slice none 0 0, .slice none 0 0, .int .u64 0, .int .u64 0, .int .u64 0, .int .u64 0, .int .u32 0, .int .u32 0], .int .i64 2]) (results_ct Try.results16 rfl HLV) rfl ⟨rfl, bZ_⟩)
set_option maxRecDepth 8000 in
set_option maxHeartbeats 4000000 in
theorem refGetReq_n5 (n : Nat) (e : Nat → Int) (he : ∀ i, 0 ≤ e i ∧ e i < 256) (hn : n ≤ 100000) (w : World) (h1 : 1 ≤ n) (h0 : e 0 = 5) (hq : (n - 1) % 40 ≠ 0) :
    Calls Try.prog 16 #[.string (strF e n)] w fun r w' => r = .returned (.tuple #[.agg #[.int .i64 0, .slice none 0 0, .slice none 0 0, .slice none 0 0, .int .u64 0, .int .u64 0, .int .u64 0, .int .u64 0, .int .u32 0, .int .u32 0], .int .i64 1]) ∧ Below w.heap.size w w' := by
  have es : (strF e n).size = n := strF_size e n
  have z0 : 0 < (strF e n).size := by rw [es]; omega
  have g0 : (((strF e n)[0]'z0).toNat : Int) = 5 := (strF_at z0 (he 0)).trans h0
  have hx0 : (strF e n).extract 1 n = strF (shf e 1) (n - 1) := strF_ext (by omega) (by omega)
  generalize hf : shf e 1 = f at *
  obtain ⟨l, hl⟩ : ∃ l, l = n - 1 := ⟨_, rfl⟩
  have hl1 : n = l + 1 := by omega
  rw [← hl] at hx0
  have es1 : (strF f l).size = l := strF_size f l
  have k1 : ((n : Int) == 0) = false := beq_eq_false_iff_ne.2 (by omega)
  have k6 : (1 : Int) ≤ (n : Int) := by omega
  have k2 : ((l : Int) % 40 != 0) = true := by rw [bne_iff_ne]; omega
  subst hl1
  clear h0 he hf hl hq
  go_enter Try.func16, Try.ntmps16
  go_wp2_with fail
  all_goals (
      refine abs_post (fun Y_ => Below w.heap.size w Y_ ∧ Blk Y_ w.heap.size 46 #[.int .i64 0, .slice none 0 0, .slice none 0 0, .slice none 0 0, .int .u64 0, .int .u64 0, .int .u64 0, .int .u64 0, .int .u32 0, .int .u32 0]) ⟨by (repeat (first | exact Below.refl _ _ | assumption | refine below_drewN ?_ _ | refine bel_grow ?_ _ | refine Below.drew ?_ | refine bel_alloc ?_ _ | refine bel_set ?_ (by first | exact Nat.le_refl _ | (simp; done) | (simp; omega) | omega) _ | refine bel_trans ?_ (by assumption))), by (repeat (first | with_reducible assumption | (with_reducible refine Blk.new' ?_; first | with_reducible rfl | (simp; done)) | with_reducible refine Blk.alloc ?_ _ | with_reducible refine Blk.grow ?_ _ | with_reducible refine Blk.drew ?_ | with_reducible refine Blk.drewN ?_ _ | (with_reducible refine Blk.far ?_ (by first | (dsimp only; omega) | (simp; omega)) _) | (with_reducible apply Blk.two) | (with_reducible refine Blk.set' ?_ _ _ ?_) | (with_reducible rfl) | rfl))⟩ ?_
      rintro Y_ ⟨bZ_, gP_⟩
      have HLV := loadVar_blk (ty := 46) Try.underlying46 rfl (by kernel_rfl) gP_ rfl
      refine bodyPost_ret (v := .tuple #[.agg #[.int .i64 0, .slice none 0 0, .slice none 0 0, .slice none 0 0, .int .u64 0, .int .u64 0, .int .u64 0, .int .u64 0, .int .u32 0, .int .u32 0], .int .i64 1]) (results_ct Try.results16 rfl HLV) rfl ⟨rfl, bZ_⟩)
set_option maxRecDepth 8000 in
set_option maxHeartbeats 4000000 in
theorem refGetReq_o5 (n : Nat) (e : Nat → Int) (he : ∀ i, 0 ≤ e i ∧ e i < 256) (hn : n ≤ 100000) (w : World) (h1 : 1 ≤ n) (h0 : e 0 = 5) (hq : (n - 1) % 40 = 0) (h41 : n - 1 ≠ 40) :
    Calls Try.prog 16 #[.string (strF e n)] w fun r w' => r = .returned (.tuple #[.agg #[.int .i64 0, .slice none 0 0, .slice none 0 0, .slice none 0 0, .int .u64 0, .int .u64 0, .int .u64 0, .int .u64 0, .int .u32 0, .int .u32 0], .int .i64 1]) ∧ Below w.heap.size w w' := by
  have es : (strF e n).size = n := strF_size e n
  have z0 : 0 < (strF e n).size := by rw [es]; omega
  have g0 : (((strF e n)[0]'z0).toNat : Int) = 5 := (strF_at z0 (he 0)).trans h0
  have hx0 : (strF e n).extract 1 n = strF (shf e 1) (n - 1) := strF_ext (by omega) (by omega)
  generalize hf : shf e 1 = f at *
  obtain ⟨l, hl⟩ : ∃ l, l = n - 1 := ⟨_, rfl⟩
  have hl1 : n = l + 1 := by omega
  rw [← hl] at hx0
  have es1 : (strF f l).size = l := strF_size f l
  have k1 : ((n : Int) == 0) = false := beq_eq_false_iff_ne.2 (by omega)
  have k6 : (1 : Int) ≤ (n : Int) := by omega
  have k2 : ((l : Int) % 40 != 0) = false := by rw [bne_eq_false_iff_eq]; omega
  have HG := Lib.hid (fun W => refGetFilter_no l f (by unfold maxLen; omega) (by omega) W)
  subst hl1
  clear h0 he hf hl hq h41
  go_enter Try.func16, Try.ntmps16
  go_wp2_with fail
  refine (HG.out _).mono ?_
  rintro e2 w2 ⟨rfl, hb2⟩
  have g_r := ((Blk.new _ _ _).kept hb2 : Blk w2 w.heap.size 46 #[.int .i64 0, .slice none 0 0, .slice none 0 0, .slice none 0 0, .int .u64 0, .int .u64 0, .int .u64 0, .int .u64 0, .int .u32 0, .int .u32 0])
  have hb3 := Lib.hid ((bel_alloc (Below.refl _ _) _ : Below w.heap.size w _).trans (hb2.mono (by simp)))
  clear hb2
  have r_r := rowAt_blk g_r
  have r_l := g_r.lt
  replace g_r := Lib.hid g_r
  go_wp2_with fail
  all_goals (
      refine abs_post (fun Y_ => Below w.heap.size w Y_ ∧ Blk Y_ w.heap.size 46 #[.int .i64 0, .slice none 0 0, .slice none 0 0, .slice none 0 0, .int .u64 0, .int .u64 0, .int .u64 0, .int .u64 0, .int .u32 0, .int .u32 0]) ⟨bel_alloc (bel_setRow hb3.out (Nat.le_refl _) _) _, (g_r.out.setRow rfl).alloc _⟩ ?_
      rintro Y_ ⟨bZ_, gP_⟩
      have HLV := loadVar_blk (ty := 46) Try.underlying46 rfl (by kernel_rfl) gP_ rfl
      refine bodyPost_ret (v := .tuple #[.agg #[.int .i64 0, .slice none 0 0, .slice none 0 0, .slice none 0 0, .int .u64 0, .int .u64 0, .int .u64 0, .int .u64 0, .int .u32 0, .int .u32 0], .int .i64 1]) (results_ct Try.results16 rfl HLV) rfl ⟨rfl, bZ_⟩)
set_option maxRecDepth 8000 in
set_option maxHeartbeats 4000000 in
theorem refGetReq_f5 (n : Nat) (e : Nat → Int) (he : ∀ i, 0 ≤ e i ∧ e i < 256) (hn : n ≤ 100000) (w : World) (h1 : n = 41) (h0 : e 0 = 5) :
    Calls Try.prog 16 #[.string (strF e n)] w fun r w' => r = .returned (.tuple #[.agg #[.int .i64 5, .slice none 0 0, .slice none 0 0, .slice none 0 0, .int .u64 (num (shf e 1) 0 8), .int .u64 (num (shf e 1) 8 8), .int .u64 (num (shf e 1) 16 8), .int .u64 (num (shf e 1) 24 8), .int .u32 (num (shf e 1) 32 4), .int .u32 (num (shf e 1) 36 4)], .int .i64 0]) ∧ Below w.heap.size w w' := by
  subst h1
  have es : (strF e 41).size = 41 := strF_size e 41
  have z0 : 0 < (strF e 41).size := by rw [es]; omega
  have g0 : (((strF e 41)[0]'z0).toNat : Int) = 5 := (strF_at z0 (he 0)).trans h0
  have hx0 : (strF e 41).extract 1 41 = strF (shf e 1) 40 := strF_ext (by omega) (by omega)
  have HG := Lib.hid (fun W => refGetFilter_yes (shf e 1) (shf_lo he 1) W)
  generalize hf : shf e 1 = f at *
  have es1 : (strF f 40).size = 40 := strF_size f 40
  clear h0 he hf
  go_enter Try.func16, Try.ntmps16
  go_wp2_with fail
  refine (HG.out _).mono ?_
  rintro e2 w2 ⟨rfl, hb2⟩
  have g_r := ((Blk.new _ _ _).kept hb2 : Blk w2 w.heap.size 46 #[.int .i64 0, .slice none 0 0, .slice none 0 0, .slice none 0 0, .int .u64 0, .int .u64 0, .int .u64 0, .int .u64 0, .int .u32 0, .int .u32 0])
  have hb3 := Lib.hid ((bel_alloc (Below.refl _ _) _ : Below w.heap.size w _).trans (hb2.mono (by simp)))
  clear hb2
  have r_r := rowAt_blk g_r
  have r_l := g_r.lt
  replace g_r := Lib.hid g_r
  go_wp2_with fail
  all_goals (
      refine abs_post (fun Y_ => Below w.heap.size w Y_ ∧ Blk Y_ w.heap.size 46 #[.int .i64 5, .slice none 0 0, .slice none 0 0, .slice none 0 0, .int .u64 (num f 0 8), .int .u64 (num f 8 8), .int .u64 (num f 16 8), .int .u64 (num f 24 8), .int .u32 (num f 32 4), .int .u32 (num f 36 4)]) ⟨bel_alloc (bel_setRow hb3.out (Nat.le_refl _) _) _, (g_r.out.setRow rfl).alloc _⟩ ?_
      rintro Y_ ⟨bZ_, gP_⟩
      have HLV := loadVar_blk (ty := 46) Try.underlying46 rfl (by kernel_rfl) gP_ rfl
      refine bodyPost_ret (v := .tuple #[.agg #[.int .i64 5, .slice none 0 0, .slice none 0 0, .slice none 0 0, .int .u64 (num f 0 8), .int .u64 (num f 8 8), .int .u64 (num f 16 8), .int .u64 (num f 24 8), .int .u32 (num f 32 4), .int .u32 (num f 36 4)], .int .i64 0]) (results_ct Try.results16 rfl HLV) rfl ⟨rfl, bZ_⟩)
set_option maxRecDepth 8000 in
set_option maxHeartbeats 4000000 in
theorem refGetReq_n6 (n : Nat) (e : Nat → Int) (he : ∀ i, 0 ≤ e i ∧ e i < 256) (hn : n ≤ 100000) (w : World) (h1 : 1 ≤ n) (h0 : e 0 = 6) (hq : (n - 1) % 40 ≠ 0) :
    Calls Try.prog 16 #[.string (strF e n)] w fun r w' => r = .returned (.tuple #[.agg #[.int .i64 0, .slice none 0 0, .slice none 0 0, .slice none 0 0, .int .u64 0, .int .u64 0, .int .u64 0, .int .u64 0, .int .u32 0, .int .u32 0], .int .i64 1]) ∧ Below w.heap.size w w' := by
  have es : (strF e n).size = n := strF_size e n
  have z0 : 0 < (strF e n).size := by rw [es]; omega
  have g0 : (((strF e n)[0]'z0).toNat : Int) = 6 := (strF_at z0 (he 0)).trans h0
  have hx0 : (strF e n).extract 1 n = strF (shf e 1) (n - 1) := strF_ext (by omega) (by omega)
  generalize hf : shf e 1 = f at *
  obtain ⟨l, hl⟩ : ∃ l, l = n - 1 := ⟨_, rfl⟩
  have hl1 : n = l + 1 := by omega
  rw [← hl] at hx0
  have es1 : (strF f l).size = l := strF_size f l
  have k1 : ((n : Int) == 0) = false := beq_eq_false_iff_ne.2 (by omega)
  have k6 : (1 : Int) ≤ (n : Int) := by omega
  have k2 : ((l : Int) % 40 != 0) = true := by rw [bne_iff_ne]; omega
  subst hl1
  clear h0 he hf hl hq
  go_enter Try.func16, Try.ntmps16
  go_wp2_with fail
  all_goals (
      refine abs_post (fun Y_ => Below w.heap.size w Y_ ∧ Blk Y_ w.heap.size 46 #[.int .i64 0, .slice none 0 0, .slice none 0 0, .slice none 0 0, .int .u64 0, .int .u64 0, .int .u64 0, .int .u64 0, .int .u32 0, .int .u32 0]) ⟨by (repeat (first | exact Below.refl _ _ | assumption | refine below_drewN ?_ _ | refine bel_grow ?_ _ | refine Below.drew ?_ | refine bel_alloc ?_ _ | refine bel_set ?_ (by first | exact Nat.le_refl _ | (simp; done) | (simp; omega) | omega) _ | refine bel_trans ?_ (by assumption))), by (repeat (first | with_reducible assumption | (with_reducible refine Blk.new' ?_; first | with_reducible rfl | (simp; done)) | with_reducible refine Blk.alloc ?_ _ | with_reducible refine Blk.grow ?_ _ | with_reducible refine Blk.drew ?_ | with_reducible refine Blk.drewN ?_ _ | (with_reducible refine Blk.far ?_ (by first | (dsimp only; omega) | (simp; omega)) _) | (with_reducible apply Blk.two) | (with_reducible refine Blk.set' ?_ _ _ ?_) | (with_reducible rfl) | rfl))⟩ ?_
      rintro Y_ ⟨bZ_, gP_⟩
      have HLV := loadVar_blk (ty := 46) Try.underlying46 rfl (by kernel_rfl) gP_ rfl
      refine bodyPost_ret (v := .tuple #[.agg #[.int .i64 0, .slice none 0 0, .slice none 0 0, .slice none 0 0, .int .u64 0, .int .u64 0, .int .u64 0, .int .u64 0, .int .u32 0, .int .u32 0], .int .i64 1]) (results_ct Try.results16 rfl HLV) rfl ⟨rfl, bZ_⟩)
set_option maxRecDepth 8000 in
set_option maxHeartbeats 4000000 in
theorem refGetReq_o6 (n : Nat) (e : Nat → Int) (he : ∀ i, 0 ≤ e i ∧ e i < 256) (hn : n ≤ 100000) (w : World) (h1 : 1 ≤ n) (h0 : e 0 = 6) (hq : (n - 1) % 40 = 0) (h41 : n - 1 ≠ 40) :
    Calls Try.prog 16 #[.string (strF e n)] w fun r w' => r = .returned (.tuple #[.agg #[.int .i64 0, .slice none 0 0, .slice none 0 0, .slice none 0 0, .int .u64 0, .int .u64 0, .int .u64 0, .int .u64 0, .int .u32 0, .int .u32 0], .int .i64 1]) ∧ Below w.heap.size w w' := by
  have es : (strF e n).size = n := strF_size e n
  have z0 : 0 < (strF e n).size := by rw [es]; omega
  have g0 : (((strF e n)[0]'z0).toNat : Int) = 6 := (strF_at z0 (he 0)).trans h0
  have hx0 : (strF e n).extract 1 n = strF (shf e 1) (n - 1) := strF_ext (by omega) (by omega)
  generalize hf : shf e 1 = f at *
  obtain ⟨l, hl⟩ : ∃ l, l = n - 1 := ⟨_, rfl⟩
  have hl1 : n = l + 1 := by omega
  rw [← hl] at hx0
  have es1 : (strF f l).size = l := strF_size f l
  have k1 : ((n : Int) == 0) = false := beq_eq_false_iff_ne.2 (by omega)
  have k6 : (1 : Int) ≤ (n : Int) := by omega
  have k2 : ((l : Int) % 40 != 0) = false := by rw [bne_eq_false_iff_eq]; omega
  have HG := Lib.hid (fun W => refGetFilter_no l f (by unfold maxLen; omega) (by omega) W)
  subst hl1
  clear h0 he hf hl hq h41
  go_enter Try.func16, Try.ntmps16
  go_wp2_with fail
  refine (HG.out _).mono ?_
  rintro e2 w2 ⟨rfl, hb2⟩
  have g_r := ((Blk.new _ _ _).kept hb2 : Blk w2 w.heap.size 46 #[.int .i64 0, .slice none 0 0, .slice none 0 0, .slice none 0 0, .int .u64 0, .int .u64 0, .int .u64 0, .int .u64 0, .int .u32 0, .int .u32 0])
  have hb3 := Lib.hid ((bel_alloc (Below.refl _ _) _ : Below w.heap.size w _).trans (hb2.mono (by simp)))
  clear hb2
  have r_r := rowAt_blk g_r
  have r_l := g_r.lt
  replace g_r := Lib.hid g_r
  go_wp2_with fail
  all_goals (
      refine abs_post (fun Y_ => Below w.heap.size w Y_ ∧ Blk Y_ w.heap.size 46 #[.int .i64 0, .slice none 0 0, .slice none 0 0, .slice none 0 0, .int .u64 0, .int .u64 0, .int .u64 0, .int .u64 0, .int .u32 0, .int .u32 0]) ⟨bel_alloc (bel_setRow hb3.out (Nat.le_refl _) _) _, (g_r.out.setRow rfl).alloc _⟩ ?_
      rintro Y_ ⟨bZ_, gP_⟩
      have HLV := loadVar_blk (ty := 46) Try.underlying46 rfl (by kernel_rfl) gP_ rfl
      refine bodyPost_ret (v := .tuple #[.agg #[.int .i64 0, .slice none 0 0, .slice none 0 0, .slice none 0 0, .int .u64 0, .int .u64 0, .int .u64 0, .int .u64 0, .int .u32 0, .int .u32 0], .int .i64 1]) (results_ct Try.results16 rfl HLV) rfl ⟨rfl, bZ_⟩)
set_option maxRecDepth 8000 in
set_option maxHeartbeats 4000000 in
theorem refGetReq_f6 (n : Nat) (e : Nat → Int) (he : ∀ i, 0 ≤ e i ∧ e i < 256) (hn : n ≤ 100000) (w : World) (h1 : n = 41) (h0 : e 0 = 6) :
    Calls Try.prog 16 #[.string (strF e n)] w fun r w' => r = .returned (.tuple #[.agg #[.int .i64 6, .slice none 0 0, .slice none 0 0, .slice none 0 0, .int .u64 (num (shf e 1) 0 8), .int .u64 (num (shf e 1) 8 8), .int .u64 (num (shf e 1) 16 8), .int .u64 (num (shf e 1) 24 8), .int .u32 (num (shf e 1) 32 4), .int .u32 (num (shf e 1) 36 4)], .int .i64 0]) ∧ Below w.heap.size w w' := by
  subst h1
  have es : (strF e 41).size = 41 := strF_size e 41
  have z0 : 0 < (strF e 41).size := by rw [es]; omega
  have g0 : (((strF e 41)[0]'z0).toNat : Int) = 6 := (strF_at z0 (he 0)).trans h0
  have hx0 : (strF e 41).extract 1 41 = strF (shf e 1) 40 := strF_ext (by omega) (by omega)
  have HG := Lib.hid (fun W => refGetFilter_yes (shf e 1) (shf_lo he 1) W)
  generalize hf : shf e 1 = f at *
  have es1 : (strF f 40).size = 40 := strF_size f 40
  clear h0 he hf
  go_enter Try.func16, Try.ntmps16
  go_wp2_with fail
  refine (HG.out _).mono ?_
  rintro e2 w2 ⟨rfl, hb2⟩
  have g_r := ((Blk.new _ _ _).kept hb2 : Blk w2 w.heap.size 46 #[.int .i64 0, .slice none 0 0, .slice none 0 0, .slice none 0 0, .int .u64 0, .int .u64 0, .int .u64 0, .int .u64 0, .int .u32 0, .int .u32 0])
  have hb3 := Lib.hid ((bel_alloc (Below.refl _ _) _ : Below w.heap.size w _).trans (hb2.mono (by simp)))
  clear hb2
  have r_r := rowAt_blk g_r
  have r_l := g_r.lt
  replace g_r := Lib.hid g_r
  go_wp2_with fail
  all_goals (
      refine abs_post (fun Y_ => Below w.heap.size w Y_ ∧ Blk Y_ w.heap.size 46 #[.int .i64 6, .slice none 0 0, .slice none 0 0, .slice none 0 0, .int .u64 (num f 0 8), .int .u64 (num f 8 8), .int .u64 (num f 16 8), .int .u64 (num f 24 8), .int .u32 (num f 32 4), .int .u32 (num f 36 4)]) ⟨bel_alloc (bel_setRow hb3.out (Nat.le_refl _) _) _, (g_r.out.setRow rfl).alloc _⟩ ?_
      rintro Y_ ⟨bZ_, gP_⟩
      have HLV := loadVar_blk (ty := 46) Try.underlying46 rfl (by kernel_rfl) gP_ rfl
      refine bodyPost_ret (v := .tuple #[.agg #[.int .i64 6, .slice none 0 0, .slice none 0 0, .slice none 0 0, .int .u64 (num f 0 8), .int .u64 (num f 8 8), .int .u64 (num f 16 8), .int .u64 (num f 24 8), .int .u32 (num f 32 4), .int .u32 (num f 36 4)], .int .i64 0]) (results_ct Try.results16 rfl HLV) rfl ⟨rfl, bZ_⟩)
set_option maxRecDepth 8000 in
set_option maxHeartbeats 4000000 in
theorem refGetReq_k7 (n : Nat) (e : Nat → Int) (he : ∀ i, 0 ≤ e i ∧ e i < 256) (hn : n ≤ 100000) (w : World) (h1 : n = 1) (h0 : e 0 = 7) :
    Calls Try.prog 16 #[.string (strF e n)] w fun r w' => r = .returned (.tuple #[.agg #[.int .i64 7, .slice none 0 0, .slice none 0 0, .slice none 0 0, .int .u64 0, .int .u64 0, .int .u64 0, .int .u64 0, .int .u32 0, .int .u32 0], .int .i64 0]) ∧ Below w.heap.size w w' := by
  subst h1
  have es : (strF e 1).size = 1 := strF_size e 1
  have z0 : 0 < (strF e 1).size := by rw [es]; omega
  have g0 : (((strF e 1)[0]'z0).toNat : Int) = 7 := (strF_at z0 (he 0)).trans h0
  have hx0 : (strF e 1).extract 1 1 = strF (shf e 1) 0 := strF_ext (by omega) (by omega)
  generalize hf : shf e 1 = f at *
  have es1 : (strF f 0).size = 0 := strF_size f 0
  clear h0 he hf
  go_enter Try.func16, Try.ntmps16
  go_wp2_with fail
  all_goals (
      refine abs_post (fun Y_ => Below w.heap.size w Y_ ∧ Blk Y_ w.heap.size 46 #[.int .i64 7, .slice none 0 0, .slice none 0 0, .slice none 0 0, .int .u64 0, .int .u64 0, .int .u64 0, .int .u64 0, .int .u32 0, .int .u32 0]) ⟨by (repeat (first | exact Below.refl _ _ | assumption | refine below_drewN ?_ _ | refine bel_grow ?_ _ | refine Below.drew ?_ | refine bel_alloc ?_ _ | refine bel_set ?_ (by first | exact Nat.le_refl _ | (simp; done) | (simp; omega) | omega) _ | refine bel_trans ?_ (by assumption))), by (repeat (first | with_reducible assumption | (with_reducible refine Blk.new' ?_; first | with_reducible rfl | (simp; done)) | with_reducible refine Blk.alloc ?_ _ | with_reducible refine Blk.grow ?_ _ | with_reducible refine Blk.drew ?_ | with_reducible refine Blk.drewN ?_ _ | (with_reducible refine Blk.far ?_ (by first | (dsimp only; omega) | (simp; omega)) _) | (with_reducible apply Blk.two) | (with_reducible refine Blk.set' ?_ _ _ ?_) | (with_reducible rfl) | rfl))⟩ ?_
      rintro Y_ ⟨bZ_, gP_⟩
      have HLV := loadVar_blk (ty := 46) Try.underlying46 rfl (by kernel_rfl) gP_ rfl
      refine bodyPost_ret (v := .tuple #[.agg #[.int .i64 7, .slice none 0 0, .slice none 0 0, .slice none 0 0, .int .u64 0, .int .u64 0, .int .u64 0, .int .u64 0, .int .u32 0, .int .u32 0], .int .i64 0]) (results_ct Try.results16 rfl HLV) rfl ⟨rfl, bZ_⟩)
set_option maxRecDepth 8000 in
set_option maxHeartbeats 4000000 in
theorem refGetReq_n7 (n : Nat) (e : Nat → Int) (he : ∀ i, 0 ≤ e i ∧ e i < 256) (hn : n ≤ 100000) (w : World) (h1 : 2 ≤ n) (h0 : e 0 = 7) :
    Calls Try.prog 16 #[.string (strF e n)] w fun r w' => r = .returned (.tuple #[.agg #[.int .i64 0, .slice none 0 0, .slice none 0 0, .slice none 0 0, .int .u64 0, .int .u64 0, .int .u64 0, .int .u64 0, .int .u32 0, .int .u32 0], .int .i64 1]) ∧ Below w.heap.size w w' := by
  have es : (strF e n).size = n := strF_size e n
  have z0 : 0 < (strF e n).size := by rw [es]; omega
  have g0 : (((strF e n)[0]'z0).toNat : Int) = 7 := (strF_at z0 (he 0)).trans h0
  have hx0 : (strF e n).extract 1 n = strF (shf e 1) (n - 1) := strF_ext (by omega) (by omega)
  generalize hf : shf e 1 = f at *
  obtain ⟨l, hl⟩ : ∃ l, l = n - 1 := ⟨_, rfl⟩
  have hl1 : n = l + 1 := by omega
  rw [← hl] at hx0
  have es1 : (strF f l).size = l := strF_size f l
  have k1 : ((n : Int) == 0) = false := beq_eq_false_iff_ne.2 (by omega)
  have k6 : (1 : Int) ≤ (n : Int) := by omega
  have k7 : ((l : Int) == 0) = false := beq_eq_false_iff_ne.2 (by omega)
  subst hl1
  clear h0 he hf hl
  go_enter Try.func16, Try.ntmps16
  go_wp2_with fail
  all_goals (
      refine abs_post (fun Y_ => Below w.heap.size w Y_ ∧ Blk Y_ w.heap.size 46 #[.int .i64 0, .slice none 0 0, .slice none 0 0, .slice none 0 0, .int .u64 0, .int .u64 0, .int .u64 0, .int .u64 0, .int .u32 0, .int .u32 0]) ⟨by (repeat (first | exact Below.refl _ _ | assumption | refine below_drewN ?_ _ | refine bel_grow ?_ _ | refine Below.drew ?_ | refine bel_alloc ?_ _ | refine bel_set ?_ (by first | exact Nat.le_refl _ | (simp; done) | (simp; omega) | omega) _ | refine bel_trans ?_ (by assumption))), by (repeat (first | with_reducible assumption | (with_reducible refine Blk.new' ?_; first | with_reducible rfl | (simp; done)) | with_reducible refine Blk.alloc ?_ _ | with_reducible refine Blk.grow ?_ _ | with_reducible refine Blk.drew ?_ | with_reducible refine Blk.drewN ?_ _ | (with_reducible refine Blk.far ?_ (by first | (dsimp only; omega) | (simp; omega)) _) | (with_reducible apply Blk.two) | (with_reducible refine Blk.set' ?_ _ _ ?_) | (with_reducible rfl) | rfl))⟩ ?_
      rintro Y_ ⟨bZ_, gP_⟩
      have HLV := loadVar_blk (ty := 46) Try.underlying46 rfl (by kernel_rfl) gP_ rfl
      refine bodyPost_ret (v := .tuple #[.agg #[.int .i64 0, .slice none 0 0, .slice none 0 0, .slice none 0 0, .int .u64 0, .int .u64 0, .int .u64 0, .int .u64 0, .int .u32 0, .int .u32 0], .int .i64 1]) (results_ct Try.results16 rfl HLV) rfl ⟨rfl, bZ_⟩)
set_option maxRecDepth 8000 in
set_option maxHeartbeats 4000000 in
theorem refGetReq_kd (n : Nat) (e : Nat → Int) (he : ∀ i, 0 ≤ e i ∧ e i < 256) (hn : n ≤ 100000) (w : World) (h1 : 1 ≤ n) (h0 : e 0 < 1 ∨ 7 < e 0) :
    Calls Try.prog 16 #[.string (strF e n)] w fun r w' => r = .returned (.tuple #[.agg #[.int .i64 0, .slice none 0 0, .slice none 0 0, .slice none 0 0, .int .u64 0, .int .u64 0, .int .u64 0, .int .u64 0, .int .u32 0, .int .u32 0], .int .i64 1]) ∧ Below w.heap.size w w' := by
  have es : (strF e n).size = n := strF_size e n
  have z0 : 0 < (strF e n).size := by rw [es]; omega
  have g0 : (((strF e n)[0]'z0).toNat : Int) = e 0 := strF_at z0 (he 0)
  have hx0 : (strF e n).extract 1 n = strF (shf e 1) (n - 1) := strF_ext (by omega) (by omega)
  generalize hf : shf e 1 = f at *
  obtain ⟨l, hl⟩ : ∃ l, l = n - 1 := ⟨_, rfl⟩
  have hl1 : n = l + 1 := by omega
  rw [← hl] at hx0
  have es1 : (strF f l).size = l := strF_size f l
  have k1 : ((n : Int) == 0) = false := beq_eq_false_iff_ne.2 (by omega)
  have k6 : (1 : Int) ≤ (n : Int) := by omega
  have y0 := he 0
  clear he hf
  generalize e 0 = x at *
  have e1 : (x == 1) = false := beq_eq_false_iff_ne.2 (by omega)
  have e2 : (x == 2) = false := beq_eq_false_iff_ne.2 (by omega)
  have e3 : (x == 3) = false := beq_eq_false_iff_ne.2 (by omega)
  have e4 : (x == 4) = false := beq_eq_false_iff_ne.2 (by omega)
  have e5 : (x == 5) = false := beq_eq_false_iff_ne.2 (by omega)
  have e6 : (x == 6) = false := beq_eq_false_iff_ne.2 (by omega)
  have e7 : (x == 7) = false := beq_eq_false_iff_ne.2 (by omega)
  subst hl1
  clear hl
  go_enter Try.func16, Try.ntmps16
  go_wp2_with fail
  all_goals (
      refine abs_post (fun Y_ => Below w.heap.size w Y_ ∧ Blk Y_ w.heap.size 46 #[.int .i64 0, .slice none 0 0, .slice none 0 0, .slice none 0 0, .int .u64 0, .int .u64 0, .int .u64 0, .int .u64 0, .int .u32 0, .int .u32 0]) ⟨by (repeat (first | exact Below.refl _ _ | assumption | refine below_drewN ?_ _ | refine bel_grow ?_ _ | refine Below.drew ?_ | refine bel_alloc ?_ _ | refine bel_set ?_ (by first | exact Nat.le_refl _ | (simp; done) | (simp; omega) | omega) _ | refine bel_trans ?_ (by assumption))), by (repeat (first | with_reducible assumption | (with_reducible refine Blk.new' ?_; first | with_reducible rfl | (simp; done)) | with_reducible refine Blk.alloc ?_ _ | with_reducible refine Blk.grow ?_ _ | with_reducible refine Blk.drew ?_ | with_reducible refine Blk.drewN ?_ _ | (with_reducible refine Blk.far ?_ (by first | (dsimp only; omega) | (simp; omega)) _) | (with_reducible apply Blk.two) | (with_reducible refine Blk.set' ?_ _ _ ?_) | (with_reducible rfl) | rfl))⟩ ?_
      rintro Y_ ⟨bZ_, gP_⟩
      have HLV := loadVar_blk (ty := 46) Try.underlying46 rfl (by kernel_rfl) gP_ rfl
      refine bodyPost_ret (v := .tuple #[.agg #[.int .i64 0, .slice none 0 0, .slice none 0 0, .slice none 0 0, .int .u64 0, .int .u64 0, .int .u64 0, .int .u64 0, .int .u32 0, .int .u32 0], .int .i64 1]) (results_ct Try.results16 rfl HLV) rfl ⟨rfl, bZ_⟩)
end
end Go.Proofs.Ytncampbmnbhikaa
