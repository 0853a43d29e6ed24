/-
  wire.parse, walked: filters, what has nothing behind it, what is no kind.
-/
import Derived.Test.YtncampbmnbhikaaWqc
namespace Go.Proofs.Ytncampbmnbhikaa
set_option linter.unusedVariables false
set_option linter.unusedSimpArgs false
open Go.RowKit

section
attribute [local go_sem] loadV_ptr storeV_ptr
attribute [local go_sem ↓] load_WQ store_WQ
set_option maxRecDepth 8000 in
set_option maxHeartbeats 4000000 in
theorem parse_f5 (B : Option Addr) (n c : Nat) (x0 x1 x2 x3 x4 x5 : Int) (ok : Bool) (w : World)
    (HG0 : ∀ W, Below w.heap.size w W → Calls Try.prog 68 #[.slice B n c] W fun r w' => r = .returned (.tuple #[.agg #[.int .u64 x0, .int .u64 x1, .int .u64 x2, .int .u64 x3, .int .u32 x4, .int .u32 x5], .bool ok]) ∧ Below W.heap.size W w') :
    Calls Try.prog 49 #[.int .u8 5, .slice B n c] w fun r w' => r = .returned (.tuple #[.agg #[.int .i64 5, .slice none 0 0, .slice none 0 0, .slice none 0 0, .int .u64 x0, .int .u64 x1, .int .u64 x2, .int .u64 x3, .int .u32 x4, .int .u32 x5], .int .i64 0, .bool ok]) ∧ Below w.heap.size w w' := by
  have HG := Lib.hid HG0
  clear HG0
  go_enter Try.func49, Try.ntmps49
  go_wp2_with fail
  refine (HG.out _ (bel_alloc (bel_alloc (Below.refl _ _) _) _)).mono ?_
  rintro e2 w2 ⟨rfl, hb2⟩
  have g_r := (((Blk.new _ _ _).kept (bel_alloc (Below.refl _ _) _)).kept hb2 : Blk w2 w.heap.size 46 #[.int .i64 0, .slice none 0 0, .slice none 0 0, .slice none 0 0, .int .u64 0, .int .u64 0, .int .u64 0, .int .u64 0, .int .u32 0, .int .u32 0])
  have g_t := ((Blk.newE (l := [.int .i64 5, .slice none 0 0, .slice none 0 0, .slice none 0 0, .int .u64 0, .int .u64 0, .int .u64 0, .int .u64 0, .int .u32 0, .int .u32 0]) (n := w.heap.size + 1) (by simp) rfl).kept hb2 : Blk w2 (w.heap.size + 1) 46 #[.int .i64 5, .slice none 0 0, .slice none 0 0, .slice none 0 0, .int .u64 0, .int .u64 0, .int .u64 0, .int .u64 0, .int .u32 0, .int .u32 0])
  have hb3 := Lib.hid ((bel_alloc (bel_alloc (Below.refl _ _) _) _ : Below w.heap.size w _).trans (hb2.mono (by simp; omega)))
  clear hb2
  have t0 := (g_t).cell 0
  have t1 := (g_t).cell 1
  have t2 := (g_t).cell 2
  have t3 := (g_t).cell 3
  have t4 := (g_t).cell 4
  have t5 := (g_t).cell 5
  have t6 := (g_t).cell 6
  have t7 := (g_t).cell 7
  have t8 := (g_t).cell 8
  have t9 := (g_t).cell 9
  have tf0 := (g_t).frozen 0
  have tf1 := (g_t).frozen 1
  have tf2 := (g_t).frozen 2
  have tf3 := (g_t).frozen 3
  have tf4 := (g_t).frozen 4
  have tf5 := (g_t).frozen 5
  have tf6 := (g_t).frozen 6
  have tf7 := (g_t).frozen 7
  have tf8 := (g_t).frozen 8
  have tf9 := (g_t).frozen 9
  have tl := (g_t).lt
  replace g_t := Lib.hid g_t
  replace g_r := Lib.hid g_r
  go_upto_region 19 with fail
  refine abs_wp (fun X => Below w.heap.size w X ∧ Blk X (w.heap.size + 1) 46 #[.int .i64 5, .slice none 0 0, .slice none 0 0, .slice none 0 0, .int .u64 x0, .int .u64 x1, .int .u64 x2, .int .u64 x3, .int .u32 x4, .int .u32 x5] ∧ Blk X w.heap.size 46 #[.int .i64 0, .slice none 0 0, .slice none 0 0, .slice none 0 0, .int .u64 0, .int .u64 0, .int .u64 0, .int .u64 0, .int .u32 0, .int .u32 0]) ⟨?_, ?_, ?_⟩ ?_
  · have t := hb3.out
    repeat (with_reducible refine bel_set ?_ (by dsimp only; omega) _)
    exact t
  · exact (((((g_t.out.set_ 4 _).set_ 5 _).set_ 6 _).set_ 7 _).set_ 8 _).set_ 9 _
  · repeat (with_reducible refine Blk.far ?_ (by dsimp only; omega) _)
    exact g_r.out
  rintro X ⟨hbX, k_t, k_r⟩
  clear g_t g_r t0 t1 t2 t3 t4 t5 t6 t7 t8 t9 tf0 tf1 tf2 tf3 tf4 tf5 tf6 tf7 tf8 tf9 tl hb3
  have r_t := rowAt_blk k_t
  have r_r := rowAt_blk k_r
  have tl := k_t.lt
  have rl := k_r.lt
  replace k_r := Lib.hid k_r
  replace hbX := Lib.hid hbX
  clear k_t
  go_wp2_with fail
  (
      refine abs_post (fun Y_ => Below w.heap.size w Y_ ∧ Blk Y_ w.heap.size 46 #[.int .i64 5, .slice none 0 0, .slice none 0 0, .slice none 0 0, .int .u64 x0, .int .u64 x1, .int .u64 x2, .int .u64 x3, .int .u32 x4, .int .u32 x5]) ⟨bel_setRow hbX.out (Nat.le_refl _) _, k_r.out.setRow rfl⟩ ?_
      rintro Y_ ⟨bZ_, gP_⟩
      have HLV := loadVar_blk (ty := 46) Try.underlying46 rfl (by kernel_rfl) gP_ rfl
      refine bodyPost_ret (v := .tuple #[.agg #[.int .i64 5, .slice none 0 0, .slice none 0 0, .slice none 0 0, .int .u64 x0, .int .u64 x1, .int .u64 x2, .int .u64 x3, .int .u32 x4, .int .u32 x5], .int .i64 0, .bool ok]) (results_ct3 Try.results49 rfl HLV) rfl ⟨rfl, bZ_⟩)
end
section
attribute [local go_sem] loadV_ptr storeV_ptr
attribute [local go_sem ↓] load_WQ store_WQ
set_option maxRecDepth 8000 in
set_option maxHeartbeats 4000000 in
theorem parse_f6 (B : Option Addr) (n c : Nat) (x0 x1 x2 x3 x4 x5 : Int) (ok : Bool) (w : World)
    (HG0 : ∀ W, Below w.heap.size w W → Calls Try.prog 68 #[.slice B n c] W fun r w' => r = .returned (.tuple #[.agg #[.int .u64 x0, .int .u64 x1, .int .u64 x2, .int .u64 x3, .int .u32 x4, .int .u32 x5], .bool ok]) ∧ Below W.heap.size W w') :
    Calls Try.prog 49 #[.int .u8 6, .slice B n c] w fun r w' => r = .returned (.tuple #[.agg #[.int .i64 6, .slice none 0 0, .slice none 0 0, .slice none 0 0, .int .u64 x0, .int .u64 x1, .int .u64 x2, .int .u64 x3, .int .u32 x4, .int .u32 x5], .int .i64 0, .bool ok]) ∧ Below w.heap.size w w' := by
  have HG := Lib.hid HG0
  clear HG0
  go_enter Try.func49, Try.ntmps49
  go_wp2_with fail
  refine (HG.out _ (bel_alloc (bel_alloc (Below.refl _ _) _) _)).mono ?_
  rintro e2 w2 ⟨rfl, hb2⟩
  have g_r := (((Blk.new _ _ _).kept (bel_alloc (Below.refl _ _) _)).kept hb2 : Blk w2 w.heap.size 46 #[.int .i64 0, .slice none 0 0, .slice none 0 0, .slice none 0 0, .int .u64 0, .int .u64 0, .int .u64 0, .int .u64 0, .int .u32 0, .int .u32 0])
  have g_t := ((Blk.newE (l := [.int .i64 6, .slice none 0 0, .slice none 0 0, .slice none 0 0, .int .u64 0, .int .u64 0, .int .u64 0, .int .u64 0, .int .u32 0, .int .u32 0]) (n := w.heap.size + 1) (by simp) rfl).kept hb2 : Blk w2 (w.heap.size + 1) 46 #[.int .i64 6, .slice none 0 0, .slice none 0 0, .slice none 0 0, .int .u64 0, .int .u64 0, .int .u64 0, .int .u64 0, .int .u32 0, .int .u32 0])
  have hb3 := Lib.hid ((bel_alloc (bel_alloc (Below.refl _ _) _) _ : Below w.heap.size w _).trans (hb2.mono (by simp; omega)))
  clear hb2
  have t0 := (g_t).cell 0
  have t1 := (g_t).cell 1
  have t2 := (g_t).cell 2
  have t3 := (g_t).cell 3
  have t4 := (g_t).cell 4
  have t5 := (g_t).cell 5
  have t6 := (g_t).cell 6
  have t7 := (g_t).cell 7
  have t8 := (g_t).cell 8
  have t9 := (g_t).cell 9
  have tf0 := (g_t).frozen 0
  have tf1 := (g_t).frozen 1
  have tf2 := (g_t).frozen 2
  have tf3 := (g_t).frozen 3
  have tf4 := (g_t).frozen 4
  have tf5 := (g_t).frozen 5
  have tf6 := (g_t).frozen 6
  have tf7 := (g_t).frozen 7
  have tf8 := (g_t).frozen 8
  have tf9 := (g_t).frozen 9
  have tl := (g_t).lt
  replace g_t := Lib.hid g_t
  replace g_r := Lib.hid g_r
  go_upto_region 19 with fail
  refine abs_wp (fun X => Below w.heap.size w X ∧ Blk X (w.heap.size + 1) 46 #[.int .i64 6, .slice none 0 0, .slice none 0 0, .slice none 0 0, .int .u64 x0, .int .u64 x1, .int .u64 x2, .int .u64 x3, .int .u32 x4, .int .u32 x5] ∧ Blk X w.heap.size 46 #[.int .i64 0, .slice none 0 0, .slice none 0 0, .slice none 0 0, .int .u64 0, .int .u64 0, .int .u64 0, .int .u64 0, .int .u32 0, .int .u32 0]) ⟨?_, ?_, ?_⟩ ?_
  · have t := hb3.out
    repeat (with_reducible refine bel_set ?_ (by dsimp only; omega) _)
    exact t
  · exact (((((g_t.out.set_ 4 _).set_ 5 _).set_ 6 _).set_ 7 _).set_ 8 _).set_ 9 _
  · repeat (with_reducible refine Blk.far ?_ (by dsimp only; omega) _)
    exact g_r.out
  rintro X ⟨hbX, k_t, k_r⟩
  clear g_t g_r t0 t1 t2 t3 t4 t5 t6 t7 t8 t9 tf0 tf1 tf2 tf3 tf4 tf5 tf6 tf7 tf8 tf9 tl hb3
  have r_t := rowAt_blk k_t
  have r_r := rowAt_blk k_r
  have tl := k_t.lt
  have rl := k_r.lt
  replace k_r := Lib.hid k_r
  replace hbX := Lib.hid hbX
  clear k_t
  go_wp2_with fail
  (
      refine abs_post (fun Y_ => Below w.heap.size w Y_ ∧ Blk Y_ w.heap.size 46 #[.int .i64 6, .slice none 0 0, .slice none 0 0, .slice none 0 0, .int .u64 x0, .int .u64 x1, .int .u64 x2, .int .u64 x3, .int .u32 x4, .int .u32 x5]) ⟨bel_setRow hbX.out (Nat.le_refl _) _, k_r.out.setRow rfl⟩ ?_
      rintro Y_ ⟨bZ_, gP_⟩
      have HLV := loadVar_blk (ty := 46) Try.underlying46 rfl (by kernel_rfl) gP_ rfl
      refine bodyPost_ret (v := .tuple #[.agg #[.int .i64 6, .slice none 0 0, .slice none 0 0, .slice none 0 0, .int .u64 x0, .int .u64 x1, .int .u64 x2, .int .u64 x3, .int .u32 x4, .int .u32 x5], .int .i64 0, .bool ok]) (results_ct3 Try.results49 rfl HLV) rfl ⟨rfl, bZ_⟩)
end
section
attribute [local go_sem] loadV_ptr storeV_ptr
attribute [local go_sem ↓] load_WQ store_WQ
set_option maxRecDepth 8000 in
set_option maxHeartbeats 4000000 in
theorem parse_7 (B : Option Addr) (n c : Nat) (hn : n ≤ maxLen) (w : World) :
    Calls Try.prog 49 #[.int .u8 7, .slice B n c] w fun r w' => r = .returned (.tuple #[.agg #[.int .i64 7, .slice none 0 0, .slice none 0 0, .slice none 0 0, .int .u64 0, .int .u64 0, .int .u64 0, .int .u64 0, .int .u32 0, .int .u32 0], .int .i64 0, .bool (decide (n = 0))]) ∧ Below w.heap.size w w' := by
  have hd : ((n : Int) == 0) = decide (n = 0) := by
    by_cases h : n = 0
    · subst h; rfl
    · rw [decide_eq_false h]; exact beq_eq_false_iff_ne.2 (by omega)
  generalize decide (n = 0) = b at *
  unfold maxLen at hn
  go_enter Try.func49, Try.ntmps49
  go_wp2_with fail
  all_goals (
      refine abs_post (fun Y_ => Below w.heap.size w Y_ ∧ Blk Y_ w.heap.size 46 #[.int .i64 7, .slice none 0 0, .slice none 0 0, .slice none 0 0, .int .u64 0, .int .u64 0, .int .u64 0, .int .u64 0, .int .u32 0, .int .u32 0]) ⟨by (repeat (first | exact Below.refl _ _ | assumption | refine below_drewN ?_ _ | refine bel_grow ?_ _ | refine Below.drew ?_ | refine bel_alloc ?_ _ | refine bel_set ?_ (by first | exact Nat.le_refl _ | (simp; done) | (simp; omega) | omega) _ | refine bel_trans ?_ (by assumption))), by (repeat (first | with_reducible assumption | (with_reducible refine Blk.new' ?_; first | with_reducible rfl | (simp; done)) | with_reducible refine Blk.alloc ?_ _ | with_reducible refine Blk.grow ?_ _ | with_reducible refine Blk.drew ?_ | with_reducible refine Blk.drewN ?_ _ | (with_reducible refine Blk.far ?_ (by first | (dsimp only; omega) | (simp; omega)) _) | (with_reducible apply Blk.two) | (with_reducible refine Blk.set' ?_ _ _ ?_) | (with_reducible rfl) | rfl))⟩ ?_
      rintro Y_ ⟨bZ_, gP_⟩
      have HLV := loadVar_blk (ty := 46) Try.underlying46 rfl (by kernel_rfl) gP_ rfl
      refine bodyPost_ret (v := .tuple #[.agg #[.int .i64 7, .slice none 0 0, .slice none 0 0, .slice none 0 0, .int .u64 0, .int .u64 0, .int .u64 0, .int .u64 0, .int .u32 0, .int .u32 0], .int .i64 0, .bool b]) (results_ct3 Try.results49 rfl HLV) rfl ⟨rfl, bZ_⟩)
end
section
attribute [local go_sem] loadV_ptr storeV_ptr
attribute [local go_sem ↓] load_WQ store_WQ
set_option maxRecDepth 8000 in
set_option maxHeartbeats 4000000 in
theorem parse_bad (k : Int) (hk : k < 1 ∨ 7 < k) (hk2 : 0 ≤ k ∧ k < 256) (B : Option Addr) (n c : Nat) (w : World) :
    Calls Try.prog 49 #[.int .u8 k, .slice B n c] w fun r w' => r = .returned (.tuple #[.agg #[.int .i64 k, .slice none 0 0, .slice none 0 0, .slice none 0 0, .int .u64 0, .int .u64 0, .int .u64 0, .int .u64 0, .int .u32 0, .int .u32 0], .int .i64 0, .bool false]) ∧ Below w.heap.size w w' := by
  have e1 : (k == 1) = false := beq_eq_false_iff_ne.2 (by omega)
  have e2 : (k == 2) = false := beq_eq_false_iff_ne.2 (by omega)
  have e3 : (k == 3) = false := beq_eq_false_iff_ne.2 (by omega)
  have e4 : (k == 4) = false := beq_eq_false_iff_ne.2 (by omega)
  have e5 : (k == 5) = false := beq_eq_false_iff_ne.2 (by omega)
  have e6 : (k == 6) = false := beq_eq_false_iff_ne.2 (by omega)
  have e7 : (k == 7) = false := beq_eq_false_iff_ne.2 (by omega)
  go_enter Try.func49, Try.ntmps49
  go_wp2_with fail
  all_goals (
      refine abs_post (fun Y_ => Below w.heap.size w Y_ ∧ Blk Y_ w.heap.size 46 #[.int .i64 k, .slice none 0 0, .slice none 0 0, .slice none 0 0, .int .u64 0, .int .u64 0, .int .u64 0, .int .u64 0, .int .u32 0, .int .u32 0]) ⟨by (repeat (first | exact Below.refl _ _ | assumption | refine below_drewN ?_ _ | refine bel_grow ?_ _ | refine Below.drew ?_ | refine bel_alloc ?_ _ | refine bel_set ?_ (by first | exact Nat.le_refl _ | (simp; done) | (simp; omega) | omega) _ | refine bel_trans ?_ (by assumption))), by (repeat (first | with_reducible assumption | (with_reducible refine Blk.new' ?_; first | with_reducible rfl | (simp; done)) | with_reducible refine Blk.alloc ?_ _ | with_reducible refine Blk.grow ?_ _ | with_reducible refine Blk.drew ?_ | with_reducible refine Blk.drewN ?_ _ | (with_reducible refine Blk.far ?_ (by first | (dsimp only; omega) | (simp; omega)) _) | (with_reducible apply Blk.two) | (with_reducible refine Blk.set' ?_ _ _ ?_) | (with_reducible rfl) | rfl))⟩ ?_
      rintro Y_ ⟨bZ_, gP_⟩
      have HLV := loadVar_blk (ty := 46) Try.underlying46 rfl (by kernel_rfl) gP_ rfl
      refine bodyPost_ret (v := .tuple #[.agg #[.int .i64 k, .slice none 0 0, .slice none 0 0, .slice none 0 0, .int .u64 0, .int .u64 0, .int .u64 0, .int .u64 0, .int .u32 0, .int .u32 0], .int .i64 0, .bool false]) (results_ct3 Try.results49 rfl HLV) rfl ⟨rfl, bZ_⟩)
end
end Go.Proofs.Ytncampbmnbhikaa
