/-
  Joined: Wro Wrp OrF.
-/
import Derived.Test.YtncampbmnbhikaaJ17
import Derived.Test.YtncampbmnbhikaaJ8
-- Wro
namespace Go.Proofs.Ytncampbmnbhikaa
set_option linter.unusedVariables false
set_option linter.unusedSimpArgs false
open Go.RowKit

section
attribute [local go_sem] loadV_ptr storeV_ptr
attribute [local go_sem ↓] load_WP store_WP
set_option maxRecDepth 8000 in
set_option maxHeartbeats 4000000 in
theorem getReply_n1 (B : Option Addr) (n c : Nat) (e : Nat → Int) (he : ∀ i, 0 ≤ e i ∧ e i < 256) (hmc : n ≤ c) (hC : c ≤ maxLen) (hn : n ≤ 100000) (w : World) (hs : SlIs w B n (yV e)) (h2 : 2 ≤ n) (hq : (n - 2) % 8 ≠ 0) (h0 : e 0 = 0) (h1 : e 1 = 1) :
    Calls Try.prog 11 #[.slice B n c] w fun r w' => r = .returned (.tuple #[.agg #[.int .i64 0, .int .i64 0, .slice none 0 0, .slice none 0 0, .slice none 0 0, .slice none 0 0, .int .u32 0], .bool false]) ∧ Below w.heap.size w w' := by
  obtain ⟨b, o, rfl, hbl, hc⟩ := hs (by omega)
  have hc0 : w.cell? ⟨b, o, none⟩ = some (.int .u8 0) := (hc 0 (by omega)).trans (by simp only [yV, h0])
  have hc1 : w.cell? ⟨b, o + 1, none⟩ = some (.int .u8 1) := (hc 1 (by omega)).trans (by simp only [yV, h1])
  have HG := Lib.hid (fun A2 c2 W => readR_no A2 (n - 2) c2 (by unfold maxLen at *; omega) hq W)
  unfold maxLen at hC
  have k1 : ((n : Int) == 1) = false := beq_eq_false_iff_ne.2 (by omega)
  have k2 : decide ((n : Int) < 2) = false := decide_eq_false (by omega)
  clear hs hc hq
  go_enter Try.func11, Try.ntmps11
  go_wp2_with fail
  all_goals (
    refine (HG.out _ _ _).mono ?_
    rintro e2 w2 ⟨rfl, hb2⟩
    have g_r := (((Blk.new _ _ _).kept (bel_alloc (Below.refl _ _) _)).kept hb2 : Blk w2 w.heap.size 28 #[.int .i64 0, .int .i64 0, .slice none 0 0, .slice none 0 0, .slice none 0 0, .slice none 0 0, .int .u32 0])
    have g_t := ((Blk.newE (l := [.int .i64 0, .int .i64 1, .slice none 0 0, .slice none 0 0, .slice none 0 0, .slice none 0 0, .int .u32 0]) (n := w.heap.size + 1) (by simp) rfl).kept hb2 : Blk w2 (w.heap.size + 1) 28 #[.int .i64 0, .int .i64 1, .slice none 0 0, .slice none 0 0, .slice none 0 0, .slice none 0 0, .int .u32 0])
    have hb3 := Lib.hid ((bel_alloc (bel_alloc (Below.refl _ _) _) _ : Below w.heap.size w _).trans (hb2.mono (by simp; omega)))
    clear hb2
    have r_t := rowAt_blk g_t
    have r_r := rowAt_blk g_r
    have t0 := (g_t).cell 0
    have t1 := (g_t).cell 1
    have t2 := (g_t).cell 2
    have t3 := (g_t).cell 3
    have t4 := (g_t).cell 4
    have t5 := (g_t).cell 5
    have t6 := (g_t).cell 6
    have tf0 := (g_t).frozen 0
    have tf1 := (g_t).frozen 1
    have tf2 := (g_t).frozen 2
    have tf3 := (g_t).frozen 3
    have tf4 := (g_t).frozen 4
    have tf5 := (g_t).frozen 5
    have tf6 := (g_t).frozen 6
    have tl := (g_t).lt
    replace g_t := Lib.hid g_t
    replace g_r := Lib.hid g_r
    go_wp2_with fail
    (
      refine abs_post (fun Y_ => Below w.heap.size w Y_ ∧ Blk Y_ w.heap.size 28 #[.int .i64 0, .int .i64 0, .slice none 0 0, .slice none 0 0, .slice none 0 0, .slice none 0 0, .int .u32 0]) ⟨bel_setRow (bel_set hb3.out (by dsimp only; omega) _) (Nat.le_refl _) _, (g_r.out.far (by dsimp only; omega) _).setRow rfl⟩ ?_
      rintro Y_ ⟨bZ_, gP_⟩
      have HLV := loadVar_blk (ty := 28) Try.underlying28 rfl (by kernel_rfl) gP_ rfl
      refine bodyPost_ret (v := .tuple #[.agg #[.int .i64 0, .int .i64 0, .slice none 0 0, .slice none 0 0, .slice none 0 0, .slice none 0 0, .int .u32 0], .bool false]) (results_ct Try.results11 rfl HLV) rfl ⟨rfl, bZ_⟩))
set_option maxRecDepth 8000 in
set_option maxHeartbeats 4000000 in
theorem getReply_n2 (B : Option Addr) (n c : Nat) (e : Nat → Int) (he : ∀ i, 0 ≤ e i ∧ e i < 256) (hmc : n ≤ c) (hC : c ≤ maxLen) (hn : n ≤ 100000) (w : World) (hs : SlIs w B n (yV e)) (h2 : 2 ≤ n) (hq : (n - 2) % 8 ≠ 0) (h0 : e 0 = 0) (h1 : e 1 = 2) :
    Calls Try.prog 11 #[.slice B n c] w fun r w' => r = .returned (.tuple #[.agg #[.int .i64 0, .int .i64 0, .slice none 0 0, .slice none 0 0, .slice none 0 0, .slice none 0 0, .int .u32 0], .bool false]) ∧ Below w.heap.size w w' := by
  obtain ⟨b, o, rfl, hbl, hc⟩ := hs (by omega)
  have hc0 : w.cell? ⟨b, o, none⟩ = some (.int .u8 0) := (hc 0 (by omega)).trans (by simp only [yV, h0])
  have hc1 : w.cell? ⟨b, o + 1, none⟩ = some (.int .u8 2) := (hc 1 (by omega)).trans (by simp only [yV, h1])
  have HG := Lib.hid (fun A2 c2 W => readR_no A2 (n - 2) c2 (by unfold maxLen at *; omega) hq W)
  unfold maxLen at hC
  have k1 : ((n : Int) == 1) = false := beq_eq_false_iff_ne.2 (by omega)
  have k2 : decide ((n : Int) < 2) = false := decide_eq_false (by omega)
  clear hs hc hq
  go_enter Try.func11, Try.ntmps11
  go_wp2_with fail
  all_goals (
    refine (HG.out _ _ _).mono ?_
    rintro e2 w2 ⟨rfl, hb2⟩
    have g_r := (((Blk.new _ _ _).kept (bel_alloc (Below.refl _ _) _)).kept hb2 : Blk w2 w.heap.size 28 #[.int .i64 0, .int .i64 0, .slice none 0 0, .slice none 0 0, .slice none 0 0, .slice none 0 0, .int .u32 0])
    have g_t := ((Blk.newE (l := [.int .i64 0, .int .i64 2, .slice none 0 0, .slice none 0 0, .slice none 0 0, .slice none 0 0, .int .u32 0]) (n := w.heap.size + 1) (by simp) rfl).kept hb2 : Blk w2 (w.heap.size + 1) 28 #[.int .i64 0, .int .i64 2, .slice none 0 0, .slice none 0 0, .slice none 0 0, .slice none 0 0, .int .u32 0])
    have hb3 := Lib.hid ((bel_alloc (bel_alloc (Below.refl _ _) _) _ : Below w.heap.size w _).trans (hb2.mono (by simp; omega)))
    clear hb2
    have r_t := rowAt_blk g_t
    have r_r := rowAt_blk g_r
    have t0 := (g_t).cell 0
    have t1 := (g_t).cell 1
    have t2 := (g_t).cell 2
    have t3 := (g_t).cell 3
    have t4 := (g_t).cell 4
    have t5 := (g_t).cell 5
    have t6 := (g_t).cell 6
    have tf0 := (g_t).frozen 0
    have tf1 := (g_t).frozen 1
    have tf2 := (g_t).frozen 2
    have tf3 := (g_t).frozen 3
    have tf4 := (g_t).frozen 4
    have tf5 := (g_t).frozen 5
    have tf6 := (g_t).frozen 6
    have tl := (g_t).lt
    replace g_t := Lib.hid g_t
    replace g_r := Lib.hid g_r
    go_wp2_with fail
    (
      refine abs_post (fun Y_ => Below w.heap.size w Y_ ∧ Blk Y_ w.heap.size 28 #[.int .i64 0, .int .i64 0, .slice none 0 0, .slice none 0 0, .slice none 0 0, .slice none 0 0, .int .u32 0]) ⟨bel_setRow (bel_set hb3.out (by dsimp only; omega) _) (Nat.le_refl _) _, (g_r.out.far (by dsimp only; omega) _).setRow rfl⟩ ?_
      rintro Y_ ⟨bZ_, gP_⟩
      have HLV := loadVar_blk (ty := 28) Try.underlying28 rfl (by kernel_rfl) gP_ rfl
      refine bodyPost_ret (v := .tuple #[.agg #[.int .i64 0, .int .i64 0, .slice none 0 0, .slice none 0 0, .slice none 0 0, .slice none 0 0, .int .u32 0], .bool false]) (results_ct Try.results11 rfl HLV) rfl ⟨rfl, bZ_⟩))
set_option maxRecDepth 8000 in
set_option maxHeartbeats 4000000 in
theorem getReply_n3 (B : Option Addr) (n c : Nat) (e : Nat → Int) (he : ∀ i, 0 ≤ e i ∧ e i < 256) (hmc : n ≤ c) (hC : c ≤ maxLen) (hn : n ≤ 100000) (w : World) (hs : SlIs w B n (yV e)) (h2 : 2 ≤ n) (hq : (n - 2) % 104 ≠ 0) (h0 : e 0 = 0) (h1 : e 1 = 3) :
    Calls Try.prog 11 #[.slice B n c] w fun r w' => r = .returned (.tuple #[.agg #[.int .i64 0, .int .i64 0, .slice none 0 0, .slice none 0 0, .slice none 0 0, .slice none 0 0, .int .u32 0], .bool false]) ∧ Below w.heap.size w w' := by
  obtain ⟨b, o, rfl, hbl, hc⟩ := hs (by omega)
  have hc0 : w.cell? ⟨b, o, none⟩ = some (.int .u8 0) := (hc 0 (by omega)).trans (by simp only [yV, h0])
  have hc1 : w.cell? ⟨b, o + 1, none⟩ = some (.int .u8 3) := (hc 1 (by omega)).trans (by simp only [yV, h1])
  have HG := Lib.hid (fun A2 c2 W => readA_no A2 (n - 2) c2 (by unfold maxLen at *; omega) hq W)
  unfold maxLen at hC
  have k1 : ((n : Int) == 1) = false := beq_eq_false_iff_ne.2 (by omega)
  have k2 : decide ((n : Int) < 2) = false := decide_eq_false (by omega)
  clear hs hc hq
  go_enter Try.func11, Try.ntmps11
  go_wp2_with fail
  all_goals (
    refine (HG.out _ _ _).mono ?_
    rintro e2 w2 ⟨rfl, hb2⟩
    have g_r := (((Blk.new _ _ _).kept (bel_alloc (Below.refl _ _) _)).kept hb2 : Blk w2 w.heap.size 28 #[.int .i64 0, .int .i64 0, .slice none 0 0, .slice none 0 0, .slice none 0 0, .slice none 0 0, .int .u32 0])
    have g_t := ((Blk.newE (l := [.int .i64 0, .int .i64 3, .slice none 0 0, .slice none 0 0, .slice none 0 0, .slice none 0 0, .int .u32 0]) (n := w.heap.size + 1) (by simp) rfl).kept hb2 : Blk w2 (w.heap.size + 1) 28 #[.int .i64 0, .int .i64 3, .slice none 0 0, .slice none 0 0, .slice none 0 0, .slice none 0 0, .int .u32 0])
    have hb3 := Lib.hid ((bel_alloc (bel_alloc (Below.refl _ _) _) _ : Below w.heap.size w _).trans (hb2.mono (by simp; omega)))
    clear hb2
    have r_t := rowAt_blk g_t
    have r_r := rowAt_blk g_r
    have t0 := (g_t).cell 0
    have t1 := (g_t).cell 1
    have t2 := (g_t).cell 2
    have t3 := (g_t).cell 3
    have t4 := (g_t).cell 4
    have t5 := (g_t).cell 5
    have t6 := (g_t).cell 6
    have tf0 := (g_t).frozen 0
    have tf1 := (g_t).frozen 1
    have tf2 := (g_t).frozen 2
    have tf3 := (g_t).frozen 3
    have tf4 := (g_t).frozen 4
    have tf5 := (g_t).frozen 5
    have tf6 := (g_t).frozen 6
    have tl := (g_t).lt
    replace g_t := Lib.hid g_t
    replace g_r := Lib.hid g_r
    go_wp2_with fail
    (
      refine abs_post (fun Y_ => Below w.heap.size w Y_ ∧ Blk Y_ w.heap.size 28 #[.int .i64 0, .int .i64 0, .slice none 0 0, .slice none 0 0, .slice none 0 0, .slice none 0 0, .int .u32 0]) ⟨bel_setRow (bel_set hb3.out (by dsimp only; omega) _) (Nat.le_refl _) _, (g_r.out.far (by dsimp only; omega) _).setRow rfl⟩ ?_
      rintro Y_ ⟨bZ_, gP_⟩
      have HLV := loadVar_blk (ty := 28) Try.underlying28 rfl (by kernel_rfl) gP_ rfl
      refine bodyPost_ret (v := .tuple #[.agg #[.int .i64 0, .int .i64 0, .slice none 0 0, .slice none 0 0, .slice none 0 0, .slice none 0 0, .int .u32 0], .bool false]) (results_ct Try.results11 rfl HLV) rfl ⟨rfl, bZ_⟩))
set_option maxRecDepth 8000 in
set_option maxHeartbeats 4000000 in
theorem getReply_n4 (B : Option Addr) (n c : Nat) (e : Nat → Int) (he : ∀ i, 0 ≤ e i ∧ e i < 256) (hmc : n ≤ c) (hC : c ≤ maxLen) (hn : n ≤ 100000) (w : World) (hs : SlIs w B n (yV e)) (h2 : 2 ≤ n) (hq : (n - 2) % 108 ≠ 0) (h0 : e 0 = 0) (h1 : e 1 = 4) :
    Calls Try.prog 11 #[.slice B n c] w fun r w' => r = .returned (.tuple #[.agg #[.int .i64 0, .int .i64 0, .slice none 0 0, .slice none 0 0, .slice none 0 0, .slice none 0 0, .int .u32 0], .bool false]) ∧ Below w.heap.size w w' := by
  obtain ⟨b, o, rfl, hbl, hc⟩ := hs (by omega)
  have hc0 : w.cell? ⟨b, o, none⟩ = some (.int .u8 0) := (hc 0 (by omega)).trans (by simp only [yV, h0])
  have hc1 : w.cell? ⟨b, o + 1, none⟩ = some (.int .u8 4) := (hc 1 (by omega)).trans (by simp only [yV, h1])
  have HG := Lib.hid (fun A2 c2 W => readT_no A2 (n - 2) c2 (by unfold maxLen at *; omega) hq W)
  unfold maxLen at hC
  have k1 : ((n : Int) == 1) = false := beq_eq_false_iff_ne.2 (by omega)
  have k2 : decide ((n : Int) < 2) = false := decide_eq_false (by omega)
  clear hs hc hq
  go_enter Try.func11, Try.ntmps11
  go_wp2_with fail
  all_goals (
    refine (HG.out _ _ _).mono ?_
    rintro e2 w2 ⟨rfl, hb2⟩
    have g_r := (((Blk.new _ _ _).kept (bel_alloc (Below.refl _ _) _)).kept hb2 : Blk w2 w.heap.size 28 #[.int .i64 0, .int .i64 0, .slice none 0 0, .slice none 0 0, .slice none 0 0, .slice none 0 0, .int .u32 0])
    have g_t := ((Blk.newE (l := [.int .i64 0, .int .i64 4, .slice none 0 0, .slice none 0 0, .slice none 0 0, .slice none 0 0, .int .u32 0]) (n := w.heap.size + 1) (by simp) rfl).kept hb2 : Blk w2 (w.heap.size + 1) 28 #[.int .i64 0, .int .i64 4, .slice none 0 0, .slice none 0 0, .slice none 0 0, .slice none 0 0, .int .u32 0])
    have hb3 := Lib.hid ((bel_alloc (bel_alloc (Below.refl _ _) _) _ : Below w.heap.size w _).trans (hb2.mono (by simp; omega)))
    clear hb2
    have r_t := rowAt_blk g_t
    have r_r := rowAt_blk g_r
    have t0 := (g_t).cell 0
    have t1 := (g_t).cell 1
    have t2 := (g_t).cell 2
    have t3 := (g_t).cell 3
    have t4 := (g_t).cell 4
    have t5 := (g_t).cell 5
    have t6 := (g_t).cell 6
    have tf0 := (g_t).frozen 0
    have tf1 := (g_t).frozen 1
    have tf2 := (g_t).frozen 2
    have tf3 := (g_t).frozen 3
    have tf4 := (g_t).frozen 4
    have tf5 := (g_t).frozen 5
    have tf6 := (g_t).frozen 6
    have tl := (g_t).lt
    replace g_t := Lib.hid g_t
    replace g_r := Lib.hid g_r
    go_wp2_with fail
    (
      refine abs_post (fun Y_ => Below w.heap.size w Y_ ∧ Blk Y_ w.heap.size 28 #[.int .i64 0, .int .i64 0, .slice none 0 0, .slice none 0 0, .slice none 0 0, .slice none 0 0, .int .u32 0]) ⟨bel_setRow (bel_set hb3.out (by dsimp only; omega) _) (Nat.le_refl _) _, (g_r.out.far (by dsimp only; omega) _).setRow rfl⟩ ?_
      rintro Y_ ⟨bZ_, gP_⟩
      have HLV := loadVar_blk (ty := 28) Try.underlying28 rfl (by kernel_rfl) gP_ rfl
      refine bodyPost_ret (v := .tuple #[.agg #[.int .i64 0, .int .i64 0, .slice none 0 0, .slice none 0 0, .slice none 0 0, .slice none 0 0, .int .u32 0], .bool false]) (results_ct Try.results11 rfl HLV) rfl ⟨rfl, bZ_⟩))
set_option maxRecDepth 8000 in
set_option maxHeartbeats 4000000 in
theorem getReply_n5 (B : Option Addr) (n c : Nat) (e : Nat → Int) (he : ∀ i, 0 ≤ e i ∧ e i < 256) (hmc : n ≤ c) (hC : c ≤ maxLen) (hn : n ≤ 100000) (w : World) (hs : SlIs w B n (yV e)) (h2 : 2 ≤ n) (hq : (n - 2) % 108 ≠ 0) (h0 : e 0 = 0) (h1 : e 1 = 5) :
    Calls Try.prog 11 #[.slice B n c] w fun r w' => r = .returned (.tuple #[.agg #[.int .i64 0, .int .i64 0, .slice none 0 0, .slice none 0 0, .slice none 0 0, .slice none 0 0, .int .u32 0], .bool false]) ∧ Below w.heap.size w w' := by
  obtain ⟨b, o, rfl, hbl, hc⟩ := hs (by omega)
  have hc0 : w.cell? ⟨b, o, none⟩ = some (.int .u8 0) := (hc 0 (by omega)).trans (by simp only [yV, h0])
  have hc1 : w.cell? ⟨b, o + 1, none⟩ = some (.int .u8 5) := (hc 1 (by omega)).trans (by simp only [yV, h1])
  have HG := Lib.hid (fun A2 c2 W => readT_no A2 (n - 2) c2 (by unfold maxLen at *; omega) hq W)
  unfold maxLen at hC
  have k1 : ((n : Int) == 1) = false := beq_eq_false_iff_ne.2 (by omega)
  have k2 : decide ((n : Int) < 2) = false := decide_eq_false (by omega)
  clear hs hc hq
  go_enter Try.func11, Try.ntmps11
  go_wp2_with fail
  all_goals (
    refine (HG.out _ _ _).mono ?_
    rintro e2 w2 ⟨rfl, hb2⟩
    have g_r := (((Blk.new _ _ _).kept (bel_alloc (Below.refl _ _) _)).kept hb2 : Blk w2 w.heap.size 28 #[.int .i64 0, .int .i64 0, .slice none 0 0, .slice none 0 0, .slice none 0 0, .slice none 0 0, .int .u32 0])
    have g_t := ((Blk.newE (l := [.int .i64 0, .int .i64 5, .slice none 0 0, .slice none 0 0, .slice none 0 0, .slice none 0 0, .int .u32 0]) (n := w.heap.size + 1) (by simp) rfl).kept hb2 : Blk w2 (w.heap.size + 1) 28 #[.int .i64 0, .int .i64 5, .slice none 0 0, .slice none 0 0, .slice none 0 0, .slice none 0 0, .int .u32 0])
    have hb3 := Lib.hid ((bel_alloc (bel_alloc (Below.refl _ _) _) _ : Below w.heap.size w _).trans (hb2.mono (by simp; omega)))
    clear hb2
    have r_t := rowAt_blk g_t
    have r_r := rowAt_blk g_r
    have t0 := (g_t).cell 0
    have t1 := (g_t).cell 1
    have t2 := (g_t).cell 2
    have t3 := (g_t).cell 3
    have t4 := (g_t).cell 4
    have t5 := (g_t).cell 5
    have t6 := (g_t).cell 6
    have tf0 := (g_t).frozen 0
    have tf1 := (g_t).frozen 1
    have tf2 := (g_t).frozen 2
    have tf3 := (g_t).frozen 3
    have tf4 := (g_t).frozen 4
    have tf5 := (g_t).frozen 5
    have tf6 := (g_t).frozen 6
    have tl := (g_t).lt
    replace g_t := Lib.hid g_t
    replace g_r := Lib.hid g_r
    go_wp2_with fail
    (
      refine abs_post (fun Y_ => Below w.heap.size w Y_ ∧ Blk Y_ w.heap.size 28 #[.int .i64 0, .int .i64 0, .slice none 0 0, .slice none 0 0, .slice none 0 0, .slice none 0 0, .int .u32 0]) ⟨bel_setRow (bel_set hb3.out (by dsimp only; omega) _) (Nat.le_refl _) _, (g_r.out.far (by dsimp only; omega) _).setRow rfl⟩ ?_
      rintro Y_ ⟨bZ_, gP_⟩
      have HLV := loadVar_blk (ty := 28) Try.underlying28 rfl (by kernel_rfl) gP_ rfl
      refine bodyPost_ret (v := .tuple #[.agg #[.int .i64 0, .int .i64 0, .slice none 0 0, .slice none 0 0, .slice none 0 0, .slice none 0 0, .int .u32 0], .bool false]) (results_ct Try.results11 rfl HLV) rfl ⟨rfl, bZ_⟩))
set_option maxRecDepth 8000 in
set_option maxHeartbeats 4000000 in
theorem getReply_n6 (B : Option Addr) (n c : Nat) (e : Nat → Int) (he : ∀ i, 0 ≤ e i ∧ e i < 256) (hmc : n ≤ c) (hC : c ≤ maxLen) (hn : n ≤ 100000) (w : World) (hs : SlIs w B n (yV e)) (h2 : 2 ≤ n) (hq : (n - 2) % 72 ≠ 0) (h0 : e 0 = 0) (h1 : e 1 = 6) :
    Calls Try.prog 11 #[.slice B n c] w fun r w' => r = .returned (.tuple #[.agg #[.int .i64 0, .int .i64 0, .slice none 0 0, .slice none 0 0, .slice none 0 0, .slice none 0 0, .int .u32 0], .bool false]) ∧ Below w.heap.size w w' := by
  obtain ⟨b, o, rfl, hbl, hc⟩ := hs (by omega)
  have hc0 : w.cell? ⟨b, o, none⟩ = some (.int .u8 0) := (hc 0 (by omega)).trans (by simp only [yV, h0])
  have hc1 : w.cell? ⟨b, o + 1, none⟩ = some (.int .u8 6) := (hc 1 (by omega)).trans (by simp only [yV, h1])
  have HG := Lib.hid (fun A2 c2 W => readB_no A2 (n - 2) c2 (by unfold maxLen at *; omega) hq W)
  unfold maxLen at hC
  have k1 : ((n : Int) == 1) = false := beq_eq_false_iff_ne.2 (by omega)
  have k2 : decide ((n : Int) < 2) = false := decide_eq_false (by omega)
  clear hs hc hq
  go_enter Try.func11, Try.ntmps11
  go_wp2_with fail
  all_goals (
    refine (HG.out _ _ _).mono ?_
    rintro e2 w2 ⟨rfl, hb2⟩
    have g_r := (((Blk.new _ _ _).kept (bel_alloc (Below.refl _ _) _)).kept hb2 : Blk w2 w.heap.size 28 #[.int .i64 0, .int .i64 0, .slice none 0 0, .slice none 0 0, .slice none 0 0, .slice none 0 0, .int .u32 0])
    have g_t := ((Blk.newE (l := [.int .i64 0, .int .i64 6, .slice none 0 0, .slice none 0 0, .slice none 0 0, .slice none 0 0, .int .u32 0]) (n := w.heap.size + 1) (by simp) rfl).kept hb2 : Blk w2 (w.heap.size + 1) 28 #[.int .i64 0, .int .i64 6, .slice none 0 0, .slice none 0 0, .slice none 0 0, .slice none 0 0, .int .u32 0])
    have hb3 := Lib.hid ((bel_alloc (bel_alloc (Below.refl _ _) _) _ : Below w.heap.size w _).trans (hb2.mono (by simp; omega)))
    clear hb2
    have r_t := rowAt_blk g_t
    have r_r := rowAt_blk g_r
    have t0 := (g_t).cell 0
    have t1 := (g_t).cell 1
    have t2 := (g_t).cell 2
    have t3 := (g_t).cell 3
    have t4 := (g_t).cell 4
    have t5 := (g_t).cell 5
    have t6 := (g_t).cell 6
    have tf0 := (g_t).frozen 0
    have tf1 := (g_t).frozen 1
    have tf2 := (g_t).frozen 2
    have tf3 := (g_t).frozen 3
    have tf4 := (g_t).frozen 4
    have tf5 := (g_t).frozen 5
    have tf6 := (g_t).frozen 6
    have tl := (g_t).lt
    replace g_t := Lib.hid g_t
    replace g_r := Lib.hid g_r
    go_wp2_with fail
    (
      refine abs_post (fun Y_ => Below w.heap.size w Y_ ∧ Blk Y_ w.heap.size 28 #[.int .i64 0, .int .i64 0, .slice none 0 0, .slice none 0 0, .slice none 0 0, .slice none 0 0, .int .u32 0]) ⟨bel_setRow (bel_set hb3.out (by dsimp only; omega) _) (Nat.le_refl _) _, (g_r.out.far (by dsimp only; omega) _).setRow rfl⟩ ?_
      rintro Y_ ⟨bZ_, gP_⟩
      have HLV := loadVar_blk (ty := 28) Try.underlying28 rfl (by kernel_rfl) gP_ rfl
      refine bodyPost_ret (v := .tuple #[.agg #[.int .i64 0, .int .i64 0, .slice none 0 0, .slice none 0 0, .slice none 0 0, .slice none 0 0, .int .u32 0], .bool false]) (results_ct Try.results11 rfl HLV) rfl ⟨rfl, bZ_⟩))
end
end Go.Proofs.Ytncampbmnbhikaa
-- Wrp
namespace Go.Proofs.Ytncampbmnbhikaa
set_option linter.unusedVariables false
set_option linter.unusedSimpArgs false
open Go.RowKit

section
attribute [local go_sem] loadV_ptr storeV_ptr
attribute [local go_sem ↓] load_WP store_WP
set_option maxRecDepth 8000 in
set_option maxHeartbeats 4000000 in
theorem getReply_zero (B : Option Addr) (n c : Nat) (e : Nat → Int) (he : ∀ i, 0 ≤ e i ∧ e i < 256) (hmc : n ≤ c) (hC : c ≤ maxLen) (hn : n ≤ 100000) (w : World) (hs : SlIs w B n (yV e)) (h : n = 0) :
    Calls Try.prog 11 #[.slice B n c] w fun r w' => r = .returned (.tuple #[.agg #[.int .i64 0, .int .i64 0, .slice none 0 0, .slice none 0 0, .slice none 0 0, .slice none 0 0, .int .u32 0], .bool false]) ∧ Below w.heap.size w w' := by
  subst h
  go_enter Try.func11, Try.ntmps11
  go_wp2_with fail
  all_goals (
      refine abs_post (fun Y_ => Below w.heap.size w Y_ ∧ Blk Y_ w.heap.size 28 #[.int .i64 0, .int .i64 0, .slice none 0 0, .slice none 0 0, .slice none 0 0, .slice none 0 0, .int .u32 0]) ⟨by (repeat (first | exact Below.refl _ _ | assumption | refine below_drewN ?_ _ | refine bel_grow ?_ _ | refine Below.drew ?_ | refine bel_alloc ?_ _ | refine bel_set ?_ (by first | exact Nat.le_refl _ | (simp; done) | (simp; omega) | omega) _ | refine bel_trans ?_ (by assumption))), by (repeat (first | with_reducible assumption | (with_reducible refine Blk.new' ?_; first | with_reducible rfl | (simp; done)) | with_reducible refine Blk.alloc ?_ _ | with_reducible refine Blk.grow ?_ _ | with_reducible refine Blk.drew ?_ | with_reducible refine Blk.drewN ?_ _ | (with_reducible refine Blk.far ?_ (by first | (dsimp only; omega) | (simp; omega)) _) | (with_reducible apply Blk.two) | (with_reducible refine Blk.set' ?_ _ _ ?_) | (with_reducible rfl) | rfl))⟩ ?_
      rintro Y_ ⟨bZ_, gP_⟩
      have HLV := loadVar_blk (ty := 28) Try.underlying28 rfl (by kernel_rfl) gP_ rfl
      refine bodyPost_ret (v := .tuple #[.agg #[.int .i64 0, .int .i64 0, .slice none 0 0, .slice none 0 0, .slice none 0 0, .slice none 0 0, .int .u32 0], .bool false]) (results_ct Try.results11 rfl HLV) rfl ⟨rfl, bZ_⟩)
set_option maxRecDepth 8000 in
set_option maxHeartbeats 4000000 in
theorem getReply_one (B : Option Addr) (n c : Nat) (e : Nat → Int) (he : ∀ i, 0 ≤ e i ∧ e i < 256) (hmc : n ≤ c) (hC : c ≤ maxLen) (hn : n ≤ 100000) (w : World) (hs : SlIs w B n (yV e)) (h : n = 1) (h0 : e 0 < 1 ∨ 4 < e 0) :
    Calls Try.prog 11 #[.slice B n c] w fun r w' => r = .returned (.tuple #[.agg #[.int .i64 0, .int .i64 0, .slice none 0 0, .slice none 0 0, .slice none 0 0, .slice none 0 0, .int .u32 0], .bool false]) ∧ Below w.heap.size w w' := by
  obtain ⟨b, o, rfl, hbl, hc⟩ := hs (by omega)
  have hc0 : w.cell? ⟨b, o, none⟩ = some (.int .u8 (e 0)) := hc 0 (by omega)
  have y := he 0
  clear hc he hs
  generalize e 0 = x at *
  unfold maxLen at hC
  subst h
  by_cases h1 : x < 1
  · have k1 : decide (x > 0) = false := decide_eq_false (by omega)
    go_enter Try.func11, Try.ntmps11
    go_wp2_with fail
    all_goals (
        refine abs_post (fun Y_ => Below w.heap.size w Y_ ∧ Blk Y_ w.heap.size 28 #[.int .i64 0, .int .i64 0, .slice none 0 0, .slice none 0 0, .slice none 0 0, .slice none 0 0, .int .u32 0]) ⟨by (repeat (first | exact Below.refl _ _ | assumption | refine below_drewN ?_ _ | refine bel_grow ?_ _ | refine Below.drew ?_ | refine bel_alloc ?_ _ | refine bel_set ?_ (by first | exact Nat.le_refl _ | (simp; done) | (simp; omega) | omega) _ | refine bel_trans ?_ (by assumption))), by (repeat (first | with_reducible assumption | (with_reducible refine Blk.new' ?_; first | with_reducible rfl | (simp; done)) | with_reducible refine Blk.alloc ?_ _ | with_reducible refine Blk.grow ?_ _ | with_reducible refine Blk.drew ?_ | with_reducible refine Blk.drewN ?_ _ | (with_reducible refine Blk.far ?_ (by first | (dsimp only; omega) | (simp; omega)) _) | (with_reducible apply Blk.two) | (with_reducible refine Blk.set' ?_ _ _ ?_) | (with_reducible rfl) | rfl))⟩ ?_
        rintro Y_ ⟨bZ_, gP_⟩
        have HLV := loadVar_blk (ty := 28) Try.underlying28 rfl (by kernel_rfl) gP_ rfl
        refine bodyPost_ret (v := .tuple #[.agg #[.int .i64 0, .int .i64 0, .slice none 0 0, .slice none 0 0, .slice none 0 0, .slice none 0 0, .int .u32 0], .bool false]) (results_ct Try.results11 rfl HLV) rfl ⟨rfl, bZ_⟩)
  · have k1 : decide (x > 0) = true := decide_eq_true (by omega)
    have k2 : decide (x ≤ 4) = false := decide_eq_false (by omega)
    go_enter Try.func11, Try.ntmps11
    go_wp2_with fail
    all_goals (
        refine abs_post (fun Y_ => Below w.heap.size w Y_ ∧ Blk Y_ w.heap.size 28 #[.int .i64 0, .int .i64 0, .slice none 0 0, .slice none 0 0, .slice none 0 0, .slice none 0 0, .int .u32 0]) ⟨by (repeat (first | exact Below.refl _ _ | assumption | refine below_drewN ?_ _ | refine bel_grow ?_ _ | refine Below.drew ?_ | refine bel_alloc ?_ _ | refine bel_set ?_ (by first | exact Nat.le_refl _ | (simp; done) | (simp; omega) | omega) _ | refine bel_trans ?_ (by assumption))), by (repeat (first | with_reducible assumption | (with_reducible refine Blk.new' ?_; first | with_reducible rfl | (simp; done)) | with_reducible refine Blk.alloc ?_ _ | with_reducible refine Blk.grow ?_ _ | with_reducible refine Blk.drew ?_ | with_reducible refine Blk.drewN ?_ _ | (with_reducible refine Blk.far ?_ (by first | (dsimp only; omega) | (simp; omega)) _) | (with_reducible apply Blk.two) | (with_reducible refine Blk.set' ?_ _ _ ?_) | (with_reducible rfl) | rfl))⟩ ?_
        rintro Y_ ⟨bZ_, gP_⟩
        have HLV := loadVar_blk (ty := 28) Try.underlying28 rfl (by kernel_rfl) gP_ rfl
        refine bodyPost_ret (v := .tuple #[.agg #[.int .i64 0, .int .i64 0, .slice none 0 0, .slice none 0 0, .slice none 0 0, .slice none 0 0, .int .u32 0], .bool false]) (results_ct Try.results11 rfl HLV) rfl ⟨rfl, bZ_⟩)
set_option maxRecDepth 8000 in
set_option maxHeartbeats 4000000 in
theorem getReply_st (B : Option Addr) (n c : Nat) (e : Nat → Int) (he : ∀ i, 0 ≤ e i ∧ e i < 256) (hmc : n ≤ c) (hC : c ≤ maxLen) (hn : n ≤ 100000) (w : World) (hs : SlIs w B n (yV e)) (h : n = 1) (h0 : 1 ≤ e 0 ∧ e 0 ≤ 4) :
    Calls Try.prog 11 #[.slice B n c] w fun r w' => r = .returned (.tuple #[.agg #[.int .i64 (e 0), .int .i64 0, .slice none 0 0, .slice none 0 0, .slice none 0 0, .slice none 0 0, .int .u32 0], .bool true]) ∧ Below w.heap.size w w' := by
  obtain ⟨b, o, rfl, hbl, hc⟩ := hs (by omega)
  have hc0 : w.cell? ⟨b, o, none⟩ = some (.int .u8 (e 0)) := hc 0 (by omega)
  have y := he 0
  clear hc he hs
  generalize e 0 = x at *
  unfold maxLen at hC
  subst h
  have k1 : decide (x > 0) = true := decide_eq_true (by omega)
  have k2 : decide (x ≤ 4) = true := decide_eq_true (by omega)
  go_enter Try.func11, Try.ntmps11
  go_wp2_with fail
  all_goals (
      refine abs_post (fun Y_ => Below w.heap.size w Y_ ∧ Blk Y_ w.heap.size 28 #[.int .i64 x, .int .i64 0, .slice none 0 0, .slice none 0 0, .slice none 0 0, .slice none 0 0, .int .u32 0]) ⟨by (repeat (first | exact Below.refl _ _ | assumption | refine below_drewN ?_ _ | refine bel_grow ?_ _ | refine Below.drew ?_ | refine bel_alloc ?_ _ | refine bel_set ?_ (by first | exact Nat.le_refl _ | (simp; done) | (simp; omega) | omega) _ | refine bel_trans ?_ (by assumption))), by (repeat (first | with_reducible assumption | (with_reducible refine Blk.new' ?_; first | with_reducible rfl | (simp; done)) | with_reducible refine Blk.alloc ?_ _ | with_reducible refine Blk.grow ?_ _ | with_reducible refine Blk.drew ?_ | with_reducible refine Blk.drewN ?_ _ | (with_reducible refine Blk.far ?_ (by first | (dsimp only; omega) | (simp; omega)) _) | (with_reducible apply Blk.two) | (with_reducible refine Blk.set' ?_ _ _ ?_) | (with_reducible rfl) | rfl))⟩ ?_
      rintro Y_ ⟨bZ_, gP_⟩
      have HLV := loadVar_blk (ty := 28) Try.underlying28 rfl (by kernel_rfl) gP_ rfl
      refine bodyPost_ret (v := .tuple #[.agg #[.int .i64 x, .int .i64 0, .slice none 0 0, .slice none 0 0, .slice none 0 0, .slice none 0 0, .int .u32 0], .bool true]) (results_ct Try.results11 rfl HLV) rfl ⟨rfl, bZ_⟩)
set_option maxRecDepth 8000 in
set_option maxHeartbeats 4000000 in
theorem getReply_head (B : Option Addr) (n c : Nat) (e : Nat → Int) (he : ∀ i, 0 ≤ e i ∧ e i < 256) (hmc : n ≤ c) (hC : c ≤ maxLen) (hn : n ≤ 100000) (w : World) (hs : SlIs w B n (yV e)) (h2 : 2 ≤ n) (h0 : e 0 ≠ 0) :
    Calls Try.prog 11 #[.slice B n c] w fun r w' => r = .returned (.tuple #[.agg #[.int .i64 0, .int .i64 0, .slice none 0 0, .slice none 0 0, .slice none 0 0, .slice none 0 0, .int .u32 0], .bool false]) ∧ Below w.heap.size w w' := by
  obtain ⟨b, o, rfl, hbl, hc⟩ := hs (by omega)
  have hc0 : w.cell? ⟨b, o, none⟩ = some (.int .u8 (e 0)) := hc 0 (by omega)
  have y := he 0
  clear hc he hs
  generalize e 0 = x at *
  unfold maxLen at hC
  have k1 : ((n : Int) == 1) = false := beq_eq_false_iff_ne.2 (by omega)
  have k2 : decide ((n : Int) < 2) = false := decide_eq_false (by omega)
  have k3 : (x != 0) = true := by rw [bne_iff_ne]; exact h0
  go_enter Try.func11, Try.ntmps11
  go_wp2_with fail
  all_goals (
      refine abs_post (fun Y_ => Below w.heap.size w Y_ ∧ Blk Y_ w.heap.size 28 #[.int .i64 0, .int .i64 0, .slice none 0 0, .slice none 0 0, .slice none 0 0, .slice none 0 0, .int .u32 0]) ⟨by (repeat (first | exact Below.refl _ _ | assumption | refine below_drewN ?_ _ | refine bel_grow ?_ _ | refine Below.drew ?_ | refine bel_alloc ?_ _ | refine bel_set ?_ (by first | exact Nat.le_refl _ | (simp; done) | (simp; omega) | omega) _ | refine bel_trans ?_ (by assumption))), by (repeat (first | with_reducible assumption | (with_reducible refine Blk.new' ?_; first | with_reducible rfl | (simp; done)) | with_reducible refine Blk.alloc ?_ _ | with_reducible refine Blk.grow ?_ _ | with_reducible refine Blk.drew ?_ | with_reducible refine Blk.drewN ?_ _ | (with_reducible refine Blk.far ?_ (by first | (dsimp only; omega) | (simp; omega)) _) | (with_reducible apply Blk.two) | (with_reducible refine Blk.set' ?_ _ _ ?_) | (with_reducible rfl) | rfl))⟩ ?_
      rintro Y_ ⟨bZ_, gP_⟩
      have HLV := loadVar_blk (ty := 28) Try.underlying28 rfl (by kernel_rfl) gP_ rfl
      refine bodyPost_ret (v := .tuple #[.agg #[.int .i64 0, .int .i64 0, .slice none 0 0, .slice none 0 0, .slice none 0 0, .slice none 0 0, .int .u32 0], .bool false]) (results_ct Try.results11 rfl HLV) rfl ⟨rfl, bZ_⟩)
set_option maxRecDepth 8000 in
set_option maxHeartbeats 4000000 in
theorem getReply_kd (B : Option Addr) (n c : Nat) (e : Nat → Int) (he : ∀ i, 0 ≤ e i ∧ e i < 256) (hmc : n ≤ c) (hC : c ≤ maxLen) (hn : n ≤ 100000) (w : World) (hs : SlIs w B n (yV e)) (h2 : 2 ≤ n) (h0 : e 0 = 0) (h1 : e 1 < 1 ∨ 7 < e 1) :
    Calls Try.prog 11 #[.slice B n c] w fun r w' => r = .returned (.tuple #[.agg #[.int .i64 0, .int .i64 0, .slice none 0 0, .slice none 0 0, .slice none 0 0, .slice none 0 0, .int .u32 0], .bool false]) ∧ Below w.heap.size w w' := by
  obtain ⟨b, o, rfl, hbl, hc⟩ := hs (by omega)
  have hc0 : w.cell? ⟨b, o, none⟩ = some (.int .u8 0) := (hc 0 (by omega)).trans (by simp only [yV, h0])
  unfold maxLen at hC
  have k1 : ((n : Int) == 1) = false := beq_eq_false_iff_ne.2 (by omega)
  have k2 : decide ((n : Int) < 2) = false := decide_eq_false (by omega)
  have hc1 : w.cell? ⟨b, o + 1, none⟩ = some (.int .u8 (e 1)) := hc 1 (by omega)
  have y := he 1
  clear hc he hs h0
  generalize e 1 = x at *
  have e1 : (x == 1) = false := beq_eq_false_iff_ne.2 (by omega)
  have e2 : (x == 2) = false := beq_eq_false_iff_ne.2 (by omega)
  have e3 : (x == 3) = false := beq_eq_false_iff_ne.2 (by omega)
  have e4 : (x == 4) = false := beq_eq_false_iff_ne.2 (by omega)
  have e5 : (x == 5) = false := beq_eq_false_iff_ne.2 (by omega)
  have e6 : (x == 6) = false := beq_eq_false_iff_ne.2 (by omega)
  have e7 : (x == 7) = false := beq_eq_false_iff_ne.2 (by omega)
  go_enter Try.func11, Try.ntmps11
  go_wp2_with fail
  all_goals (
      refine abs_post (fun Y_ => Below w.heap.size w Y_ ∧ Blk Y_ w.heap.size 28 #[.int .i64 0, .int .i64 0, .slice none 0 0, .slice none 0 0, .slice none 0 0, .slice none 0 0, .int .u32 0]) ⟨by (repeat (first | exact Below.refl _ _ | assumption | refine below_drewN ?_ _ | refine bel_grow ?_ _ | refine Below.drew ?_ | refine bel_alloc ?_ _ | refine bel_set ?_ (by first | exact Nat.le_refl _ | (simp; done) | (simp; omega) | omega) _ | refine bel_trans ?_ (by assumption))), by (repeat (first | with_reducible assumption | (with_reducible refine Blk.new' ?_; first | with_reducible rfl | (simp; done)) | with_reducible refine Blk.alloc ?_ _ | with_reducible refine Blk.grow ?_ _ | with_reducible refine Blk.drew ?_ | with_reducible refine Blk.drewN ?_ _ | (with_reducible refine Blk.far ?_ (by first | (dsimp only; omega) | (simp; omega)) _) | (with_reducible apply Blk.two) | (with_reducible refine Blk.set' ?_ _ _ ?_) | (with_reducible rfl) | rfl))⟩ ?_
      rintro Y_ ⟨bZ_, gP_⟩
      have HLV := loadVar_blk (ty := 28) Try.underlying28 rfl (by kernel_rfl) gP_ rfl
      refine bodyPost_ret (v := .tuple #[.agg #[.int .i64 0, .int .i64 0, .slice none 0 0, .slice none 0 0, .slice none 0 0, .slice none 0 0, .int .u32 0], .bool false]) (results_ct Try.results11 rfl HLV) rfl ⟨rfl, bZ_⟩)
set_option maxRecDepth 8000 in
set_option maxHeartbeats 4000000 in
theorem getReply_n7 (B : Option Addr) (n c : Nat) (e : Nat → Int) (he : ∀ i, 0 ≤ e i ∧ e i < 256) (hmc : n ≤ c) (hC : c ≤ maxLen) (hn : n ≤ 100000) (w : World) (hs : SlIs w B n (yV e)) (h2 : 2 ≤ n) (h0 : e 0 = 0) (h1 : e 1 = 7) (h6 : n ≠ 6) :
    Calls Try.prog 11 #[.slice B n c] w fun r w' => r = .returned (.tuple #[.agg #[.int .i64 0, .int .i64 0, .slice none 0 0, .slice none 0 0, .slice none 0 0, .slice none 0 0, .int .u32 0], .bool false]) ∧ Below w.heap.size w w' := by
  obtain ⟨b, o, rfl, hbl, hc⟩ := hs (by omega)
  have hc0 : w.cell? ⟨b, o, none⟩ = some (.int .u8 0) := (hc 0 (by omega)).trans (by simp only [yV, h0])
  unfold maxLen at hC
  have k1 : ((n : Int) == 1) = false := beq_eq_false_iff_ne.2 (by omega)
  have k2 : decide ((n : Int) < 2) = false := decide_eq_false (by omega)
  have hc1 : w.cell? ⟨b, o + 1, none⟩ = some (.int .u8 7) := (hc 1 (by omega)).trans (by simp only [yV, h1])
  clear hc he hs h0 h1
  have k3 : ((n : Int) - 2 == 4) = false := beq_eq_false_iff_ne.2 (by omega)
  have k4 : (((n - 2 : Nat) : Int) == 4) = false := beq_eq_false_iff_ne.2 (by omega)
  go_enter Try.func11, Try.ntmps11
  go_wp2_with fail
  all_goals (
      refine abs_post (fun Y_ => Below w.heap.size w Y_ ∧ Blk Y_ w.heap.size 28 #[.int .i64 0, .int .i64 0, .slice none 0 0, .slice none 0 0, .slice none 0 0, .slice none 0 0, .int .u32 0]) ⟨by (repeat (first | exact Below.refl _ _ | assumption | refine below_drewN ?_ _ | refine bel_grow ?_ _ | refine Below.drew ?_ | refine bel_alloc ?_ _ | refine bel_set ?_ (by first | exact Nat.le_refl _ | (simp; done) | (simp; omega) | omega) _ | refine bel_trans ?_ (by assumption))), by (repeat (first | with_reducible assumption | (with_reducible refine Blk.new' ?_; first | with_reducible rfl | (simp; done)) | with_reducible refine Blk.alloc ?_ _ | with_reducible refine Blk.grow ?_ _ | with_reducible refine Blk.drew ?_ | with_reducible refine Blk.drewN ?_ _ | (with_reducible refine Blk.far ?_ (by first | (dsimp only; omega) | (simp; omega)) _) | (with_reducible apply Blk.two) | (with_reducible refine Blk.set' ?_ _ _ ?_) | (with_reducible rfl) | rfl))⟩ ?_
      rintro Y_ ⟨bZ_, gP_⟩
      have HLV := loadVar_blk (ty := 28) Try.underlying28 rfl (by kernel_rfl) gP_ rfl
      refine bodyPost_ret (v := .tuple #[.agg #[.int .i64 0, .int .i64 0, .slice none 0 0, .slice none 0 0, .slice none 0 0, .slice none 0 0, .int .u32 0], .bool false]) (results_ct Try.results11 rfl HLV) rfl ⟨rfl, bZ_⟩)
end
end Go.Proofs.Ytncampbmnbhikaa
-- OrF
namespace Go.Proofs.Ytncampbmnbhikaa
set_option linter.unusedVariables false
set_option linter.unusedSimpArgs false
open Go.RowKit

theorem or_up (x : Int) (y i : Nat) (hx : 0 ≤ x) (h : x * 2 ^ i + y < 4294967296) (hy : y < 2 ^ i) : bits .or .u32 (x * 2 ^ i) (y : Int) = x * 2 ^ i + y := by
  obtain ⟨x, rfl⟩ := Int.eq_ofNat_of_zero_le hx
  have e : ((x : Int) * 2 ^ i) = ((x * 2 ^ i : Nat) : Int) := by push_cast; rfl
  rw [e] at h ⊢
  have h' : x * 2 ^ i + y < 4294967296 := by omega
  rw [u32_or_nat _ _ (by omega) (by omega)]
  have h2 := Nat.shiftLeft_add_eq_or_of_lt (a := x) (b := y) (i := i) hy
  rw [Nat.shiftLeft_eq] at h2
  rw [← h2]
  push_cast; rfl
theorem or4 (y : Nat → Int) (hy : ∀ i, 0 ≤ y i ∧ y i < 256) (s : Nat) : bits .or .u32 (bits .or .u32 (bits .or .u32 (IntKind.u32.wrap (IntKind.u32.wrap (y s) * 16777216)) (IntKind.u32.wrap (IntKind.u32.wrap (y (s + 1)) * 65536))) (IntKind.u32.wrap (IntKind.u32.wrap (y (s + 2)) * 256))) (IntKind.u32.wrap (y (s + 3))) = num y s 4 := by
  have h0 := hy s
  have h1 := hy (s + 1)
  have h2 := hy (s + 2)
  have h3 := hy (s + 3)
  have hn : num y s 4 = (((0 * 256 + y s) * 256 + y (s + 1)) * 256 + y (s + 2)) * 256 + y (s + 3) := rfl
  rw [hn]
  clear hn
  generalize y s = y0 at *
  generalize y (s + 1) = y1 at *
  generalize y (s + 2) = y2 at *
  generalize y (s + 3) = y3 at *
  obtain ⟨a, rfl⟩ := Int.eq_ofNat_of_zero_le h0.1
  obtain ⟨b, rfl⟩ := Int.eq_ofNat_of_zero_le h1.1
  obtain ⟨c, rfl⟩ := Int.eq_ofNat_of_zero_le h2.1
  obtain ⟨d, rfl⟩ := Int.eq_ofNat_of_zero_le h3.1
  have w : ∀ z : Int, 0 ≤ z → z < 4294967296 → IntKind.u32.wrap z = z := fun z q1 q2 => by rw [IntKind.wrap_u32]; omega
  rw [w (a : Int) (by omega) (by omega), w (b : Int) (by omega) (by omega), w (c : Int) (by omega) (by omega), w (d : Int) (by omega) (by omega)]
  rw [w ((a : Int) * 16777216) (by omega) (by omega), w ((b : Int) * 65536) (by omega) (by omega), w ((c : Int) * 256) (by omega) (by omega)]
  have e1 := or_up (a : Int) (b * 65536) 24 (by omega) (by omega) (by omega)
  have e2 := or_up ((a : Int) * 256 + b) (c * 256) 16 (by omega) (by omega) (by omega)
  have e3 := or_up (((a : Int) * 256 + b) * 256 + c) d 8 (by omega) (by omega) (by omega)
  have p1 : (a : Int) * 2 ^ 24 = (a : Int) * 16777216 := by omega
  have p2 : ((a : Int) * 256 + b) * 2 ^ 16 = (a : Int) * 16777216 + ((b * 65536 : Nat) : Int) := by omega
  have p3 : (((a : Int) * 256 + b) * 256 + c) * 2 ^ 8 = ((a : Int) * 256 + b) * 2 ^ 16 + ((c * 256 : Nat) : Int) := by omega
  have q1 : (b : Int) * 65536 = ((b * 65536 : Nat) : Int) := by omega
  have q2 : (c : Int) * 256 = ((c * 256 : Nat) : Int) := by omega
  rw [q1, q2, ← p1, e1, p1, ← p2, e2, ← p3, e3]
  omega
end Go.Proofs.Ytncampbmnbhikaa
