/-
  Joined: Wrl Wrm Wrn.
-/
import Derived.Test.YtncampbmnbhikaaJ16
-- Wrl
namespace Go.Proofs.Ytncampbmnbhikaa
set_option linter.unusedVariables false
set_option linter.unusedSimpArgs false
open Go.RowKit
theorem load_WP (ρ : Operand → Value) (dst : Option Tmp) (x : Operand) (t : TypeId) (pos : String) (after : Array Edge) (guard : Option (Nat × Bool)) (w : World) :
    (execOp ρ { dst, op := Op.load 28 x, type := t, pos, after, guard }).run Try.prog w = (loadV Try.prog 28 7 w (ρ x)).andThen fun v w' => .ok (.value v) w' :=
  exec_load_row Try.underlying28 rfl (by kernel_rfl) ρ dst x t pos after guard w
theorem store_WP (ρ : Operand → Value) (dst : Option Tmp) (p x : Operand) (t : TypeId) (pos : String) (after : Array Edge) (guard : Option (Nat × Bool)) (w : World) :
    (execOp ρ { dst, op := Op.store 28 p x, type := t, pos, after, guard }).run Try.prog w = (storeV Try.prog 28 7 w (ρ p) (ρ x)).andThen fun _ w' => .ok .skip w' :=
  exec_store_row (by kernel_rfl) ρ dst p x t pos after guard w
theorem slis_from2' {w : World} {b o n c : Nat} {e : Nat → Int} (hmc : n ≤ c) (h : SlIs w (some ⟨b, o, none⟩) n (yV e)) : SlIs w (some ⟨b, o + 2, none⟩) (n - 2) (yV (shf e 2)) ∧ (n = 2 → SlIs w (some ⟨b, o, none⟩) (n - 2) (yV (shf e 2))) := by
  refine ⟨fun h0 => ?_, fun h2 h0 => absurd h0 (by omega)⟩
  obtain ⟨b', o', e', hl, hc⟩ := h (by omega)
  cases e'
  exact ⟨b, o + 2, rfl, hl, fun j hj => by rw [Nat.add_assoc]; exact hc (2 + j) (by omega)⟩
theorem bel_setRow {W w1 : World} (h : Below W.heap.size W w1) {k : Nat} (hk : W.heap.size ≤ k) (cs : Array Value) : Below W.heap.size W (w1.setRow k cs) := below_setRow h hk cs
end Go.Proofs.Ytncampbmnbhikaa
-- Wrm
namespace Go.Proofs.Ytncampbmnbhikaa
set_option linter.unusedVariables false
set_option linter.unusedSimpArgs false
open Go.RowKit

section
attribute [local go_sem] loadV_ptr storeV_ptr
attribute [local go_sem ↓] load_WP store_WP
set_option maxRecDepth 8000 in
set_option maxHeartbeats 4000000 in
theorem getReply_k1 (B : Option Addr) (n c q : Nat) (e : Nat → Int) (he : ∀ i, 0 ≤ e i ∧ e i < 256) (hmc : n ≤ c) (hC : c ≤ maxLen) (hn : n ≤ 100000) (hq : n = 2 + q * 8) (w : World) (hs : SlIs w B n (yV e)) (h0 : e 0 = 0) (h1 : e 1 = 1) :
    Calls Try.prog 11 #[.slice B n c] w fun r w' => ∃ A' c', r = .returned (.tuple #[.agg #[.int .i64 0, .int .i64 1, .slice A' q c', .slice none 0 0, .slice none 0 0, .slice none 0 0, .int .u32 0], .bool true]) ∧ (q ≤ c' ∧ c' ≤ maxLen) ∧ SsIs w' A' q 2 (fun i => clR (rdR (shf e (2 + i * 8)))) ∧ Below w.heap.size w w' := by
  obtain ⟨b, o, rfl, hbl, hc⟩ := hs (by omega)
  have hc0 : w.cell? ⟨b, o, none⟩ = some (.int .u8 0) := (hc 0 (by omega)).trans (by simp only [yV, h0])
  have hc1 : w.cell? ⟨b, o + 1, none⟩ = some (.int .u8 1) := (hc 1 (by omega)).trans (by simp only [yV, h1])
  have hs2 := Lib.hid (slis_from2' hmc hs)
  have HG := Lib.hid (fun A2 c2 (h : n - 2 ≤ c2 ∧ c2 ≤ 9223372036854775807) W (hs : SlIs W A2 (n - 2) (yV (shf e 2))) => readR_yes A2 (n - 2) c2 q (shf e 2) (shf_lo he 2) h.1 (by unfold maxLen; omega) (by omega) (by omega) W hs)
  unfold maxLen at hC
  have k1 : ((n : Int) == 1) = false := beq_eq_false_iff_ne.2 (by omega)
  have k2 : decide ((n : Int) < 2) = false := decide_eq_false (by omega)
  have k3 : 2 ≤ n := by omega
  replace hq := Lib.hid hq
  clear hs hc
  go_enter Try.func11, Try.ntmps11
  go_wp2_with fail
  all_goals (
    refine (HG.out _ _ (by omega) _ ((SlIs.below (by first | exact hs2.out.1 | exact hs2.out.2 (by omega)) (bel_alloc (bel_alloc (Below.refl _ _) _) _)))).mono ?_
    rintro e2 w2 ⟨v2, rfl, ho2, hb2⟩
    obtain ⟨A2, c2, rfl, hq1, hq2, _⟩ := ho2.ssis (fun _ => rfl)
    have g_r := (((Blk.new _ _ _).kept (bel_alloc (Below.refl _ _) _)).kept hb2 : Blk w2 w.heap.size 28 #[.int .i64 0, .int .i64 0, .slice none 0 0, .slice none 0 0, .slice none 0 0, .slice none 0 0, .int .u32 0])
    have g_t := ((Blk.newE (l := [.int .i64 0, .int .i64 1, .slice none 0 0, .slice none 0 0, .slice none 0 0, .slice none 0 0, .int .u32 0]) (n := w.heap.size + 1) (by simp) rfl).kept hb2 : Blk w2 (w.heap.size + 1) 28 #[.int .i64 0, .int .i64 1, .slice none 0 0, .slice none 0 0, .slice none 0 0, .slice none 0 0, .int .u32 0])
    have hb3 := Lib.hid ((bel_alloc (bel_alloc (Below.refl _ _) _) _ : Below w.heap.size w _).trans (hb2.mono (by simp; omega)))
    replace ho2 := Lib.hid ho2
    replace hq2 := Lib.hid hq2
    clear hb2
    have r_t := rowAt_blk g_t
    have r_r := rowAt_blk g_r
    have t0 := (g_t).cell 0
    have t1 := (g_t).cell 1
    have t2 := (g_t).cell 2
    have t3 := (g_t).cell 3
    have t4 := (g_t).cell 4
    have t5 := (g_t).cell 5
    have t6 := (g_t).cell 6
    have tf0 := (g_t).frozen 0
    have tf1 := (g_t).frozen 1
    have tf2 := (g_t).frozen 2
    have tf3 := (g_t).frozen 3
    have tf4 := (g_t).frozen 4
    have tf5 := (g_t).frozen 5
    have tf6 := (g_t).frozen 6
    have tl := (g_t).lt
    replace g_t := Lib.hid g_t
    replace g_r := Lib.hid g_r
    go_wp2_with fail
    refine abs_post (fun Y_ => Below w.heap.size w Y_ ∧ Blk Y_ w.heap.size 28 #[.int .i64 0, .int .i64 1, .slice A2 q c2, .slice none 0 0, .slice none 0 0, .slice none 0 0, .int .u32 0] ∧ AsFrom (w.heap.size + 1 + 1) w2 Y_) ⟨bel_setRow (bel_set hb3.out (by dsimp only; omega) _) (Nat.le_refl _) _, (g_r.out.far (by dsimp only; omega) _).setRow rfl, ((AsFrom.refl _ _).set (by dsimp only; omega) _).row (by omega) _⟩ ?_
    rintro Y_ ⟨bZ_, gP_, aF_⟩
    have HLV := loadVar_blk (ty := 28) Try.underlying28 rfl (by kernel_rfl) gP_ rfl
    obtain ⟨A3, c3, e3, _, _, hs3⟩ := (ho2.out.asFrom (by simpa using aF_)).ssis (fun _ => rfl)
    cases e3
    refine bodyPost_ret (v := .tuple #[.agg #[.int .i64 0, .int .i64 1, .slice A2 q c2, .slice none 0 0, .slice none 0 0, .slice none 0 0, .int .u32 0], .bool true]) (results_ct Try.results11 rfl HLV) rfl ⟨_, _, rfl, ⟨hq1, hq2.out⟩, ?_, bZ_⟩
    exact hs3.congr (fun i _ => by rw [shf_shf]))
set_option maxRecDepth 8000 in
set_option maxHeartbeats 4000000 in
theorem getReply_k2 (B : Option Addr) (n c q : Nat) (e : Nat → Int) (he : ∀ i, 0 ≤ e i ∧ e i < 256) (hmc : n ≤ c) (hC : c ≤ maxLen) (hn : n ≤ 100000) (hq : n = 2 + q * 8) (w : World) (hs : SlIs w B n (yV e)) (h0 : e 0 = 0) (h1 : e 1 = 2) :
    Calls Try.prog 11 #[.slice B n c] w fun r w' => ∃ A' c', r = .returned (.tuple #[.agg #[.int .i64 0, .int .i64 2, .slice A' q c', .slice none 0 0, .slice none 0 0, .slice none 0 0, .int .u32 0], .bool true]) ∧ (q ≤ c' ∧ c' ≤ maxLen) ∧ SsIs w' A' q 2 (fun i => clR (rdR (shf e (2 + i * 8)))) ∧ Below w.heap.size w w' := by
  obtain ⟨b, o, rfl, hbl, hc⟩ := hs (by omega)
  have hc0 : w.cell? ⟨b, o, none⟩ = some (.int .u8 0) := (hc 0 (by omega)).trans (by simp only [yV, h0])
  have hc1 : w.cell? ⟨b, o + 1, none⟩ = some (.int .u8 2) := (hc 1 (by omega)).trans (by simp only [yV, h1])
  have hs2 := Lib.hid (slis_from2' hmc hs)
  have HG := Lib.hid (fun A2 c2 (h : n - 2 ≤ c2 ∧ c2 ≤ 9223372036854775807) W (hs : SlIs W A2 (n - 2) (yV (shf e 2))) => readR_yes A2 (n - 2) c2 q (shf e 2) (shf_lo he 2) h.1 (by unfold maxLen; omega) (by omega) (by omega) W hs)
  unfold maxLen at hC
  have k1 : ((n : Int) == 1) = false := beq_eq_false_iff_ne.2 (by omega)
  have k2 : decide ((n : Int) < 2) = false := decide_eq_false (by omega)
  have k3 : 2 ≤ n := by omega
  replace hq := Lib.hid hq
  clear hs hc
  go_enter Try.func11, Try.ntmps11
  go_wp2_with fail
  all_goals (
    refine (HG.out _ _ (by omega) _ ((SlIs.below (by first | exact hs2.out.1 | exact hs2.out.2 (by omega)) (bel_alloc (bel_alloc (Below.refl _ _) _) _)))).mono ?_
    rintro e2 w2 ⟨v2, rfl, ho2, hb2⟩
    obtain ⟨A2, c2, rfl, hq1, hq2, _⟩ := ho2.ssis (fun _ => rfl)
    have g_r := (((Blk.new _ _ _).kept (bel_alloc (Below.refl _ _) _)).kept hb2 : Blk w2 w.heap.size 28 #[.int .i64 0, .int .i64 0, .slice none 0 0, .slice none 0 0, .slice none 0 0, .slice none 0 0, .int .u32 0])
    have g_t := ((Blk.newE (l := [.int .i64 0, .int .i64 2, .slice none 0 0, .slice none 0 0, .slice none 0 0, .slice none 0 0, .int .u32 0]) (n := w.heap.size + 1) (by simp) rfl).kept hb2 : Blk w2 (w.heap.size + 1) 28 #[.int .i64 0, .int .i64 2, .slice none 0 0, .slice none 0 0, .slice none 0 0, .slice none 0 0, .int .u32 0])
    have hb3 := Lib.hid ((bel_alloc (bel_alloc (Below.refl _ _) _) _ : Below w.heap.size w _).trans (hb2.mono (by simp; omega)))
    replace ho2 := Lib.hid ho2
    replace hq2 := Lib.hid hq2
    clear hb2
    have r_t := rowAt_blk g_t
    have r_r := rowAt_blk g_r
    have t0 := (g_t).cell 0
    have t1 := (g_t).cell 1
    have t2 := (g_t).cell 2
    have t3 := (g_t).cell 3
    have t4 := (g_t).cell 4
    have t5 := (g_t).cell 5
    have t6 := (g_t).cell 6
    have tf0 := (g_t).frozen 0
    have tf1 := (g_t).frozen 1
    have tf2 := (g_t).frozen 2
    have tf3 := (g_t).frozen 3
    have tf4 := (g_t).frozen 4
    have tf5 := (g_t).frozen 5
    have tf6 := (g_t).frozen 6
    have tl := (g_t).lt
    replace g_t := Lib.hid g_t
    replace g_r := Lib.hid g_r
    go_wp2_with fail
    refine abs_post (fun Y_ => Below w.heap.size w Y_ ∧ Blk Y_ w.heap.size 28 #[.int .i64 0, .int .i64 2, .slice A2 q c2, .slice none 0 0, .slice none 0 0, .slice none 0 0, .int .u32 0] ∧ AsFrom (w.heap.size + 1 + 1) w2 Y_) ⟨bel_setRow (bel_set hb3.out (by dsimp only; omega) _) (Nat.le_refl _) _, (g_r.out.far (by dsimp only; omega) _).setRow rfl, ((AsFrom.refl _ _).set (by dsimp only; omega) _).row (by omega) _⟩ ?_
    rintro Y_ ⟨bZ_, gP_, aF_⟩
    have HLV := loadVar_blk (ty := 28) Try.underlying28 rfl (by kernel_rfl) gP_ rfl
    obtain ⟨A3, c3, e3, _, _, hs3⟩ := (ho2.out.asFrom (by simpa using aF_)).ssis (fun _ => rfl)
    cases e3
    refine bodyPost_ret (v := .tuple #[.agg #[.int .i64 0, .int .i64 2, .slice A2 q c2, .slice none 0 0, .slice none 0 0, .slice none 0 0, .int .u32 0], .bool true]) (results_ct Try.results11 rfl HLV) rfl ⟨_, _, rfl, ⟨hq1, hq2.out⟩, ?_, bZ_⟩
    exact hs3.congr (fun i _ => by rw [shf_shf]))
set_option maxRecDepth 8000 in
set_option maxHeartbeats 4000000 in
theorem getReply_k3 (B : Option Addr) (n c q : Nat) (e : Nat → Int) (he : ∀ i, 0 ≤ e i ∧ e i < 256) (hmc : n ≤ c) (hC : c ≤ maxLen) (hn : n ≤ 100000) (hq : n = 2 + q * 104) (w : World) (hs : SlIs w B n (yV e)) (h0 : e 0 = 0) (h1 : e 1 = 3) :
    Calls Try.prog 11 #[.slice B n c] w fun r w' => ∃ A' c', r = .returned (.tuple #[.agg #[.int .i64 0, .int .i64 3, .slice none 0 0, .slice A' q c', .slice none 0 0, .slice none 0 0, .int .u32 0], .bool true]) ∧ (q ≤ c' ∧ c' ≤ maxLen) ∧ SsIs w' A' q 15 (fun i => clA (rdA (shf e (2 + i * 104)))) ∧ Below w.heap.size w w' := by
  obtain ⟨b, o, rfl, hbl, hc⟩ := hs (by omega)
  have hc0 : w.cell? ⟨b, o, none⟩ = some (.int .u8 0) := (hc 0 (by omega)).trans (by simp only [yV, h0])
  have hc1 : w.cell? ⟨b, o + 1, none⟩ = some (.int .u8 3) := (hc 1 (by omega)).trans (by simp only [yV, h1])
  have hs2 := Lib.hid (slis_from2' hmc hs)
  have HG := Lib.hid (fun A2 c2 (h : n - 2 ≤ c2 ∧ c2 ≤ 9223372036854775807) W (hs : SlIs W A2 (n - 2) (yV (shf e 2))) => readA_yes A2 (n - 2) c2 q (shf e 2) (shf_lo he 2) h.1 (by unfold maxLen; omega) (by omega) (by omega) W hs)
  unfold maxLen at hC
  have k1 : ((n : Int) == 1) = false := beq_eq_false_iff_ne.2 (by omega)
  have k2 : decide ((n : Int) < 2) = false := decide_eq_false (by omega)
  have k3 : 2 ≤ n := by omega
  replace hq := Lib.hid hq
  clear hs hc
  go_enter Try.func11, Try.ntmps11
  go_wp2_with fail
  all_goals (
    refine (HG.out _ _ (by omega) _ ((SlIs.below (by first | exact hs2.out.1 | exact hs2.out.2 (by omega)) (bel_alloc (bel_alloc (Below.refl _ _) _) _)))).mono ?_
    rintro e2 w2 ⟨v2, rfl, ho2, hb2⟩
    obtain ⟨A2, c2, rfl, hq1, hq2, _⟩ := ho2.ssis (fun _ => rfl)
    have g_r := (((Blk.new _ _ _).kept (bel_alloc (Below.refl _ _) _)).kept hb2 : Blk w2 w.heap.size 28 #[.int .i64 0, .int .i64 0, .slice none 0 0, .slice none 0 0, .slice none 0 0, .slice none 0 0, .int .u32 0])
    have g_t := ((Blk.newE (l := [.int .i64 0, .int .i64 3, .slice none 0 0, .slice none 0 0, .slice none 0 0, .slice none 0 0, .int .u32 0]) (n := w.heap.size + 1) (by simp) rfl).kept hb2 : Blk w2 (w.heap.size + 1) 28 #[.int .i64 0, .int .i64 3, .slice none 0 0, .slice none 0 0, .slice none 0 0, .slice none 0 0, .int .u32 0])
    have hb3 := Lib.hid ((bel_alloc (bel_alloc (Below.refl _ _) _) _ : Below w.heap.size w _).trans (hb2.mono (by simp; omega)))
    replace ho2 := Lib.hid ho2
    replace hq2 := Lib.hid hq2
    clear hb2
    have r_t := rowAt_blk g_t
    have r_r := rowAt_blk g_r
    have t0 := (g_t).cell 0
    have t1 := (g_t).cell 1
    have t2 := (g_t).cell 2
    have t3 := (g_t).cell 3
    have t4 := (g_t).cell 4
    have t5 := (g_t).cell 5
    have t6 := (g_t).cell 6
    have tf0 := (g_t).frozen 0
    have tf1 := (g_t).frozen 1
    have tf2 := (g_t).frozen 2
    have tf3 := (g_t).frozen 3
    have tf4 := (g_t).frozen 4
    have tf5 := (g_t).frozen 5
    have tf6 := (g_t).frozen 6
    have tl := (g_t).lt
    replace g_t := Lib.hid g_t
    replace g_r := Lib.hid g_r
    go_wp2_with fail
    refine abs_post (fun Y_ => Below w.heap.size w Y_ ∧ Blk Y_ w.heap.size 28 #[.int .i64 0, .int .i64 3, .slice none 0 0, .slice A2 q c2, .slice none 0 0, .slice none 0 0, .int .u32 0] ∧ AsFrom (w.heap.size + 1 + 1) w2 Y_) ⟨bel_setRow (bel_set hb3.out (by dsimp only; omega) _) (Nat.le_refl _) _, (g_r.out.far (by dsimp only; omega) _).setRow rfl, ((AsFrom.refl _ _).set (by dsimp only; omega) _).row (by omega) _⟩ ?_
    rintro Y_ ⟨bZ_, gP_, aF_⟩
    have HLV := loadVar_blk (ty := 28) Try.underlying28 rfl (by kernel_rfl) gP_ rfl
    obtain ⟨A3, c3, e3, _, _, hs3⟩ := (ho2.out.asFrom (by simpa using aF_)).ssis (fun _ => rfl)
    cases e3
    refine bodyPost_ret (v := .tuple #[.agg #[.int .i64 0, .int .i64 3, .slice none 0 0, .slice A2 q c2, .slice none 0 0, .slice none 0 0, .int .u32 0], .bool true]) (results_ct Try.results11 rfl HLV) rfl ⟨_, _, rfl, ⟨hq1, hq2.out⟩, ?_, bZ_⟩
    exact hs3.congr (fun i _ => by rw [shf_shf]))
end
end Go.Proofs.Ytncampbmnbhikaa
-- Wrn
namespace Go.Proofs.Ytncampbmnbhikaa
set_option linter.unusedVariables false
set_option linter.unusedSimpArgs false
open Go.RowKit

section
attribute [local go_sem] loadV_ptr storeV_ptr
attribute [local go_sem ↓] load_WP store_WP
set_option maxRecDepth 8000 in
set_option maxHeartbeats 4000000 in
theorem getReply_k4 (B : Option Addr) (n c q : Nat) (e : Nat → Int) (he : ∀ i, 0 ≤ e i ∧ e i < 256) (hmc : n ≤ c) (hC : c ≤ maxLen) (hn : n ≤ 100000) (hq : n = 2 + q * 108) (w : World) (hs : SlIs w B n (yV e)) (h0 : e 0 = 0) (h1 : e 1 = 4) :
    Calls Try.prog 11 #[.slice B n c] w fun r w' => ∃ A' c', r = .returned (.tuple #[.agg #[.int .i64 0, .int .i64 4, .slice none 0 0, .slice none 0 0, .slice A' q c', .slice none 0 0, .int .u32 0], .bool true]) ∧ (q ≤ c' ∧ c' ≤ maxLen) ∧ SsIs w' A' q 16 (fun i => clT (rdT (shf e (2 + i * 108)))) ∧ Below w.heap.size w w' := by
  obtain ⟨b, o, rfl, hbl, hc⟩ := hs (by omega)
  have hc0 : w.cell? ⟨b, o, none⟩ = some (.int .u8 0) := (hc 0 (by omega)).trans (by simp only [yV, h0])
  have hc1 : w.cell? ⟨b, o + 1, none⟩ = some (.int .u8 4) := (hc 1 (by omega)).trans (by simp only [yV, h1])
  have hs2 := Lib.hid (slis_from2' hmc hs)
  have HG := Lib.hid (fun A2 c2 (h : n - 2 ≤ c2 ∧ c2 ≤ 9223372036854775807) W (hs : SlIs W A2 (n - 2) (yV (shf e 2))) => readT_yes A2 (n - 2) c2 q (shf e 2) (shf_lo he 2) h.1 (by unfold maxLen; omega) (by omega) (by omega) W hs)
  unfold maxLen at hC
  have k1 : ((n : Int) == 1) = false := beq_eq_false_iff_ne.2 (by omega)
  have k2 : decide ((n : Int) < 2) = false := decide_eq_false (by omega)
  have k3 : 2 ≤ n := by omega
  replace hq := Lib.hid hq
  clear hs hc
  go_enter Try.func11, Try.ntmps11
  go_wp2_with fail
  all_goals (
    refine (HG.out _ _ (by omega) _ ((SlIs.below (by first | exact hs2.out.1 | exact hs2.out.2 (by omega)) (bel_alloc (bel_alloc (Below.refl _ _) _) _)))).mono ?_
    rintro e2 w2 ⟨v2, rfl, ho2, hb2⟩
    obtain ⟨A2, c2, rfl, hq1, hq2, _⟩ := ho2.ssis (fun _ => rfl)
    have g_r := (((Blk.new _ _ _).kept (bel_alloc (Below.refl _ _) _)).kept hb2 : Blk w2 w.heap.size 28 #[.int .i64 0, .int .i64 0, .slice none 0 0, .slice none 0 0, .slice none 0 0, .slice none 0 0, .int .u32 0])
    have g_t := ((Blk.newE (l := [.int .i64 0, .int .i64 4, .slice none 0 0, .slice none 0 0, .slice none 0 0, .slice none 0 0, .int .u32 0]) (n := w.heap.size + 1) (by simp) rfl).kept hb2 : Blk w2 (w.heap.size + 1) 28 #[.int .i64 0, .int .i64 4, .slice none 0 0, .slice none 0 0, .slice none 0 0, .slice none 0 0, .int .u32 0])
    have hb3 := Lib.hid ((bel_alloc (bel_alloc (Below.refl _ _) _) _ : Below w.heap.size w _).trans (hb2.mono (by simp; omega)))
    replace ho2 := Lib.hid ho2
    replace hq2 := Lib.hid hq2
    clear hb2
    have r_t := rowAt_blk g_t
    have r_r := rowAt_blk g_r
    have t0 := (g_t).cell 0
    have t1 := (g_t).cell 1
    have t2 := (g_t).cell 2
    have t3 := (g_t).cell 3
    have t4 := (g_t).cell 4
    have t5 := (g_t).cell 5
    have t6 := (g_t).cell 6
    have tf0 := (g_t).frozen 0
    have tf1 := (g_t).frozen 1
    have tf2 := (g_t).frozen 2
    have tf3 := (g_t).frozen 3
    have tf4 := (g_t).frozen 4
    have tf5 := (g_t).frozen 5
    have tf6 := (g_t).frozen 6
    have tl := (g_t).lt
    replace g_t := Lib.hid g_t
    replace g_r := Lib.hid g_r
    go_wp2_with fail
    refine abs_post (fun Y_ => Below w.heap.size w Y_ ∧ Blk Y_ w.heap.size 28 #[.int .i64 0, .int .i64 4, .slice none 0 0, .slice none 0 0, .slice A2 q c2, .slice none 0 0, .int .u32 0] ∧ AsFrom (w.heap.size + 1 + 1) w2 Y_) ⟨bel_setRow (bel_set hb3.out (by dsimp only; omega) _) (Nat.le_refl _) _, (g_r.out.far (by dsimp only; omega) _).setRow rfl, ((AsFrom.refl _ _).set (by dsimp only; omega) _).row (by omega) _⟩ ?_
    rintro Y_ ⟨bZ_, gP_, aF_⟩
    have HLV := loadVar_blk (ty := 28) Try.underlying28 rfl (by kernel_rfl) gP_ rfl
    obtain ⟨A3, c3, e3, _, _, hs3⟩ := (ho2.out.asFrom (by simpa using aF_)).ssis (fun _ => rfl)
    cases e3
    refine bodyPost_ret (v := .tuple #[.agg #[.int .i64 0, .int .i64 4, .slice none 0 0, .slice none 0 0, .slice A2 q c2, .slice none 0 0, .int .u32 0], .bool true]) (results_ct Try.results11 rfl HLV) rfl ⟨_, _, rfl, ⟨hq1, hq2.out⟩, ?_, bZ_⟩
    exact hs3.congr (fun i _ => by rw [shf_shf]))
set_option maxRecDepth 8000 in
set_option maxHeartbeats 4000000 in
theorem getReply_k5 (B : Option Addr) (n c q : Nat) (e : Nat → Int) (he : ∀ i, 0 ≤ e i ∧ e i < 256) (hmc : n ≤ c) (hC : c ≤ maxLen) (hn : n ≤ 100000) (hq : n = 2 + q * 108) (w : World) (hs : SlIs w B n (yV e)) (h0 : e 0 = 0) (h1 : e 1 = 5) :
    Calls Try.prog 11 #[.slice B n c] w fun r w' => ∃ A' c', r = .returned (.tuple #[.agg #[.int .i64 0, .int .i64 5, .slice none 0 0, .slice none 0 0, .slice A' q c', .slice none 0 0, .int .u32 0], .bool true]) ∧ (q ≤ c' ∧ c' ≤ maxLen) ∧ SsIs w' A' q 16 (fun i => clT (rdT (shf e (2 + i * 108)))) ∧ Below w.heap.size w w' := by
  obtain ⟨b, o, rfl, hbl, hc⟩ := hs (by omega)
  have hc0 : w.cell? ⟨b, o, none⟩ = some (.int .u8 0) := (hc 0 (by omega)).trans (by simp only [yV, h0])
  have hc1 : w.cell? ⟨b, o + 1, none⟩ = some (.int .u8 5) := (hc 1 (by omega)).trans (by simp only [yV, h1])
  have hs2 := Lib.hid (slis_from2' hmc hs)
  have HG := Lib.hid (fun A2 c2 (h : n - 2 ≤ c2 ∧ c2 ≤ 9223372036854775807) W (hs : SlIs W A2 (n - 2) (yV (shf e 2))) => readT_yes A2 (n - 2) c2 q (shf e 2) (shf_lo he 2) h.1 (by unfold maxLen; omega) (by omega) (by omega) W hs)
  unfold maxLen at hC
  have k1 : ((n : Int) == 1) = false := beq_eq_false_iff_ne.2 (by omega)
  have k2 : decide ((n : Int) < 2) = false := decide_eq_false (by omega)
  have k3 : 2 ≤ n := by omega
  replace hq := Lib.hid hq
  clear hs hc
  go_enter Try.func11, Try.ntmps11
  go_wp2_with fail
  all_goals (
    refine (HG.out _ _ (by omega) _ ((SlIs.below (by first | exact hs2.out.1 | exact hs2.out.2 (by omega)) (bel_alloc (bel_alloc (Below.refl _ _) _) _)))).mono ?_
    rintro e2 w2 ⟨v2, rfl, ho2, hb2⟩
    obtain ⟨A2, c2, rfl, hq1, hq2, _⟩ := ho2.ssis (fun _ => rfl)
    have g_r := (((Blk.new _ _ _).kept (bel_alloc (Below.refl _ _) _)).kept hb2 : Blk w2 w.heap.size 28 #[.int .i64 0, .int .i64 0, .slice none 0 0, .slice none 0 0, .slice none 0 0, .slice none 0 0, .int .u32 0])
    have g_t := ((Blk.newE (l := [.int .i64 0, .int .i64 5, .slice none 0 0, .slice none 0 0, .slice none 0 0, .slice none 0 0, .int .u32 0]) (n := w.heap.size + 1) (by simp) rfl).kept hb2 : Blk w2 (w.heap.size + 1) 28 #[.int .i64 0, .int .i64 5, .slice none 0 0, .slice none 0 0, .slice none 0 0, .slice none 0 0, .int .u32 0])
    have hb3 := Lib.hid ((bel_alloc (bel_alloc (Below.refl _ _) _) _ : Below w.heap.size w _).trans (hb2.mono (by simp; omega)))
    replace ho2 := Lib.hid ho2
    replace hq2 := Lib.hid hq2
    clear hb2
    have r_t := rowAt_blk g_t
    have r_r := rowAt_blk g_r
    have t0 := (g_t).cell 0
    have t1 := (g_t).cell 1
    have t2 := (g_t).cell 2
    have t3 := (g_t).cell 3
    have t4 := (g_t).cell 4
    have t5 := (g_t).cell 5
    have t6 := (g_t).cell 6
    have tf0 := (g_t).frozen 0
    have tf1 := (g_t).frozen 1
    have tf2 := (g_t).frozen 2
    have tf3 := (g_t).frozen 3
    have tf4 := (g_t).frozen 4
    have tf5 := (g_t).frozen 5
    have tf6 := (g_t).frozen 6
    have tl := (g_t).lt
    replace g_t := Lib.hid g_t
    replace g_r := Lib.hid g_r
    go_wp2_with fail
    refine abs_post (fun Y_ => Below w.heap.size w Y_ ∧ Blk Y_ w.heap.size 28 #[.int .i64 0, .int .i64 5, .slice none 0 0, .slice none 0 0, .slice A2 q c2, .slice none 0 0, .int .u32 0] ∧ AsFrom (w.heap.size + 1 + 1) w2 Y_) ⟨bel_setRow (bel_set hb3.out (by dsimp only; omega) _) (Nat.le_refl _) _, (g_r.out.far (by dsimp only; omega) _).setRow rfl, ((AsFrom.refl _ _).set (by dsimp only; omega) _).row (by omega) _⟩ ?_
    rintro Y_ ⟨bZ_, gP_, aF_⟩
    have HLV := loadVar_blk (ty := 28) Try.underlying28 rfl (by kernel_rfl) gP_ rfl
    obtain ⟨A3, c3, e3, _, _, hs3⟩ := (ho2.out.asFrom (by simpa using aF_)).ssis (fun _ => rfl)
    cases e3
    refine bodyPost_ret (v := .tuple #[.agg #[.int .i64 0, .int .i64 5, .slice none 0 0, .slice none 0 0, .slice A2 q c2, .slice none 0 0, .int .u32 0], .bool true]) (results_ct Try.results11 rfl HLV) rfl ⟨_, _, rfl, ⟨hq1, hq2.out⟩, ?_, bZ_⟩
    exact hs3.congr (fun i _ => by rw [shf_shf]))
set_option maxRecDepth 8000 in
set_option maxHeartbeats 4000000 in
theorem getReply_k6 (B : Option Addr) (n c q : Nat) (e : Nat → Int) (he : ∀ i, 0 ≤ e i ∧ e i < 256) (hmc : n ≤ c) (hC : c ≤ maxLen) (hn : n ≤ 100000) (hq : n = 2 + q * 72) (w : World) (hs : SlIs w B n (yV e)) (h0 : e 0 = 0) (h1 : e 1 = 6) :
    Calls Try.prog 11 #[.slice B n c] w fun r w' => ∃ A' c', r = .returned (.tuple #[.agg #[.int .i64 0, .int .i64 6, .slice none 0 0, .slice none 0 0, .slice none 0 0, .slice A' q c', .int .u32 0], .bool true]) ∧ (q ≤ c' ∧ c' ≤ maxLen) ∧ SsIs w' A' q 9 (fun i => clB (rdB (shf e (2 + i * 72)))) ∧ Below w.heap.size w w' := by
  obtain ⟨b, o, rfl, hbl, hc⟩ := hs (by omega)
  have hc0 : w.cell? ⟨b, o, none⟩ = some (.int .u8 0) := (hc 0 (by omega)).trans (by simp only [yV, h0])
  have hc1 : w.cell? ⟨b, o + 1, none⟩ = some (.int .u8 6) := (hc 1 (by omega)).trans (by simp only [yV, h1])
  have hs2 := Lib.hid (slis_from2' hmc hs)
  have HG := Lib.hid (fun A2 c2 (h : n - 2 ≤ c2 ∧ c2 ≤ 9223372036854775807) W (hs : SlIs W A2 (n - 2) (yV (shf e 2))) => readB_yes A2 (n - 2) c2 q (shf e 2) (shf_lo he 2) h.1 (by unfold maxLen; omega) (by omega) (by omega) W hs)
  unfold maxLen at hC
  have k1 : ((n : Int) == 1) = false := beq_eq_false_iff_ne.2 (by omega)
  have k2 : decide ((n : Int) < 2) = false := decide_eq_false (by omega)
  have k3 : 2 ≤ n := by omega
  replace hq := Lib.hid hq
  clear hs hc
  go_enter Try.func11, Try.ntmps11
  go_wp2_with fail
  all_goals (
    refine (HG.out _ _ (by omega) _ ((SlIs.below (by first | exact hs2.out.1 | exact hs2.out.2 (by omega)) (bel_alloc (bel_alloc (Below.refl _ _) _) _)))).mono ?_
    rintro e2 w2 ⟨v2, rfl, ho2, hb2⟩
    obtain ⟨A2, c2, rfl, hq1, hq2, _⟩ := ho2.ssis (fun _ => rfl)
    have g_r := (((Blk.new _ _ _).kept (bel_alloc (Below.refl _ _) _)).kept hb2 : Blk w2 w.heap.size 28 #[.int .i64 0, .int .i64 0, .slice none 0 0, .slice none 0 0, .slice none 0 0, .slice none 0 0, .int .u32 0])
    have g_t := ((Blk.newE (l := [.int .i64 0, .int .i64 6, .slice none 0 0, .slice none 0 0, .slice none 0 0, .slice none 0 0, .int .u32 0]) (n := w.heap.size + 1) (by simp) rfl).kept hb2 : Blk w2 (w.heap.size + 1) 28 #[.int .i64 0, .int .i64 6, .slice none 0 0, .slice none 0 0, .slice none 0 0, .slice none 0 0, .int .u32 0])
    have hb3 := Lib.hid ((bel_alloc (bel_alloc (Below.refl _ _) _) _ : Below w.heap.size w _).trans (hb2.mono (by simp; omega)))
    replace ho2 := Lib.hid ho2
    replace hq2 := Lib.hid hq2
    clear hb2
    have r_t := rowAt_blk g_t
    have r_r := rowAt_blk g_r
    have t0 := (g_t).cell 0
    have t1 := (g_t).cell 1
    have t2 := (g_t).cell 2
    have t3 := (g_t).cell 3
    have t4 := (g_t).cell 4
    have t5 := (g_t).cell 5
    have t6 := (g_t).cell 6
    have tf0 := (g_t).frozen 0
    have tf1 := (g_t).frozen 1
    have tf2 := (g_t).frozen 2
    have tf3 := (g_t).frozen 3
    have tf4 := (g_t).frozen 4
    have tf5 := (g_t).frozen 5
    have tf6 := (g_t).frozen 6
    have tl := (g_t).lt
    replace g_t := Lib.hid g_t
    replace g_r := Lib.hid g_r
    go_wp2_with fail
    refine abs_post (fun Y_ => Below w.heap.size w Y_ ∧ Blk Y_ w.heap.size 28 #[.int .i64 0, .int .i64 6, .slice none 0 0, .slice none 0 0, .slice none 0 0, .slice A2 q c2, .int .u32 0] ∧ AsFrom (w.heap.size + 1 + 1) w2 Y_) ⟨bel_setRow (bel_set hb3.out (by dsimp only; omega) _) (Nat.le_refl _) _, (g_r.out.far (by dsimp only; omega) _).setRow rfl, ((AsFrom.refl _ _).set (by dsimp only; omega) _).row (by omega) _⟩ ?_
    rintro Y_ ⟨bZ_, gP_, aF_⟩
    have HLV := loadVar_blk (ty := 28) Try.underlying28 rfl (by kernel_rfl) gP_ rfl
    obtain ⟨A3, c3, e3, _, _, hs3⟩ := (ho2.out.asFrom (by simpa using aF_)).ssis (fun _ => rfl)
    cases e3
    refine bodyPost_ret (v := .tuple #[.agg #[.int .i64 0, .int .i64 6, .slice none 0 0, .slice none 0 0, .slice none 0 0, .slice A2 q c2, .int .u32 0], .bool true]) (results_ct Try.results11 rfl HLV) rfl ⟨_, _, rfl, ⟨hq1, hq2.out⟩, ?_, bZ_⟩
    exact hs3.congr (fun i _ => by rw [shf_shf]))
end
end Go.Proofs.Ytncampbmnbhikaa
