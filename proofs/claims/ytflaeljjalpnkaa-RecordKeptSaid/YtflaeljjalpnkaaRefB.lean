/-
  The document's numbers at places of texts, and texts of numbers, walked.
-/
import Derived.Test.YtflaeljjalpnkaaRefA
import Derived.Test.YtflaeljjalpnkaaRecE
namespace Go.Proofs.Ytflaeljjalpnkaa
set_option linter.unusedVariables false
set_option linter.unusedSimpArgs false
open Go.RowKit

theorem num_shf0 (d : Nat → Int) (a k : Nat) : num (shf d a) 0 k = num d a k := num_shf d a k

theorem four_any (d : Nat → Int) (hd : ∀ i, 0 ≤ d i ∧ d i < 256) (n a : Nat) (aI : Int) (haI : aI = a) (hn : n ≤ 1000000) (ha : a + 4 ≤ n) (w : World) : Calls Try.prog 62 #[.string (strF d n), .int .i64 aI] w fun r w' =>
      r = .returned (.int .u32 (num d a 4)) ∧ Below w.heap.size w w' := by
  subst haI
  have es : (strF d n).size = n := strF_size d n
  have ex : (strF d n).extract a (a + 4) = strF (shf d a) 4 := by rw [strF_ext (by omega) ha]; congr 1; omega
  have HN := Lib.hid (fun w => rnumber_any (shf d a) (shf_lo hd a) 4 (by omega) w)
  rw [num_shf0] at HN
  clear hd
  go_enter Try.func62, Try.ntmps62
  go_wp2_with fail
  refine (HN.out _).mono ?_
  rintro e w1 ⟨rfl, hb1⟩
  replace hb1 := Lib.hid hb1
  go_wp2_with fail
  go_ret
  exact ⟨rfl, hb1.out⟩
theorem two_any' (d : Nat → Int) (hd : ∀ i, 0 ≤ d i ∧ d i < 256) (n a : Nat) (aI : Int) (haI : aI = a) (hn : n ≤ 1000000) (ha : a + 2 ≤ n) (w : World) : Calls Try.prog 63 #[.string (strF d n), .int .i64 aI] w fun r w' =>
      r = .returned (.int .u16 (num d a 2)) ∧ Below w.heap.size w w' := by
  subst haI
  have es : (strF d n).size = n := strF_size d n
  have ex : (strF d n).extract a (a + 2) = strF (shf d a) 2 := by rw [strF_ext (by omega) ha]; congr 1; omega
  have HN := Lib.hid (fun w => rnumber_any (shf d a) (shf_lo hd a) 2 (by omega) w)
  have hl := num_two hd a
  rw [num_shf0] at HN
  clear hd
  generalize num d a 2 = q at *
  go_enter Try.func63, Try.ntmps63
  go_wp2_with fail
  refine (HN.out _).mono ?_
  rintro e w1 ⟨rfl, hb1⟩
  replace hb1 := Lib.hid hb1
  go_wp2_with fail
  go_ret
  exact ⟨by go_num, hb1.out⟩
theorem rwide_any (d : Nat → Int) (hd : ∀ i, 0 ≤ d i ∧ d i < 256) (n a : Nat) (aI : Int) (haI : aI = a) (hn : n ≤ 1000000) (ha : a + 16 ≤ n) (w : World) : Calls Try.prog 60 #[.string (strF d n), .int .i64 aI] w fun r w' =>
      r = .returned (.agg #[.int .u64 (num d a 8), .int .u64 (num d (a + 8) 8)]) ∧ Below w.heap.size w w' := by
  subst haI
  have es : (strF d n).size = n := strF_size d n
  have ex : (strF d n).extract a (a + 16) = strF (shf d a) 16 := by rw [strF_ext (by omega) ha]; congr 1; omega
  have HN := fun w => reads_any 16 (by simp [maxLen]) (shf d a) (shf_lo hd a) w
  unfold rdH rdL at HN
  simp only [if_pos, num_shf0, num_shf', decide_true] at HN
  replace HN := Lib.hid HN
  clear hd
  generalize num d a 8 = q at *
  generalize num d (a + 8) 8 = p at *
  have hb0 := Below.refl w.heap.size w
  go_enter Try.func60, Try.ntmps60
  replace hb0 := Lib.hid hb0
  go_wp2_with fail
  refine (HN.out _).mono ?_
  rintro e w_1 ⟨rfl, hb_1⟩
  have z_1 := hb_1.size
  try simp at z_1
  have t_ := hb0.out
  have hB_1 := bel_eld (w := w) (X := _) (by first | ((repeat (first | with_reducible exact Below.refl _ _ | with_reducible assumption | (with_reducible refine bel_set ?_ (by first | exact Nat.le_refl _ | (simp; done) | (simp; omega) | omega) _) | with_reducible refine bel_grow ?_ _ | with_reducible refine Below.drew ?_ | with_reducible refine below_drewN ?_ _ | with_reducible refine bel_alloc ?_ _ | with_reducible refine bel_trans ?_ (by assumption))); done) | (repeat (first | exact Below.refl _ _ | assumption | refine below_drewN ?_ _ | refine bel_grow ?_ _ | refine Below.drew ?_ | refine bel_alloc ?_ _ | refine bel_set ?_ (by first | exact Nat.le_refl _ | (simp; done) | (simp; omega) | omega) _ | refine bel_trans ?_ (by assumption)))) hb_1
  clear t_
  have g_r : Blk w_1 (w.heap.size) 24 #[.int .u64 0, .int .u64 0] := by
    refine Blk.kept ?_ hb_1
    (repeat (first | with_reducible assumption | (with_reducible refine Blk.new' ?_; first | with_reducible rfl | (simp; done)) | with_reducible refine Blk.alloc ?_ _ | with_reducible refine Blk.grow ?_ _ | with_reducible refine Blk.drew ?_ | with_reducible refine Blk.drewN ?_ _ | (with_reducible refine Blk.far ?_ (by first | (dsimp only; omega) | (simp; omega)) _) | (with_reducible apply Blk.two) | (with_reducible refine Blk.set' ?_ _ _ ?_) | (with_reducible rfl) | rfl))
  clear hb0 hb_1
  have f_r := g_r
  clear g_r
  have r_0 : w_1.cell? ⟨w.heap.size, 0, none⟩ = some (.int .u64 0) := (f_r).cell 0
  have r_1 : w_1.cell? ⟨w.heap.size, 1, none⟩ = some (.int .u64 0) := (f_r).cell 1
  have r_f0 := (f_r).frozen 0
  have r_f1 := (f_r).frozen 1
  have r_l := (f_r).lt
  replace f_r := Lib.hid f_r
  replace hB_1 := Lib.hid hB_1
  go_wp2_with fail
  refine bodyPost_ret (v := .agg #[.int .u64 q, .int .u64 p]) (by simp [results, Try.results60, go_sem, r_0, r_1, r_l]) rfl ⟨rfl, ?_⟩
  have t := hB_1.out
  (repeat (first | exact Below.refl _ _ | assumption | refine below_drewN ?_ _ | refine bel_grow ?_ _ | refine Below.drew ?_ | refine bel_alloc ?_ _ | refine bel_set ?_ (by first | exact Nat.le_refl _ | (simp; done) | (simp; omega) | omega) _ | refine bel_trans ?_ (by assumption)))

theorem Four_any (n : Int) (hn : 0 ≤ n ∧ n < 4294967296) (w : World) : Calls Try.prog 56 #[.int .u32 n] w fun r w' =>
      r = .returned (.string (strF (nb 4 n) 4)) ∧ Below w.heap.size w w' := by
  have hr : (w.alloc (.cells #[.int .u8 (n / 16777216), .int .u8 (n / 65536 % 256), .int .u8 (n / 256 % 256), .int .u8 (n % 256)] 5)).rowIs w.heap.size 5 4 (yV (nb 4 n)) := by
    refine rowIs_of rfl rfl (fun i hi => ?_)
    unfold yV nb
    rcases (by omega : i = 0 ∨ i = 1 ∨ i = 2 ∨ i = 3) with rfl | rfl | rfl | rfl
    · show some (Value.int .u8 _) = some (Value.int .u8 (n / 256 ^ 3 % 256)); congr 2; omega
    · show some (Value.int .u8 _) = some (Value.int .u8 (n / 256 ^ 2 % 256)); congr 2
    · show some (Value.int .u8 _) = some (Value.int .u8 (n / 256 ^ 1 % 256)); congr 2
    · show some (Value.int .u8 _) = some (Value.int .u8 (n / 256 ^ 0 % 256)); congr 2; omega
  have hcv := conv8 (SlIs.row hr (Nat.le_refl 4)) 4
  clear hr
  go_enter Try.func56, Try.ntmps56
  go_wp2
  go_ret
  exact ⟨rfl, (by repeat (first | exact Below.refl _ _ | assumption | refine below_drewN ?_ _ | refine bel_grow ?_ _ | refine Below.drew ?_ | refine bel_alloc ?_ _ | refine bel_set ?_ (by first | exact Nat.le_refl _ | (simp; done) | (simp; omega) | omega) _ | refine bel_trans ?_ (by assumption)))⟩
theorem Two_any (n : Int) (hn : 0 ≤ n ∧ n < 65536) (w : World) : Calls Try.prog 59 #[.int .i64 n] w fun r w' =>
      r = .returned (.string (strF (nb 2 n) 2)) ∧ Below w.heap.size w w' := by
  have hr : (w.alloc (.cells #[.int .u8 (n / 256 % 256), .int .u8 (n % 256)] 5)).rowIs w.heap.size 5 2 (yV (nb 2 n)) := by
    refine rowIs_of rfl rfl (fun i hi => ?_)
    unfold yV nb
    rcases (by omega : i = 0 ∨ i = 1) with rfl | rfl
    · show some (Value.int .u8 _) = some (Value.int .u8 (n / 256 ^ 1 % 256)); congr 2
    · show some (Value.int .u8 _) = some (Value.int .u8 (n / 256 ^ 0 % 256)); congr 2; omega
  have hcv := conv8 (SlIs.row hr (Nat.le_refl 2)) 2
  clear hr
  go_enter Try.func59, Try.ntmps59
  go_wp2
  go_ret
  exact ⟨rfl, (by repeat (first | exact Below.refl _ _ | assumption | refine below_drewN ?_ _ | refine bel_grow ?_ _ | refine Below.drew ?_ | refine bel_alloc ?_ _ | refine bel_set ?_ (by first | exact Nat.le_refl _ | (simp; done) | (simp; omega) | omega) _ | refine bel_trans ?_ (by assumption)))⟩

theorem Two_w (n : Int) (hn : 0 ≤ n ∧ n < 65536) (w : World) : Calls Try.prog 59 #[.int .i64 (wrap64 n)] w fun r w' =>
      r = .returned (.string (strF (nb 2 n) 2)) ∧ Below w.heap.size w w' := by
  have e : wrap64 n = n := by unfold wrap64; omega
  rw [e]
  exact Two_any n hn w
theorem add_strF {P : Program} (w : World) (d e : Nat → Int) (n m : Nat) (h : n + m ≤ 9223372036854775807) : (Op.stringOp .add (strF d n) (strF e m)).run P w = .ok (.string (strF (cat d n e) (n + m))) w := by
  have h2 := run_string_add_sum (P := P) (w := w) (strF d n) (strF e m) (by rw [strF_size, strF_size]; exact h)
  rw [strF_cat] at h2
  exact h2
attribute [go_sem ↓] add_strF
end Go.Proofs.Ytflaeljjalpnkaa
