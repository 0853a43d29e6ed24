/-
  Joined: RefB RefC.
-/
import Derived.Test.YtncampbmnbhikaaJ10
import Derived.Test.YtncampbmnbhikaaJ12
import Derived.Test.YtncampbmnbhikaaRecD
-- RefB
namespace Go.Proofs.Ytncampbmnbhikaa
set_option linter.unusedVariables false
set_option linter.unusedSimpArgs false
open Go.RowKit

theorem num_shf0 (d : Nat → Int) (a k : Nat) : num (shf d a) 0 k = num d a k := num_shf d a k

theorem four_any (d : Nat → Int) (hd : ∀ i, 0 ≤ d i ∧ d i < 256) (n a : Nat) (aI : Int) (haI : aI = a) (hn : n ≤ 1000000) (ha : a + 4 ≤ n) (w : World) : Calls Try.prog 61 #[.string (strF d n), .int .i64 aI] w fun r w' =>
      r = .returned (.int .u32 (num d a 4)) ∧ Below w.heap.size w w' := by
  subst haI
  have es : (strF d n).size = n := strF_size d n
  have ex : (strF d n).extract a (a + 4) = strF (shf d a) 4 := by rw [strF_ext (by omega) ha]; congr 1; omega
  have HN := Lib.hid (fun w => rnumber_any (shf d a) (shf_lo hd a) 4 (by omega) w)
  rw [num_shf0] at HN
  clear hd
  go_enter Try.func61, Try.ntmps61
  go_wp2_with fail
  refine (HN.out _).mono ?_
  rintro e w1 ⟨rfl, hb1⟩
  replace hb1 := Lib.hid hb1
  go_wp2_with fail
  go_ret
  exact ⟨rfl, hb1.out⟩
theorem two_any' (d : Nat → Int) (hd : ∀ i, 0 ≤ d i ∧ d i < 256) (n a : Nat) (aI : Int) (haI : aI = a) (hn : n ≤ 1000000) (ha : a + 2 ≤ n) (w : World) : Calls Try.prog 64 #[.string (strF d n), .int .i64 aI] w fun r w' =>
      r = .returned (.int .u16 (num d a 2)) ∧ Below w.heap.size w w' := by
  subst haI
  have es : (strF d n).size = n := strF_size d n
  have ex : (strF d n).extract a (a + 2) = strF (shf d a) 2 := by rw [strF_ext (by omega) ha]; congr 1; omega
  have HN := Lib.hid (fun w => rnumber_any (shf d a) (shf_lo hd a) 2 (by omega) w)
  have hl := num_two hd a
  rw [num_shf0] at HN
  clear hd
  generalize num d a 2 = q at *
  go_enter Try.func64, Try.ntmps64
  go_wp2_with fail
  refine (HN.out _).mono ?_
  rintro e w1 ⟨rfl, hb1⟩
  replace hb1 := Lib.hid hb1
  go_wp2_with fail
  go_ret
  exact ⟨by go_num, hb1.out⟩
theorem rwide_any (d : Nat → Int) (hd : ∀ i, 0 ≤ d i ∧ d i < 256) (n a : Nat) (aI : Int) (haI : aI = a) (hn : n ≤ 1000000) (ha : a + 16 ≤ n) (w : World) : Calls Try.prog 62 #[.string (strF d n), .int .i64 aI] w fun r w' =>
      r = .returned (.agg #[.int .u64 (num d a 8), .int .u64 (num d (a + 8) 8)]) ∧ Below w.heap.size w w' := by
  subst haI
  have es : (strF d n).size = n := strF_size d n
  have ex : (strF d n).extract a (a + 16) = strF (shf d a) 16 := by rw [strF_ext (by omega) ha]; congr 1; omega
  have HN := fun w => reads_any 16 (by simp [maxLen]) (shf d a) (shf_lo hd a) w
  unfold rdH rdL at HN
  simp only [if_pos, num_shf0, num_shf', decide_true] at HN
  replace HN := Lib.hid HN
  clear hd
  generalize num d a 8 = q at *
  generalize num d (a + 8) 8 = p at *
  have hb0 := Below.refl w.heap.size w
  go_enter Try.func62, Try.ntmps62
  replace hb0 := Lib.hid hb0
  go_wp2_with fail
  refine (HN.out _).mono ?_
  rintro e w_1 ⟨rfl, hb_1⟩
  have z_1 := hb_1.size
  try simp at z_1
  have t_ := hb0.out
  have hB_1 := bel_eld (w := w) (X := _) (by first | ((repeat (first | with_reducible exact Below.refl _ _ | with_reducible assumption | (with_reducible refine bel_set ?_ (by first | exact Nat.le_refl _ | (simp; done) | (simp; omega) | omega) _) | with_reducible refine bel_grow ?_ _ | with_reducible refine Below.drew ?_ | with_reducible refine below_drewN ?_ _ | with_reducible refine bel_alloc ?_ _ | with_reducible refine bel_trans ?_ (by assumption))); done) | (repeat (first | exact Below.refl _ _ | assumption | refine below_drewN ?_ _ | refine bel_grow ?_ _ | refine Below.drew ?_ | refine bel_alloc ?_ _ | refine bel_set ?_ (by first | exact Nat.le_refl _ | (simp; done) | (simp; omega) | omega) _ | refine bel_trans ?_ (by assumption)))) hb_1
  clear t_
  have g_r : Blk w_1 (w.heap.size) 42 #[.int .u64 0, .int .u64 0] := by
    refine Blk.kept ?_ hb_1
    (repeat (first | with_reducible assumption | (with_reducible refine Blk.new' ?_; first | with_reducible rfl | (simp; done)) | with_reducible refine Blk.alloc ?_ _ | with_reducible refine Blk.grow ?_ _ | with_reducible refine Blk.drew ?_ | with_reducible refine Blk.drewN ?_ _ | (with_reducible refine Blk.far ?_ (by first | (dsimp only; omega) | (simp; omega)) _) | (with_reducible apply Blk.two) | (with_reducible refine Blk.set' ?_ _ _ ?_) | (with_reducible rfl) | rfl))
  clear hb0 hb_1
  have f_r := g_r
  clear g_r
  have r_0 : w_1.cell? ⟨w.heap.size, 0, none⟩ = some (.int .u64 0) := (f_r).cell 0
  have r_1 : w_1.cell? ⟨w.heap.size, 1, none⟩ = some (.int .u64 0) := (f_r).cell 1
  have r_f0 := (f_r).frozen 0
  have r_f1 := (f_r).frozen 1
  have r_l := (f_r).lt
  replace f_r := Lib.hid f_r
  replace hB_1 := Lib.hid hB_1
  go_wp2_with fail
  refine bodyPost_ret (v := .agg #[.int .u64 q, .int .u64 p]) (by simp [results, Try.results62, go_sem, r_0, r_1, r_l]) rfl ⟨rfl, ?_⟩
  have t := hB_1.out
  (repeat (first | exact Below.refl _ _ | assumption | refine below_drewN ?_ _ | refine bel_grow ?_ _ | refine Below.drew ?_ | refine bel_alloc ?_ _ | refine bel_set ?_ (by first | exact Nat.le_refl _ | (simp; done) | (simp; omega) | omega) _ | refine bel_trans ?_ (by assumption)))

theorem Four_any (n : Int) (hn : 0 ≤ n ∧ n < 4294967296) (w : World) : Calls Try.prog 30 #[.int .u32 n] w fun r w' =>
      r = .returned (.string (strF (nb 4 n) 4)) ∧ Below w.heap.size w w' := by
  have hr : (w.alloc (.cells #[.int .u8 (n / 16777216), .int .u8 (n / 65536 % 256), .int .u8 (n / 256 % 256), .int .u8 (n % 256)] 5)).rowIs w.heap.size 5 4 (yV (nb 4 n)) := by
    refine rowIs_of rfl rfl (fun i hi => ?_)
    unfold yV nb
    rcases (by omega : i = 0 ∨ i = 1 ∨ i = 2 ∨ i = 3) with rfl | rfl | rfl | rfl
    · show some (Value.int .u8 _) = some (Value.int .u8 (n / 256 ^ 3 % 256)); congr 2; omega
    · show some (Value.int .u8 _) = some (Value.int .u8 (n / 256 ^ 2 % 256)); congr 2
    · show some (Value.int .u8 _) = some (Value.int .u8 (n / 256 ^ 1 % 256)); congr 2
    · show some (Value.int .u8 _) = some (Value.int .u8 (n / 256 ^ 0 % 256)); congr 2; omega
  have hcv := conv8 (SlIs.row hr (Nat.le_refl 4)) 4
  clear hr
  go_enter Try.func30, Try.ntmps30
  go_wp2
  go_ret
  exact ⟨rfl, (by repeat (first | exact Below.refl _ _ | assumption | refine below_drewN ?_ _ | refine bel_grow ?_ _ | refine Below.drew ?_ | refine bel_alloc ?_ _ | refine bel_set ?_ (by first | exact Nat.le_refl _ | (simp; done) | (simp; omega) | omega) _ | refine bel_trans ?_ (by assumption)))⟩
theorem Two_any (n : Int) (hn : 0 ≤ n ∧ n < 65536) (w : World) : Calls Try.prog 58 #[.int .i64 n] w fun r w' =>
      r = .returned (.string (strF (nb 2 n) 2)) ∧ Below w.heap.size w w' := by
  have hr : (w.alloc (.cells #[.int .u8 (n / 256 % 256), .int .u8 (n % 256)] 5)).rowIs w.heap.size 5 2 (yV (nb 2 n)) := by
    refine rowIs_of rfl rfl (fun i hi => ?_)
    unfold yV nb
    rcases (by omega : i = 0 ∨ i = 1) with rfl | rfl
    · show some (Value.int .u8 _) = some (Value.int .u8 (n / 256 ^ 1 % 256)); congr 2
    · show some (Value.int .u8 _) = some (Value.int .u8 (n / 256 ^ 0 % 256)); congr 2; omega
  have hcv := conv8 (SlIs.row hr (Nat.le_refl 2)) 2
  clear hr
  go_enter Try.func58, Try.ntmps58
  go_wp2
  go_ret
  exact ⟨rfl, (by repeat (first | exact Below.refl _ _ | assumption | refine below_drewN ?_ _ | refine bel_grow ?_ _ | refine Below.drew ?_ | refine bel_alloc ?_ _ | refine bel_set ?_ (by first | exact Nat.le_refl _ | (simp; done) | (simp; omega) | omega) _ | refine bel_trans ?_ (by assumption)))⟩

theorem Two_w (n : Int) (hn : 0 ≤ n ∧ n < 65536) (w : World) : Calls Try.prog 58 #[.int .i64 (wrap64 n)] w fun r w' =>
      r = .returned (.string (strF (nb 2 n) 2)) ∧ Below w.heap.size w w' := by
  have e : wrap64 n = n := by unfold wrap64; omega
  rw [e]
  exact Two_any n hn w
theorem add_strF {P : Program} (w : World) (d e : Nat → Int) (n m : Nat) (h : n + m ≤ 9223372036854775807) : (Op.stringOp .add (strF d n) (strF e m)).run P w = .ok (.string (strF (cat d n e) (n + m))) w := by
  have h2 := run_string_add_sum (P := P) (w := w) (strF d n) (strF e m) (by rw [strF_size, strF_size]; exact h)
  rw [strF_cat] at h2
  exact h2
attribute [go_sem ↓] add_strF
end Go.Proofs.Ytncampbmnbhikaa
-- RefC
namespace Go.Proofs.Ytncampbmnbhikaa
set_option linter.unusedVariables false
set_option linter.unusedSimpArgs false
open Go.RowKit

theorem refFilter_D (xa xb xc xd xe xf : Int) : putFilterD xa xb xc xd xe xf = (cat (cat (cat (cat (dgt xa xb) 16 (nb 8 xc)) 24 (nb 8 xd)) 32 (nb 4 xe)) 36 (nb 4 xf)) := by
  unfold putFilterD
  simp only [wcat]
  rw [show (0 + 0 * 16) = 0 from rfl, cat_zero]
  rfl
set_option maxRecDepth 16000 in
set_option maxHeartbeats 4000000 in
theorem refFilter_any (xa xb xc xd xe xf : Int) (ha : 0 ≤ xa ∧ xa < 18446744073709551616) (hb : 0 ≤ xb ∧ xb < 18446744073709551616) (hc : 0 ≤ xc ∧ xc < 18446744073709551616) (hd : 0 ≤ xd ∧ xd < 18446744073709551616) (he : 0 ≤ xe ∧ xe < 4294967296) (hf : 0 ≤ xf ∧ xf < 4294967296) (w : World) : Calls Try.prog 48 #[.agg #[.int .u64 xa, .int .u64 xb, .int .u64 xc, .int .u64 xd, .int .u32 xe, .int .u32 xf]] w fun r w' => r = .returned (.string (strF (putFilterD xa xb xc xd xe xf) 40)) ∧ Below w.heap.size w w' := by
  rw [refFilter_D]
  have H1 := Lib.hid (fun w => refbytes_any xa xb ha hb w)
  have H2 := Lib.hid (fun w => rstamp_any xc hc w)
  have H3 := Lib.hid (fun w => rstamp_any xd hd w)
  have H4 := Lib.hid (fun w => Four_any xe he w)
  have H5 := Lib.hid (fun w => Four_any xf hf w)
  clear ha hb hc hd he hf
  go_enter Try.func48, Try.ntmps48
  go_wp2_with fail
  first | (with_reducible refine rgrow2 (by kernel_rfl) (by kernel_rfl) ?_) | (refine rgrow (by kernel_rfl) (by kernel_rfl) ?_)
  repeat (go_big_quiet_step (((first | (go_at_call 47; first | (with_reducible exact grow_call (H1.out _))) | (go_at_call 57; first | (with_reducible exact grow_call (H2.out _)) | (with_reducible exact grow_call (H3.out _))) | (go_at_call 30; first | (with_reducible exact grow_call (H4.out _)) | (with_reducible exact grow_call (H5.out _)))))))
  refine wpQuiet_nil ?_
  intro dr
  go_wp2_with fail
  go_ret
  exact ⟨rfl, (by repeat (first | exact Below.refl _ _ | assumption | refine below_drewN ?_ _ | refine bel_grow ?_ _ | refine Below.drew ?_ | refine bel_alloc ?_ _ | refine bel_set ?_ (by first | exact Nat.le_refl _ | (simp; done) | (simp; omega) | omega) _ | refine bel_trans ?_ (by assumption)))⟩
theorem refResult_D (xa xb : Int) : putResultD xa xb = (cat (nb 4 xa) 4 (nb 4 xb)) := by
  unfold putResultD
  rw [cat_zero]
set_option maxRecDepth 16000 in
set_option maxHeartbeats 4000000 in
theorem refResult_any (xa xb : Int) (ha : 0 ≤ xa ∧ xa < 4294967296) (hb : 0 ≤ xb ∧ xb < 4294967296) (w : World) : Calls Try.prog 26 #[.agg #[.int .u32 xa, .int .u32 xb]] w fun r w' => r = .returned (.string (strF (putResultD xa xb) 8)) ∧ Below w.heap.size w w' := by
  rw [refResult_D]
  have H1 := Lib.hid (fun w => Four_any xa ha w)
  have H2 := Lib.hid (fun w => Four_any xb hb w)
  clear ha hb
  go_enter Try.func26, Try.ntmps26
  go_wp2_with fail
  first | (with_reducible refine rgrow2 (by kernel_rfl) (by kernel_rfl) ?_) | (refine rgrow (by kernel_rfl) (by kernel_rfl) ?_)
  repeat (go_big_quiet_step (((first | (go_at_call 30; first | (with_reducible exact grow_call (H1.out _)) | (with_reducible exact grow_call (H2.out _)))))))
  refine wpQuiet_nil ?_
  intro dr
  go_wp2_with fail
  go_ret
  exact ⟨rfl, (by repeat (first | exact Below.refl _ _ | assumption | refine below_drewN ?_ _ | refine bel_grow ?_ _ | refine Below.drew ?_ | refine bel_alloc ?_ _ | refine bel_set ?_ (by first | exact Nat.le_refl _ | (simp; done) | (simp; omega) | omega) _ | refine bel_trans ?_ (by assumption)))⟩
theorem refBalance_D (xp1 xp2 xq1 xq2 xr1 xr2 xs1 xs2 xst : Int) : putBalanceD xp1 xp2 xq1 xq2 xr1 xr2 xs1 xs2 xst = (cat (cat (cat (cat (dgt xp1 xp2) 16 (dgt xq1 xq2)) 32 (dgt xr1 xr2)) 48 (dgt xs1 xs2)) 64 (nb 8 xst)) := by
  unfold putBalanceD
  simp only [wcat]
  rw [show (0 + 0 * 16) = 0 from rfl, cat_zero]
  rfl
set_option maxRecDepth 16000 in
set_option maxHeartbeats 4000000 in
theorem refBalance_any (xp1 xp2 xq1 xq2 xr1 xr2 xs1 xs2 xst : Int) (hp1 : 0 ≤ xp1 ∧ xp1 < 18446744073709551616) (hp2 : 0 ≤ xp2 ∧ xp2 < 18446744073709551616) (hq1 : 0 ≤ xq1 ∧ xq1 < 18446744073709551616) (hq2 : 0 ≤ xq2 ∧ xq2 < 18446744073709551616) (hr1 : 0 ≤ xr1 ∧ xr1 < 18446744073709551616) (hr2 : 0 ≤ xr2 ∧ xr2 < 18446744073709551616) (hs1 : 0 ≤ xs1 ∧ xs1 < 18446744073709551616) (hs2 : 0 ≤ xs2 ∧ xs2 < 18446744073709551616) (hst : 0 ≤ xst ∧ xst < 18446744073709551616) (w : World) : Calls Try.prog 29 #[.agg #[.int .u64 xp1, .int .u64 xp2, .int .u64 xq1, .int .u64 xq2, .int .u64 xr1, .int .u64 xr2, .int .u64 xs1, .int .u64 xs2, .int .u64 xst]] w fun r w' => r = .returned (.string (strF (putBalanceD xp1 xp2 xq1 xq2 xr1 xr2 xs1 xs2 xst) 72)) ∧ Below w.heap.size w w' := by
  rw [refBalance_D]
  have H1 := Lib.hid (fun w => refbytes_any xp1 xp2 hp1 hp2 w)
  have H2 := Lib.hid (fun w => refbytes_any xq1 xq2 hq1 hq2 w)
  have H3 := Lib.hid (fun w => refbytes_any xr1 xr2 hr1 hr2 w)
  have H4 := Lib.hid (fun w => refbytes_any xs1 xs2 hs1 hs2 w)
  have H5 := Lib.hid (fun w => rstamp_any xst hst w)
  clear hp1 hp2 hq1 hq2 hr1 hr2 hs1 hs2 hst
  go_enter Try.func29, Try.ntmps29
  go_wp2_with fail
  first | (with_reducible refine rgrow2 (by kernel_rfl) (by kernel_rfl) ?_) | (refine rgrow (by kernel_rfl) (by kernel_rfl) ?_)
  repeat (go_big_quiet_step (((first | (go_at_call 47; first | (with_reducible exact grow_call (H1.out _)) | (with_reducible exact grow_call (H2.out _)) | (with_reducible exact grow_call (H3.out _)) | (with_reducible exact grow_call (H4.out _))) | (go_at_call 57; first | (with_reducible exact grow_call (H5.out _)))))))
  refine wpQuiet_nil ?_
  intro dr
  go_wp2_with fail
  go_ret
  exact ⟨rfl, (by repeat (first | exact Below.refl _ _ | assumption | refine below_drewN ?_ _ | refine bel_grow ?_ _ | refine Below.drew ?_ | refine bel_alloc ?_ _ | refine bel_set ?_ (by first | exact Nat.le_refl _ | (simp; done) | (simp; omega) | omega) _ | refine bel_trans ?_ (by assumption)))⟩
theorem refAccount_D (xi1 xi2 xp1 xp2 xq1 xq2 xr1 xr2 xs1 xs2 xtg xlg xcd xfl xst : Int) : putAccountD xi1 xi2 xp1 xp2 xq1 xq2 xr1 xr2 xs1 xs2 xtg xlg xcd xfl xst = (cat (cat (cat (cat (cat (cat (cat (cat (cat (dgt xi1 xi2) 16 (dgt xp1 xp2)) 32 (dgt xq1 xq2)) 48 (dgt xr1 xr2)) 64 (dgt xs1 xs2)) 80 (nb 8 xtg)) 88 (nb 4 xlg)) 92 (nb 2 xcd)) 94 (nb 2 xfl)) 96 (nb 8 xst)) := by
  unfold putAccountD
  simp only [wcat]
  rw [show (0 + 0 * 16) = 0 from rfl, cat_zero]
  rfl
set_option maxRecDepth 16000 in
set_option maxHeartbeats 4000000 in
theorem refAccount_any (xi1 xi2 xp1 xp2 xq1 xq2 xr1 xr2 xs1 xs2 xtg xlg xcd xfl xst : Int) (hi1 : 0 ≤ xi1 ∧ xi1 < 18446744073709551616) (hi2 : 0 ≤ xi2 ∧ xi2 < 18446744073709551616) (hp1 : 0 ≤ xp1 ∧ xp1 < 18446744073709551616) (hp2 : 0 ≤ xp2 ∧ xp2 < 18446744073709551616) (hq1 : 0 ≤ xq1 ∧ xq1 < 18446744073709551616) (hq2 : 0 ≤ xq2 ∧ xq2 < 18446744073709551616) (hr1 : 0 ≤ xr1 ∧ xr1 < 18446744073709551616) (hr2 : 0 ≤ xr2 ∧ xr2 < 18446744073709551616) (hs1 : 0 ≤ xs1 ∧ xs1 < 18446744073709551616) (hs2 : 0 ≤ xs2 ∧ xs2 < 18446744073709551616) (htg : 0 ≤ xtg ∧ xtg < 18446744073709551616) (hlg : 0 ≤ xlg ∧ xlg < 4294967296) (hcd : 0 ≤ xcd ∧ xcd < 65536) (hfl : 0 ≤ xfl ∧ xfl < 65536) (hst : 0 ≤ xst ∧ xst < 18446744073709551616) (w : World) : Calls Try.prog 27 #[.agg #[.int .u64 xi1, .int .u64 xi2, .int .u64 xp1, .int .u64 xp2, .int .u64 xq1, .int .u64 xq2, .int .u64 xr1, .int .u64 xr2, .int .u64 xs1, .int .u64 xs2, .int .u64 xtg, .int .u32 xlg, .int .u16 xcd, .int .u16 xfl, .int .u64 xst]] w fun r w' => r = .returned (.string (strF (putAccountD xi1 xi2 xp1 xp2 xq1 xq2 xr1 xr2 xs1 xs2 xtg xlg xcd xfl xst) 104)) ∧ Below w.heap.size w w' := by
  rw [refAccount_D]
  have H1 := Lib.hid (fun w => refbytes_any xi1 xi2 hi1 hi2 w)
  have H2 := Lib.hid (fun w => refbytes_any xp1 xp2 hp1 hp2 w)
  have H3 := Lib.hid (fun w => refbytes_any xq1 xq2 hq1 hq2 w)
  have H4 := Lib.hid (fun w => refbytes_any xr1 xr2 hr1 hr2 w)
  have H5 := Lib.hid (fun w => refbytes_any xs1 xs2 hs1 hs2 w)
  have H6 := Lib.hid (fun w => rstamp_any xtg htg w)
  have H7 := Lib.hid (fun w => Four_any xlg hlg w)
  have H8 := Lib.hid (fun w => Two_w xcd hcd w)
  have H9 := Lib.hid (fun w => Two_w xfl hfl w)
  have H10 := Lib.hid (fun w => rstamp_any xst hst w)
  clear hi1 hi2 hp1 hp2 hq1 hq2 hr1 hr2 hs1 hs2 htg hlg hcd hfl hst
  go_enter Try.func27, Try.ntmps27
  go_wp2_with fail
  first | (with_reducible refine rgrow2 (by kernel_rfl) (by kernel_rfl) ?_) | (refine rgrow (by kernel_rfl) (by kernel_rfl) ?_)
  repeat (go_big_quiet_step (((first | (go_at_call 47; first | (with_reducible exact grow_call (H1.out _)) | (with_reducible exact grow_call (H2.out _)) | (with_reducible exact grow_call (H3.out _)) | (with_reducible exact grow_call (H4.out _)) | (with_reducible exact grow_call (H5.out _))) | (go_at_call 57; first | (with_reducible exact grow_call (H6.out _)) | (with_reducible exact grow_call (H10.out _))) | (go_at_call 30; first | (with_reducible exact grow_call (H7.out _))) | (go_at_call 58; first | (with_reducible exact grow_call (H8.out _)) | (with_reducible exact grow_call (H9.out _)))))))
  refine wpQuiet_nil ?_
  intro dr
  go_wp2_with fail
  go_ret
  exact ⟨rfl, (by repeat (first | exact Below.refl _ _ | assumption | refine below_drewN ?_ _ | refine bel_grow ?_ _ | refine Below.drew ?_ | refine bel_alloc ?_ _ | refine bel_set ?_ (by first | exact Nat.le_refl _ | (simp; done) | (simp; omega) | omega) _ | refine bel_trans ?_ (by assumption)))⟩
theorem refTransfer_D (xi1 xi2 xd1 xd2 xc1 xc2 xm1 xm2 xw1 xw2 xtg xto xlg xcd xfl xst : Int) : putTransferD xi1 xi2 xd1 xd2 xc1 xc2 xm1 xm2 xw1 xw2 xtg xto xlg xcd xfl xst = (cat (cat (cat (cat (cat (cat (cat (cat (cat (cat (dgt xi1 xi2) 16 (dgt xd1 xd2)) 32 (dgt xc1 xc2)) 48 (dgt xm1 xm2)) 64 (dgt xw1 xw2)) 80 (nb 8 xtg)) 88 (nb 4 xto)) 92 (nb 4 xlg)) 96 (nb 2 xcd)) 98 (nb 2 xfl)) 100 (nb 8 xst)) := by
  unfold putTransferD
  simp only [wcat]
  rw [show (0 + 0 * 16) = 0 from rfl, cat_zero]
  rfl
set_option maxRecDepth 16000 in
set_option maxHeartbeats 4000000 in
theorem refTransfer_any (xi1 xi2 xd1 xd2 xc1 xc2 xm1 xm2 xw1 xw2 xtg xto xlg xcd xfl xst : Int) (hi1 : 0 ≤ xi1 ∧ xi1 < 18446744073709551616) (hi2 : 0 ≤ xi2 ∧ xi2 < 18446744073709551616) (hd1 : 0 ≤ xd1 ∧ xd1 < 18446744073709551616) (hd2 : 0 ≤ xd2 ∧ xd2 < 18446744073709551616) (hc1 : 0 ≤ xc1 ∧ xc1 < 18446744073709551616) (hc2 : 0 ≤ xc2 ∧ xc2 < 18446744073709551616) (hm1 : 0 ≤ xm1 ∧ xm1 < 18446744073709551616) (hm2 : 0 ≤ xm2 ∧ xm2 < 18446744073709551616) (hw1 : 0 ≤ xw1 ∧ xw1 < 18446744073709551616) (hw2 : 0 ≤ xw2 ∧ xw2 < 18446744073709551616) (htg : 0 ≤ xtg ∧ xtg < 18446744073709551616) (hto : 0 ≤ xto ∧ xto < 4294967296) (hlg : 0 ≤ xlg ∧ xlg < 4294967296) (hcd : 0 ≤ xcd ∧ xcd < 65536) (hfl : 0 ≤ xfl ∧ xfl < 65536) (hst : 0 ≤ xst ∧ xst < 18446744073709551616) (w : World) : Calls Try.prog 28 #[.agg #[.int .u64 xi1, .int .u64 xi2, .int .u64 xd1, .int .u64 xd2, .int .u64 xc1, .int .u64 xc2, .int .u64 xm1, .int .u64 xm2, .int .u64 xw1, .int .u64 xw2, .int .u64 xtg, .int .u32 xto, .int .u32 xlg, .int .u16 xcd, .int .u16 xfl, .int .u64 xst]] w fun r w' => r = .returned (.string (strF (putTransferD xi1 xi2 xd1 xd2 xc1 xc2 xm1 xm2 xw1 xw2 xtg xto xlg xcd xfl xst) 108)) ∧ Below w.heap.size w w' := by
  rw [refTransfer_D]
  have H1 := Lib.hid (fun w => refbytes_any xi1 xi2 hi1 hi2 w)
  have H2 := Lib.hid (fun w => refbytes_any xd1 xd2 hd1 hd2 w)
  have H3 := Lib.hid (fun w => refbytes_any xc1 xc2 hc1 hc2 w)
  have H4 := Lib.hid (fun w => refbytes_any xm1 xm2 hm1 hm2 w)
  have H5 := Lib.hid (fun w => refbytes_any xw1 xw2 hw1 hw2 w)
  have H6 := Lib.hid (fun w => rstamp_any xtg htg w)
  have H7 := Lib.hid (fun w => Four_any xto hto w)
  have H8 := Lib.hid (fun w => Four_any xlg hlg w)
  have H9 := Lib.hid (fun w => Two_w xcd hcd w)
  have H10 := Lib.hid (fun w => Two_w xfl hfl w)
  have H11 := Lib.hid (fun w => rstamp_any xst hst w)
  clear hi1 hi2 hd1 hd2 hc1 hc2 hm1 hm2 hw1 hw2 htg hto hlg hcd hfl hst
  go_enter Try.func28, Try.ntmps28
  go_wp2_with fail
  first | (with_reducible refine rgrow2 (by kernel_rfl) (by kernel_rfl) ?_) | (refine rgrow (by kernel_rfl) (by kernel_rfl) ?_)
  repeat (go_big_quiet_step (((first | (go_at_call 47; first | (with_reducible exact grow_call (H1.out _)) | (with_reducible exact grow_call (H2.out _)) | (with_reducible exact grow_call (H3.out _)) | (with_reducible exact grow_call (H4.out _)) | (with_reducible exact grow_call (H5.out _))) | (go_at_call 57; first | (with_reducible exact grow_call (H6.out _)) | (with_reducible exact grow_call (H11.out _))) | (go_at_call 30; first | (with_reducible exact grow_call (H7.out _)) | (with_reducible exact grow_call (H8.out _))) | (go_at_call 58; first | (with_reducible exact grow_call (H9.out _)) | (with_reducible exact grow_call (H10.out _)))))))
  refine wpQuiet_nil ?_
  intro dr
  go_wp2_with fail
  go_ret
  exact ⟨rfl, (by repeat (first | exact Below.refl _ _ | assumption | refine below_drewN ?_ _ | refine bel_grow ?_ _ | refine Below.drew ?_ | refine bel_alloc ?_ _ | refine bel_set ?_ (by first | exact Nat.le_refl _ | (simp; done) | (simp; omega) | omega) _ | refine bel_trans ?_ (by assumption)))⟩
end Go.Proofs.Ytncampbmnbhikaa
