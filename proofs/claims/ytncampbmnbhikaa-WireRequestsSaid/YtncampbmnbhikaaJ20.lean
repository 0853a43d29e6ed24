/-
  Joined: RecR Wrv Wrw.
-/
import Derived.Test.YtncampbmnbhikaaJ13
import Derived.Test.YtncampbmnbhikaaRecG
import Derived.Test.YtncampbmnbhikaaJ19
-- RecR
namespace Go.Proofs.Ytncampbmnbhikaa
set_option linter.unusedVariables false
set_option linter.unusedSimpArgs false
open Go.RowKit

theorem num_cat_lo {d e : Nat → Int} {n s k : Nat} (h : s + k ≤ n) : num (cat d n e) s k = num d s k := num_congr (fun j hj => cat_lo (by omega))
theorem num_cat_hi {d e : Nat → Int} {n s : Nat} (h : n ≤ s) : ∀ k, num (cat d n e) s k = num e (s - n) k
  | 0 => rfl
  | k + 1 => by
    show num (cat d n e) s k * 256 + cat d n e (s + k) = num e (s - n) k * 256 + e (s - n + k)
    rw [num_cat_hi h k]
    congr 1
    unfold cat
    rw [if_neg (by omega)]
    congr 1
    omega
theorem num_nb8 {N : Int} (h : 0 ≤ N ∧ N < 18446744073709551616) : num (nb 8 N) 0 8 = N := by
  simp [num, nb]
  omega
theorem num_nb4 {N : Int} (h : 0 ≤ N ∧ N < 4294967296) : num (nb 4 N) 0 4 = N := by
  simp [num, nb]
  omega
theorem num_nb2 {N : Int} (h : 0 ≤ N ∧ N < 65536) : num (nb 2 N) 0 2 = N := by
  simp [num, nb]
  omega
theorem dgt_ok (h l : Int) (i : Nat) : 0 ≤ dgt h l i ∧ dgt h l i < 256 := by
  unfold dgt
  split <;> omega
theorem putFilter_ok (xa xb xc xd xe xf : Int) (i : Nat) : 0 ≤ putFilterD xa xb xc xd xe xf i ∧ putFilterD xa xb xc xd xe xf i < 256 := by
  rw [refFilter_D]
  repeat (first | exact nb_lo _ _ _ | exact dgt_ok _ _ _ | refine cat_ok (fun i => ?_) (fun i => ?_) i)
theorem putFilter_back0 (xa xb xc xd xe xf : Int) (ha : 0 ≤ xa ∧ xa < 18446744073709551616) (hb : 0 ≤ xb ∧ xb < 18446744073709551616) (hc : 0 ≤ xc ∧ xc < 18446744073709551616) (hd : 0 ≤ xd ∧ xd < 18446744073709551616) (he : 0 ≤ xe ∧ xe < 4294967296) (hf : 0 ≤ xf ∧ xf < 4294967296) : num (putFilterD xa xb xc xd xe xf) 0 8 = xa := by
  rw [refFilter_D]
  repeat (first | rw [num_cat_lo (by omega)] | rw [num_cat_hi (by omega)])
  exact (num_dgt ha hb).1
theorem putFilter_back1 (xa xb xc xd xe xf : Int) (ha : 0 ≤ xa ∧ xa < 18446744073709551616) (hb : 0 ≤ xb ∧ xb < 18446744073709551616) (hc : 0 ≤ xc ∧ xc < 18446744073709551616) (hd : 0 ≤ xd ∧ xd < 18446744073709551616) (he : 0 ≤ xe ∧ xe < 4294967296) (hf : 0 ≤ xf ∧ xf < 4294967296) : num (putFilterD xa xb xc xd xe xf) 8 8 = xb := by
  rw [refFilter_D]
  repeat (first | rw [num_cat_lo (by omega)] | rw [num_cat_hi (by omega)])
  exact (num_dgt ha hb).2
theorem putFilter_back2 (xa xb xc xd xe xf : Int) (ha : 0 ≤ xa ∧ xa < 18446744073709551616) (hb : 0 ≤ xb ∧ xb < 18446744073709551616) (hc : 0 ≤ xc ∧ xc < 18446744073709551616) (hd : 0 ≤ xd ∧ xd < 18446744073709551616) (he : 0 ≤ xe ∧ xe < 4294967296) (hf : 0 ≤ xf ∧ xf < 4294967296) : num (putFilterD xa xb xc xd xe xf) 16 8 = xc := by
  rw [refFilter_D]
  repeat (first | rw [num_cat_lo (by omega)] | rw [num_cat_hi (by omega)])
  exact num_nb8 hc
theorem putFilter_back3 (xa xb xc xd xe xf : Int) (ha : 0 ≤ xa ∧ xa < 18446744073709551616) (hb : 0 ≤ xb ∧ xb < 18446744073709551616) (hc : 0 ≤ xc ∧ xc < 18446744073709551616) (hd : 0 ≤ xd ∧ xd < 18446744073709551616) (he : 0 ≤ xe ∧ xe < 4294967296) (hf : 0 ≤ xf ∧ xf < 4294967296) : num (putFilterD xa xb xc xd xe xf) 24 8 = xd := by
  rw [refFilter_D]
  repeat (first | rw [num_cat_lo (by omega)] | rw [num_cat_hi (by omega)])
  exact num_nb8 hd
theorem putFilter_back4 (xa xb xc xd xe xf : Int) (ha : 0 ≤ xa ∧ xa < 18446744073709551616) (hb : 0 ≤ xb ∧ xb < 18446744073709551616) (hc : 0 ≤ xc ∧ xc < 18446744073709551616) (hd : 0 ≤ xd ∧ xd < 18446744073709551616) (he : 0 ≤ xe ∧ xe < 4294967296) (hf : 0 ≤ xf ∧ xf < 4294967296) : num (putFilterD xa xb xc xd xe xf) 32 4 = xe := by
  rw [refFilter_D]
  repeat (first | rw [num_cat_lo (by omega)] | rw [num_cat_hi (by omega)])
  exact num_nb4 he
theorem putFilter_back5 (xa xb xc xd xe xf : Int) (ha : 0 ≤ xa ∧ xa < 18446744073709551616) (hb : 0 ≤ xb ∧ xb < 18446744073709551616) (hc : 0 ≤ xc ∧ xc < 18446744073709551616) (hd : 0 ≤ xd ∧ xd < 18446744073709551616) (he : 0 ≤ xe ∧ xe < 4294967296) (hf : 0 ≤ xf ∧ xf < 4294967296) : num (putFilterD xa xb xc xd xe xf) 36 4 = xf := by
  rw [refFilter_D]
  repeat (first | rw [num_cat_lo (by omega)] | rw [num_cat_hi (by omega)])
  exact num_nb4 hf
theorem getFilter_at (xa xb xc xd xe xf : Int) (ha : 0 ≤ xa ∧ xa < 18446744073709551616) (hb : 0 ≤ xb ∧ xb < 18446744073709551616) (hc : 0 ≤ xc ∧ xc < 18446744073709551616) (hd : 0 ≤ xd ∧ xd < 18446744073709551616) (he : 0 ≤ xe ∧ xe < 4294967296) (hf : 0 ≤ xf ∧ xf < 4294967296) (A : Option Addr) (c : Nat) (hmc : 40 ≤ c) (hC : c ≤ maxLen) (w : World) (hs : SlIs w A 40 (yV (putFilterD xa xb xc xd xe xf))) : Calls Try.prog 68 #[.slice A 40 c] w fun r w' => r = .returned (.tuple #[.agg #[.int .u64 xa, .int .u64 xb, .int .u64 xc, .int .u64 xd, .int .u32 xe, .int .u32 xf], .bool true]) ∧ Below w.heap.size w w' := by
  have h := getFilter_yes A c (putFilterD xa xb xc xd xe xf) (putFilter_ok xa xb xc xd xe xf) hmc hC w hs
  rw [putFilter_back0 xa xb xc xd xe xf ha hb hc hd he hf, putFilter_back1 xa xb xc xd xe xf ha hb hc hd he hf, putFilter_back2 xa xb xc xd xe xf ha hb hc hd he hf, putFilter_back3 xa xb xc xd xe xf ha hb hc hd he hf, putFilter_back4 xa xb xc xd xe xf ha hb hc hd he hf, putFilter_back5 xa xb xc xd xe xf ha hb hc hd he hf] at h
  exact h
theorem putResult_ok (xa xb : Int) (i : Nat) : 0 ≤ putResultD xa xb i ∧ putResultD xa xb i < 256 := by
  rw [refResult_D]
  repeat (first | exact nb_lo _ _ _ | exact dgt_ok _ _ _ | refine cat_ok (fun i => ?_) (fun i => ?_) i)
theorem putResult_back0 (xa xb : Int) (ha : 0 ≤ xa ∧ xa < 4294967296) (hb : 0 ≤ xb ∧ xb < 4294967296) : num (putResultD xa xb) 0 4 = xa := by
  rw [refResult_D]
  repeat (first | rw [num_cat_lo (by omega)] | rw [num_cat_hi (by omega)])
  exact num_nb4 ha
theorem putResult_back1 (xa xb : Int) (ha : 0 ≤ xa ∧ xa < 4294967296) (hb : 0 ≤ xb ∧ xb < 4294967296) : num (putResultD xa xb) 4 4 = xb := by
  rw [refResult_D]
  repeat (first | rw [num_cat_lo (by omega)] | rw [num_cat_hi (by omega)])
  exact num_nb4 hb
theorem getResult_at (xa xb : Int) (ha : 0 ≤ xa ∧ xa < 4294967296) (hb : 0 ≤ xb ∧ xb < 4294967296) (A : Option Addr) (c : Nat) (hmc : 8 ≤ c) (hC : c ≤ maxLen) (w : World) (hs : SlIs w A 8 (yV (putResultD xa xb))) : Calls Try.prog 32 #[.slice A 8 c] w fun r w' => r = .returned (.tuple #[.agg #[.int .u32 xa, .int .u32 xb], .bool true]) ∧ Below w.heap.size w w' := by
  have h := getResult_yes A c (putResultD xa xb) (putResult_ok xa xb) hmc hC w hs
  rw [putResult_back0 xa xb ha hb, putResult_back1 xa xb ha hb] at h
  exact h
theorem putBalance_ok (xp1 xp2 xq1 xq2 xr1 xr2 xs1 xs2 xst : Int) (i : Nat) : 0 ≤ putBalanceD xp1 xp2 xq1 xq2 xr1 xr2 xs1 xs2 xst i ∧ putBalanceD xp1 xp2 xq1 xq2 xr1 xr2 xs1 xs2 xst i < 256 := by
  rw [refBalance_D]
  repeat (first | exact nb_lo _ _ _ | exact dgt_ok _ _ _ | refine cat_ok (fun i => ?_) (fun i => ?_) i)
theorem putBalance_back0 (xp1 xp2 xq1 xq2 xr1 xr2 xs1 xs2 xst : Int) (hp1 : 0 ≤ xp1 ∧ xp1 < 18446744073709551616) (hp2 : 0 ≤ xp2 ∧ xp2 < 18446744073709551616) (hq1 : 0 ≤ xq1 ∧ xq1 < 18446744073709551616) (hq2 : 0 ≤ xq2 ∧ xq2 < 18446744073709551616) (hr1 : 0 ≤ xr1 ∧ xr1 < 18446744073709551616) (hr2 : 0 ≤ xr2 ∧ xr2 < 18446744073709551616) (hs1 : 0 ≤ xs1 ∧ xs1 < 18446744073709551616) (hs2 : 0 ≤ xs2 ∧ xs2 < 18446744073709551616) (hst : 0 ≤ xst ∧ xst < 18446744073709551616) : num (putBalanceD xp1 xp2 xq1 xq2 xr1 xr2 xs1 xs2 xst) 0 8 = xp1 := by
  rw [refBalance_D]
  repeat (first | rw [num_cat_lo (by omega)] | rw [num_cat_hi (by omega)])
  exact (num_dgt hp1 hp2).1
theorem putBalance_back1 (xp1 xp2 xq1 xq2 xr1 xr2 xs1 xs2 xst : Int) (hp1 : 0 ≤ xp1 ∧ xp1 < 18446744073709551616) (hp2 : 0 ≤ xp2 ∧ xp2 < 18446744073709551616) (hq1 : 0 ≤ xq1 ∧ xq1 < 18446744073709551616) (hq2 : 0 ≤ xq2 ∧ xq2 < 18446744073709551616) (hr1 : 0 ≤ xr1 ∧ xr1 < 18446744073709551616) (hr2 : 0 ≤ xr2 ∧ xr2 < 18446744073709551616) (hs1 : 0 ≤ xs1 ∧ xs1 < 18446744073709551616) (hs2 : 0 ≤ xs2 ∧ xs2 < 18446744073709551616) (hst : 0 ≤ xst ∧ xst < 18446744073709551616) : num (putBalanceD xp1 xp2 xq1 xq2 xr1 xr2 xs1 xs2 xst) 8 8 = xp2 := by
  rw [refBalance_D]
  repeat (first | rw [num_cat_lo (by omega)] | rw [num_cat_hi (by omega)])
  exact (num_dgt hp1 hp2).2
theorem putBalance_back2 (xp1 xp2 xq1 xq2 xr1 xr2 xs1 xs2 xst : Int) (hp1 : 0 ≤ xp1 ∧ xp1 < 18446744073709551616) (hp2 : 0 ≤ xp2 ∧ xp2 < 18446744073709551616) (hq1 : 0 ≤ xq1 ∧ xq1 < 18446744073709551616) (hq2 : 0 ≤ xq2 ∧ xq2 < 18446744073709551616) (hr1 : 0 ≤ xr1 ∧ xr1 < 18446744073709551616) (hr2 : 0 ≤ xr2 ∧ xr2 < 18446744073709551616) (hs1 : 0 ≤ xs1 ∧ xs1 < 18446744073709551616) (hs2 : 0 ≤ xs2 ∧ xs2 < 18446744073709551616) (hst : 0 ≤ xst ∧ xst < 18446744073709551616) : num (putBalanceD xp1 xp2 xq1 xq2 xr1 xr2 xs1 xs2 xst) 16 8 = xq1 := by
  rw [refBalance_D]
  repeat (first | rw [num_cat_lo (by omega)] | rw [num_cat_hi (by omega)])
  exact (num_dgt hq1 hq2).1
theorem putBalance_back3 (xp1 xp2 xq1 xq2 xr1 xr2 xs1 xs2 xst : Int) (hp1 : 0 ≤ xp1 ∧ xp1 < 18446744073709551616) (hp2 : 0 ≤ xp2 ∧ xp2 < 18446744073709551616) (hq1 : 0 ≤ xq1 ∧ xq1 < 18446744073709551616) (hq2 : 0 ≤ xq2 ∧ xq2 < 18446744073709551616) (hr1 : 0 ≤ xr1 ∧ xr1 < 18446744073709551616) (hr2 : 0 ≤ xr2 ∧ xr2 < 18446744073709551616) (hs1 : 0 ≤ xs1 ∧ xs1 < 18446744073709551616) (hs2 : 0 ≤ xs2 ∧ xs2 < 18446744073709551616) (hst : 0 ≤ xst ∧ xst < 18446744073709551616) : num (putBalanceD xp1 xp2 xq1 xq2 xr1 xr2 xs1 xs2 xst) 24 8 = xq2 := by
  rw [refBalance_D]
  repeat (first | rw [num_cat_lo (by omega)] | rw [num_cat_hi (by omega)])
  exact (num_dgt hq1 hq2).2
theorem putBalance_back4 (xp1 xp2 xq1 xq2 xr1 xr2 xs1 xs2 xst : Int) (hp1 : 0 ≤ xp1 ∧ xp1 < 18446744073709551616) (hp2 : 0 ≤ xp2 ∧ xp2 < 18446744073709551616) (hq1 : 0 ≤ xq1 ∧ xq1 < 18446744073709551616) (hq2 : 0 ≤ xq2 ∧ xq2 < 18446744073709551616) (hr1 : 0 ≤ xr1 ∧ xr1 < 18446744073709551616) (hr2 : 0 ≤ xr2 ∧ xr2 < 18446744073709551616) (hs1 : 0 ≤ xs1 ∧ xs1 < 18446744073709551616) (hs2 : 0 ≤ xs2 ∧ xs2 < 18446744073709551616) (hst : 0 ≤ xst ∧ xst < 18446744073709551616) : num (putBalanceD xp1 xp2 xq1 xq2 xr1 xr2 xs1 xs2 xst) 32 8 = xr1 := by
  rw [refBalance_D]
  repeat (first | rw [num_cat_lo (by omega)] | rw [num_cat_hi (by omega)])
  exact (num_dgt hr1 hr2).1
theorem putBalance_back5 (xp1 xp2 xq1 xq2 xr1 xr2 xs1 xs2 xst : Int) (hp1 : 0 ≤ xp1 ∧ xp1 < 18446744073709551616) (hp2 : 0 ≤ xp2 ∧ xp2 < 18446744073709551616) (hq1 : 0 ≤ xq1 ∧ xq1 < 18446744073709551616) (hq2 : 0 ≤ xq2 ∧ xq2 < 18446744073709551616) (hr1 : 0 ≤ xr1 ∧ xr1 < 18446744073709551616) (hr2 : 0 ≤ xr2 ∧ xr2 < 18446744073709551616) (hs1 : 0 ≤ xs1 ∧ xs1 < 18446744073709551616) (hs2 : 0 ≤ xs2 ∧ xs2 < 18446744073709551616) (hst : 0 ≤ xst ∧ xst < 18446744073709551616) : num (putBalanceD xp1 xp2 xq1 xq2 xr1 xr2 xs1 xs2 xst) 40 8 = xr2 := by
  rw [refBalance_D]
  repeat (first | rw [num_cat_lo (by omega)] | rw [num_cat_hi (by omega)])
  exact (num_dgt hr1 hr2).2
theorem putBalance_back6 (xp1 xp2 xq1 xq2 xr1 xr2 xs1 xs2 xst : Int) (hp1 : 0 ≤ xp1 ∧ xp1 < 18446744073709551616) (hp2 : 0 ≤ xp2 ∧ xp2 < 18446744073709551616) (hq1 : 0 ≤ xq1 ∧ xq1 < 18446744073709551616) (hq2 : 0 ≤ xq2 ∧ xq2 < 18446744073709551616) (hr1 : 0 ≤ xr1 ∧ xr1 < 18446744073709551616) (hr2 : 0 ≤ xr2 ∧ xr2 < 18446744073709551616) (hs1 : 0 ≤ xs1 ∧ xs1 < 18446744073709551616) (hs2 : 0 ≤ xs2 ∧ xs2 < 18446744073709551616) (hst : 0 ≤ xst ∧ xst < 18446744073709551616) : num (putBalanceD xp1 xp2 xq1 xq2 xr1 xr2 xs1 xs2 xst) 48 8 = xs1 := by
  rw [refBalance_D]
  repeat (first | rw [num_cat_lo (by omega)] | rw [num_cat_hi (by omega)])
  exact (num_dgt hs1 hs2).1
theorem putBalance_back7 (xp1 xp2 xq1 xq2 xr1 xr2 xs1 xs2 xst : Int) (hp1 : 0 ≤ xp1 ∧ xp1 < 18446744073709551616) (hp2 : 0 ≤ xp2 ∧ xp2 < 18446744073709551616) (hq1 : 0 ≤ xq1 ∧ xq1 < 18446744073709551616) (hq2 : 0 ≤ xq2 ∧ xq2 < 18446744073709551616) (hr1 : 0 ≤ xr1 ∧ xr1 < 18446744073709551616) (hr2 : 0 ≤ xr2 ∧ xr2 < 18446744073709551616) (hs1 : 0 ≤ xs1 ∧ xs1 < 18446744073709551616) (hs2 : 0 ≤ xs2 ∧ xs2 < 18446744073709551616) (hst : 0 ≤ xst ∧ xst < 18446744073709551616) : num (putBalanceD xp1 xp2 xq1 xq2 xr1 xr2 xs1 xs2 xst) 56 8 = xs2 := by
  rw [refBalance_D]
  repeat (first | rw [num_cat_lo (by omega)] | rw [num_cat_hi (by omega)])
  exact (num_dgt hs1 hs2).2
theorem putBalance_back8 (xp1 xp2 xq1 xq2 xr1 xr2 xs1 xs2 xst : Int) (hp1 : 0 ≤ xp1 ∧ xp1 < 18446744073709551616) (hp2 : 0 ≤ xp2 ∧ xp2 < 18446744073709551616) (hq1 : 0 ≤ xq1 ∧ xq1 < 18446744073709551616) (hq2 : 0 ≤ xq2 ∧ xq2 < 18446744073709551616) (hr1 : 0 ≤ xr1 ∧ xr1 < 18446744073709551616) (hr2 : 0 ≤ xr2 ∧ xr2 < 18446744073709551616) (hs1 : 0 ≤ xs1 ∧ xs1 < 18446744073709551616) (hs2 : 0 ≤ xs2 ∧ xs2 < 18446744073709551616) (hst : 0 ≤ xst ∧ xst < 18446744073709551616) : num (putBalanceD xp1 xp2 xq1 xq2 xr1 xr2 xs1 xs2 xst) 64 8 = xst := by
  rw [refBalance_D]
  repeat (first | rw [num_cat_lo (by omega)] | rw [num_cat_hi (by omega)])
  exact num_nb8 hst
theorem getBalance_at (xp1 xp2 xq1 xq2 xr1 xr2 xs1 xs2 xst : Int) (hp1 : 0 ≤ xp1 ∧ xp1 < 18446744073709551616) (hp2 : 0 ≤ xp2 ∧ xp2 < 18446744073709551616) (hq1 : 0 ≤ xq1 ∧ xq1 < 18446744073709551616) (hq2 : 0 ≤ xq2 ∧ xq2 < 18446744073709551616) (hr1 : 0 ≤ xr1 ∧ xr1 < 18446744073709551616) (hr2 : 0 ≤ xr2 ∧ xr2 < 18446744073709551616) (hs1 : 0 ≤ xs1 ∧ xs1 < 18446744073709551616) (hs2 : 0 ≤ xs2 ∧ xs2 < 18446744073709551616) (hst : 0 ≤ xst ∧ xst < 18446744073709551616) (A : Option Addr) (c : Nat) (hmc : 72 ≤ c) (hC : c ≤ maxLen) (w : World) (hs : SlIs w A 72 (yV (putBalanceD xp1 xp2 xq1 xq2 xr1 xr2 xs1 xs2 xst))) : Calls Try.prog 38 #[.slice A 72 c] w fun r w' => r = .returned (.tuple #[.agg #[.int .u64 xp1, .int .u64 xp2, .int .u64 xq1, .int .u64 xq2, .int .u64 xr1, .int .u64 xr2, .int .u64 xs1, .int .u64 xs2, .int .u64 xst], .bool true]) ∧ Below w.heap.size w w' := by
  have h := getBalance_yes A c (putBalanceD xp1 xp2 xq1 xq2 xr1 xr2 xs1 xs2 xst) (putBalance_ok xp1 xp2 xq1 xq2 xr1 xr2 xs1 xs2 xst) hmc hC w hs
  rw [putBalance_back0 xp1 xp2 xq1 xq2 xr1 xr2 xs1 xs2 xst hp1 hp2 hq1 hq2 hr1 hr2 hs1 hs2 hst, putBalance_back1 xp1 xp2 xq1 xq2 xr1 xr2 xs1 xs2 xst hp1 hp2 hq1 hq2 hr1 hr2 hs1 hs2 hst, putBalance_back2 xp1 xp2 xq1 xq2 xr1 xr2 xs1 xs2 xst hp1 hp2 hq1 hq2 hr1 hr2 hs1 hs2 hst, putBalance_back3 xp1 xp2 xq1 xq2 xr1 xr2 xs1 xs2 xst hp1 hp2 hq1 hq2 hr1 hr2 hs1 hs2 hst, putBalance_back4 xp1 xp2 xq1 xq2 xr1 xr2 xs1 xs2 xst hp1 hp2 hq1 hq2 hr1 hr2 hs1 hs2 hst, putBalance_back5 xp1 xp2 xq1 xq2 xr1 xr2 xs1 xs2 xst hp1 hp2 hq1 hq2 hr1 hr2 hs1 hs2 hst, putBalance_back6 xp1 xp2 xq1 xq2 xr1 xr2 xs1 xs2 xst hp1 hp2 hq1 hq2 hr1 hr2 hs1 hs2 hst, putBalance_back7 xp1 xp2 xq1 xq2 xr1 xr2 xs1 xs2 xst hp1 hp2 hq1 hq2 hr1 hr2 hs1 hs2 hst, putBalance_back8 xp1 xp2 xq1 xq2 xr1 xr2 xs1 xs2 xst hp1 hp2 hq1 hq2 hr1 hr2 hs1 hs2 hst] at h
  exact h
theorem putAccount_ok (xi1 xi2 xp1 xp2 xq1 xq2 xr1 xr2 xs1 xs2 xtg xlg xcd xfl xst : Int) (i : Nat) : 0 ≤ putAccountD xi1 xi2 xp1 xp2 xq1 xq2 xr1 xr2 xs1 xs2 xtg xlg xcd xfl xst i ∧ putAccountD xi1 xi2 xp1 xp2 xq1 xq2 xr1 xr2 xs1 xs2 xtg xlg xcd xfl xst i < 256 := by
  rw [refAccount_D]
  repeat (first | exact nb_lo _ _ _ | exact dgt_ok _ _ _ | refine cat_ok (fun i => ?_) (fun i => ?_) i)
theorem putAccount_back0 (xi1 xi2 xp1 xp2 xq1 xq2 xr1 xr2 xs1 xs2 xtg xlg xcd xfl xst : Int) (hi1 : 0 ≤ xi1 ∧ xi1 < 18446744073709551616) (hi2 : 0 ≤ xi2 ∧ xi2 < 18446744073709551616) (hp1 : 0 ≤ xp1 ∧ xp1 < 18446744073709551616) (hp2 : 0 ≤ xp2 ∧ xp2 < 18446744073709551616) (hq1 : 0 ≤ xq1 ∧ xq1 < 18446744073709551616) (hq2 : 0 ≤ xq2 ∧ xq2 < 18446744073709551616) (hr1 : 0 ≤ xr1 ∧ xr1 < 18446744073709551616) (hr2 : 0 ≤ xr2 ∧ xr2 < 18446744073709551616) (hs1 : 0 ≤ xs1 ∧ xs1 < 18446744073709551616) (hs2 : 0 ≤ xs2 ∧ xs2 < 18446744073709551616) (htg : 0 ≤ xtg ∧ xtg < 18446744073709551616) (hlg : 0 ≤ xlg ∧ xlg < 4294967296) (hcd : 0 ≤ xcd ∧ xcd < 65536) (hfl : 0 ≤ xfl ∧ xfl < 65536) (hst : 0 ≤ xst ∧ xst < 18446744073709551616) : num (putAccountD xi1 xi2 xp1 xp2 xq1 xq2 xr1 xr2 xs1 xs2 xtg xlg xcd xfl xst) 0 8 = xi1 := by
  rw [refAccount_D]
  repeat (first | rw [num_cat_lo (by omega)] | rw [num_cat_hi (by omega)])
  exact (num_dgt hi1 hi2).1
theorem putAccount_back1 (xi1 xi2 xp1 xp2 xq1 xq2 xr1 xr2 xs1 xs2 xtg xlg xcd xfl xst : Int) (hi1 : 0 ≤ xi1 ∧ xi1 < 18446744073709551616) (hi2 : 0 ≤ xi2 ∧ xi2 < 18446744073709551616) (hp1 : 0 ≤ xp1 ∧ xp1 < 18446744073709551616) (hp2 : 0 ≤ xp2 ∧ xp2 < 18446744073709551616) (hq1 : 0 ≤ xq1 ∧ xq1 < 18446744073709551616) (hq2 : 0 ≤ xq2 ∧ xq2 < 18446744073709551616) (hr1 : 0 ≤ xr1 ∧ xr1 < 18446744073709551616) (hr2 : 0 ≤ xr2 ∧ xr2 < 18446744073709551616) (hs1 : 0 ≤ xs1 ∧ xs1 < 18446744073709551616) (hs2 : 0 ≤ xs2 ∧ xs2 < 18446744073709551616) (htg : 0 ≤ xtg ∧ xtg < 18446744073709551616) (hlg : 0 ≤ xlg ∧ xlg < 4294967296) (hcd : 0 ≤ xcd ∧ xcd < 65536) (hfl : 0 ≤ xfl ∧ xfl < 65536) (hst : 0 ≤ xst ∧ xst < 18446744073709551616) : num (putAccountD xi1 xi2 xp1 xp2 xq1 xq2 xr1 xr2 xs1 xs2 xtg xlg xcd xfl xst) 8 8 = xi2 := by
  rw [refAccount_D]
  repeat (first | rw [num_cat_lo (by omega)] | rw [num_cat_hi (by omega)])
  exact (num_dgt hi1 hi2).2
theorem putAccount_back2 (xi1 xi2 xp1 xp2 xq1 xq2 xr1 xr2 xs1 xs2 xtg xlg xcd xfl xst : Int) (hi1 : 0 ≤ xi1 ∧ xi1 < 18446744073709551616) (hi2 : 0 ≤ xi2 ∧ xi2 < 18446744073709551616) (hp1 : 0 ≤ xp1 ∧ xp1 < 18446744073709551616) (hp2 : 0 ≤ xp2 ∧ xp2 < 18446744073709551616) (hq1 : 0 ≤ xq1 ∧ xq1 < 18446744073709551616) (hq2 : 0 ≤ xq2 ∧ xq2 < 18446744073709551616) (hr1 : 0 ≤ xr1 ∧ xr1 < 18446744073709551616) (hr2 : 0 ≤ xr2 ∧ xr2 < 18446744073709551616) (hs1 : 0 ≤ xs1 ∧ xs1 < 18446744073709551616) (hs2 : 0 ≤ xs2 ∧ xs2 < 18446744073709551616) (htg : 0 ≤ xtg ∧ xtg < 18446744073709551616) (hlg : 0 ≤ xlg ∧ xlg < 4294967296) (hcd : 0 ≤ xcd ∧ xcd < 65536) (hfl : 0 ≤ xfl ∧ xfl < 65536) (hst : 0 ≤ xst ∧ xst < 18446744073709551616) : num (putAccountD xi1 xi2 xp1 xp2 xq1 xq2 xr1 xr2 xs1 xs2 xtg xlg xcd xfl xst) 16 8 = xp1 := by
  rw [refAccount_D]
  repeat (first | rw [num_cat_lo (by omega)] | rw [num_cat_hi (by omega)])
  exact (num_dgt hp1 hp2).1
theorem putAccount_back3 (xi1 xi2 xp1 xp2 xq1 xq2 xr1 xr2 xs1 xs2 xtg xlg xcd xfl xst : Int) (hi1 : 0 ≤ xi1 ∧ xi1 < 18446744073709551616) (hi2 : 0 ≤ xi2 ∧ xi2 < 18446744073709551616) (hp1 : 0 ≤ xp1 ∧ xp1 < 18446744073709551616) (hp2 : 0 ≤ xp2 ∧ xp2 < 18446744073709551616) (hq1 : 0 ≤ xq1 ∧ xq1 < 18446744073709551616) (hq2 : 0 ≤ xq2 ∧ xq2 < 18446744073709551616) (hr1 : 0 ≤ xr1 ∧ xr1 < 18446744073709551616) (hr2 : 0 ≤ xr2 ∧ xr2 < 18446744073709551616) (hs1 : 0 ≤ xs1 ∧ xs1 < 18446744073709551616) (hs2 : 0 ≤ xs2 ∧ xs2 < 18446744073709551616) (htg : 0 ≤ xtg ∧ xtg < 18446744073709551616) (hlg : 0 ≤ xlg ∧ xlg < 4294967296) (hcd : 0 ≤ xcd ∧ xcd < 65536) (hfl : 0 ≤ xfl ∧ xfl < 65536) (hst : 0 ≤ xst ∧ xst < 18446744073709551616) : num (putAccountD xi1 xi2 xp1 xp2 xq1 xq2 xr1 xr2 xs1 xs2 xtg xlg xcd xfl xst) 24 8 = xp2 := by
  rw [refAccount_D]
  repeat (first | rw [num_cat_lo (by omega)] | rw [num_cat_hi (by omega)])
  exact (num_dgt hp1 hp2).2
theorem putAccount_back4 (xi1 xi2 xp1 xp2 xq1 xq2 xr1 xr2 xs1 xs2 xtg xlg xcd xfl xst : Int) (hi1 : 0 ≤ xi1 ∧ xi1 < 18446744073709551616) (hi2 : 0 ≤ xi2 ∧ xi2 < 18446744073709551616) (hp1 : 0 ≤ xp1 ∧ xp1 < 18446744073709551616) (hp2 : 0 ≤ xp2 ∧ xp2 < 18446744073709551616) (hq1 : 0 ≤ xq1 ∧ xq1 < 18446744073709551616) (hq2 : 0 ≤ xq2 ∧ xq2 < 18446744073709551616) (hr1 : 0 ≤ xr1 ∧ xr1 < 18446744073709551616) (hr2 : 0 ≤ xr2 ∧ xr2 < 18446744073709551616) (hs1 : 0 ≤ xs1 ∧ xs1 < 18446744073709551616) (hs2 : 0 ≤ xs2 ∧ xs2 < 18446744073709551616) (htg : 0 ≤ xtg ∧ xtg < 18446744073709551616) (hlg : 0 ≤ xlg ∧ xlg < 4294967296) (hcd : 0 ≤ xcd ∧ xcd < 65536) (hfl : 0 ≤ xfl ∧ xfl < 65536) (hst : 0 ≤ xst ∧ xst < 18446744073709551616) : num (putAccountD xi1 xi2 xp1 xp2 xq1 xq2 xr1 xr2 xs1 xs2 xtg xlg xcd xfl xst) 32 8 = xq1 := by
  rw [refAccount_D]
  repeat (first | rw [num_cat_lo (by omega)] | rw [num_cat_hi (by omega)])
  exact (num_dgt hq1 hq2).1
theorem putAccount_back5 (xi1 xi2 xp1 xp2 xq1 xq2 xr1 xr2 xs1 xs2 xtg xlg xcd xfl xst : Int) (hi1 : 0 ≤ xi1 ∧ xi1 < 18446744073709551616) (hi2 : 0 ≤ xi2 ∧ xi2 < 18446744073709551616) (hp1 : 0 ≤ xp1 ∧ xp1 < 18446744073709551616) (hp2 : 0 ≤ xp2 ∧ xp2 < 18446744073709551616) (hq1 : 0 ≤ xq1 ∧ xq1 < 18446744073709551616) (hq2 : 0 ≤ xq2 ∧ xq2 < 18446744073709551616) (hr1 : 0 ≤ xr1 ∧ xr1 < 18446744073709551616) (hr2 : 0 ≤ xr2 ∧ xr2 < 18446744073709551616) (hs1 : 0 ≤ xs1 ∧ xs1 < 18446744073709551616) (hs2 : 0 ≤ xs2 ∧ xs2 < 18446744073709551616) (htg : 0 ≤ xtg ∧ xtg < 18446744073709551616) (hlg : 0 ≤ xlg ∧ xlg < 4294967296) (hcd : 0 ≤ xcd ∧ xcd < 65536) (hfl : 0 ≤ xfl ∧ xfl < 65536) (hst : 0 ≤ xst ∧ xst < 18446744073709551616) : num (putAccountD xi1 xi2 xp1 xp2 xq1 xq2 xr1 xr2 xs1 xs2 xtg xlg xcd xfl xst) 40 8 = xq2 := by
  rw [refAccount_D]
  repeat (first | rw [num_cat_lo (by omega)] | rw [num_cat_hi (by omega)])
  exact (num_dgt hq1 hq2).2
theorem putAccount_back6 (xi1 xi2 xp1 xp2 xq1 xq2 xr1 xr2 xs1 xs2 xtg xlg xcd xfl xst : Int) (hi1 : 0 ≤ xi1 ∧ xi1 < 18446744073709551616) (hi2 : 0 ≤ xi2 ∧ xi2 < 18446744073709551616) (hp1 : 0 ≤ xp1 ∧ xp1 < 18446744073709551616) (hp2 : 0 ≤ xp2 ∧ xp2 < 18446744073709551616) (hq1 : 0 ≤ xq1 ∧ xq1 < 18446744073709551616) (hq2 : 0 ≤ xq2 ∧ xq2 < 18446744073709551616) (hr1 : 0 ≤ xr1 ∧ xr1 < 18446744073709551616) (hr2 : 0 ≤ xr2 ∧ xr2 < 18446744073709551616) (hs1 : 0 ≤ xs1 ∧ xs1 < 18446744073709551616) (hs2 : 0 ≤ xs2 ∧ xs2 < 18446744073709551616) (htg : 0 ≤ xtg ∧ xtg < 18446744073709551616) (hlg : 0 ≤ xlg ∧ xlg < 4294967296) (hcd : 0 ≤ xcd ∧ xcd < 65536) (hfl : 0 ≤ xfl ∧ xfl < 65536) (hst : 0 ≤ xst ∧ xst < 18446744073709551616) : num (putAccountD xi1 xi2 xp1 xp2 xq1 xq2 xr1 xr2 xs1 xs2 xtg xlg xcd xfl xst) 48 8 = xr1 := by
  rw [refAccount_D]
  repeat (first | rw [num_cat_lo (by omega)] | rw [num_cat_hi (by omega)])
  exact (num_dgt hr1 hr2).1
theorem putAccount_back7 (xi1 xi2 xp1 xp2 xq1 xq2 xr1 xr2 xs1 xs2 xtg xlg xcd xfl xst : Int) (hi1 : 0 ≤ xi1 ∧ xi1 < 18446744073709551616) (hi2 : 0 ≤ xi2 ∧ xi2 < 18446744073709551616) (hp1 : 0 ≤ xp1 ∧ xp1 < 18446744073709551616) (hp2 : 0 ≤ xp2 ∧ xp2 < 18446744073709551616) (hq1 : 0 ≤ xq1 ∧ xq1 < 18446744073709551616) (hq2 : 0 ≤ xq2 ∧ xq2 < 18446744073709551616) (hr1 : 0 ≤ xr1 ∧ xr1 < 18446744073709551616) (hr2 : 0 ≤ xr2 ∧ xr2 < 18446744073709551616) (hs1 : 0 ≤ xs1 ∧ xs1 < 18446744073709551616) (hs2 : 0 ≤ xs2 ∧ xs2 < 18446744073709551616) (htg : 0 ≤ xtg ∧ xtg < 18446744073709551616) (hlg : 0 ≤ xlg ∧ xlg < 4294967296) (hcd : 0 ≤ xcd ∧ xcd < 65536) (hfl : 0 ≤ xfl ∧ xfl < 65536) (hst : 0 ≤ xst ∧ xst < 18446744073709551616) : num (putAccountD xi1 xi2 xp1 xp2 xq1 xq2 xr1 xr2 xs1 xs2 xtg xlg xcd xfl xst) 56 8 = xr2 := by
  rw [refAccount_D]
  repeat (first | rw [num_cat_lo (by omega)] | rw [num_cat_hi (by omega)])
  exact (num_dgt hr1 hr2).2
theorem putAccount_back8 (xi1 xi2 xp1 xp2 xq1 xq2 xr1 xr2 xs1 xs2 xtg xlg xcd xfl xst : Int) (hi1 : 0 ≤ xi1 ∧ xi1 < 18446744073709551616) (hi2 : 0 ≤ xi2 ∧ xi2 < 18446744073709551616) (hp1 : 0 ≤ xp1 ∧ xp1 < 18446744073709551616) (hp2 : 0 ≤ xp2 ∧ xp2 < 18446744073709551616) (hq1 : 0 ≤ xq1 ∧ xq1 < 18446744073709551616) (hq2 : 0 ≤ xq2 ∧ xq2 < 18446744073709551616) (hr1 : 0 ≤ xr1 ∧ xr1 < 18446744073709551616) (hr2 : 0 ≤ xr2 ∧ xr2 < 18446744073709551616) (hs1 : 0 ≤ xs1 ∧ xs1 < 18446744073709551616) (hs2 : 0 ≤ xs2 ∧ xs2 < 18446744073709551616) (htg : 0 ≤ xtg ∧ xtg < 18446744073709551616) (hlg : 0 ≤ xlg ∧ xlg < 4294967296) (hcd : 0 ≤ xcd ∧ xcd < 65536) (hfl : 0 ≤ xfl ∧ xfl < 65536) (hst : 0 ≤ xst ∧ xst < 18446744073709551616) : num (putAccountD xi1 xi2 xp1 xp2 xq1 xq2 xr1 xr2 xs1 xs2 xtg xlg xcd xfl xst) 64 8 = xs1 := by
  rw [refAccount_D]
  repeat (first | rw [num_cat_lo (by omega)] | rw [num_cat_hi (by omega)])
  exact (num_dgt hs1 hs2).1
theorem putAccount_back9 (xi1 xi2 xp1 xp2 xq1 xq2 xr1 xr2 xs1 xs2 xtg xlg xcd xfl xst : Int) (hi1 : 0 ≤ xi1 ∧ xi1 < 18446744073709551616) (hi2 : 0 ≤ xi2 ∧ xi2 < 18446744073709551616) (hp1 : 0 ≤ xp1 ∧ xp1 < 18446744073709551616) (hp2 : 0 ≤ xp2 ∧ xp2 < 18446744073709551616) (hq1 : 0 ≤ xq1 ∧ xq1 < 18446744073709551616) (hq2 : 0 ≤ xq2 ∧ xq2 < 18446744073709551616) (hr1 : 0 ≤ xr1 ∧ xr1 < 18446744073709551616) (hr2 : 0 ≤ xr2 ∧ xr2 < 18446744073709551616) (hs1 : 0 ≤ xs1 ∧ xs1 < 18446744073709551616) (hs2 : 0 ≤ xs2 ∧ xs2 < 18446744073709551616) (htg : 0 ≤ xtg ∧ xtg < 18446744073709551616) (hlg : 0 ≤ xlg ∧ xlg < 4294967296) (hcd : 0 ≤ xcd ∧ xcd < 65536) (hfl : 0 ≤ xfl ∧ xfl < 65536) (hst : 0 ≤ xst ∧ xst < 18446744073709551616) : num (putAccountD xi1 xi2 xp1 xp2 xq1 xq2 xr1 xr2 xs1 xs2 xtg xlg xcd xfl xst) 72 8 = xs2 := by
  rw [refAccount_D]
  repeat (first | rw [num_cat_lo (by omega)] | rw [num_cat_hi (by omega)])
  exact (num_dgt hs1 hs2).2
theorem putAccount_back10 (xi1 xi2 xp1 xp2 xq1 xq2 xr1 xr2 xs1 xs2 xtg xlg xcd xfl xst : Int) (hi1 : 0 ≤ xi1 ∧ xi1 < 18446744073709551616) (hi2 : 0 ≤ xi2 ∧ xi2 < 18446744073709551616) (hp1 : 0 ≤ xp1 ∧ xp1 < 18446744073709551616) (hp2 : 0 ≤ xp2 ∧ xp2 < 18446744073709551616) (hq1 : 0 ≤ xq1 ∧ xq1 < 18446744073709551616) (hq2 : 0 ≤ xq2 ∧ xq2 < 18446744073709551616) (hr1 : 0 ≤ xr1 ∧ xr1 < 18446744073709551616) (hr2 : 0 ≤ xr2 ∧ xr2 < 18446744073709551616) (hs1 : 0 ≤ xs1 ∧ xs1 < 18446744073709551616) (hs2 : 0 ≤ xs2 ∧ xs2 < 18446744073709551616) (htg : 0 ≤ xtg ∧ xtg < 18446744073709551616) (hlg : 0 ≤ xlg ∧ xlg < 4294967296) (hcd : 0 ≤ xcd ∧ xcd < 65536) (hfl : 0 ≤ xfl ∧ xfl < 65536) (hst : 0 ≤ xst ∧ xst < 18446744073709551616) : num (putAccountD xi1 xi2 xp1 xp2 xq1 xq2 xr1 xr2 xs1 xs2 xtg xlg xcd xfl xst) 80 8 = xtg := by
  rw [refAccount_D]
  repeat (first | rw [num_cat_lo (by omega)] | rw [num_cat_hi (by omega)])
  exact num_nb8 htg
theorem putAccount_back11 (xi1 xi2 xp1 xp2 xq1 xq2 xr1 xr2 xs1 xs2 xtg xlg xcd xfl xst : Int) (hi1 : 0 ≤ xi1 ∧ xi1 < 18446744073709551616) (hi2 : 0 ≤ xi2 ∧ xi2 < 18446744073709551616) (hp1 : 0 ≤ xp1 ∧ xp1 < 18446744073709551616) (hp2 : 0 ≤ xp2 ∧ xp2 < 18446744073709551616) (hq1 : 0 ≤ xq1 ∧ xq1 < 18446744073709551616) (hq2 : 0 ≤ xq2 ∧ xq2 < 18446744073709551616) (hr1 : 0 ≤ xr1 ∧ xr1 < 18446744073709551616) (hr2 : 0 ≤ xr2 ∧ xr2 < 18446744073709551616) (hs1 : 0 ≤ xs1 ∧ xs1 < 18446744073709551616) (hs2 : 0 ≤ xs2 ∧ xs2 < 18446744073709551616) (htg : 0 ≤ xtg ∧ xtg < 18446744073709551616) (hlg : 0 ≤ xlg ∧ xlg < 4294967296) (hcd : 0 ≤ xcd ∧ xcd < 65536) (hfl : 0 ≤ xfl ∧ xfl < 65536) (hst : 0 ≤ xst ∧ xst < 18446744073709551616) : num (putAccountD xi1 xi2 xp1 xp2 xq1 xq2 xr1 xr2 xs1 xs2 xtg xlg xcd xfl xst) 88 4 = xlg := by
  rw [refAccount_D]
  repeat (first | rw [num_cat_lo (by omega)] | rw [num_cat_hi (by omega)])
  exact num_nb4 hlg
theorem putAccount_back12 (xi1 xi2 xp1 xp2 xq1 xq2 xr1 xr2 xs1 xs2 xtg xlg xcd xfl xst : Int) (hi1 : 0 ≤ xi1 ∧ xi1 < 18446744073709551616) (hi2 : 0 ≤ xi2 ∧ xi2 < 18446744073709551616) (hp1 : 0 ≤ xp1 ∧ xp1 < 18446744073709551616) (hp2 : 0 ≤ xp2 ∧ xp2 < 18446744073709551616) (hq1 : 0 ≤ xq1 ∧ xq1 < 18446744073709551616) (hq2 : 0 ≤ xq2 ∧ xq2 < 18446744073709551616) (hr1 : 0 ≤ xr1 ∧ xr1 < 18446744073709551616) (hr2 : 0 ≤ xr2 ∧ xr2 < 18446744073709551616) (hs1 : 0 ≤ xs1 ∧ xs1 < 18446744073709551616) (hs2 : 0 ≤ xs2 ∧ xs2 < 18446744073709551616) (htg : 0 ≤ xtg ∧ xtg < 18446744073709551616) (hlg : 0 ≤ xlg ∧ xlg < 4294967296) (hcd : 0 ≤ xcd ∧ xcd < 65536) (hfl : 0 ≤ xfl ∧ xfl < 65536) (hst : 0 ≤ xst ∧ xst < 18446744073709551616) : num (putAccountD xi1 xi2 xp1 xp2 xq1 xq2 xr1 xr2 xs1 xs2 xtg xlg xcd xfl xst) 92 2 = xcd := by
  rw [refAccount_D]
  repeat (first | rw [num_cat_lo (by omega)] | rw [num_cat_hi (by omega)])
  exact num_nb2 hcd
theorem putAccount_back13 (xi1 xi2 xp1 xp2 xq1 xq2 xr1 xr2 xs1 xs2 xtg xlg xcd xfl xst : Int) (hi1 : 0 ≤ xi1 ∧ xi1 < 18446744073709551616) (hi2 : 0 ≤ xi2 ∧ xi2 < 18446744073709551616) (hp1 : 0 ≤ xp1 ∧ xp1 < 18446744073709551616) (hp2 : 0 ≤ xp2 ∧ xp2 < 18446744073709551616) (hq1 : 0 ≤ xq1 ∧ xq1 < 18446744073709551616) (hq2 : 0 ≤ xq2 ∧ xq2 < 18446744073709551616) (hr1 : 0 ≤ xr1 ∧ xr1 < 18446744073709551616) (hr2 : 0 ≤ xr2 ∧ xr2 < 18446744073709551616) (hs1 : 0 ≤ xs1 ∧ xs1 < 18446744073709551616) (hs2 : 0 ≤ xs2 ∧ xs2 < 18446744073709551616) (htg : 0 ≤ xtg ∧ xtg < 18446744073709551616) (hlg : 0 ≤ xlg ∧ xlg < 4294967296) (hcd : 0 ≤ xcd ∧ xcd < 65536) (hfl : 0 ≤ xfl ∧ xfl < 65536) (hst : 0 ≤ xst ∧ xst < 18446744073709551616) : num (putAccountD xi1 xi2 xp1 xp2 xq1 xq2 xr1 xr2 xs1 xs2 xtg xlg xcd xfl xst) 94 2 = xfl := by
  rw [refAccount_D]
  repeat (first | rw [num_cat_lo (by omega)] | rw [num_cat_hi (by omega)])
  exact num_nb2 hfl
theorem putAccount_back14 (xi1 xi2 xp1 xp2 xq1 xq2 xr1 xr2 xs1 xs2 xtg xlg xcd xfl xst : Int) (hi1 : 0 ≤ xi1 ∧ xi1 < 18446744073709551616) (hi2 : 0 ≤ xi2 ∧ xi2 < 18446744073709551616) (hp1 : 0 ≤ xp1 ∧ xp1 < 18446744073709551616) (hp2 : 0 ≤ xp2 ∧ xp2 < 18446744073709551616) (hq1 : 0 ≤ xq1 ∧ xq1 < 18446744073709551616) (hq2 : 0 ≤ xq2 ∧ xq2 < 18446744073709551616) (hr1 : 0 ≤ xr1 ∧ xr1 < 18446744073709551616) (hr2 : 0 ≤ xr2 ∧ xr2 < 18446744073709551616) (hs1 : 0 ≤ xs1 ∧ xs1 < 18446744073709551616) (hs2 : 0 ≤ xs2 ∧ xs2 < 18446744073709551616) (htg : 0 ≤ xtg ∧ xtg < 18446744073709551616) (hlg : 0 ≤ xlg ∧ xlg < 4294967296) (hcd : 0 ≤ xcd ∧ xcd < 65536) (hfl : 0 ≤ xfl ∧ xfl < 65536) (hst : 0 ≤ xst ∧ xst < 18446744073709551616) : num (putAccountD xi1 xi2 xp1 xp2 xq1 xq2 xr1 xr2 xs1 xs2 xtg xlg xcd xfl xst) 96 8 = xst := by
  rw [refAccount_D]
  repeat (first | rw [num_cat_lo (by omega)] | rw [num_cat_hi (by omega)])
  exact num_nb8 hst
theorem getAccount_at (xi1 xi2 xp1 xp2 xq1 xq2 xr1 xr2 xs1 xs2 xtg xlg xcd xfl xst : Int) (hi1 : 0 ≤ xi1 ∧ xi1 < 18446744073709551616) (hi2 : 0 ≤ xi2 ∧ xi2 < 18446744073709551616) (hp1 : 0 ≤ xp1 ∧ xp1 < 18446744073709551616) (hp2 : 0 ≤ xp2 ∧ xp2 < 18446744073709551616) (hq1 : 0 ≤ xq1 ∧ xq1 < 18446744073709551616) (hq2 : 0 ≤ xq2 ∧ xq2 < 18446744073709551616) (hr1 : 0 ≤ xr1 ∧ xr1 < 18446744073709551616) (hr2 : 0 ≤ xr2 ∧ xr2 < 18446744073709551616) (hs1 : 0 ≤ xs1 ∧ xs1 < 18446744073709551616) (hs2 : 0 ≤ xs2 ∧ xs2 < 18446744073709551616) (htg : 0 ≤ xtg ∧ xtg < 18446744073709551616) (hlg : 0 ≤ xlg ∧ xlg < 4294967296) (hcd : 0 ≤ xcd ∧ xcd < 65536) (hfl : 0 ≤ xfl ∧ xfl < 65536) (hst : 0 ≤ xst ∧ xst < 18446744073709551616) (A : Option Addr) (c : Nat) (hmc : 104 ≤ c) (hC : c ≤ maxLen) (w : World) (hs : SlIs w A 104 (yV (putAccountD xi1 xi2 xp1 xp2 xq1 xq2 xr1 xr2 xs1 xs2 xtg xlg xcd xfl xst))) : Calls Try.prog 34 #[.slice A 104 c] w fun r w' => r = .returned (.tuple #[.agg #[.int .u64 xi1, .int .u64 xi2, .int .u64 xp1, .int .u64 xp2, .int .u64 xq1, .int .u64 xq2, .int .u64 xr1, .int .u64 xr2, .int .u64 xs1, .int .u64 xs2, .int .u64 xtg, .int .u32 xlg, .int .u16 xcd, .int .u16 xfl, .int .u64 xst], .bool true]) ∧ Below w.heap.size w w' := by
  have h := getAccount_yes A c (putAccountD xi1 xi2 xp1 xp2 xq1 xq2 xr1 xr2 xs1 xs2 xtg xlg xcd xfl xst) (putAccount_ok xi1 xi2 xp1 xp2 xq1 xq2 xr1 xr2 xs1 xs2 xtg xlg xcd xfl xst) hmc hC w hs
  rw [putAccount_back0 xi1 xi2 xp1 xp2 xq1 xq2 xr1 xr2 xs1 xs2 xtg xlg xcd xfl xst hi1 hi2 hp1 hp2 hq1 hq2 hr1 hr2 hs1 hs2 htg hlg hcd hfl hst, putAccount_back1 xi1 xi2 xp1 xp2 xq1 xq2 xr1 xr2 xs1 xs2 xtg xlg xcd xfl xst hi1 hi2 hp1 hp2 hq1 hq2 hr1 hr2 hs1 hs2 htg hlg hcd hfl hst, putAccount_back2 xi1 xi2 xp1 xp2 xq1 xq2 xr1 xr2 xs1 xs2 xtg xlg xcd xfl xst hi1 hi2 hp1 hp2 hq1 hq2 hr1 hr2 hs1 hs2 htg hlg hcd hfl hst, putAccount_back3 xi1 xi2 xp1 xp2 xq1 xq2 xr1 xr2 xs1 xs2 xtg xlg xcd xfl xst hi1 hi2 hp1 hp2 hq1 hq2 hr1 hr2 hs1 hs2 htg hlg hcd hfl hst, putAccount_back4 xi1 xi2 xp1 xp2 xq1 xq2 xr1 xr2 xs1 xs2 xtg xlg xcd xfl xst hi1 hi2 hp1 hp2 hq1 hq2 hr1 hr2 hs1 hs2 htg hlg hcd hfl hst, putAccount_back5 xi1 xi2 xp1 xp2 xq1 xq2 xr1 xr2 xs1 xs2 xtg xlg xcd xfl xst hi1 hi2 hp1 hp2 hq1 hq2 hr1 hr2 hs1 hs2 htg hlg hcd hfl hst, putAccount_back6 xi1 xi2 xp1 xp2 xq1 xq2 xr1 xr2 xs1 xs2 xtg xlg xcd xfl xst hi1 hi2 hp1 hp2 hq1 hq2 hr1 hr2 hs1 hs2 htg hlg hcd hfl hst, putAccount_back7 xi1 xi2 xp1 xp2 xq1 xq2 xr1 xr2 xs1 xs2 xtg xlg xcd xfl xst hi1 hi2 hp1 hp2 hq1 hq2 hr1 hr2 hs1 hs2 htg hlg hcd hfl hst, putAccount_back8 xi1 xi2 xp1 xp2 xq1 xq2 xr1 xr2 xs1 xs2 xtg xlg xcd xfl xst hi1 hi2 hp1 hp2 hq1 hq2 hr1 hr2 hs1 hs2 htg hlg hcd hfl hst, putAccount_back9 xi1 xi2 xp1 xp2 xq1 xq2 xr1 xr2 xs1 xs2 xtg xlg xcd xfl xst hi1 hi2 hp1 hp2 hq1 hq2 hr1 hr2 hs1 hs2 htg hlg hcd hfl hst, putAccount_back10 xi1 xi2 xp1 xp2 xq1 xq2 xr1 xr2 xs1 xs2 xtg xlg xcd xfl xst hi1 hi2 hp1 hp2 hq1 hq2 hr1 hr2 hs1 hs2 htg hlg hcd hfl hst, putAccount_back11 xi1 xi2 xp1 xp2 xq1 xq2 xr1 xr2 xs1 xs2 xtg xlg xcd xfl xst hi1 hi2 hp1 hp2 hq1 hq2 hr1 hr2 hs1 hs2 htg hlg hcd hfl hst, putAccount_back12 xi1 xi2 xp1 xp2 xq1 xq2 xr1 xr2 xs1 xs2 xtg xlg xcd xfl xst hi1 hi2 hp1 hp2 hq1 hq2 hr1 hr2 hs1 hs2 htg hlg hcd hfl hst, putAccount_back13 xi1 xi2 xp1 xp2 xq1 xq2 xr1 xr2 xs1 xs2 xtg xlg xcd xfl xst hi1 hi2 hp1 hp2 hq1 hq2 hr1 hr2 hs1 hs2 htg hlg hcd hfl hst, putAccount_back14 xi1 xi2 xp1 xp2 xq1 xq2 xr1 xr2 xs1 xs2 xtg xlg xcd xfl xst hi1 hi2 hp1 hp2 hq1 hq2 hr1 hr2 hs1 hs2 htg hlg hcd hfl hst] at h
  exact h
theorem putTransfer_ok (xi1 xi2 xd1 xd2 xc1 xc2 xm1 xm2 xw1 xw2 xtg xto xlg xcd xfl xst : Int) (i : Nat) : 0 ≤ putTransferD xi1 xi2 xd1 xd2 xc1 xc2 xm1 xm2 xw1 xw2 xtg xto xlg xcd xfl xst i ∧ putTransferD xi1 xi2 xd1 xd2 xc1 xc2 xm1 xm2 xw1 xw2 xtg xto xlg xcd xfl xst i < 256 := by
  rw [refTransfer_D]
  repeat (first | exact nb_lo _ _ _ | exact dgt_ok _ _ _ | refine cat_ok (fun i => ?_) (fun i => ?_) i)
theorem putTransfer_back0 (xi1 xi2 xd1 xd2 xc1 xc2 xm1 xm2 xw1 xw2 xtg xto xlg xcd xfl xst : Int) (hi1 : 0 ≤ xi1 ∧ xi1 < 18446744073709551616) (hi2 : 0 ≤ xi2 ∧ xi2 < 18446744073709551616) (hd1 : 0 ≤ xd1 ∧ xd1 < 18446744073709551616) (hd2 : 0 ≤ xd2 ∧ xd2 < 18446744073709551616) (hc1 : 0 ≤ xc1 ∧ xc1 < 18446744073709551616) (hc2 : 0 ≤ xc2 ∧ xc2 < 18446744073709551616) (hm1 : 0 ≤ xm1 ∧ xm1 < 18446744073709551616) (hm2 : 0 ≤ xm2 ∧ xm2 < 18446744073709551616) (hw1 : 0 ≤ xw1 ∧ xw1 < 18446744073709551616) (hw2 : 0 ≤ xw2 ∧ xw2 < 18446744073709551616) (htg : 0 ≤ xtg ∧ xtg < 18446744073709551616) (hto : 0 ≤ xto ∧ xto < 4294967296) (hlg : 0 ≤ xlg ∧ xlg < 4294967296) (hcd : 0 ≤ xcd ∧ xcd < 65536) (hfl : 0 ≤ xfl ∧ xfl < 65536) (hst : 0 ≤ xst ∧ xst < 18446744073709551616) : num (putTransferD xi1 xi2 xd1 xd2 xc1 xc2 xm1 xm2 xw1 xw2 xtg xto xlg xcd xfl xst) 0 8 = xi1 := by
  rw [refTransfer_D]
  repeat (first | rw [num_cat_lo (by omega)] | rw [num_cat_hi (by omega)])
  exact (num_dgt hi1 hi2).1
theorem putTransfer_back1 (xi1 xi2 xd1 xd2 xc1 xc2 xm1 xm2 xw1 xw2 xtg xto xlg xcd xfl xst : Int) (hi1 : 0 ≤ xi1 ∧ xi1 < 18446744073709551616) (hi2 : 0 ≤ xi2 ∧ xi2 < 18446744073709551616) (hd1 : 0 ≤ xd1 ∧ xd1 < 18446744073709551616) (hd2 : 0 ≤ xd2 ∧ xd2 < 18446744073709551616) (hc1 : 0 ≤ xc1 ∧ xc1 < 18446744073709551616) (hc2 : 0 ≤ xc2 ∧ xc2 < 18446744073709551616) (hm1 : 0 ≤ xm1 ∧ xm1 < 18446744073709551616) (hm2 : 0 ≤ xm2 ∧ xm2 < 18446744073709551616) (hw1 : 0 ≤ xw1 ∧ xw1 < 18446744073709551616) (hw2 : 0 ≤ xw2 ∧ xw2 < 18446744073709551616) (htg : 0 ≤ xtg ∧ xtg < 18446744073709551616) (hto : 0 ≤ xto ∧ xto < 4294967296) (hlg : 0 ≤ xlg ∧ xlg < 4294967296) (hcd : 0 ≤ xcd ∧ xcd < 65536) (hfl : 0 ≤ xfl ∧ xfl < 65536) (hst : 0 ≤ xst ∧ xst < 18446744073709551616) : num (putTransferD xi1 xi2 xd1 xd2 xc1 xc2 xm1 xm2 xw1 xw2 xtg xto xlg xcd xfl xst) 8 8 = xi2 := by
  rw [refTransfer_D]
  repeat (first | rw [num_cat_lo (by omega)] | rw [num_cat_hi (by omega)])
  exact (num_dgt hi1 hi2).2
theorem putTransfer_back2 (xi1 xi2 xd1 xd2 xc1 xc2 xm1 xm2 xw1 xw2 xtg xto xlg xcd xfl xst : Int) (hi1 : 0 ≤ xi1 ∧ xi1 < 18446744073709551616) (hi2 : 0 ≤ xi2 ∧ xi2 < 18446744073709551616) (hd1 : 0 ≤ xd1 ∧ xd1 < 18446744073709551616) (hd2 : 0 ≤ xd2 ∧ xd2 < 18446744073709551616) (hc1 : 0 ≤ xc1 ∧ xc1 < 18446744073709551616) (hc2 : 0 ≤ xc2 ∧ xc2 < 18446744073709551616) (hm1 : 0 ≤ xm1 ∧ xm1 < 18446744073709551616) (hm2 : 0 ≤ xm2 ∧ xm2 < 18446744073709551616) (hw1 : 0 ≤ xw1 ∧ xw1 < 18446744073709551616) (hw2 : 0 ≤ xw2 ∧ xw2 < 18446744073709551616) (htg : 0 ≤ xtg ∧ xtg < 18446744073709551616) (hto : 0 ≤ xto ∧ xto < 4294967296) (hlg : 0 ≤ xlg ∧ xlg < 4294967296) (hcd : 0 ≤ xcd ∧ xcd < 65536) (hfl : 0 ≤ xfl ∧ xfl < 65536) (hst : 0 ≤ xst ∧ xst < 18446744073709551616) : num (putTransferD xi1 xi2 xd1 xd2 xc1 xc2 xm1 xm2 xw1 xw2 xtg xto xlg xcd xfl xst) 16 8 = xd1 := by
  rw [refTransfer_D]
  repeat (first | rw [num_cat_lo (by omega)] | rw [num_cat_hi (by omega)])
  exact (num_dgt hd1 hd2).1
theorem putTransfer_back3 (xi1 xi2 xd1 xd2 xc1 xc2 xm1 xm2 xw1 xw2 xtg xto xlg xcd xfl xst : Int) (hi1 : 0 ≤ xi1 ∧ xi1 < 18446744073709551616) (hi2 : 0 ≤ xi2 ∧ xi2 < 18446744073709551616) (hd1 : 0 ≤ xd1 ∧ xd1 < 18446744073709551616) (hd2 : 0 ≤ xd2 ∧ xd2 < 18446744073709551616) (hc1 : 0 ≤ xc1 ∧ xc1 < 18446744073709551616) (hc2 : 0 ≤ xc2 ∧ xc2 < 18446744073709551616) (hm1 : 0 ≤ xm1 ∧ xm1 < 18446744073709551616) (hm2 : 0 ≤ xm2 ∧ xm2 < 18446744073709551616) (hw1 : 0 ≤ xw1 ∧ xw1 < 18446744073709551616) (hw2 : 0 ≤ xw2 ∧ xw2 < 18446744073709551616) (htg : 0 ≤ xtg ∧ xtg < 18446744073709551616) (hto : 0 ≤ xto ∧ xto < 4294967296) (hlg : 0 ≤ xlg ∧ xlg < 4294967296) (hcd : 0 ≤ xcd ∧ xcd < 65536) (hfl : 0 ≤ xfl ∧ xfl < 65536) (hst : 0 ≤ xst ∧ xst < 18446744073709551616) : num (putTransferD xi1 xi2 xd1 xd2 xc1 xc2 xm1 xm2 xw1 xw2 xtg xto xlg xcd xfl xst) 24 8 = xd2 := by
  rw [refTransfer_D]
  repeat (first | rw [num_cat_lo (by omega)] | rw [num_cat_hi (by omega)])
  exact (num_dgt hd1 hd2).2
theorem putTransfer_back4 (xi1 xi2 xd1 xd2 xc1 xc2 xm1 xm2 xw1 xw2 xtg xto xlg xcd xfl xst : Int) (hi1 : 0 ≤ xi1 ∧ xi1 < 18446744073709551616) (hi2 : 0 ≤ xi2 ∧ xi2 < 18446744073709551616) (hd1 : 0 ≤ xd1 ∧ xd1 < 18446744073709551616) (hd2 : 0 ≤ xd2 ∧ xd2 < 18446744073709551616) (hc1 : 0 ≤ xc1 ∧ xc1 < 18446744073709551616) (hc2 : 0 ≤ xc2 ∧ xc2 < 18446744073709551616) (hm1 : 0 ≤ xm1 ∧ xm1 < 18446744073709551616) (hm2 : 0 ≤ xm2 ∧ xm2 < 18446744073709551616) (hw1 : 0 ≤ xw1 ∧ xw1 < 18446744073709551616) (hw2 : 0 ≤ xw2 ∧ xw2 < 18446744073709551616) (htg : 0 ≤ xtg ∧ xtg < 18446744073709551616) (hto : 0 ≤ xto ∧ xto < 4294967296) (hlg : 0 ≤ xlg ∧ xlg < 4294967296) (hcd : 0 ≤ xcd ∧ xcd < 65536) (hfl : 0 ≤ xfl ∧ xfl < 65536) (hst : 0 ≤ xst ∧ xst < 18446744073709551616) : num (putTransferD xi1 xi2 xd1 xd2 xc1 xc2 xm1 xm2 xw1 xw2 xtg xto xlg xcd xfl xst) 32 8 = xc1 := by
  rw [refTransfer_D]
  repeat (first | rw [num_cat_lo (by omega)] | rw [num_cat_hi (by omega)])
  exact (num_dgt hc1 hc2).1
theorem putTransfer_back5 (xi1 xi2 xd1 xd2 xc1 xc2 xm1 xm2 xw1 xw2 xtg xto xlg xcd xfl xst : Int) (hi1 : 0 ≤ xi1 ∧ xi1 < 18446744073709551616) (hi2 : 0 ≤ xi2 ∧ xi2 < 18446744073709551616) (hd1 : 0 ≤ xd1 ∧ xd1 < 18446744073709551616) (hd2 : 0 ≤ xd2 ∧ xd2 < 18446744073709551616) (hc1 : 0 ≤ xc1 ∧ xc1 < 18446744073709551616) (hc2 : 0 ≤ xc2 ∧ xc2 < 18446744073709551616) (hm1 : 0 ≤ xm1 ∧ xm1 < 18446744073709551616) (hm2 : 0 ≤ xm2 ∧ xm2 < 18446744073709551616) (hw1 : 0 ≤ xw1 ∧ xw1 < 18446744073709551616) (hw2 : 0 ≤ xw2 ∧ xw2 < 18446744073709551616) (htg : 0 ≤ xtg ∧ xtg < 18446744073709551616) (hto : 0 ≤ xto ∧ xto < 4294967296) (hlg : 0 ≤ xlg ∧ xlg < 4294967296) (hcd : 0 ≤ xcd ∧ xcd < 65536) (hfl : 0 ≤ xfl ∧ xfl < 65536) (hst : 0 ≤ xst ∧ xst < 18446744073709551616) : num (putTransferD xi1 xi2 xd1 xd2 xc1 xc2 xm1 xm2 xw1 xw2 xtg xto xlg xcd xfl xst) 40 8 = xc2 := by
  rw [refTransfer_D]
  repeat (first | rw [num_cat_lo (by omega)] | rw [num_cat_hi (by omega)])
  exact (num_dgt hc1 hc2).2
theorem putTransfer_back6 (xi1 xi2 xd1 xd2 xc1 xc2 xm1 xm2 xw1 xw2 xtg xto xlg xcd xfl xst : Int) (hi1 : 0 ≤ xi1 ∧ xi1 < 18446744073709551616) (hi2 : 0 ≤ xi2 ∧ xi2 < 18446744073709551616) (hd1 : 0 ≤ xd1 ∧ xd1 < 18446744073709551616) (hd2 : 0 ≤ xd2 ∧ xd2 < 18446744073709551616) (hc1 : 0 ≤ xc1 ∧ xc1 < 18446744073709551616) (hc2 : 0 ≤ xc2 ∧ xc2 < 18446744073709551616) (hm1 : 0 ≤ xm1 ∧ xm1 < 18446744073709551616) (hm2 : 0 ≤ xm2 ∧ xm2 < 18446744073709551616) (hw1 : 0 ≤ xw1 ∧ xw1 < 18446744073709551616) (hw2 : 0 ≤ xw2 ∧ xw2 < 18446744073709551616) (htg : 0 ≤ xtg ∧ xtg < 18446744073709551616) (hto : 0 ≤ xto ∧ xto < 4294967296) (hlg : 0 ≤ xlg ∧ xlg < 4294967296) (hcd : 0 ≤ xcd ∧ xcd < 65536) (hfl : 0 ≤ xfl ∧ xfl < 65536) (hst : 0 ≤ xst ∧ xst < 18446744073709551616) : num (putTransferD xi1 xi2 xd1 xd2 xc1 xc2 xm1 xm2 xw1 xw2 xtg xto xlg xcd xfl xst) 48 8 = xm1 := by
  rw [refTransfer_D]
  repeat (first | rw [num_cat_lo (by omega)] | rw [num_cat_hi (by omega)])
  exact (num_dgt hm1 hm2).1
theorem putTransfer_back7 (xi1 xi2 xd1 xd2 xc1 xc2 xm1 xm2 xw1 xw2 xtg xto xlg xcd xfl xst : Int) (hi1 : 0 ≤ xi1 ∧ xi1 < 18446744073709551616) (hi2 : 0 ≤ xi2 ∧ xi2 < 18446744073709551616) (hd1 : 0 ≤ xd1 ∧ xd1 < 18446744073709551616) (hd2 : 0 ≤ xd2 ∧ xd2 < 18446744073709551616) (hc1 : 0 ≤ xc1 ∧ xc1 < 18446744073709551616) (hc2 : 0 ≤ xc2 ∧ xc2 < 18446744073709551616) (hm1 : 0 ≤ xm1 ∧ xm1 < 18446744073709551616) (hm2 : 0 ≤ xm2 ∧ xm2 < 18446744073709551616) (hw1 : 0 ≤ xw1 ∧ xw1 < 18446744073709551616) (hw2 : 0 ≤ xw2 ∧ xw2 < 18446744073709551616) (htg : 0 ≤ xtg ∧ xtg < 18446744073709551616) (hto : 0 ≤ xto ∧ xto < 4294967296) (hlg : 0 ≤ xlg ∧ xlg < 4294967296) (hcd : 0 ≤ xcd ∧ xcd < 65536) (hfl : 0 ≤ xfl ∧ xfl < 65536) (hst : 0 ≤ xst ∧ xst < 18446744073709551616) : num (putTransferD xi1 xi2 xd1 xd2 xc1 xc2 xm1 xm2 xw1 xw2 xtg xto xlg xcd xfl xst) 56 8 = xm2 := by
  rw [refTransfer_D]
  repeat (first | rw [num_cat_lo (by omega)] | rw [num_cat_hi (by omega)])
  exact (num_dgt hm1 hm2).2
theorem putTransfer_back8 (xi1 xi2 xd1 xd2 xc1 xc2 xm1 xm2 xw1 xw2 xtg xto xlg xcd xfl xst : Int) (hi1 : 0 ≤ xi1 ∧ xi1 < 18446744073709551616) (hi2 : 0 ≤ xi2 ∧ xi2 < 18446744073709551616) (hd1 : 0 ≤ xd1 ∧ xd1 < 18446744073709551616) (hd2 : 0 ≤ xd2 ∧ xd2 < 18446744073709551616) (hc1 : 0 ≤ xc1 ∧ xc1 < 18446744073709551616) (hc2 : 0 ≤ xc2 ∧ xc2 < 18446744073709551616) (hm1 : 0 ≤ xm1 ∧ xm1 < 18446744073709551616) (hm2 : 0 ≤ xm2 ∧ xm2 < 18446744073709551616) (hw1 : 0 ≤ xw1 ∧ xw1 < 18446744073709551616) (hw2 : 0 ≤ xw2 ∧ xw2 < 18446744073709551616) (htg : 0 ≤ xtg ∧ xtg < 18446744073709551616) (hto : 0 ≤ xto ∧ xto < 4294967296) (hlg : 0 ≤ xlg ∧ xlg < 4294967296) (hcd : 0 ≤ xcd ∧ xcd < 65536) (hfl : 0 ≤ xfl ∧ xfl < 65536) (hst : 0 ≤ xst ∧ xst < 18446744073709551616) : num (putTransferD xi1 xi2 xd1 xd2 xc1 xc2 xm1 xm2 xw1 xw2 xtg xto xlg xcd xfl xst) 64 8 = xw1 := by
  rw [refTransfer_D]
  repeat (first | rw [num_cat_lo (by omega)] | rw [num_cat_hi (by omega)])
  exact (num_dgt hw1 hw2).1
theorem putTransfer_back9 (xi1 xi2 xd1 xd2 xc1 xc2 xm1 xm2 xw1 xw2 xtg xto xlg xcd xfl xst : Int) (hi1 : 0 ≤ xi1 ∧ xi1 < 18446744073709551616) (hi2 : 0 ≤ xi2 ∧ xi2 < 18446744073709551616) (hd1 : 0 ≤ xd1 ∧ xd1 < 18446744073709551616) (hd2 : 0 ≤ xd2 ∧ xd2 < 18446744073709551616) (hc1 : 0 ≤ xc1 ∧ xc1 < 18446744073709551616) (hc2 : 0 ≤ xc2 ∧ xc2 < 18446744073709551616) (hm1 : 0 ≤ xm1 ∧ xm1 < 18446744073709551616) (hm2 : 0 ≤ xm2 ∧ xm2 < 18446744073709551616) (hw1 : 0 ≤ xw1 ∧ xw1 < 18446744073709551616) (hw2 : 0 ≤ xw2 ∧ xw2 < 18446744073709551616) (htg : 0 ≤ xtg ∧ xtg < 18446744073709551616) (hto : 0 ≤ xto ∧ xto < 4294967296) (hlg : 0 ≤ xlg ∧ xlg < 4294967296) (hcd : 0 ≤ xcd ∧ xcd < 65536) (hfl : 0 ≤ xfl ∧ xfl < 65536) (hst : 0 ≤ xst ∧ xst < 18446744073709551616) : num (putTransferD xi1 xi2 xd1 xd2 xc1 xc2 xm1 xm2 xw1 xw2 xtg xto xlg xcd xfl xst) 72 8 = xw2 := by
  rw [refTransfer_D]
  repeat (first | rw [num_cat_lo (by omega)] | rw [num_cat_hi (by omega)])
  exact (num_dgt hw1 hw2).2
theorem putTransfer_back10 (xi1 xi2 xd1 xd2 xc1 xc2 xm1 xm2 xw1 xw2 xtg xto xlg xcd xfl xst : Int) (hi1 : 0 ≤ xi1 ∧ xi1 < 18446744073709551616) (hi2 : 0 ≤ xi2 ∧ xi2 < 18446744073709551616) (hd1 : 0 ≤ xd1 ∧ xd1 < 18446744073709551616) (hd2 : 0 ≤ xd2 ∧ xd2 < 18446744073709551616) (hc1 : 0 ≤ xc1 ∧ xc1 < 18446744073709551616) (hc2 : 0 ≤ xc2 ∧ xc2 < 18446744073709551616) (hm1 : 0 ≤ xm1 ∧ xm1 < 18446744073709551616) (hm2 : 0 ≤ xm2 ∧ xm2 < 18446744073709551616) (hw1 : 0 ≤ xw1 ∧ xw1 < 18446744073709551616) (hw2 : 0 ≤ xw2 ∧ xw2 < 18446744073709551616) (htg : 0 ≤ xtg ∧ xtg < 18446744073709551616) (hto : 0 ≤ xto ∧ xto < 4294967296) (hlg : 0 ≤ xlg ∧ xlg < 4294967296) (hcd : 0 ≤ xcd ∧ xcd < 65536) (hfl : 0 ≤ xfl ∧ xfl < 65536) (hst : 0 ≤ xst ∧ xst < 18446744073709551616) : num (putTransferD xi1 xi2 xd1 xd2 xc1 xc2 xm1 xm2 xw1 xw2 xtg xto xlg xcd xfl xst) 80 8 = xtg := by
  rw [refTransfer_D]
  repeat (first | rw [num_cat_lo (by omega)] | rw [num_cat_hi (by omega)])
  exact num_nb8 htg
theorem putTransfer_back11 (xi1 xi2 xd1 xd2 xc1 xc2 xm1 xm2 xw1 xw2 xtg xto xlg xcd xfl xst : Int) (hi1 : 0 ≤ xi1 ∧ xi1 < 18446744073709551616) (hi2 : 0 ≤ xi2 ∧ xi2 < 18446744073709551616) (hd1 : 0 ≤ xd1 ∧ xd1 < 18446744073709551616) (hd2 : 0 ≤ xd2 ∧ xd2 < 18446744073709551616) (hc1 : 0 ≤ xc1 ∧ xc1 < 18446744073709551616) (hc2 : 0 ≤ xc2 ∧ xc2 < 18446744073709551616) (hm1 : 0 ≤ xm1 ∧ xm1 < 18446744073709551616) (hm2 : 0 ≤ xm2 ∧ xm2 < 18446744073709551616) (hw1 : 0 ≤ xw1 ∧ xw1 < 18446744073709551616) (hw2 : 0 ≤ xw2 ∧ xw2 < 18446744073709551616) (htg : 0 ≤ xtg ∧ xtg < 18446744073709551616) (hto : 0 ≤ xto ∧ xto < 4294967296) (hlg : 0 ≤ xlg ∧ xlg < 4294967296) (hcd : 0 ≤ xcd ∧ xcd < 65536) (hfl : 0 ≤ xfl ∧ xfl < 65536) (hst : 0 ≤ xst ∧ xst < 18446744073709551616) : num (putTransferD xi1 xi2 xd1 xd2 xc1 xc2 xm1 xm2 xw1 xw2 xtg xto xlg xcd xfl xst) 88 4 = xto := by
  rw [refTransfer_D]
  repeat (first | rw [num_cat_lo (by omega)] | rw [num_cat_hi (by omega)])
  exact num_nb4 hto
theorem putTransfer_back12 (xi1 xi2 xd1 xd2 xc1 xc2 xm1 xm2 xw1 xw2 xtg xto xlg xcd xfl xst : Int) (hi1 : 0 ≤ xi1 ∧ xi1 < 18446744073709551616) (hi2 : 0 ≤ xi2 ∧ xi2 < 18446744073709551616) (hd1 : 0 ≤ xd1 ∧ xd1 < 18446744073709551616) (hd2 : 0 ≤ xd2 ∧ xd2 < 18446744073709551616) (hc1 : 0 ≤ xc1 ∧ xc1 < 18446744073709551616) (hc2 : 0 ≤ xc2 ∧ xc2 < 18446744073709551616) (hm1 : 0 ≤ xm1 ∧ xm1 < 18446744073709551616) (hm2 : 0 ≤ xm2 ∧ xm2 < 18446744073709551616) (hw1 : 0 ≤ xw1 ∧ xw1 < 18446744073709551616) (hw2 : 0 ≤ xw2 ∧ xw2 < 18446744073709551616) (htg : 0 ≤ xtg ∧ xtg < 18446744073709551616) (hto : 0 ≤ xto ∧ xto < 4294967296) (hlg : 0 ≤ xlg ∧ xlg < 4294967296) (hcd : 0 ≤ xcd ∧ xcd < 65536) (hfl : 0 ≤ xfl ∧ xfl < 65536) (hst : 0 ≤ xst ∧ xst < 18446744073709551616) : num (putTransferD xi1 xi2 xd1 xd2 xc1 xc2 xm1 xm2 xw1 xw2 xtg xto xlg xcd xfl xst) 92 4 = xlg := by
  rw [refTransfer_D]
  repeat (first | rw [num_cat_lo (by omega)] | rw [num_cat_hi (by omega)])
  exact num_nb4 hlg
theorem putTransfer_back13 (xi1 xi2 xd1 xd2 xc1 xc2 xm1 xm2 xw1 xw2 xtg xto xlg xcd xfl xst : Int) (hi1 : 0 ≤ xi1 ∧ xi1 < 18446744073709551616) (hi2 : 0 ≤ xi2 ∧ xi2 < 18446744073709551616) (hd1 : 0 ≤ xd1 ∧ xd1 < 18446744073709551616) (hd2 : 0 ≤ xd2 ∧ xd2 < 18446744073709551616) (hc1 : 0 ≤ xc1 ∧ xc1 < 18446744073709551616) (hc2 : 0 ≤ xc2 ∧ xc2 < 18446744073709551616) (hm1 : 0 ≤ xm1 ∧ xm1 < 18446744073709551616) (hm2 : 0 ≤ xm2 ∧ xm2 < 18446744073709551616) (hw1 : 0 ≤ xw1 ∧ xw1 < 18446744073709551616) (hw2 : 0 ≤ xw2 ∧ xw2 < 18446744073709551616) (htg : 0 ≤ xtg ∧ xtg < 18446744073709551616) (hto : 0 ≤ xto ∧ xto < 4294967296) (hlg : 0 ≤ xlg ∧ xlg < 4294967296) (hcd : 0 ≤ xcd ∧ xcd < 65536) (hfl : 0 ≤ xfl ∧ xfl < 65536) (hst : 0 ≤ xst ∧ xst < 18446744073709551616) : num (putTransferD xi1 xi2 xd1 xd2 xc1 xc2 xm1 xm2 xw1 xw2 xtg xto xlg xcd xfl xst) 96 2 = xcd := by
  rw [refTransfer_D]
  repeat (first | rw [num_cat_lo (by omega)] | rw [num_cat_hi (by omega)])
  exact num_nb2 hcd
theorem putTransfer_back14 (xi1 xi2 xd1 xd2 xc1 xc2 xm1 xm2 xw1 xw2 xtg xto xlg xcd xfl xst : Int) (hi1 : 0 ≤ xi1 ∧ xi1 < 18446744073709551616) (hi2 : 0 ≤ xi2 ∧ xi2 < 18446744073709551616) (hd1 : 0 ≤ xd1 ∧ xd1 < 18446744073709551616) (hd2 : 0 ≤ xd2 ∧ xd2 < 18446744073709551616) (hc1 : 0 ≤ xc1 ∧ xc1 < 18446744073709551616) (hc2 : 0 ≤ xc2 ∧ xc2 < 18446744073709551616) (hm1 : 0 ≤ xm1 ∧ xm1 < 18446744073709551616) (hm2 : 0 ≤ xm2 ∧ xm2 < 18446744073709551616) (hw1 : 0 ≤ xw1 ∧ xw1 < 18446744073709551616) (hw2 : 0 ≤ xw2 ∧ xw2 < 18446744073709551616) (htg : 0 ≤ xtg ∧ xtg < 18446744073709551616) (hto : 0 ≤ xto ∧ xto < 4294967296) (hlg : 0 ≤ xlg ∧ xlg < 4294967296) (hcd : 0 ≤ xcd ∧ xcd < 65536) (hfl : 0 ≤ xfl ∧ xfl < 65536) (hst : 0 ≤ xst ∧ xst < 18446744073709551616) : num (putTransferD xi1 xi2 xd1 xd2 xc1 xc2 xm1 xm2 xw1 xw2 xtg xto xlg xcd xfl xst) 98 2 = xfl := by
  rw [refTransfer_D]
  repeat (first | rw [num_cat_lo (by omega)] | rw [num_cat_hi (by omega)])
  exact num_nb2 hfl
theorem putTransfer_back15 (xi1 xi2 xd1 xd2 xc1 xc2 xm1 xm2 xw1 xw2 xtg xto xlg xcd xfl xst : Int) (hi1 : 0 ≤ xi1 ∧ xi1 < 18446744073709551616) (hi2 : 0 ≤ xi2 ∧ xi2 < 18446744073709551616) (hd1 : 0 ≤ xd1 ∧ xd1 < 18446744073709551616) (hd2 : 0 ≤ xd2 ∧ xd2 < 18446744073709551616) (hc1 : 0 ≤ xc1 ∧ xc1 < 18446744073709551616) (hc2 : 0 ≤ xc2 ∧ xc2 < 18446744073709551616) (hm1 : 0 ≤ xm1 ∧ xm1 < 18446744073709551616) (hm2 : 0 ≤ xm2 ∧ xm2 < 18446744073709551616) (hw1 : 0 ≤ xw1 ∧ xw1 < 18446744073709551616) (hw2 : 0 ≤ xw2 ∧ xw2 < 18446744073709551616) (htg : 0 ≤ xtg ∧ xtg < 18446744073709551616) (hto : 0 ≤ xto ∧ xto < 4294967296) (hlg : 0 ≤ xlg ∧ xlg < 4294967296) (hcd : 0 ≤ xcd ∧ xcd < 65536) (hfl : 0 ≤ xfl ∧ xfl < 65536) (hst : 0 ≤ xst ∧ xst < 18446744073709551616) : num (putTransferD xi1 xi2 xd1 xd2 xc1 xc2 xm1 xm2 xw1 xw2 xtg xto xlg xcd xfl xst) 100 8 = xst := by
  rw [refTransfer_D]
  repeat (first | rw [num_cat_lo (by omega)] | rw [num_cat_hi (by omega)])
  exact num_nb8 hst
theorem getTransfer_at (xi1 xi2 xd1 xd2 xc1 xc2 xm1 xm2 xw1 xw2 xtg xto xlg xcd xfl xst : Int) (hi1 : 0 ≤ xi1 ∧ xi1 < 18446744073709551616) (hi2 : 0 ≤ xi2 ∧ xi2 < 18446744073709551616) (hd1 : 0 ≤ xd1 ∧ xd1 < 18446744073709551616) (hd2 : 0 ≤ xd2 ∧ xd2 < 18446744073709551616) (hc1 : 0 ≤ xc1 ∧ xc1 < 18446744073709551616) (hc2 : 0 ≤ xc2 ∧ xc2 < 18446744073709551616) (hm1 : 0 ≤ xm1 ∧ xm1 < 18446744073709551616) (hm2 : 0 ≤ xm2 ∧ xm2 < 18446744073709551616) (hw1 : 0 ≤ xw1 ∧ xw1 < 18446744073709551616) (hw2 : 0 ≤ xw2 ∧ xw2 < 18446744073709551616) (htg : 0 ≤ xtg ∧ xtg < 18446744073709551616) (hto : 0 ≤ xto ∧ xto < 4294967296) (hlg : 0 ≤ xlg ∧ xlg < 4294967296) (hcd : 0 ≤ xcd ∧ xcd < 65536) (hfl : 0 ≤ xfl ∧ xfl < 65536) (hst : 0 ≤ xst ∧ xst < 18446744073709551616) (A : Option Addr) (c : Nat) (hmc : 108 ≤ c) (hC : c ≤ maxLen) (w : World) (hs : SlIs w A 108 (yV (putTransferD xi1 xi2 xd1 xd2 xc1 xc2 xm1 xm2 xw1 xw2 xtg xto xlg xcd xfl xst))) : Calls Try.prog 36 #[.slice A 108 c] w fun r w' => r = .returned (.tuple #[.agg #[.int .u64 xi1, .int .u64 xi2, .int .u64 xd1, .int .u64 xd2, .int .u64 xc1, .int .u64 xc2, .int .u64 xm1, .int .u64 xm2, .int .u64 xw1, .int .u64 xw2, .int .u64 xtg, .int .u32 xto, .int .u32 xlg, .int .u16 xcd, .int .u16 xfl, .int .u64 xst], .bool true]) ∧ Below w.heap.size w w' := by
  have h := getTransfer_yes A c (putTransferD xi1 xi2 xd1 xd2 xc1 xc2 xm1 xm2 xw1 xw2 xtg xto xlg xcd xfl xst) (putTransfer_ok xi1 xi2 xd1 xd2 xc1 xc2 xm1 xm2 xw1 xw2 xtg xto xlg xcd xfl xst) hmc hC w hs
  rw [putTransfer_back0 xi1 xi2 xd1 xd2 xc1 xc2 xm1 xm2 xw1 xw2 xtg xto xlg xcd xfl xst hi1 hi2 hd1 hd2 hc1 hc2 hm1 hm2 hw1 hw2 htg hto hlg hcd hfl hst, putTransfer_back1 xi1 xi2 xd1 xd2 xc1 xc2 xm1 xm2 xw1 xw2 xtg xto xlg xcd xfl xst hi1 hi2 hd1 hd2 hc1 hc2 hm1 hm2 hw1 hw2 htg hto hlg hcd hfl hst, putTransfer_back2 xi1 xi2 xd1 xd2 xc1 xc2 xm1 xm2 xw1 xw2 xtg xto xlg xcd xfl xst hi1 hi2 hd1 hd2 hc1 hc2 hm1 hm2 hw1 hw2 htg hto hlg hcd hfl hst, putTransfer_back3 xi1 xi2 xd1 xd2 xc1 xc2 xm1 xm2 xw1 xw2 xtg xto xlg xcd xfl xst hi1 hi2 hd1 hd2 hc1 hc2 hm1 hm2 hw1 hw2 htg hto hlg hcd hfl hst, putTransfer_back4 xi1 xi2 xd1 xd2 xc1 xc2 xm1 xm2 xw1 xw2 xtg xto xlg xcd xfl xst hi1 hi2 hd1 hd2 hc1 hc2 hm1 hm2 hw1 hw2 htg hto hlg hcd hfl hst, putTransfer_back5 xi1 xi2 xd1 xd2 xc1 xc2 xm1 xm2 xw1 xw2 xtg xto xlg xcd xfl xst hi1 hi2 hd1 hd2 hc1 hc2 hm1 hm2 hw1 hw2 htg hto hlg hcd hfl hst, putTransfer_back6 xi1 xi2 xd1 xd2 xc1 xc2 xm1 xm2 xw1 xw2 xtg xto xlg xcd xfl xst hi1 hi2 hd1 hd2 hc1 hc2 hm1 hm2 hw1 hw2 htg hto hlg hcd hfl hst, putTransfer_back7 xi1 xi2 xd1 xd2 xc1 xc2 xm1 xm2 xw1 xw2 xtg xto xlg xcd xfl xst hi1 hi2 hd1 hd2 hc1 hc2 hm1 hm2 hw1 hw2 htg hto hlg hcd hfl hst, putTransfer_back8 xi1 xi2 xd1 xd2 xc1 xc2 xm1 xm2 xw1 xw2 xtg xto xlg xcd xfl xst hi1 hi2 hd1 hd2 hc1 hc2 hm1 hm2 hw1 hw2 htg hto hlg hcd hfl hst, putTransfer_back9 xi1 xi2 xd1 xd2 xc1 xc2 xm1 xm2 xw1 xw2 xtg xto xlg xcd xfl xst hi1 hi2 hd1 hd2 hc1 hc2 hm1 hm2 hw1 hw2 htg hto hlg hcd hfl hst, putTransfer_back10 xi1 xi2 xd1 xd2 xc1 xc2 xm1 xm2 xw1 xw2 xtg xto xlg xcd xfl xst hi1 hi2 hd1 hd2 hc1 hc2 hm1 hm2 hw1 hw2 htg hto hlg hcd hfl hst, putTransfer_back11 xi1 xi2 xd1 xd2 xc1 xc2 xm1 xm2 xw1 xw2 xtg xto xlg xcd xfl xst hi1 hi2 hd1 hd2 hc1 hc2 hm1 hm2 hw1 hw2 htg hto hlg hcd hfl hst, putTransfer_back12 xi1 xi2 xd1 xd2 xc1 xc2 xm1 xm2 xw1 xw2 xtg xto xlg xcd xfl xst hi1 hi2 hd1 hd2 hc1 hc2 hm1 hm2 hw1 hw2 htg hto hlg hcd hfl hst, putTransfer_back13 xi1 xi2 xd1 xd2 xc1 xc2 xm1 xm2 xw1 xw2 xtg xto xlg xcd xfl xst hi1 hi2 hd1 hd2 hc1 hc2 hm1 hm2 hw1 hw2 htg hto hlg hcd hfl hst, putTransfer_back14 xi1 xi2 xd1 xd2 xc1 xc2 xm1 xm2 xw1 xw2 xtg xto xlg xcd xfl xst hi1 hi2 hd1 hd2 hc1 hc2 hm1 hm2 hw1 hw2 htg hto hlg hcd hfl hst, putTransfer_back15 xi1 xi2 xd1 xd2 xc1 xc2 xm1 xm2 xw1 xw2 xtg xto xlg xcd xfl xst hi1 hi2 hd1 hd2 hc1 hc2 hm1 hm2 hw1 hw2 htg hto hlg hcd hfl hst] at h
  exact h
end Go.Proofs.Ytncampbmnbhikaa
-- Wrv
namespace Go.Proofs.Ytncampbmnbhikaa
set_option linter.unusedVariables false
set_option linter.unusedSimpArgs false
open Go.RowKit

theorem lenRp_R {d : Rp} (h0 : d.st = 0) (h1 : d.kd = 1 ∨ d.kd = 2) : lenRp d = 2 + d.rn * 8 := by rcases h1 with h1 | h1 <;> simp [lenRp, h0, h1]
theorem bytRp_R {d : Rp} (h0 : d.st = 0) (h1 : d.kd = 1 ∨ d.kd = 2) : bytRp d = cat (hd2 d.kd) 2 (rowsF 8 fun i => byR (d.RF i)) := by rcases h1 with h1 | h1 <;> simp [bytRp, h0, h1]
theorem lenRp_A {d : Rp} (h0 : d.st = 0) (h1 : d.kd = 3) : lenRp d = 2 + d.an * 104 := by simp [lenRp, h0, h1]
theorem bytRp_A {d : Rp} (h0 : d.st = 0) (h1 : d.kd = 3) : bytRp d = cat (hd2 d.kd) 2 (rowsF 104 fun i => byA (d.AF i)) := by simp [bytRp, h0, h1]
theorem lenRp_T {d : Rp} (h0 : d.st = 0) (h1 : d.kd = 4 ∨ d.kd = 5) : lenRp d = 2 + d.tn * 108 := by rcases h1 with h1 | h1 <;> simp [lenRp, h0, h1]
theorem bytRp_T {d : Rp} (h0 : d.st = 0) (h1 : d.kd = 4 ∨ d.kd = 5) : bytRp d = cat (hd2 d.kd) 2 (rowsF 108 fun i => byT (d.TF i)) := by rcases h1 with h1 | h1 <;> simp [bytRp, h0, h1]
theorem lenRp_B {d : Rp} (h0 : d.st = 0) (h1 : d.kd = 6) : lenRp d = 2 + d.bn * 72 := by simp [lenRp, h0, h1]
theorem bytRp_B {d : Rp} (h0 : d.st = 0) (h1 : d.kd = 6) : bytRp d = cat (hd2 d.kd) 2 (rowsF 72 fun i => byB (d.BF i)) := by simp [bytRp, h0, h1]
theorem lenRp_7 {d : Rp} (h0 : d.st = 0) (h1 : d.kd = 7) : lenRp d = 6 := by simp [lenRp, h0, h1]
theorem bytRp_7 {d : Rp} (h0 : d.st = 0) (h1 : d.kd = 7) : bytRp d = cat (hd2 7) 2 (nb 4 d.ct) := by simp [bytRp, h0, h1]
theorem zero_ct : 0 ≤ zeroRp.ct ∧ zeroRp.ct < 4294967296 := by decide
theorem hd2_at {e : Nat → Int} {k : Int} (h0 : e 0 = 0) (h1 : e 1 = k) : ∀ j, j < 2 → hd2 k j = e j := by
  intro j hj
  rcases (by omega : j = 0 ∨ j = 1) with rfl | rfl
  · exact h0.symm
  · exact h1.symm
theorem back_R {e : Nat → Int} (he : ∀ i, 0 ≤ e i ∧ e i < 256) {k : Int} {n : Nat} (h0 : e 0 = 0) (h1 : e 1 = k) (h2 : 2 ≤ n) (hm : (n - 2) % 8 = 0) : ∀ j, j < n → cat (hd2 k) 2 (rowsF 8 (fun i => byR (rdR (shf e (2 + i * 8))))) j = e j :=
  cat_back (n := 2) (m := n - 2) (by omega) (hd2_at h0 h1) (fun j hj => rows_back (S := 8) (h := 2) (q := (n - 2) / 8) (by omega) (fun i _ j hj => by_rdR (shf_lo he _) j hj) j (by omega))
theorem back_A {e : Nat → Int} (he : ∀ i, 0 ≤ e i ∧ e i < 256) {k : Int} {n : Nat} (h0 : e 0 = 0) (h1 : e 1 = k) (h2 : 2 ≤ n) (hm : (n - 2) % 104 = 0) : ∀ j, j < n → cat (hd2 k) 2 (rowsF 104 (fun i => byA (rdA (shf e (2 + i * 104))))) j = e j :=
  cat_back (n := 2) (m := n - 2) (by omega) (hd2_at h0 h1) (fun j hj => rows_back (S := 104) (h := 2) (q := (n - 2) / 104) (by omega) (fun i _ j hj => by_rdA (shf_lo he _) j hj) j (by omega))
theorem back_T {e : Nat → Int} (he : ∀ i, 0 ≤ e i ∧ e i < 256) {k : Int} {n : Nat} (h0 : e 0 = 0) (h1 : e 1 = k) (h2 : 2 ≤ n) (hm : (n - 2) % 108 = 0) : ∀ j, j < n → cat (hd2 k) 2 (rowsF 108 (fun i => byT (rdT (shf e (2 + i * 108))))) j = e j :=
  cat_back (n := 2) (m := n - 2) (by omega) (hd2_at h0 h1) (fun j hj => rows_back (S := 108) (h := 2) (q := (n - 2) / 108) (by omega) (fun i _ j hj => by_rdT (shf_lo he _) j hj) j (by omega))
theorem back_B {e : Nat → Int} (he : ∀ i, 0 ≤ e i ∧ e i < 256) {k : Int} {n : Nat} (h0 : e 0 = 0) (h1 : e 1 = k) (h2 : 2 ≤ n) (hm : (n - 2) % 72 = 0) : ∀ j, j < n → cat (hd2 k) 2 (rowsF 72 (fun i => byB (rdB (shf e (2 + i * 72))))) j = e j :=
  cat_back (n := 2) (m := n - 2) (by omega) (hd2_at h0 h1) (fun j hj => rows_back (S := 72) (h := 2) (q := (n - 2) / 72) (by omega) (fun i _ j hj => by_rdB (shf_lo he _) j hj) j (by omega))
theorem back_ct {e : Nat → Int} (he : ∀ i, 0 ≤ e i ∧ e i < 256) (h0 : e 0 = 0) (h1 : e 1 = 7) : ∀ j, j < 6 → cat (hd2 7) 2 (nb 4 (num e 2 4)) j = e j :=
  cat_back (n := 2) (m := 4) rfl (hd2_at h0 h1) (fun j hj => nb_num he 2 4 j hj)
theorem ok_zero : okRp zeroRp := ⟨fun _ => ok_zeroR, fun _ => ok_zeroA, fun _ => ok_zeroT, fun _ => ok_zeroB, by decide, by decide⟩
theorem fit_zero : fitRp zeroRp := by unfold fitRp zeroRp; simp
theorem read_back {n : Nat} {e : Nat → Int} {d : Rp} (he : ∀ i, 0 ≤ e i ∧ e i < 256) (hn : n ≤ 30000) (h : readRp n e = some d) : lenRp d = n ∧ (∀ j, j < n → bytRp d j = e j) ∧ okRp d ∧ fitRp d := by
  unfold readRp at h
  by_cases c0 : n = 1 ∧ 1 ≤ e 0 ∧ e 0 ≤ 4
  · rw [if_pos c0] at h
    cases h
    obtain ⟨rfl, c1, c2⟩ := c0
    refine ⟨?_, fun j hj => ?_, ok_zero, fit_zero⟩
    · unfold lenRp
      rw [if_neg (by dsimp only; omega), if_pos (by dsimp only; omega)]
    · obtain rfl : j = 0 := by omega
      unfold bytRp
      rw [if_pos (by dsimp only; omega)]
  rw [if_neg c0] at h
  by_cases c1 : n < 2 ∨ e 0 ≠ 0
  · rw [if_pos c1] at h; cases h
  rw [if_neg c1] at h
  have h0 : e 0 = 0 := by omega
  have n2 : 2 ≤ n := by omega
  by_cases c2 : (e 1 = 1 ∨ e 1 = 2) ∧ (n - 2) % 8 = 0
  · rw [if_pos c2] at h
    cases h
    refine ⟨(lenRp_R rfl c2.1).trans (by dsimp only; omega), fun j hj => ?_, ⟨fun i => ok_rdR (shf_lo he _), fun _ => ok_zeroA, fun _ => ok_zeroT, fun _ => ok_zeroB, zero_ct.1, zero_ct.2⟩, ?_⟩
    · rw [bytRp_R rfl c2.1]
      exact back_R he h0 rfl n2 c2.2 j hj
    · unfold fitRp zeroRp; dsimp only; omega
  rw [if_neg c2] at h
  by_cases c3 : e 1 = 3 ∧ (n - 2) % 104 = 0
  · rw [if_pos c3] at h
    cases h
    refine ⟨(lenRp_A rfl c3.1).trans (by dsimp only; omega), fun j hj => ?_, ⟨fun _ => ok_zeroR, fun i => ok_rdA (shf_lo he _), fun _ => ok_zeroT, fun _ => ok_zeroB, zero_ct.1, zero_ct.2⟩, ?_⟩
    · rw [bytRp_A rfl c3.1]
      exact back_A he h0 rfl n2 c3.2 j hj
    · unfold fitRp zeroRp; dsimp only; omega
  rw [if_neg c3] at h
  by_cases c4 : (e 1 = 4 ∨ e 1 = 5) ∧ (n - 2) % 108 = 0
  · rw [if_pos c4] at h
    cases h
    refine ⟨(lenRp_T rfl c4.1).trans (by dsimp only; omega), fun j hj => ?_, ⟨fun _ => ok_zeroR, fun _ => ok_zeroA, fun i => ok_rdT (shf_lo he _), fun _ => ok_zeroB, zero_ct.1, zero_ct.2⟩, ?_⟩
    · rw [bytRp_T rfl c4.1]
      exact back_T he h0 rfl n2 c4.2 j hj
    · unfold fitRp zeroRp; dsimp only; omega
  rw [if_neg c4] at h
  by_cases c5 : e 1 = 6 ∧ (n - 2) % 72 = 0
  · rw [if_pos c5] at h
    cases h
    refine ⟨(lenRp_B rfl c5.1).trans (by dsimp only; omega), fun j hj => ?_, ⟨fun _ => ok_zeroR, fun _ => ok_zeroA, fun _ => ok_zeroT, fun i => ok_rdB (shf_lo he _), zero_ct.1, zero_ct.2⟩, ?_⟩
    · rw [bytRp_B rfl c5.1]
      exact back_B he h0 rfl n2 c5.2 j hj
    · unfold fitRp zeroRp; dsimp only; omega
  rw [if_neg c5] at h
  by_cases c7 : e 1 = 7 ∧ n = 6
  · rw [if_pos c7] at h
    cases h
    obtain ⟨h1, rfl⟩ := c7
    refine ⟨lenRp_7 rfl rfl, fun j hj => ?_, ⟨fun _ => ok_zeroR, fun _ => ok_zeroA, fun _ => ok_zeroT, fun _ => ok_zeroB, (num_four he 2).1, (num_four he 2).2⟩, fit_zero⟩
    rw [bytRp_7 rfl rfl]
    exact back_ct he h0 h1 j hj
  rw [if_neg c7] at h
  cases h
theorem hd2_ok {k : Int} (h : 0 ≤ k ∧ k < 256) (i : Nat) : 0 ≤ hd2 k i ∧ hd2 k i < 256 := by unfold hd2; split <;> omega
theorem cat_byte {d f : Nat → Int} {n : Nat} (h1 : ∀ i, 0 ≤ d i ∧ d i < 256) (h2 : ∀ i, 0 ≤ f i ∧ f i < 256) (j : Nat) : 0 ≤ cat d n f j ∧ cat d n f j < 256 := by
  by_cases h : j < n
  · rw [cat_lo h]; exact h1 j
  · obtain ⟨i, rfl⟩ : ∃ i, j = n + i := ⟨j - n, by omega⟩
    rw [cat_hi]; exact h2 i
theorem nb_byte (k : Nat) (x : Int) (i : Nat) : 0 ≤ nb k x i ∧ nb k x i < 256 := by unfold nb; omega
theorem byt_ok {d : Rp} (h : lenRp d ≠ 0) (i : Nat) : 0 ≤ bytRp d i ∧ bytRp d i < 256 := by
  unfold lenRp at h
  unfold bytRp
  by_cases c0 : d.st < 0 ∨ 4 < d.st
  · rw [if_pos c0] at h; exact absurd rfl h
  rw [if_neg c0] at h
  by_cases c1 : d.st ≠ 0
  · rw [if_pos c1]; exact (by omega : 0 ≤ d.st ∧ d.st < 256)
  rw [if_neg c1] at h ⊢
  have hk : 1 ≤ d.kd ∧ d.kd ≤ 7 := by
    by_cases k : 1 ≤ d.kd ∧ d.kd ≤ 7
    · exact k
    · rw [if_neg (by omega), if_neg (by omega), if_neg (by omega), if_neg (by omega), if_neg (by omega)] at h
      exact absurd rfl h
  refine cat_byte (hd2_ok (by omega)) ?_ i
  intro i
  split
  · exact rowsF_ok (fun i r => putResult_ok _ _ r) i
  split
  · exact rowsF_ok (fun i r => putAccount_ok _ _ _ _ _ _ _ _ _ _ _ _ _ _ _ r) i
  split
  · exact rowsF_ok (fun i r => putTransfer_ok _ _ _ _ _ _ _ _ _ _ _ _ _ _ _ _ r) i
  split
  · exact rowsF_ok (fun i r => putBalance_ok _ _ _ _ _ _ _ _ _ r) i
  · exact nb_byte _ _ _
end Go.Proofs.Ytncampbmnbhikaa
-- Wrw
namespace Go.Proofs.Ytncampbmnbhikaa
set_option linter.unusedVariables false
set_option linter.unusedSimpArgs false
open Go.RowKit

theorem head_at {e f : Nat → Int} {k : Int} (h : e = cat (hd2 k) 2 f) : e 0 = 0 ∧ e 1 = k := by
  subst h
  exact ⟨cat_lo (by omega), cat_lo (by omega)⟩
theorem read_of {d : Rp} (h : lenRp d ≠ 0) : ∃ d', readRp (lenRp d) (bytRp d) = some d' ∧ d'.st = d.st := by
  by_cases c0 : d.st < 0 ∨ 4 < d.st
  · unfold lenRp at h; rw [if_pos c0] at h; exact absurd rfl h
  by_cases c1 : d.st ≠ 0
  · have e1 : lenRp d = 1 := (if_neg c0).trans (if_pos c1)
    have e2 : bytRp d = fun _ => d.st := if_pos c1
    rw [e1, e2]
    exact ⟨{ zeroRp with st := d.st }, if_pos ⟨rfl, (by show 1 ≤ d.st; omega), (by show d.st ≤ 4; omega)⟩, rfl⟩
  have hs : d.st = 0 := by omega
  rw [hs]
  have hk : d.kd = 1 ∨ d.kd = 2 ∨ d.kd = 3 ∨ d.kd = 4 ∨ d.kd = 5 ∨ d.kd = 6 ∨ d.kd = 7 := by
    by_cases k : 1 ≤ d.kd ∧ d.kd ≤ 7
    · omega
    · unfold lenRp at h
      rw [if_neg c0, if_neg c1, if_neg (by omega), if_neg (by omega), if_neg (by omega), if_neg (by omega), if_neg (by omega)] at h
      exact absurd rfl h
  rcases hk with k | k | k | k | k | k | k
  · have e1 := lenRp_R hs (Or.inl k)
    obtain ⟨h0, h1⟩ := head_at (bytRp_R hs (Or.inl k))
    rw [k] at h1
    generalize bytRp d = e at *
    generalize lenRp d = n at *
    unfold readRp
    rw [if_neg (by omega), if_neg (by omega), if_pos (by omega)]
    exact ⟨_, rfl, rfl⟩
  · have e1 := lenRp_R hs (Or.inr k)
    obtain ⟨h0, h1⟩ := head_at (bytRp_R hs (Or.inr k))
    rw [k] at h1
    generalize bytRp d = e at *
    generalize lenRp d = n at *
    unfold readRp
    rw [if_neg (by omega), if_neg (by omega), if_pos (by omega)]
    exact ⟨_, rfl, rfl⟩
  · have e1 := lenRp_A hs k
    obtain ⟨h0, h1⟩ := head_at (bytRp_A hs k)
    rw [k] at h1
    generalize bytRp d = e at *
    generalize lenRp d = n at *
    unfold readRp
    rw [if_neg (by omega), if_neg (by omega), if_neg (by omega), if_pos (by omega)]
    exact ⟨_, rfl, rfl⟩
  · have e1 := lenRp_T hs (Or.inl k)
    obtain ⟨h0, h1⟩ := head_at (bytRp_T hs (Or.inl k))
    rw [k] at h1
    generalize bytRp d = e at *
    generalize lenRp d = n at *
    unfold readRp
    rw [if_neg (by omega), if_neg (by omega), if_neg (by omega), if_neg (by omega), if_pos (by omega)]
    exact ⟨_, rfl, rfl⟩
  · have e1 := lenRp_T hs (Or.inr k)
    obtain ⟨h0, h1⟩ := head_at (bytRp_T hs (Or.inr k))
    rw [k] at h1
    generalize bytRp d = e at *
    generalize lenRp d = n at *
    unfold readRp
    rw [if_neg (by omega), if_neg (by omega), if_neg (by omega), if_neg (by omega), if_pos (by omega)]
    exact ⟨_, rfl, rfl⟩
  · have e1 := lenRp_B hs k
    obtain ⟨h0, h1⟩ := head_at (bytRp_B hs k)
    rw [k] at h1
    generalize bytRp d = e at *
    generalize lenRp d = n at *
    unfold readRp
    rw [if_neg (by omega), if_neg (by omega), if_neg (by omega), if_neg (by omega), if_neg (by omega), if_pos (by omega)]
    exact ⟨_, rfl, rfl⟩
  · have e1 := lenRp_7 hs k
    obtain ⟨h0, h1⟩ := head_at (bytRp_7 hs k)
    generalize bytRp d = e at *
    generalize lenRp d = n at *
    unfold readRp
    rw [if_neg (by omega), if_neg (by omega), if_neg (by omega), if_neg (by omega), if_neg (by omega), if_neg (by omega), if_pos (by omega)]
    exact ⟨_, rfl, rfl⟩
end Go.Proofs.Ytncampbmnbhikaa
