/-
  Joined: Wrj Wrk.
-/
import Derived.Test.YtncampbmnbhikaaJ12
import Derived.Test.YtncampbmnbhikaaJ13
-- Wrj
namespace Go.Proofs.Ytncampbmnbhikaa
set_option linter.unusedVariables false
set_option linter.unusedSimpArgs false
open Go.RowKit

theorem refR_ok (f : Nat → Int) (h : okR f) (w : World) : Calls Try.prog 26 #[.agg #[.int .u32 (f 0), .int .u32 (f 1)]] w fun r w' => r = .returned (.string (strF (byR f) 8)) ∧ Below w.heap.size w w' := refResult_any (f 0) (f 1) (h 0) (h 1) w
theorem refA_ok (f : Nat → Int) (h : okA f) (w : World) : Calls Try.prog 27 #[.agg #[.int .u64 (f 0), .int .u64 (f 1), .int .u64 (f 2), .int .u64 (f 3), .int .u64 (f 4), .int .u64 (f 5), .int .u64 (f 6), .int .u64 (f 7), .int .u64 (f 8), .int .u64 (f 9), .int .u64 (f 10), .int .u32 (f 11), .int .u16 (f 12), .int .u16 (f 13), .int .u64 (f 14)]] w fun r w' => r = .returned (.string (strF (byA f) 104)) ∧ Below w.heap.size w w' := refAccount_any (f 0) (f 1) (f 2) (f 3) (f 4) (f 5) (f 6) (f 7) (f 8) (f 9) (f 10) (f 11) (f 12) (f 13) (f 14) (h 0) (h 1) (h 2) (h 3) (h 4) (h 5) (h 6) (h 7) (h 8) (h 9) (h 10) (h 11) (h 12) (h 13) (h 14) w
theorem refT_ok (f : Nat → Int) (h : okT f) (w : World) : Calls Try.prog 28 #[.agg #[.int .u64 (f 0), .int .u64 (f 1), .int .u64 (f 2), .int .u64 (f 3), .int .u64 (f 4), .int .u64 (f 5), .int .u64 (f 6), .int .u64 (f 7), .int .u64 (f 8), .int .u64 (f 9), .int .u64 (f 10), .int .u32 (f 11), .int .u32 (f 12), .int .u16 (f 13), .int .u16 (f 14), .int .u64 (f 15)]] w fun r w' => r = .returned (.string (strF (byT f) 108)) ∧ Below w.heap.size w w' := refTransfer_any (f 0) (f 1) (f 2) (f 3) (f 4) (f 5) (f 6) (f 7) (f 8) (f 9) (f 10) (f 11) (f 12) (f 13) (f 14) (f 15) (h 0) (h 1) (h 2) (h 3) (h 4) (h 5) (h 6) (h 7) (h 8) (h 9) (h 10) (h 11) (h 12) (h 13) (h 14) (h 15) w
theorem refB_ok (f : Nat → Int) (h : okB f) (w : World) : Calls Try.prog 29 #[.agg #[.int .u64 (f 0), .int .u64 (f 1), .int .u64 (f 2), .int .u64 (f 3), .int .u64 (f 4), .int .u64 (f 5), .int .u64 (f 6), .int .u64 (f 7), .int .u64 (f 8)]] w fun r w' => r = .returned (.string (strF (byB f) 72)) ∧ Below w.heap.size w w' := refBalance_any (f 0) (f 1) (f 2) (f 3) (f 4) (f 5) (f 6) (f 7) (f 8) (h 0) (h 1) (h 2) (h 3) (h 4) (h 5) (h 6) (h 7) (h 8) w
theorem slis_hd2 {W : World} {k : Int} {g : Nat} (hg : g = W.heap.size) : SlIs (W.alloc (.cells #[.int .u8 0, .int .u8 k] 5)) (some ⟨g, 0, none⟩) 2 (yV (hd2 k)) := by
  subst hg
  obtain ⟨A, c, e, h⟩ := (own_hd2 (w := W) (W := W) (k := k) (Nat.le_refl _) rfl).slis
  cases e; exact h
section
attribute [local go_sem low] loadV_ptr
attribute [local go_sem ↓] load_WR
set_option maxRecDepth 8000 in
set_option maxHeartbeats 4000000 in
theorem refReply_k1 (RA AA TA BA : Option Addr) (rn rc an ac tn tc bn bc : Nat) (F : Nat → Nat → Int) (ct : Int) (w : World) (hF : ∀ i, okR (F i)) (hn : rn ≤ 5000) (hs : SsIs w RA rn 2 (fun i => clR (F i))) :
    Calls Try.prog 10 #[.agg #[.int .i64 0, .int .i64 1, .slice RA rn rc, .slice AA an ac, .slice TA tn tc, .slice BA bn bc, .int .u32 ct]] w fun r w' => r = .returned (.string (strF (cat (hd2 1) 2 (rowsF 8 fun i => byR (F i))) (2 + rn * 8))) ∧ Below w.heap.size w w' := by
  have HP := Lib.hid refR_ok
  have HF := fun (m : Nat) => strF_congr (rows_next (s := 8) (hd2 1) 2 (fun i => byR (F i)) (m := m) rfl)
  have hcv := conv8 (slis_hd2 (W := w.alloc (.cells #[.int .i64 0, .int .i64 1, .slice RA rn rc, .slice AA an ac, .slice TA tn tc, .slice BA bn bc, .int .u32 ct] 28)) (k := 1) (g := w.heap.size + 1) (by simp)) 2
  rw [show strF (hd2 1) 2 = strF (cat (hd2 1) 2 (rowsF 8 fun i => byR (F i))) 2 from strF_congr (fun i hi => (cat_lo hi).symm)] at hcv
  generalize cat (hd2 1) 2 (rowsF 8 fun i => byR (F i)) = D at *
  replace HF := Lib.hid HF
  replace hs := Lib.hid hs
  replace hF := Lib.hid hF
  go_enter Try.func10, Try.ntmps10
  go_wp2_with fail
  refine abs_wp (fun X => Below w.heap.size w X ∧ Blk X w.heap.size 28 #[.int .i64 0, .int .i64 1, .slice RA rn rc, .slice AA an ac, .slice TA tn tc, .slice BA bn bc, .int .u32 ct]) ⟨by (repeat (first | exact Below.refl _ _ | assumption | refine below_drewN ?_ _ | refine bel_grow ?_ _ | refine Below.drew ?_ | refine bel_alloc ?_ _ | refine bel_set ?_ (by first | exact Nat.le_refl _ | (simp; done) | (simp; omega) | omega) _ | refine bel_trans ?_ (by assumption))), (Blk.new _ _ _).kept (bel_alloc (Below.refl _ _) _)⟩ ?_
  rintro W1 ⟨hb1, hN⟩
  replace hb1 := Lib.hid hb1
  replace hN := Lib.hid hN
  clear hcv
  go_loopw [3, 4] (fun s i wr => ∃ m : Nat, m ≤ rn ∧ i = .int .i64 m ∧ s = .string (strF D (2 + m * 8)) ∧ Hid (Below w.heap.size w wr) ∧ Hid (Blk wr w.heap.size 28 #[.int .i64 0, .int .i64 1, .slice RA rn rc, .slice AA an ac, .slice TA tn tc, .slice BA bn bc, .int .u32 ct])) (fun _ i _ => rn - (intOf i).toNat)
  case atStart => exact ⟨0, by omega, rfl, by simp, hb1.out, hN.out⟩
  case round =>
    obtain ⟨m, hm, rfl, rfl, hbw, gn⟩ := hrel
    clear hN hb1
    have x0 := (gn.out).cell 0
    have x1 := (gn.out).cell 1
    have x2 := (gn.out).cell 2
    have x3 := (gn.out).cell 3
    have x4 := (gn.out).cell 4
    have x5 := (gn.out).cell 5
    have x6 := (gn.out).cell 6
    have xf0 := (gn.out).frozen 0
    have xf1 := (gn.out).frozen 1
    have xf2 := (gn.out).frozen 2
    have xf3 := (gn.out).frozen 3
    have xf4 := (gn.out).frozen 4
    have xf5 := (gn.out).frozen 5
    have xf6 := (gn.out).frozen 6
    have xl := (gn.out).lt
    by_cases hlt : m < rn
    · obtain ⟨b, o, rfl, hbl, hc⟩ := (hs.out.below hbw.out) (by omega)
      have hL := mid_R (hc m hlt)
      clear hc
      have hf := Lib.hid (hF.out m)
      have qa := fun W => add_strF (P := Try.prog) W D (byR (F m)) (2 + m * 8) 8 (by omega)
      rw [HF.out m] at qa
      have hs2 := Lib.hid (show strF D (2 + m * 8 + 8) = strF D (2 + (m + 1) * 8) by congr 1; omega)
      generalize strF D (2 + m * 8 + 8) = s2 at *
      generalize strF D (2 + m * 8) = s0 at *
      have HPm := Lib.hid (fun W => HP.out _ hf.out W)
      generalize strF (byR (F m)) 8 = sk at *
      go_wp2_with fail
      refine (HPm.out _).mono ?_
      rintro e9 w9 ⟨rfl, hb9⟩
      have hB9 := Lib.hid (bel_eld hbw.out hb9)
      have hN9 := Lib.hid (gn.out.kept hb9)
      go_wp2_with fail
      go_roundw
      case rel => exact ⟨m + 1, by omega, by go_num, by rw [hs2.out], hB9.out, hN9.out⟩
      case measure => simp [intOf]; omega
    · obtain rfl : m = rn := by omega
      go_wp2_with fail
      go_ret
      exact ⟨rfl, hbw.out⟩
end
section
attribute [local go_sem low] loadV_ptr
attribute [local go_sem ↓] load_WR
set_option maxRecDepth 8000 in
set_option maxHeartbeats 4000000 in
theorem refReply_k2 (RA AA TA BA : Option Addr) (rn rc an ac tn tc bn bc : Nat) (F : Nat → Nat → Int) (ct : Int) (w : World) (hF : ∀ i, okR (F i)) (hn : rn ≤ 5000) (hs : SsIs w RA rn 2 (fun i => clR (F i))) :
    Calls Try.prog 10 #[.agg #[.int .i64 0, .int .i64 2, .slice RA rn rc, .slice AA an ac, .slice TA tn tc, .slice BA bn bc, .int .u32 ct]] w fun r w' => r = .returned (.string (strF (cat (hd2 2) 2 (rowsF 8 fun i => byR (F i))) (2 + rn * 8))) ∧ Below w.heap.size w w' := by
  have HP := Lib.hid refR_ok
  have HF := fun (m : Nat) => strF_congr (rows_next (s := 8) (hd2 2) 2 (fun i => byR (F i)) (m := m) rfl)
  have hcv := conv8 (slis_hd2 (W := w.alloc (.cells #[.int .i64 0, .int .i64 2, .slice RA rn rc, .slice AA an ac, .slice TA tn tc, .slice BA bn bc, .int .u32 ct] 28)) (k := 2) (g := w.heap.size + 1) (by simp)) 2
  rw [show strF (hd2 2) 2 = strF (cat (hd2 2) 2 (rowsF 8 fun i => byR (F i))) 2 from strF_congr (fun i hi => (cat_lo hi).symm)] at hcv
  generalize cat (hd2 2) 2 (rowsF 8 fun i => byR (F i)) = D at *
  replace HF := Lib.hid HF
  replace hs := Lib.hid hs
  replace hF := Lib.hid hF
  go_enter Try.func10, Try.ntmps10
  go_wp2_with fail
  refine abs_wp (fun X => Below w.heap.size w X ∧ Blk X w.heap.size 28 #[.int .i64 0, .int .i64 2, .slice RA rn rc, .slice AA an ac, .slice TA tn tc, .slice BA bn bc, .int .u32 ct]) ⟨by (repeat (first | exact Below.refl _ _ | assumption | refine below_drewN ?_ _ | refine bel_grow ?_ _ | refine Below.drew ?_ | refine bel_alloc ?_ _ | refine bel_set ?_ (by first | exact Nat.le_refl _ | (simp; done) | (simp; omega) | omega) _ | refine bel_trans ?_ (by assumption))), (Blk.new _ _ _).kept (bel_alloc (Below.refl _ _) _)⟩ ?_
  rintro W1 ⟨hb1, hN⟩
  replace hb1 := Lib.hid hb1
  replace hN := Lib.hid hN
  clear hcv
  go_loopw [3, 4] (fun s i wr => ∃ m : Nat, m ≤ rn ∧ i = .int .i64 m ∧ s = .string (strF D (2 + m * 8)) ∧ Hid (Below w.heap.size w wr) ∧ Hid (Blk wr w.heap.size 28 #[.int .i64 0, .int .i64 2, .slice RA rn rc, .slice AA an ac, .slice TA tn tc, .slice BA bn bc, .int .u32 ct])) (fun _ i _ => rn - (intOf i).toNat)
  case atStart => exact ⟨0, by omega, rfl, by simp, hb1.out, hN.out⟩
  case round =>
    obtain ⟨m, hm, rfl, rfl, hbw, gn⟩ := hrel
    clear hN hb1
    have x0 := (gn.out).cell 0
    have x1 := (gn.out).cell 1
    have x2 := (gn.out).cell 2
    have x3 := (gn.out).cell 3
    have x4 := (gn.out).cell 4
    have x5 := (gn.out).cell 5
    have x6 := (gn.out).cell 6
    have xf0 := (gn.out).frozen 0
    have xf1 := (gn.out).frozen 1
    have xf2 := (gn.out).frozen 2
    have xf3 := (gn.out).frozen 3
    have xf4 := (gn.out).frozen 4
    have xf5 := (gn.out).frozen 5
    have xf6 := (gn.out).frozen 6
    have xl := (gn.out).lt
    by_cases hlt : m < rn
    · obtain ⟨b, o, rfl, hbl, hc⟩ := (hs.out.below hbw.out) (by omega)
      have hL := mid_R (hc m hlt)
      clear hc
      have hf := Lib.hid (hF.out m)
      have qa := fun W => add_strF (P := Try.prog) W D (byR (F m)) (2 + m * 8) 8 (by omega)
      rw [HF.out m] at qa
      have hs2 := Lib.hid (show strF D (2 + m * 8 + 8) = strF D (2 + (m + 1) * 8) by congr 1; omega)
      generalize strF D (2 + m * 8 + 8) = s2 at *
      generalize strF D (2 + m * 8) = s0 at *
      have HPm := Lib.hid (fun W => HP.out _ hf.out W)
      generalize strF (byR (F m)) 8 = sk at *
      go_wp2_with fail
      refine (HPm.out _).mono ?_
      rintro e9 w9 ⟨rfl, hb9⟩
      have hB9 := Lib.hid (bel_eld hbw.out hb9)
      have hN9 := Lib.hid (gn.out.kept hb9)
      go_wp2_with fail
      go_roundw
      case rel => exact ⟨m + 1, by omega, by go_num, by rw [hs2.out], hB9.out, hN9.out⟩
      case measure => simp [intOf]; omega
    · obtain rfl : m = rn := by omega
      go_wp2_with fail
      go_ret
      exact ⟨rfl, hbw.out⟩
end
section
attribute [local go_sem low] loadV_ptr
attribute [local go_sem ↓] load_WA
set_option maxRecDepth 8000 in
set_option maxHeartbeats 4000000 in
theorem refReply_k3 (RA AA TA BA : Option Addr) (rn rc an ac tn tc bn bc : Nat) (F : Nat → Nat → Int) (ct : Int) (w : World) (hF : ∀ i, okA (F i)) (hn : an ≤ 5000) (hs : SsIs w AA an 15 (fun i => clA (F i))) :
    Calls Try.prog 10 #[.agg #[.int .i64 0, .int .i64 3, .slice RA rn rc, .slice AA an ac, .slice TA tn tc, .slice BA bn bc, .int .u32 ct]] w fun r w' => r = .returned (.string (strF (cat (hd2 3) 2 (rowsF 104 fun i => byA (F i))) (2 + an * 104))) ∧ Below w.heap.size w w' := by
  have HP := Lib.hid refA_ok
  have HF := fun (m : Nat) => strF_congr (rows_next (s := 104) (hd2 3) 2 (fun i => byA (F i)) (m := m) rfl)
  have hcv := conv8 (slis_hd2 (W := w.alloc (.cells #[.int .i64 0, .int .i64 3, .slice RA rn rc, .slice AA an ac, .slice TA tn tc, .slice BA bn bc, .int .u32 ct] 28)) (k := 3) (g := w.heap.size + 1) (by simp)) 2
  rw [show strF (hd2 3) 2 = strF (cat (hd2 3) 2 (rowsF 104 fun i => byA (F i))) 2 from strF_congr (fun i hi => (cat_lo hi).symm)] at hcv
  generalize cat (hd2 3) 2 (rowsF 104 fun i => byA (F i)) = D at *
  replace HF := Lib.hid HF
  replace hs := Lib.hid hs
  replace hF := Lib.hid hF
  go_enter Try.func10, Try.ntmps10
  go_wp2_with fail
  refine abs_wp (fun X => Below w.heap.size w X ∧ Blk X w.heap.size 28 #[.int .i64 0, .int .i64 3, .slice RA rn rc, .slice AA an ac, .slice TA tn tc, .slice BA bn bc, .int .u32 ct]) ⟨by (repeat (first | exact Below.refl _ _ | assumption | refine below_drewN ?_ _ | refine bel_grow ?_ _ | refine Below.drew ?_ | refine bel_alloc ?_ _ | refine bel_set ?_ (by first | exact Nat.le_refl _ | (simp; done) | (simp; omega) | omega) _ | refine bel_trans ?_ (by assumption))), (Blk.new _ _ _).kept (bel_alloc (Below.refl _ _) _)⟩ ?_
  rintro W1 ⟨hb1, hN⟩
  replace hb1 := Lib.hid hb1
  replace hN := Lib.hid hN
  clear hcv
  go_loopw [3, 5] (fun s i wr => ∃ m : Nat, m ≤ an ∧ i = .int .i64 m ∧ s = .string (strF D (2 + m * 104)) ∧ Hid (Below w.heap.size w wr) ∧ Hid (Blk wr w.heap.size 28 #[.int .i64 0, .int .i64 3, .slice RA rn rc, .slice AA an ac, .slice TA tn tc, .slice BA bn bc, .int .u32 ct])) (fun _ i _ => an - (intOf i).toNat)
  case atStart => exact ⟨0, by omega, rfl, by simp, hb1.out, hN.out⟩
  case round =>
    obtain ⟨m, hm, rfl, rfl, hbw, gn⟩ := hrel
    clear hN hb1
    have x0 := (gn.out).cell 0
    have x1 := (gn.out).cell 1
    have x2 := (gn.out).cell 2
    have x3 := (gn.out).cell 3
    have x4 := (gn.out).cell 4
    have x5 := (gn.out).cell 5
    have x6 := (gn.out).cell 6
    have xf0 := (gn.out).frozen 0
    have xf1 := (gn.out).frozen 1
    have xf2 := (gn.out).frozen 2
    have xf3 := (gn.out).frozen 3
    have xf4 := (gn.out).frozen 4
    have xf5 := (gn.out).frozen 5
    have xf6 := (gn.out).frozen 6
    have xl := (gn.out).lt
    by_cases hlt : m < an
    · obtain ⟨b, o, rfl, hbl, hc⟩ := (hs.out.below hbw.out) (by omega)
      have hL := mid_A (hc m hlt)
      clear hc
      have hf := Lib.hid (hF.out m)
      have qa := fun W => add_strF (P := Try.prog) W D (byA (F m)) (2 + m * 104) 104 (by omega)
      rw [HF.out m] at qa
      have hs2 := Lib.hid (show strF D (2 + m * 104 + 104) = strF D (2 + (m + 1) * 104) by congr 1; omega)
      generalize strF D (2 + m * 104 + 104) = s2 at *
      generalize strF D (2 + m * 104) = s0 at *
      have HPm := Lib.hid (fun W => HP.out _ hf.out W)
      generalize strF (byA (F m)) 104 = sk at *
      go_wp2_with fail
      refine (HPm.out _).mono ?_
      rintro e9 w9 ⟨rfl, hb9⟩
      have hB9 := Lib.hid (bel_eld hbw.out hb9)
      have hN9 := Lib.hid (gn.out.kept hb9)
      go_wp2_with fail
      go_roundw
      case rel => exact ⟨m + 1, by omega, by go_num, by rw [hs2.out], hB9.out, hN9.out⟩
      case measure => simp [intOf]; omega
    · obtain rfl : m = an := by omega
      go_wp2_with fail
      go_ret
      exact ⟨rfl, hbw.out⟩
end
section
attribute [local go_sem low] loadV_ptr
attribute [local go_sem ↓] load_WT
set_option maxRecDepth 8000 in
set_option maxHeartbeats 4000000 in
theorem refReply_k4 (RA AA TA BA : Option Addr) (rn rc an ac tn tc bn bc : Nat) (F : Nat → Nat → Int) (ct : Int) (w : World) (hF : ∀ i, okT (F i)) (hn : tn ≤ 5000) (hs : SsIs w TA tn 16 (fun i => clT (F i))) :
    Calls Try.prog 10 #[.agg #[.int .i64 0, .int .i64 4, .slice RA rn rc, .slice AA an ac, .slice TA tn tc, .slice BA bn bc, .int .u32 ct]] w fun r w' => r = .returned (.string (strF (cat (hd2 4) 2 (rowsF 108 fun i => byT (F i))) (2 + tn * 108))) ∧ Below w.heap.size w w' := by
  have HP := Lib.hid refT_ok
  have HF := fun (m : Nat) => strF_congr (rows_next (s := 108) (hd2 4) 2 (fun i => byT (F i)) (m := m) rfl)
  have hcv := conv8 (slis_hd2 (W := w.alloc (.cells #[.int .i64 0, .int .i64 4, .slice RA rn rc, .slice AA an ac, .slice TA tn tc, .slice BA bn bc, .int .u32 ct] 28)) (k := 4) (g := w.heap.size + 1) (by simp)) 2
  rw [show strF (hd2 4) 2 = strF (cat (hd2 4) 2 (rowsF 108 fun i => byT (F i))) 2 from strF_congr (fun i hi => (cat_lo hi).symm)] at hcv
  generalize cat (hd2 4) 2 (rowsF 108 fun i => byT (F i)) = D at *
  replace HF := Lib.hid HF
  replace hs := Lib.hid hs
  replace hF := Lib.hid hF
  go_enter Try.func10, Try.ntmps10
  go_wp2_with fail
  refine abs_wp (fun X => Below w.heap.size w X ∧ Blk X w.heap.size 28 #[.int .i64 0, .int .i64 4, .slice RA rn rc, .slice AA an ac, .slice TA tn tc, .slice BA bn bc, .int .u32 ct]) ⟨by (repeat (first | exact Below.refl _ _ | assumption | refine below_drewN ?_ _ | refine bel_grow ?_ _ | refine Below.drew ?_ | refine bel_alloc ?_ _ | refine bel_set ?_ (by first | exact Nat.le_refl _ | (simp; done) | (simp; omega) | omega) _ | refine bel_trans ?_ (by assumption))), (Blk.new _ _ _).kept (bel_alloc (Below.refl _ _) _)⟩ ?_
  rintro W1 ⟨hb1, hN⟩
  replace hb1 := Lib.hid hb1
  replace hN := Lib.hid hN
  clear hcv
  go_loopw [3, 6] (fun s i wr => ∃ m : Nat, m ≤ tn ∧ i = .int .i64 m ∧ s = .string (strF D (2 + m * 108)) ∧ Hid (Below w.heap.size w wr) ∧ Hid (Blk wr w.heap.size 28 #[.int .i64 0, .int .i64 4, .slice RA rn rc, .slice AA an ac, .slice TA tn tc, .slice BA bn bc, .int .u32 ct])) (fun _ i _ => tn - (intOf i).toNat)
  case atStart => exact ⟨0, by omega, rfl, by simp, hb1.out, hN.out⟩
  case round =>
    obtain ⟨m, hm, rfl, rfl, hbw, gn⟩ := hrel
    clear hN hb1
    have x0 := (gn.out).cell 0
    have x1 := (gn.out).cell 1
    have x2 := (gn.out).cell 2
    have x3 := (gn.out).cell 3
    have x4 := (gn.out).cell 4
    have x5 := (gn.out).cell 5
    have x6 := (gn.out).cell 6
    have xf0 := (gn.out).frozen 0
    have xf1 := (gn.out).frozen 1
    have xf2 := (gn.out).frozen 2
    have xf3 := (gn.out).frozen 3
    have xf4 := (gn.out).frozen 4
    have xf5 := (gn.out).frozen 5
    have xf6 := (gn.out).frozen 6
    have xl := (gn.out).lt
    by_cases hlt : m < tn
    · obtain ⟨b, o, rfl, hbl, hc⟩ := (hs.out.below hbw.out) (by omega)
      have hL := mid_T (hc m hlt)
      clear hc
      have hf := Lib.hid (hF.out m)
      have qa := fun W => add_strF (P := Try.prog) W D (byT (F m)) (2 + m * 108) 108 (by omega)
      rw [HF.out m] at qa
      have hs2 := Lib.hid (show strF D (2 + m * 108 + 108) = strF D (2 + (m + 1) * 108) by congr 1; omega)
      generalize strF D (2 + m * 108 + 108) = s2 at *
      generalize strF D (2 + m * 108) = s0 at *
      have HPm := Lib.hid (fun W => HP.out _ hf.out W)
      generalize strF (byT (F m)) 108 = sk at *
      go_wp2_with fail
      refine (HPm.out _).mono ?_
      rintro e9 w9 ⟨rfl, hb9⟩
      have hB9 := Lib.hid (bel_eld hbw.out hb9)
      have hN9 := Lib.hid (gn.out.kept hb9)
      go_wp2_with fail
      go_roundw
      case rel => exact ⟨m + 1, by omega, by go_num, by rw [hs2.out], hB9.out, hN9.out⟩
      case measure => simp [intOf]; omega
    · obtain rfl : m = tn := by omega
      go_wp2_with fail
      go_ret
      exact ⟨rfl, hbw.out⟩
end
section
attribute [local go_sem low] loadV_ptr
attribute [local go_sem ↓] load_WT
set_option maxRecDepth 8000 in
set_option maxHeartbeats 4000000 in
theorem refReply_k5 (RA AA TA BA : Option Addr) (rn rc an ac tn tc bn bc : Nat) (F : Nat → Nat → Int) (ct : Int) (w : World) (hF : ∀ i, okT (F i)) (hn : tn ≤ 5000) (hs : SsIs w TA tn 16 (fun i => clT (F i))) :
    Calls Try.prog 10 #[.agg #[.int .i64 0, .int .i64 5, .slice RA rn rc, .slice AA an ac, .slice TA tn tc, .slice BA bn bc, .int .u32 ct]] w fun r w' => r = .returned (.string (strF (cat (hd2 5) 2 (rowsF 108 fun i => byT (F i))) (2 + tn * 108))) ∧ Below w.heap.size w w' := by
  have HP := Lib.hid refT_ok
  have HF := fun (m : Nat) => strF_congr (rows_next (s := 108) (hd2 5) 2 (fun i => byT (F i)) (m := m) rfl)
  have hcv := conv8 (slis_hd2 (W := w.alloc (.cells #[.int .i64 0, .int .i64 5, .slice RA rn rc, .slice AA an ac, .slice TA tn tc, .slice BA bn bc, .int .u32 ct] 28)) (k := 5) (g := w.heap.size + 1) (by simp)) 2
  rw [show strF (hd2 5) 2 = strF (cat (hd2 5) 2 (rowsF 108 fun i => byT (F i))) 2 from strF_congr (fun i hi => (cat_lo hi).symm)] at hcv
  generalize cat (hd2 5) 2 (rowsF 108 fun i => byT (F i)) = D at *
  replace HF := Lib.hid HF
  replace hs := Lib.hid hs
  replace hF := Lib.hid hF
  go_enter Try.func10, Try.ntmps10
  go_wp2_with fail
  refine abs_wp (fun X => Below w.heap.size w X ∧ Blk X w.heap.size 28 #[.int .i64 0, .int .i64 5, .slice RA rn rc, .slice AA an ac, .slice TA tn tc, .slice BA bn bc, .int .u32 ct]) ⟨by (repeat (first | exact Below.refl _ _ | assumption | refine below_drewN ?_ _ | refine bel_grow ?_ _ | refine Below.drew ?_ | refine bel_alloc ?_ _ | refine bel_set ?_ (by first | exact Nat.le_refl _ | (simp; done) | (simp; omega) | omega) _ | refine bel_trans ?_ (by assumption))), (Blk.new _ _ _).kept (bel_alloc (Below.refl _ _) _)⟩ ?_
  rintro W1 ⟨hb1, hN⟩
  replace hb1 := Lib.hid hb1
  replace hN := Lib.hid hN
  clear hcv
  go_loopw [3, 6] (fun s i wr => ∃ m : Nat, m ≤ tn ∧ i = .int .i64 m ∧ s = .string (strF D (2 + m * 108)) ∧ Hid (Below w.heap.size w wr) ∧ Hid (Blk wr w.heap.size 28 #[.int .i64 0, .int .i64 5, .slice RA rn rc, .slice AA an ac, .slice TA tn tc, .slice BA bn bc, .int .u32 ct])) (fun _ i _ => tn - (intOf i).toNat)
  case atStart => exact ⟨0, by omega, rfl, by simp, hb1.out, hN.out⟩
  case round =>
    obtain ⟨m, hm, rfl, rfl, hbw, gn⟩ := hrel
    clear hN hb1
    have x0 := (gn.out).cell 0
    have x1 := (gn.out).cell 1
    have x2 := (gn.out).cell 2
    have x3 := (gn.out).cell 3
    have x4 := (gn.out).cell 4
    have x5 := (gn.out).cell 5
    have x6 := (gn.out).cell 6
    have xf0 := (gn.out).frozen 0
    have xf1 := (gn.out).frozen 1
    have xf2 := (gn.out).frozen 2
    have xf3 := (gn.out).frozen 3
    have xf4 := (gn.out).frozen 4
    have xf5 := (gn.out).frozen 5
    have xf6 := (gn.out).frozen 6
    have xl := (gn.out).lt
    by_cases hlt : m < tn
    · obtain ⟨b, o, rfl, hbl, hc⟩ := (hs.out.below hbw.out) (by omega)
      have hL := mid_T (hc m hlt)
      clear hc
      have hf := Lib.hid (hF.out m)
      have qa := fun W => add_strF (P := Try.prog) W D (byT (F m)) (2 + m * 108) 108 (by omega)
      rw [HF.out m] at qa
      have hs2 := Lib.hid (show strF D (2 + m * 108 + 108) = strF D (2 + (m + 1) * 108) by congr 1; omega)
      generalize strF D (2 + m * 108 + 108) = s2 at *
      generalize strF D (2 + m * 108) = s0 at *
      have HPm := Lib.hid (fun W => HP.out _ hf.out W)
      generalize strF (byT (F m)) 108 = sk at *
      go_wp2_with fail
      refine (HPm.out _).mono ?_
      rintro e9 w9 ⟨rfl, hb9⟩
      have hB9 := Lib.hid (bel_eld hbw.out hb9)
      have hN9 := Lib.hid (gn.out.kept hb9)
      go_wp2_with fail
      go_roundw
      case rel => exact ⟨m + 1, by omega, by go_num, by rw [hs2.out], hB9.out, hN9.out⟩
      case measure => simp [intOf]; omega
    · obtain rfl : m = tn := by omega
      go_wp2_with fail
      go_ret
      exact ⟨rfl, hbw.out⟩
end
section
attribute [local go_sem low] loadV_ptr
attribute [local go_sem ↓] load_WB
set_option maxRecDepth 8000 in
set_option maxHeartbeats 4000000 in
theorem refReply_k6 (RA AA TA BA : Option Addr) (rn rc an ac tn tc bn bc : Nat) (F : Nat → Nat → Int) (ct : Int) (w : World) (hF : ∀ i, okB (F i)) (hn : bn ≤ 5000) (hs : SsIs w BA bn 9 (fun i => clB (F i))) :
    Calls Try.prog 10 #[.agg #[.int .i64 0, .int .i64 6, .slice RA rn rc, .slice AA an ac, .slice TA tn tc, .slice BA bn bc, .int .u32 ct]] w fun r w' => r = .returned (.string (strF (cat (hd2 6) 2 (rowsF 72 fun i => byB (F i))) (2 + bn * 72))) ∧ Below w.heap.size w w' := by
  have HP := Lib.hid refB_ok
  have HF := fun (m : Nat) => strF_congr (rows_next (s := 72) (hd2 6) 2 (fun i => byB (F i)) (m := m) rfl)
  have hcv := conv8 (slis_hd2 (W := w.alloc (.cells #[.int .i64 0, .int .i64 6, .slice RA rn rc, .slice AA an ac, .slice TA tn tc, .slice BA bn bc, .int .u32 ct] 28)) (k := 6) (g := w.heap.size + 1) (by simp)) 2
  rw [show strF (hd2 6) 2 = strF (cat (hd2 6) 2 (rowsF 72 fun i => byB (F i))) 2 from strF_congr (fun i hi => (cat_lo hi).symm)] at hcv
  generalize cat (hd2 6) 2 (rowsF 72 fun i => byB (F i)) = D at *
  replace HF := Lib.hid HF
  replace hs := Lib.hid hs
  replace hF := Lib.hid hF
  go_enter Try.func10, Try.ntmps10
  go_wp2_with fail
  refine abs_wp (fun X => Below w.heap.size w X ∧ Blk X w.heap.size 28 #[.int .i64 0, .int .i64 6, .slice RA rn rc, .slice AA an ac, .slice TA tn tc, .slice BA bn bc, .int .u32 ct]) ⟨by (repeat (first | exact Below.refl _ _ | assumption | refine below_drewN ?_ _ | refine bel_grow ?_ _ | refine Below.drew ?_ | refine bel_alloc ?_ _ | refine bel_set ?_ (by first | exact Nat.le_refl _ | (simp; done) | (simp; omega) | omega) _ | refine bel_trans ?_ (by assumption))), (Blk.new _ _ _).kept (bel_alloc (Below.refl _ _) _)⟩ ?_
  rintro W1 ⟨hb1, hN⟩
  replace hb1 := Lib.hid hb1
  replace hN := Lib.hid hN
  clear hcv
  go_loopw [3, 7] (fun s i wr => ∃ m : Nat, m ≤ bn ∧ i = .int .i64 m ∧ s = .string (strF D (2 + m * 72)) ∧ Hid (Below w.heap.size w wr) ∧ Hid (Blk wr w.heap.size 28 #[.int .i64 0, .int .i64 6, .slice RA rn rc, .slice AA an ac, .slice TA tn tc, .slice BA bn bc, .int .u32 ct])) (fun _ i _ => bn - (intOf i).toNat)
  case atStart => exact ⟨0, by omega, rfl, by simp, hb1.out, hN.out⟩
  case round =>
    obtain ⟨m, hm, rfl, rfl, hbw, gn⟩ := hrel
    clear hN hb1
    have x0 := (gn.out).cell 0
    have x1 := (gn.out).cell 1
    have x2 := (gn.out).cell 2
    have x3 := (gn.out).cell 3
    have x4 := (gn.out).cell 4
    have x5 := (gn.out).cell 5
    have x6 := (gn.out).cell 6
    have xf0 := (gn.out).frozen 0
    have xf1 := (gn.out).frozen 1
    have xf2 := (gn.out).frozen 2
    have xf3 := (gn.out).frozen 3
    have xf4 := (gn.out).frozen 4
    have xf5 := (gn.out).frozen 5
    have xf6 := (gn.out).frozen 6
    have xl := (gn.out).lt
    by_cases hlt : m < bn
    · obtain ⟨b, o, rfl, hbl, hc⟩ := (hs.out.below hbw.out) (by omega)
      have hL := mid_B (hc m hlt)
      clear hc
      have hf := Lib.hid (hF.out m)
      have qa := fun W => add_strF (P := Try.prog) W D (byB (F m)) (2 + m * 72) 72 (by omega)
      rw [HF.out m] at qa
      have hs2 := Lib.hid (show strF D (2 + m * 72 + 72) = strF D (2 + (m + 1) * 72) by congr 1; omega)
      generalize strF D (2 + m * 72 + 72) = s2 at *
      generalize strF D (2 + m * 72) = s0 at *
      have HPm := Lib.hid (fun W => HP.out _ hf.out W)
      generalize strF (byB (F m)) 72 = sk at *
      go_wp2_with fail
      refine (HPm.out _).mono ?_
      rintro e9 w9 ⟨rfl, hb9⟩
      have hB9 := Lib.hid (bel_eld hbw.out hb9)
      have hN9 := Lib.hid (gn.out.kept hb9)
      go_wp2_with fail
      go_roundw
      case rel => exact ⟨m + 1, by omega, by go_num, by rw [hs2.out], hB9.out, hN9.out⟩
      case measure => simp [intOf]; omega
    · obtain rfl : m = bn := by omega
      go_wp2_with fail
      go_ret
      exact ⟨rfl, hbw.out⟩
end
end Go.Proofs.Ytncampbmnbhikaa
-- Wrk
namespace Go.Proofs.Ytncampbmnbhikaa
set_option linter.unusedVariables false
set_option linter.unusedSimpArgs false
open Go.RowKit

theorem slis_hd2' {W : World} {k : Int} {g : Nat} (hg : g = W.heap.size) : SlIs (W.alloc (.cells #[.int .u8 0, .int .u8 k] 5)) (some ⟨g, 0, none⟩) 2 (yV (hd2 k)) := by
  subst hg
  obtain ⟨A, c, e, h⟩ := (own_hd2 (w := W) (W := W) (k := k) (Nat.le_refl _) rfl).slis
  cases e; exact h
theorem slis_one' {W : World} {k : Int} {g : Nat} (hg : g = W.heap.size) : SlIs (W.alloc (.cells #[.int .u8 k] 5)) (some ⟨g, 0, none⟩) 1 (yV (fun _ => k)) := by
  subst hg
  obtain ⟨A, c, e, h⟩ := (own_oneE (W := W) (a := k) (D := fun _ => k) (Nat.le_refl _) rfl rfl).slis
  cases e; exact h
set_option maxRecDepth 8000 in
set_option maxHeartbeats 4000000 in
theorem refReply_k7 (RA AA TA BA : Option Addr) (rn rc an ac tn tc bn bc : Nat) (ct : Int) (w : World) (hc : 0 ≤ ct ∧ ct < 4294967296) :
    Calls Try.prog 10 #[.agg #[.int .i64 0, .int .i64 7, .slice RA rn rc, .slice AA an ac, .slice TA tn tc, .slice BA bn bc, .int .u32 ct]] w fun r w' => r = .returned (.string (strF (cat (hd2 7) 2 (nb 4 ct)) 6)) ∧ Below w.heap.size w w' := by
  have H4 := Lib.hid (fun W => Four_any ct hc W)
  have hcv := conv8 (slis_hd2' (W := w.alloc (.cells #[.int .i64 0, .int .i64 7, .slice RA rn rc, .slice AA an ac, .slice TA tn tc, .slice BA bn bc, .int .u32 ct] 28)) (k := 7) (g := w.heap.size + 1) (by simp)) 2
  have qa := fun W => add_strF (P := Try.prog) W (hd2 7) (nb 4 ct) 2 4 (by omega)
  generalize strF (cat (hd2 7) 2 (nb 4 ct)) (2 + 4) = s2 at *
  generalize strF (hd2 7) 2 = s0 at *
  generalize strF (nb 4 ct) 4 = s1 at *
  go_enter Try.func10, Try.ntmps10
  go_wp2_with fail
  refine (H4.out _).mono ?_
  rintro e9 w9 ⟨rfl, hb9⟩
  have hB9 := Lib.hid ((bel_alloc (bel_alloc (Below.refl _ _) _) _ : Below w.heap.size w _).trans (hb9.mono (by simp; omega)))
  go_wp2_with fail
  go_ret
  exact ⟨rfl, hB9.out⟩
theorem refReply_bad (RA AA TA BA : Option Addr) (rn rc an ac tn tc bn bc : Nat) (st kd ct : Int) (w : World) (h : st < 0 ∨ 4 < st) (d : Nat → Int) :
    Calls Try.prog 10 #[.agg #[.int .i64 st, .int .i64 kd, .slice RA rn rc, .slice AA an ac, .slice TA tn tc, .slice BA bn bc, .int .u32 ct]] w fun r w' => r = .returned (.string (strF d 0)) ∧ Below w.heap.size w w' := by
  have e0 : strF d 0 = ⟨#[]⟩ := rfl
  rw [e0]
  by_cases h0 : st < 0
  · have d0 : decide (st < 0) = true := decide_eq_true h0
    go_enter Try.func10, Try.ntmps10
    go_wp2_with fail
    go_ret
    exact ⟨rfl, by (repeat (first | exact Below.refl _ _ | assumption | refine below_drewN ?_ _ | refine bel_grow ?_ _ | refine Below.drew ?_ | refine bel_alloc ?_ _ | refine bel_set ?_ (by first | exact Nat.le_refl _ | (simp; done) | (simp; omega) | omega) _ | refine bel_trans ?_ (by assumption)))⟩
  · have d0 : decide (st < 0) = false := decide_eq_false h0
    have d1 : decide (st > 4) = true := decide_eq_true (by omega)
    go_enter Try.func10, Try.ntmps10
    go_wp2_with fail
    go_ret
    exact ⟨rfl, by (repeat (first | exact Below.refl _ _ | assumption | refine below_drewN ?_ _ | refine bel_grow ?_ _ | refine Below.drew ?_ | refine bel_alloc ?_ _ | refine bel_set ?_ (by first | exact Nat.le_refl _ | (simp; done) | (simp; omega) | omega) _ | refine bel_trans ?_ (by assumption)))⟩
theorem refReply_st (RA AA TA BA : Option Addr) (rn rc an ac tn tc bn bc : Nat) (st kd ct : Int) (w : World) (h : 1 ≤ st ∧ st ≤ 4) :
    Calls Try.prog 10 #[.agg #[.int .i64 st, .int .i64 kd, .slice RA rn rc, .slice AA an ac, .slice TA tn tc, .slice BA bn bc, .int .u32 ct]] w fun r w' => r = .returned (.string (strF (fun _ => st) 1)) ∧ Below w.heap.size w w' := by
  have hcv := conv8 (slis_one' (W := w.alloc (.cells #[.int .i64 st, .int .i64 kd, .slice RA rn rc, .slice AA an ac, .slice TA tn tc, .slice BA bn bc, .int .u32 ct] 28)) (k := st) (g := w.heap.size + 1) (by simp)) 1
  rcases (by omega : st = 1 ∨ st = 2 ∨ st = 3 ∨ st = 4) with rfl | rfl | rfl | rfl <;>
  · go_enter Try.func10, Try.ntmps10
    go_wp2_with fail
    go_ret
    exact ⟨rfl, by (repeat (first | exact Below.refl _ _ | assumption | refine below_drewN ?_ _ | refine bel_grow ?_ _ | refine Below.drew ?_ | refine bel_alloc ?_ _ | refine bel_set ?_ (by first | exact Nat.le_refl _ | (simp; done) | (simp; omega) | omega) _ | refine bel_trans ?_ (by assumption)))⟩
theorem refReply_kd (RA AA TA BA : Option Addr) (rn rc an ac tn tc bn bc : Nat) (kd ct : Int) (w : World) (h : kd < 1 ∨ 7 < kd) (d : Nat → Int) :
    Calls Try.prog 10 #[.agg #[.int .i64 0, .int .i64 kd, .slice RA rn rc, .slice AA an ac, .slice TA tn tc, .slice BA bn bc, .int .u32 ct]] w fun r w' => r = .returned (.string (strF d 0)) ∧ Below w.heap.size w w' := by
  have e0 : strF d 0 = ⟨#[]⟩ := rfl
  rw [e0]
  by_cases h0 : kd < 1
  · have d0 : decide (kd < 1) = true := decide_eq_true h0
    go_enter Try.func10, Try.ntmps10
    go_wp2_with fail
    go_ret
    exact ⟨rfl, by (repeat (first | exact Below.refl _ _ | assumption | refine below_drewN ?_ _ | refine bel_grow ?_ _ | refine Below.drew ?_ | refine bel_alloc ?_ _ | refine bel_set ?_ (by first | exact Nat.le_refl _ | (simp; done) | (simp; omega) | omega) _ | refine bel_trans ?_ (by assumption)))⟩
  · have d0 : decide (kd < 1) = false := decide_eq_false h0
    have d1 : decide (kd > 7) = true := decide_eq_true (by omega)
    go_enter Try.func10, Try.ntmps10
    go_wp2_with fail
    go_ret
    exact ⟨rfl, by (repeat (first | exact Below.refl _ _ | assumption | refine below_drewN ?_ _ | refine bel_grow ?_ _ | refine Below.drew ?_ | refine bel_alloc ?_ _ | refine bel_set ?_ (by first | exact Nat.le_refl _ | (simp; done) | (simp; omega) | omega) _ | refine bel_trans ?_ (by assumption)))⟩
end Go.Proofs.Ytncampbmnbhikaa
