/-
  The document's Request, walked: the texts of requests, kind by kind.
-/
import Derived.Test.YtncampbmnbhikaaWqa
import Derived.Test.YtncampbmnbhikaaJ13
import Derived.Test.YtncampbmnbhikaaJ14
import Derived.Test.YtncampbmnbhikaaJ8
namespace Go.Proofs.Ytncampbmnbhikaa
set_option linter.unusedVariables false
set_option linter.unusedSimpArgs false
open Go.RowKit

theorem refU_ok (f : Nat → Int) (h : okU f) (w : World) : Calls Try.prog 47 #[.agg #[.int .u64 (f 0), .int .u64 (f 1)]] w fun r w' => r = .returned (.string (strF (byU f) 16)) ∧ Below w.heap.size w w' := refbytes_any (f 0) (f 1) (h 0) (h 1) w
theorem slis_hd1 {W : World} {k : Int} {g : Nat} (hg : g = W.heap.size) : SlIs (W.alloc (.cells #[.int .u8 k] 5)) (some ⟨g, 0, none⟩) 1 (yV (hd1 k)) := by
  subst hg
  obtain ⟨A, c, e, h⟩ := (own_hd1 (w := W) (W := W) (k := k) (Nat.le_refl _) rfl).slis
  cases e; exact h
section
attribute [local go_sem low] loadV_ptr
attribute [local go_sem ↓] load_WA
set_option maxRecDepth 8000 in
set_option maxHeartbeats 4000000 in
theorem refReq_k1 (AA TA UA : Option Addr) (an ac tn tc un uc : Nat) (fa fb fc fd fe ff : Int) (F : Nat → Nat → Int) (w : World) (hF : ∀ i, okA (F i)) (hn : an ≤ 5000) (hs : SsIs w AA an 15 (fun i => clA (F i))) :
    Calls Try.prog 14 #[.agg #[.int .i64 1, .slice AA an ac, .slice TA tn tc, .slice UA un uc, .int .u64 fa, .int .u64 fb, .int .u64 fc, .int .u64 fd, .int .u32 fe, .int .u32 ff]] w fun r w' => r = .returned (.string (strF (cat (hd1 1) 1 (rowsF 104 fun i => byA (F i))) (1 + an * 104))) ∧ Below w.heap.size w w' := by
  have HP := Lib.hid refA_ok
  have HF := fun (m : Nat) => strF_congr (rows_next (s := 104) (hd1 1) 1 (fun i => byA (F i)) (m := m) rfl)
  have hcv := conv8 (slis_hd1 (W := w.alloc (.cells #[.int .i64 1, .slice AA an ac, .slice TA tn tc, .slice UA un uc, .int .u64 fa, .int .u64 fb, .int .u64 fc, .int .u64 fd, .int .u32 fe, .int .u32 ff] 46)) (k := 1) (g := w.heap.size + 1) (by simp)) 1
  rw [show strF (hd1 1) 1 = strF (cat (hd1 1) 1 (rowsF 104 fun i => byA (F i))) 1 from strF_congr (fun i hi => (cat_lo hi).symm)] at hcv
  generalize cat (hd1 1) 1 (rowsF 104 fun i => byA (F i)) = D at *
  replace HF := Lib.hid HF
  replace hs := Lib.hid hs
  replace hF := Lib.hid hF
  go_enter Try.func14, Try.ntmps14
  go_wp2_with fail
  refine abs_wp (fun X => Below w.heap.size w X ∧ Blk X w.heap.size 46 #[.int .i64 1, .slice AA an ac, .slice TA tn tc, .slice UA un uc, .int .u64 fa, .int .u64 fb, .int .u64 fc, .int .u64 fd, .int .u32 fe, .int .u32 ff]) ⟨by (repeat (first | exact Below.refl _ _ | assumption | refine below_drewN ?_ _ | refine bel_grow ?_ _ | refine Below.drew ?_ | refine bel_alloc ?_ _ | refine bel_set ?_ (by first | exact Nat.le_refl _ | (simp; done) | (simp; omega) | omega) _ | refine bel_trans ?_ (by assumption))), (Blk.new _ _ _).kept (bel_alloc (Below.refl _ _) _)⟩ ?_
  rintro W1 ⟨hb1, hN⟩
  replace hb1 := Lib.hid hb1
  replace hN := Lib.hid hN
  clear hcv
  go_loopw [3, 4] (fun s i wr => ∃ m : Nat, m ≤ an ∧ i = .int .i64 m ∧ s = .string (strF D (1 + m * 104)) ∧ Hid (Below w.heap.size w wr) ∧ Hid (Blk wr w.heap.size 46 #[.int .i64 1, .slice AA an ac, .slice TA tn tc, .slice UA un uc, .int .u64 fa, .int .u64 fb, .int .u64 fc, .int .u64 fd, .int .u32 fe, .int .u32 ff])) (fun _ i _ => an - (intOf i).toNat)
  case atStart => exact ⟨0, by omega, rfl, by simp, hb1.out, hN.out⟩
  case round =>
    obtain ⟨m, hm, rfl, rfl, hbw, gn⟩ := hrel
    clear hN hb1
    have x0 := (gn.out).cell 0
    have x1 := (gn.out).cell 1
    have x2 := (gn.out).cell 2
    have x3 := (gn.out).cell 3
    have x4 := (gn.out).cell 4
    have x5 := (gn.out).cell 5
    have x6 := (gn.out).cell 6
    have x7 := (gn.out).cell 7
    have x8 := (gn.out).cell 8
    have x9 := (gn.out).cell 9
    have xf0 := (gn.out).frozen 0
    have xf1 := (gn.out).frozen 1
    have xf2 := (gn.out).frozen 2
    have xf3 := (gn.out).frozen 3
    have xf4 := (gn.out).frozen 4
    have xf5 := (gn.out).frozen 5
    have xf6 := (gn.out).frozen 6
    have xf7 := (gn.out).frozen 7
    have xf8 := (gn.out).frozen 8
    have xf9 := (gn.out).frozen 9
    have xl := (gn.out).lt
    by_cases hlt : m < an
    · obtain ⟨b, o, rfl, hbl, hc⟩ := (hs.out.below hbw.out) (by omega)
      have hL := mid_A (hc m hlt)
      clear hc
      have hf := Lib.hid (hF.out m)
      have qa := fun W => add_strF (P := Try.prog) W D (byA (F m)) (1 + m * 104) 104 (by omega)
      rw [HF.out m] at qa
      have hs2 := Lib.hid (show strF D (1 + m * 104 + 104) = strF D (1 + (m + 1) * 104) by congr 1; omega)
      generalize strF D (1 + m * 104 + 104) = s2 at *
      generalize strF D (1 + m * 104) = s0 at *
      have HPm := Lib.hid (fun W => HP.out _ hf.out W)
      generalize strF (byA (F m)) 104 = sk at *
      go_wp2_with fail
      refine (HPm.out _).mono ?_
      rintro e9 w9 ⟨rfl, hb9⟩
      have hB9 := Lib.hid (bel_eld hbw.out hb9)
      have hN9 := Lib.hid (gn.out.kept hb9)
      go_wp2_with fail
      go_roundw
      case rel => exact ⟨m + 1, by omega, by go_num, by rw [hs2.out], hB9.out, hN9.out⟩
      case measure => simp [intOf]; omega
    · obtain rfl : m = an := by omega
      go_wp2_with fail
      go_ret
      exact ⟨rfl, hbw.out⟩
end
section
attribute [local go_sem low] loadV_ptr
attribute [local go_sem ↓] load_WT
set_option maxRecDepth 8000 in
set_option maxHeartbeats 4000000 in
theorem refReq_k2 (AA TA UA : Option Addr) (an ac tn tc un uc : Nat) (fa fb fc fd fe ff : Int) (F : Nat → Nat → Int) (w : World) (hF : ∀ i, okT (F i)) (hn : tn ≤ 5000) (hs : SsIs w TA tn 16 (fun i => clT (F i))) :
    Calls Try.prog 14 #[.agg #[.int .i64 2, .slice AA an ac, .slice TA tn tc, .slice UA un uc, .int .u64 fa, .int .u64 fb, .int .u64 fc, .int .u64 fd, .int .u32 fe, .int .u32 ff]] w fun r w' => r = .returned (.string (strF (cat (hd1 2) 1 (rowsF 108 fun i => byT (F i))) (1 + tn * 108))) ∧ Below w.heap.size w w' := by
  have HP := Lib.hid refT_ok
  have HF := fun (m : Nat) => strF_congr (rows_next (s := 108) (hd1 2) 1 (fun i => byT (F i)) (m := m) rfl)
  have hcv := conv8 (slis_hd1 (W := w.alloc (.cells #[.int .i64 2, .slice AA an ac, .slice TA tn tc, .slice UA un uc, .int .u64 fa, .int .u64 fb, .int .u64 fc, .int .u64 fd, .int .u32 fe, .int .u32 ff] 46)) (k := 2) (g := w.heap.size + 1) (by simp)) 1
  rw [show strF (hd1 2) 1 = strF (cat (hd1 2) 1 (rowsF 108 fun i => byT (F i))) 1 from strF_congr (fun i hi => (cat_lo hi).symm)] at hcv
  generalize cat (hd1 2) 1 (rowsF 108 fun i => byT (F i)) = D at *
  replace HF := Lib.hid HF
  replace hs := Lib.hid hs
  replace hF := Lib.hid hF
  go_enter Try.func14, Try.ntmps14
  go_wp2_with fail
  refine abs_wp (fun X => Below w.heap.size w X ∧ Blk X w.heap.size 46 #[.int .i64 2, .slice AA an ac, .slice TA tn tc, .slice UA un uc, .int .u64 fa, .int .u64 fb, .int .u64 fc, .int .u64 fd, .int .u32 fe, .int .u32 ff]) ⟨by (repeat (first | exact Below.refl _ _ | assumption | refine below_drewN ?_ _ | refine bel_grow ?_ _ | refine Below.drew ?_ | refine bel_alloc ?_ _ | refine bel_set ?_ (by first | exact Nat.le_refl _ | (simp; done) | (simp; omega) | omega) _ | refine bel_trans ?_ (by assumption))), (Blk.new _ _ _).kept (bel_alloc (Below.refl _ _) _)⟩ ?_
  rintro W1 ⟨hb1, hN⟩
  replace hb1 := Lib.hid hb1
  replace hN := Lib.hid hN
  clear hcv
  go_loopw [3, 5] (fun s i wr => ∃ m : Nat, m ≤ tn ∧ i = .int .i64 m ∧ s = .string (strF D (1 + m * 108)) ∧ Hid (Below w.heap.size w wr) ∧ Hid (Blk wr w.heap.size 46 #[.int .i64 2, .slice AA an ac, .slice TA tn tc, .slice UA un uc, .int .u64 fa, .int .u64 fb, .int .u64 fc, .int .u64 fd, .int .u32 fe, .int .u32 ff])) (fun _ i _ => tn - (intOf i).toNat)
  case atStart => exact ⟨0, by omega, rfl, by simp, hb1.out, hN.out⟩
  case round =>
    obtain ⟨m, hm, rfl, rfl, hbw, gn⟩ := hrel
    clear hN hb1
    have x0 := (gn.out).cell 0
    have x1 := (gn.out).cell 1
    have x2 := (gn.out).cell 2
    have x3 := (gn.out).cell 3
    have x4 := (gn.out).cell 4
    have x5 := (gn.out).cell 5
    have x6 := (gn.out).cell 6
    have x7 := (gn.out).cell 7
    have x8 := (gn.out).cell 8
    have x9 := (gn.out).cell 9
    have xf0 := (gn.out).frozen 0
    have xf1 := (gn.out).frozen 1
    have xf2 := (gn.out).frozen 2
    have xf3 := (gn.out).frozen 3
    have xf4 := (gn.out).frozen 4
    have xf5 := (gn.out).frozen 5
    have xf6 := (gn.out).frozen 6
    have xf7 := (gn.out).frozen 7
    have xf8 := (gn.out).frozen 8
    have xf9 := (gn.out).frozen 9
    have xl := (gn.out).lt
    by_cases hlt : m < tn
    · obtain ⟨b, o, rfl, hbl, hc⟩ := (hs.out.below hbw.out) (by omega)
      have hL := mid_T (hc m hlt)
      clear hc
      have hf := Lib.hid (hF.out m)
      have qa := fun W => add_strF (P := Try.prog) W D (byT (F m)) (1 + m * 108) 108 (by omega)
      rw [HF.out m] at qa
      have hs2 := Lib.hid (show strF D (1 + m * 108 + 108) = strF D (1 + (m + 1) * 108) by congr 1; omega)
      generalize strF D (1 + m * 108 + 108) = s2 at *
      generalize strF D (1 + m * 108) = s0 at *
      have HPm := Lib.hid (fun W => HP.out _ hf.out W)
      generalize strF (byT (F m)) 108 = sk at *
      go_wp2_with fail
      refine (HPm.out _).mono ?_
      rintro e9 w9 ⟨rfl, hb9⟩
      have hB9 := Lib.hid (bel_eld hbw.out hb9)
      have hN9 := Lib.hid (gn.out.kept hb9)
      go_wp2_with fail
      go_roundw
      case rel => exact ⟨m + 1, by omega, by go_num, by rw [hs2.out], hB9.out, hN9.out⟩
      case measure => simp [intOf]; omega
    · obtain rfl : m = tn := by omega
      go_wp2_with fail
      go_ret
      exact ⟨rfl, hbw.out⟩
end
section
attribute [local go_sem low] loadV_ptr
attribute [local go_sem ↓] load_WU
set_option maxRecDepth 8000 in
set_option maxHeartbeats 4000000 in
theorem refReq_k3 (AA TA UA : Option Addr) (an ac tn tc un uc : Nat) (fa fb fc fd fe ff : Int) (F : Nat → Nat → Int) (w : World) (hF : ∀ i, okU (F i)) (hn : un ≤ 5000) (hs : SsIs w UA un 2 (fun i => clU (F i))) :
    Calls Try.prog 14 #[.agg #[.int .i64 3, .slice AA an ac, .slice TA tn tc, .slice UA un uc, .int .u64 fa, .int .u64 fb, .int .u64 fc, .int .u64 fd, .int .u32 fe, .int .u32 ff]] w fun r w' => r = .returned (.string (strF (cat (hd1 3) 1 (rowsF 16 fun i => byU (F i))) (1 + un * 16))) ∧ Below w.heap.size w w' := by
  have HP := Lib.hid refU_ok
  have HF := fun (m : Nat) => strF_congr (rows_next (s := 16) (hd1 3) 1 (fun i => byU (F i)) (m := m) rfl)
  have hcv := conv8 (slis_hd1 (W := w.alloc (.cells #[.int .i64 3, .slice AA an ac, .slice TA tn tc, .slice UA un uc, .int .u64 fa, .int .u64 fb, .int .u64 fc, .int .u64 fd, .int .u32 fe, .int .u32 ff] 46)) (k := 3) (g := w.heap.size + 1) (by simp)) 1
  rw [show strF (hd1 3) 1 = strF (cat (hd1 3) 1 (rowsF 16 fun i => byU (F i))) 1 from strF_congr (fun i hi => (cat_lo hi).symm)] at hcv
  generalize cat (hd1 3) 1 (rowsF 16 fun i => byU (F i)) = D at *
  replace HF := Lib.hid HF
  replace hs := Lib.hid hs
  replace hF := Lib.hid hF
  go_enter Try.func14, Try.ntmps14
  go_wp2_with fail
  refine abs_wp (fun X => Below w.heap.size w X ∧ Blk X w.heap.size 46 #[.int .i64 3, .slice AA an ac, .slice TA tn tc, .slice UA un uc, .int .u64 fa, .int .u64 fb, .int .u64 fc, .int .u64 fd, .int .u32 fe, .int .u32 ff]) ⟨by (repeat (first | exact Below.refl _ _ | assumption | refine below_drewN ?_ _ | refine bel_grow ?_ _ | refine Below.drew ?_ | refine bel_alloc ?_ _ | refine bel_set ?_ (by first | exact Nat.le_refl _ | (simp; done) | (simp; omega) | omega) _ | refine bel_trans ?_ (by assumption))), (Blk.new _ _ _).kept (bel_alloc (Below.refl _ _) _)⟩ ?_
  rintro W1 ⟨hb1, hN⟩
  replace hb1 := Lib.hid hb1
  replace hN := Lib.hid hN
  clear hcv
  go_loopw [3, 6] (fun s i wr => ∃ m : Nat, m ≤ un ∧ i = .int .i64 m ∧ s = .string (strF D (1 + m * 16)) ∧ Hid (Below w.heap.size w wr) ∧ Hid (Blk wr w.heap.size 46 #[.int .i64 3, .slice AA an ac, .slice TA tn tc, .slice UA un uc, .int .u64 fa, .int .u64 fb, .int .u64 fc, .int .u64 fd, .int .u32 fe, .int .u32 ff])) (fun _ i _ => un - (intOf i).toNat)
  case atStart => exact ⟨0, by omega, rfl, by simp, hb1.out, hN.out⟩
  case round =>
    obtain ⟨m, hm, rfl, rfl, hbw, gn⟩ := hrel
    clear hN hb1
    have x0 := (gn.out).cell 0
    have x1 := (gn.out).cell 1
    have x2 := (gn.out).cell 2
    have x3 := (gn.out).cell 3
    have x4 := (gn.out).cell 4
    have x5 := (gn.out).cell 5
    have x6 := (gn.out).cell 6
    have x7 := (gn.out).cell 7
    have x8 := (gn.out).cell 8
    have x9 := (gn.out).cell 9
    have xf0 := (gn.out).frozen 0
    have xf1 := (gn.out).frozen 1
    have xf2 := (gn.out).frozen 2
    have xf3 := (gn.out).frozen 3
    have xf4 := (gn.out).frozen 4
    have xf5 := (gn.out).frozen 5
    have xf6 := (gn.out).frozen 6
    have xf7 := (gn.out).frozen 7
    have xf8 := (gn.out).frozen 8
    have xf9 := (gn.out).frozen 9
    have xl := (gn.out).lt
    by_cases hlt : m < un
    · obtain ⟨b, o, rfl, hbl, hc⟩ := (hs.out.below hbw.out) (by omega)
      have hL := mid_U (hc m hlt)
      clear hc
      have hf := Lib.hid (hF.out m)
      have qa := fun W => add_strF (P := Try.prog) W D (byU (F m)) (1 + m * 16) 16 (by omega)
      rw [HF.out m] at qa
      have hs2 := Lib.hid (show strF D (1 + m * 16 + 16) = strF D (1 + (m + 1) * 16) by congr 1; omega)
      generalize strF D (1 + m * 16 + 16) = s2 at *
      generalize strF D (1 + m * 16) = s0 at *
      have HPm := Lib.hid (fun W => HP.out _ hf.out W)
      generalize strF (byU (F m)) 16 = sk at *
      go_wp2_with fail
      refine (HPm.out _).mono ?_
      rintro e9 w9 ⟨rfl, hb9⟩
      have hB9 := Lib.hid (bel_eld hbw.out hb9)
      have hN9 := Lib.hid (gn.out.kept hb9)
      go_wp2_with fail
      go_roundw
      case rel => exact ⟨m + 1, by omega, by go_num, by rw [hs2.out], hB9.out, hN9.out⟩
      case measure => simp [intOf]; omega
    · obtain rfl : m = un := by omega
      go_wp2_with fail
      go_ret
      exact ⟨rfl, hbw.out⟩
end
section
attribute [local go_sem low] loadV_ptr
attribute [local go_sem ↓] load_WU
set_option maxRecDepth 8000 in
set_option maxHeartbeats 4000000 in
theorem refReq_k4 (AA TA UA : Option Addr) (an ac tn tc un uc : Nat) (fa fb fc fd fe ff : Int) (F : Nat → Nat → Int) (w : World) (hF : ∀ i, okU (F i)) (hn : un ≤ 5000) (hs : SsIs w UA un 2 (fun i => clU (F i))) :
    Calls Try.prog 14 #[.agg #[.int .i64 4, .slice AA an ac, .slice TA tn tc, .slice UA un uc, .int .u64 fa, .int .u64 fb, .int .u64 fc, .int .u64 fd, .int .u32 fe, .int .u32 ff]] w fun r w' => r = .returned (.string (strF (cat (hd1 4) 1 (rowsF 16 fun i => byU (F i))) (1 + un * 16))) ∧ Below w.heap.size w w' := by
  have HP := Lib.hid refU_ok
  have HF := fun (m : Nat) => strF_congr (rows_next (s := 16) (hd1 4) 1 (fun i => byU (F i)) (m := m) rfl)
  have hcv := conv8 (slis_hd1 (W := w.alloc (.cells #[.int .i64 4, .slice AA an ac, .slice TA tn tc, .slice UA un uc, .int .u64 fa, .int .u64 fb, .int .u64 fc, .int .u64 fd, .int .u32 fe, .int .u32 ff] 46)) (k := 4) (g := w.heap.size + 1) (by simp)) 1
  rw [show strF (hd1 4) 1 = strF (cat (hd1 4) 1 (rowsF 16 fun i => byU (F i))) 1 from strF_congr (fun i hi => (cat_lo hi).symm)] at hcv
  generalize cat (hd1 4) 1 (rowsF 16 fun i => byU (F i)) = D at *
  replace HF := Lib.hid HF
  replace hs := Lib.hid hs
  replace hF := Lib.hid hF
  go_enter Try.func14, Try.ntmps14
  go_wp2_with fail
  refine abs_wp (fun X => Below w.heap.size w X ∧ Blk X w.heap.size 46 #[.int .i64 4, .slice AA an ac, .slice TA tn tc, .slice UA un uc, .int .u64 fa, .int .u64 fb, .int .u64 fc, .int .u64 fd, .int .u32 fe, .int .u32 ff]) ⟨by (repeat (first | exact Below.refl _ _ | assumption | refine below_drewN ?_ _ | refine bel_grow ?_ _ | refine Below.drew ?_ | refine bel_alloc ?_ _ | refine bel_set ?_ (by first | exact Nat.le_refl _ | (simp; done) | (simp; omega) | omega) _ | refine bel_trans ?_ (by assumption))), (Blk.new _ _ _).kept (bel_alloc (Below.refl _ _) _)⟩ ?_
  rintro W1 ⟨hb1, hN⟩
  replace hb1 := Lib.hid hb1
  replace hN := Lib.hid hN
  clear hcv
  go_loopw [3, 6] (fun s i wr => ∃ m : Nat, m ≤ un ∧ i = .int .i64 m ∧ s = .string (strF D (1 + m * 16)) ∧ Hid (Below w.heap.size w wr) ∧ Hid (Blk wr w.heap.size 46 #[.int .i64 4, .slice AA an ac, .slice TA tn tc, .slice UA un uc, .int .u64 fa, .int .u64 fb, .int .u64 fc, .int .u64 fd, .int .u32 fe, .int .u32 ff])) (fun _ i _ => un - (intOf i).toNat)
  case atStart => exact ⟨0, by omega, rfl, by simp, hb1.out, hN.out⟩
  case round =>
    obtain ⟨m, hm, rfl, rfl, hbw, gn⟩ := hrel
    clear hN hb1
    have x0 := (gn.out).cell 0
    have x1 := (gn.out).cell 1
    have x2 := (gn.out).cell 2
    have x3 := (gn.out).cell 3
    have x4 := (gn.out).cell 4
    have x5 := (gn.out).cell 5
    have x6 := (gn.out).cell 6
    have x7 := (gn.out).cell 7
    have x8 := (gn.out).cell 8
    have x9 := (gn.out).cell 9
    have xf0 := (gn.out).frozen 0
    have xf1 := (gn.out).frozen 1
    have xf2 := (gn.out).frozen 2
    have xf3 := (gn.out).frozen 3
    have xf4 := (gn.out).frozen 4
    have xf5 := (gn.out).frozen 5
    have xf6 := (gn.out).frozen 6
    have xf7 := (gn.out).frozen 7
    have xf8 := (gn.out).frozen 8
    have xf9 := (gn.out).frozen 9
    have xl := (gn.out).lt
    by_cases hlt : m < un
    · obtain ⟨b, o, rfl, hbl, hc⟩ := (hs.out.below hbw.out) (by omega)
      have hL := mid_U (hc m hlt)
      clear hc
      have hf := Lib.hid (hF.out m)
      have qa := fun W => add_strF (P := Try.prog) W D (byU (F m)) (1 + m * 16) 16 (by omega)
      rw [HF.out m] at qa
      have hs2 := Lib.hid (show strF D (1 + m * 16 + 16) = strF D (1 + (m + 1) * 16) by congr 1; omega)
      generalize strF D (1 + m * 16 + 16) = s2 at *
      generalize strF D (1 + m * 16) = s0 at *
      have HPm := Lib.hid (fun W => HP.out _ hf.out W)
      generalize strF (byU (F m)) 16 = sk at *
      go_wp2_with fail
      refine (HPm.out _).mono ?_
      rintro e9 w9 ⟨rfl, hb9⟩
      have hB9 := Lib.hid (bel_eld hbw.out hb9)
      have hN9 := Lib.hid (gn.out.kept hb9)
      go_wp2_with fail
      go_roundw
      case rel => exact ⟨m + 1, by omega, by go_num, by rw [hs2.out], hB9.out, hN9.out⟩
      case measure => simp [intOf]; omega
    · obtain rfl : m = un := by omega
      go_wp2_with fail
      go_ret
      exact ⟨rfl, hbw.out⟩
end
set_option maxRecDepth 8000 in
set_option maxHeartbeats 4000000 in
theorem refReq_k5 (AA TA UA : Option Addr) (an ac tn tc un uc : Nat) (fa fb fc fd fe ff : Int) (ha : 0 ≤ fa ∧ fa < 18446744073709551616) (hb : 0 ≤ fb ∧ fb < 18446744073709551616) (hc : 0 ≤ fc ∧ fc < 18446744073709551616) (hd : 0 ≤ fd ∧ fd < 18446744073709551616) (he : 0 ≤ fe ∧ fe < 4294967296) (hf : 0 ≤ ff ∧ ff < 4294967296) (w : World) :
    Calls Try.prog 14 #[.agg #[.int .i64 5, .slice AA an ac, .slice TA tn tc, .slice UA un uc, .int .u64 fa, .int .u64 fb, .int .u64 fc, .int .u64 fd, .int .u32 fe, .int .u32 ff]] w fun r w' => r = .returned (.string (strF (cat (hd1 5) 1 (putFilterD fa fb fc fd fe ff)) 41)) ∧ Below w.heap.size w w' := by
  have HR := Lib.hid (fun (W : World) => refFilter_any fa fb fc fd fe ff ha hb hc hd he hf W)
  have hcv := conv8 (slis_hd1 (W := w.alloc (.cells #[.int .i64 5, .slice AA an ac, .slice TA tn tc, .slice UA un uc, .int .u64 fa, .int .u64 fb, .int .u64 fc, .int .u64 fd, .int .u32 fe, .int .u32 ff] 46)) (k := 5) (g := w.heap.size + 1) (by simp)) 1
  have qa := fun W => add_strF (P := Try.prog) W (hd1 5) (putFilterD fa fb fc fd fe ff) 1 40 (by omega)
  generalize strF (cat (hd1 5) 1 (putFilterD fa fb fc fd fe ff)) (1 + 40) = s2 at *
  generalize strF (putFilterD fa fb fc fd fe ff) 40 = s1 at *
  generalize strF (hd1 5) 1 = s0 at *
  clear ha hb hc hd he hf
  go_enter Try.func14, Try.ntmps14
  go_wp2_with fail
  refine (HR.out _).mono ?_
  rintro e2 w2 ⟨rfl, hb2⟩
  have hb3 := Lib.hid ((bel_alloc (bel_alloc (Below.refl _ _) _) _ : Below w.heap.size w _).trans (hb2.mono (by simp; omega)))
  clear hb2
  go_wp2_with fail
  go_ret
  exact ⟨rfl, hb3.out⟩
set_option maxRecDepth 8000 in
set_option maxHeartbeats 4000000 in
theorem refReq_k6 (AA TA UA : Option Addr) (an ac tn tc un uc : Nat) (fa fb fc fd fe ff : Int) (ha : 0 ≤ fa ∧ fa < 18446744073709551616) (hb : 0 ≤ fb ∧ fb < 18446744073709551616) (hc : 0 ≤ fc ∧ fc < 18446744073709551616) (hd : 0 ≤ fd ∧ fd < 18446744073709551616) (he : 0 ≤ fe ∧ fe < 4294967296) (hf : 0 ≤ ff ∧ ff < 4294967296) (w : World) :
    Calls Try.prog 14 #[.agg #[.int .i64 6, .slice AA an ac, .slice TA tn tc, .slice UA un uc, .int .u64 fa, .int .u64 fb, .int .u64 fc, .int .u64 fd, .int .u32 fe, .int .u32 ff]] w fun r w' => r = .returned (.string (strF (cat (hd1 6) 1 (putFilterD fa fb fc fd fe ff)) 41)) ∧ Below w.heap.size w w' := by
  have HR := Lib.hid (fun (W : World) => refFilter_any fa fb fc fd fe ff ha hb hc hd he hf W)
  have hcv := conv8 (slis_hd1 (W := w.alloc (.cells #[.int .i64 6, .slice AA an ac, .slice TA tn tc, .slice UA un uc, .int .u64 fa, .int .u64 fb, .int .u64 fc, .int .u64 fd, .int .u32 fe, .int .u32 ff] 46)) (k := 6) (g := w.heap.size + 1) (by simp)) 1
  have qa := fun W => add_strF (P := Try.prog) W (hd1 6) (putFilterD fa fb fc fd fe ff) 1 40 (by omega)
  generalize strF (cat (hd1 6) 1 (putFilterD fa fb fc fd fe ff)) (1 + 40) = s2 at *
  generalize strF (putFilterD fa fb fc fd fe ff) 40 = s1 at *
  generalize strF (hd1 6) 1 = s0 at *
  clear ha hb hc hd he hf
  go_enter Try.func14, Try.ntmps14
  go_wp2_with fail
  refine (HR.out _).mono ?_
  rintro e2 w2 ⟨rfl, hb2⟩
  have hb3 := Lib.hid ((bel_alloc (bel_alloc (Below.refl _ _) _) _ : Below w.heap.size w _).trans (hb2.mono (by simp; omega)))
  clear hb2
  go_wp2_with fail
  go_ret
  exact ⟨rfl, hb3.out⟩
set_option maxRecDepth 8000 in
set_option maxHeartbeats 4000000 in
theorem refReq_k7 (AA TA UA : Option Addr) (an ac tn tc un uc : Nat) (fa fb fc fd fe ff : Int) (w : World) :
    Calls Try.prog 14 #[.agg #[.int .i64 7, .slice AA an ac, .slice TA tn tc, .slice UA un uc, .int .u64 fa, .int .u64 fb, .int .u64 fc, .int .u64 fd, .int .u32 fe, .int .u32 ff]] w fun r w' => r = .returned (.string (strF (hd1 7) 1)) ∧ Below w.heap.size w w' := by
  have hcv := conv8 (slis_hd1 (W := w.alloc (.cells #[.int .i64 7, .slice AA an ac, .slice TA tn tc, .slice UA un uc, .int .u64 fa, .int .u64 fb, .int .u64 fc, .int .u64 fd, .int .u32 fe, .int .u32 ff] 46)) (k := 7) (g := w.heap.size + 1) (by simp)) 1
  generalize strF (hd1 7) 1 = s0 at *
  go_enter Try.func14, Try.ntmps14
  go_wp2_with fail
  go_ret
  exact ⟨rfl, by (repeat (first | exact Below.refl _ _ | assumption | refine below_drewN ?_ _ | refine bel_grow ?_ _ | refine Below.drew ?_ | refine bel_alloc ?_ _ | refine bel_set ?_ (by first | exact Nat.le_refl _ | (simp; done) | (simp; omega) | omega) _ | refine bel_trans ?_ (by assumption)))⟩
set_option maxRecDepth 8000 in
set_option maxHeartbeats 4000000 in
theorem refReq_kd (AA TA UA : Option Addr) (an ac tn tc un uc : Nat) (fa fb fc fd fe ff : Int) (kd : Int) (w : World) (h : kd < 1 ∨ 7 < kd) (D : Nat → Int) :
    Calls Try.prog 14 #[.agg #[.int .i64 kd, .slice AA an ac, .slice TA tn tc, .slice UA un uc, .int .u64 fa, .int .u64 fb, .int .u64 fc, .int .u64 fd, .int .u32 fe, .int .u32 ff]] w fun r w' => r = .returned (.string (strF D 0)) ∧ Below w.heap.size w w' := by
  have e0 : strF D 0 = { data := #[] } := by unfold strF; rfl
  rw [e0]
  by_cases h1 : kd < 1
  · have k1 : decide (kd < 1) = true := decide_eq_true h1
    go_enter Try.func14, Try.ntmps14
    go_wp2_with fail
    go_ret
    exact ⟨rfl, by (repeat (first | exact Below.refl _ _ | assumption | refine below_drewN ?_ _ | refine bel_grow ?_ _ | refine Below.drew ?_ | refine bel_alloc ?_ _ | refine bel_set ?_ (by first | exact Nat.le_refl _ | (simp; done) | (simp; omega) | omega) _ | refine bel_trans ?_ (by assumption)))⟩
  · have k1 : decide (kd < 1) = false := decide_eq_false h1
    have k2 : decide (kd > 7) = true := decide_eq_true (by omega)
    go_enter Try.func14, Try.ntmps14
    go_wp2_with fail
    go_ret
    exact ⟨rfl, by (repeat (first | exact Below.refl _ _ | assumption | refine below_drewN ?_ _ | refine bel_grow ?_ _ | refine Below.drew ?_ | refine bel_alloc ?_ _ | refine bel_set ?_ (by first | exact Nat.le_refl _ | (simp; done) | (simp; omega) | omega) _ | refine bel_trans ?_ (by assumption)))⟩
end Go.Proofs.Ytncampbmnbhikaa
