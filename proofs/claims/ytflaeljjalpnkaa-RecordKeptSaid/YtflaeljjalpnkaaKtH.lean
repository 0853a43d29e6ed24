/-
  RecordKept, walked.
-/
import Derived.Test.YtflaeljjalpnkaaJ4
import Derived.Test.YtflaeljjalpnkaaJ3
import Derived.Test.YtflaeljjalpnkaaJ2
import Derived.Test.YtflaeljjalpnkaaRecE
import Derived.Test.YtflaeljjalpnkaaRecQ
namespace Go.Proofs.Ytflaeljjalpnkaa
set_option linter.unusedVariables false
set_option linter.unusedSimpArgs false
open Go.RowKit

set_option maxRecDepth 100000 in
set_option maxHeartbeats 1000000 in
theorem recordKept_far (A B : Option Addr) (n c m k : Nat) (hn : n ≤ maxLen) (hm : m ≤ maxLen) (h : 200 < n ∨ 200 < m) (w : World) : Calls Try.prog 9 #[.slice A n c, .slice B m k] w fun r w' => r = .returned (.bool true) ∧ Below w.heap.size w w' := by
  unfold maxLen at hn hm
  have RX := Lib.hid (fun w => rfixed_any w)
  by_cases h1 : 200 < n
  · have h' : decide ((n : Int) > 200) = true := decide_eq_true (by omega)
    go_enter Try.func9, Try.ntmps9
    go_wp2_with fail
    refine (RX.out _).mono ?_
    rintro e w1 ⟨rfl, hb1⟩
    go_wp2_with fail
    go_ret
    exact ⟨rfl, hb1⟩
  · have h' : decide ((n : Int) > 200) = false := decide_eq_false (by omega)
    have h'' : decide ((m : Int) > 200) = true := decide_eq_true (by omega)
    go_enter Try.func9, Try.ntmps9
    go_wp2_with fail
    refine (RX.out _).mono ?_
    rintro e w1 ⟨rfl, hb1⟩
    go_wp2_with fail
    go_ret
    exact ⟨rfl, hb1⟩
attribute [local go_sem] drew_hs
attribute [local go_sem ↓] load_Transfer store_Transfer load_Kept store_Kept load_Balance store_Balance load_Row store_Row
set_option maxRecDepth 100000 in
set_option maxHeartbeats 8000000 in
theorem recordKept_near (A B : Option Addr) (n c m k : Nat) (hC : n ≤ c ∧ c ≤ maxLen) (hk : m ≤ k ∧ k ≤ maxLen) (hn : n ≤ 200) (hm : m ≤ 200) (d e : Nat → Int) (hd : ∀ i, 0 ≤ d i ∧ d i < 256) (he : ∀ i, 0 ≤ e i ∧ e i < 256) (w : World) (hs : SlIs w A n (yV d)) (ht : SlIs w B m (yV e)) : Calls Try.prog 9 #[.slice A n c, .slice B m k] w fun r w' => r = .returned (.bool true) ∧ Below w.heap.size w w' := by
  have h1' : decide ((n : Int) > 200) = false := decide_eq_false (by omega)
  have h2' : decide ((m : Int) > 200) = false := decide_eq_false (by omega)
  have KA := fun W (hb : Below w.heap.size w W) => keptAccount_all A B n c m k d e hd he hn hm W (hs.below hb) (ht.below hb)
  have RA := fun W => refGetAccount_all (n + m) (cat d n e) (cat_ok hd he) (by unfold maxLen; omega) W
  simp only [gv_bv] at RA
  obtain ⟨ba, hba⟩ : ∃ b, decide (n = 16 ∧ n + m = 104) = b := ⟨_, rfl⟩
  obtain ⟨bc, hbc⟩ : ∃ b, decide (n + m = 104) = b := ⟨_, rfl⟩
  obtain ⟨bt, hbt⟩ : ∃ b, decide (n = 16 ∧ m = 108) = b := ⟨_, rfl⟩
  obtain ⟨br, hbr⟩ : ∃ b, decide (n = 24 ∧ m = 65) = b := ⟨_, rfl⟩
  obtain ⟨bd, hbd⟩ : ∃ b, decide (n = 16 ∧ m = 16) = b := ⟨_, rfl⟩
  rw [hba] at KA
  rw [hbc] at RA
  have KT := fun W (hb : Below w.heap.size w W) => keptTransfer_all A B n c m k hC hk d e hd he W (hs.below hb) (ht.below hb) bt hbt
  have RT := fun W => refKeptTransfer_all d e hd he n m (by omega) (by omega) bt hbt W
  have KR := fun W (hb : Below w.heap.size w W) => keptRow_all A B n c m k hC hk d e hd he W (hs.below hb) (ht.below hb) br hbr
  have RR := fun W => refKeptRow_all d e hd he n m (by omega) (by omega) br hbr W
  have KD := fun W (hb : Below w.heap.size w W) => keptDue_all A B n c m k hC hk d e hd he W (hs.below hb) (ht.below hb) bd hbd
  have RD := fun W => refKeptDue_all d e hd he n m (by omega) (by omega) bd hbd W
  have PT := fun W => keepTransfer_any (bv bt (num (cat d 16 e) 0 8)) (bv bt (num (cat d 16 e) 8 8)) (bv bt (num (cat d 16 e) 16 8)) (bv bt (num (cat d 16 e) 24 8)) (bv bt (num (cat d 16 e) 32 8)) (bv bt (num (cat d 16 e) 40 8)) (bv bt (num (cat d 16 e) 48 8)) (bv bt (num (cat d 16 e) 56 8)) (bv bt (num (cat d 16 e) 64 8)) (bv bt (num (cat d 16 e) 72 8)) (bv bt (num (cat d 16 e) 80 8)) (bv bt (num (cat d 16 e) 88 4)) (bv bt (num (cat d 16 e) 92 4)) (bv bt (num (cat d 16 e) 96 2)) (bv bt (num (cat d 16 e) 98 2)) (bv bt (num (cat d 16 e) 100 8)) (bv bt (num e 92 8)) (bv bt (num e 100 8)) (bv_rng (by omega) (num_eight (cat_ok hd he) 0)) (bv_rng (by omega) (num_eight (cat_ok hd he) 8)) (bv_rng (by omega) (num_eight (cat_ok hd he) 16)) (bv_rng (by omega) (num_eight (cat_ok hd he) 24)) (bv_rng (by omega) (num_eight (cat_ok hd he) 32)) (bv_rng (by omega) (num_eight (cat_ok hd he) 40)) (bv_rng (by omega) (num_eight (cat_ok hd he) 48)) (bv_rng (by omega) (num_eight (cat_ok hd he) 56)) (bv_rng (by omega) (num_eight (cat_ok hd he) 64)) (bv_rng (by omega) (num_eight (cat_ok hd he) 72)) (bv_rng (by omega) (num_eight (cat_ok hd he) 80)) (bv_rng (by omega) (num_four (cat_ok hd he) 88)) (bv_rng (by omega) (num_four (cat_ok hd he) 92)) (bv_rng (by omega) (num_two (cat_ok hd he) 96)) (bv_rng (by omega) (num_two (cat_ok hd he) 98)) (bv_rng (by omega) (num_eight (cat_ok hd he) 100)) (bv_rng (by omega) (num_eight he 92)) (bv_rng (by omega) (num_eight he 100)) W
  have FT := keepT_if (b := bt) hd he hbt
  have PR := fun W => keepRow_s2 (bv br (num d 0 8)) (bv br (num d 8 8)) (bv br (num e 1 8)) (bv br (num e 9 8)) (bv br (num e 17 8)) (bv br (num e 25 8)) (bv br (num e 33 8)) (bv br (num e 41 8)) (bv br (num e 49 8)) (bv br (num e 57 8)) (bv br (num d 16 8)) (bv br (e 0)) (bv_rng (by omega) (num_eight hd 0)) (bv_rng (by omega) (num_eight hd 8)) (bv_rng (by omega) (num_eight he 1)) (bv_rng (by omega) (num_eight he 9)) (bv_rng (by omega) (num_eight he 17)) (bv_rng (by omega) (num_eight he 25)) (bv_rng (by omega) (num_eight he 33)) (bv_rng (by omega) (num_eight he 41)) (bv_rng (by omega) (num_eight he 49)) (bv_rng (by omega) (num_eight he 57)) (bv_rng (by omega) (num_eight hd 16)) W
  have FR := keepR_if (b := br) hd he hbr
  have PD := fun W => keepDue_s2 (bv bd (num d 0 8)) (bv bd (num d 8 8)) (bv bd (num e 0 8)) (bv bd (num e 8 8)) (bv_rng (by omega) (num_eight hd 0)) (bv_rng (by omega) (num_eight hd 8)) (bv_rng (by omega) (num_eight he 0)) (bv_rng (by omega) (num_eight he 8)) W
  have FD := keepD_if (b := bd) hd he hbd
  have RX := fun W => rfixed_any W
  generalize putTransferD (bv bt (num (cat d 16 e) 0 8)) (bv bt (num (cat d 16 e) 8 8)) (bv bt (num (cat d 16 e) 16 8)) (bv bt (num (cat d 16 e) 24 8)) (bv bt (num (cat d 16 e) 32 8)) (bv bt (num (cat d 16 e) 40 8)) (bv bt (num (cat d 16 e) 48 8)) (bv bt (num (cat d 16 e) 56 8)) (bv bt (num (cat d 16 e) 64 8)) (bv bt (num (cat d 16 e) 72 8)) (bv bt (num (cat d 16 e) 80 8)) (bv bt (num (cat d 16 e) 88 4)) (bv bt (num (cat d 16 e) 92 4)) (bv bt (num (cat d 16 e) 96 2)) (bv bt (num (cat d 16 e) 98 2)) (bv bt (num (cat d 16 e) 100 8)) = DT at *
  generalize rowD (bv br (e 0)) (bv br (num e 1 8)) (bv br (num e 9 8)) (bv br (num e 17 8)) (bv br (num e 25 8)) (bv br (num e 33 8)) (bv br (num e 41 8)) (bv br (num e 49 8)) (bv br (num e 57 8)) (bv br (num d 16 8)) = DR at *
  generalize cat (dgt (bv br (num d 0 8)) (bv br (num d 8 8))) 16 (nb 8 (bv br (num d 16 8))) = DK at *
  generalize cat (nb 8 (bv bd (num d 0 8))) 8 (nb 8 (bv bd (num d 8 8))) = DD at *
  generalize dgt (bv bd (num e 0 8)) (bv bd (num e 8 8)) = DE at *
  generalize cat (shf DT 16) 92 (dgt (bv bt (num e 92 8)) (bv bt (num e 100 8))) = DV at *
  generalize bv bt (num (cat d 16 e) 0 8) = xt0 at *
  generalize bv bt (num (cat d 16 e) 8 8) = xt1 at *
  generalize bv bt (num (cat d 16 e) 16 8) = xt2 at *
  generalize bv bt (num (cat d 16 e) 24 8) = xt3 at *
  generalize bv bt (num (cat d 16 e) 32 8) = xt4 at *
  generalize bv bt (num (cat d 16 e) 40 8) = xt5 at *
  generalize bv bt (num (cat d 16 e) 48 8) = xt6 at *
  generalize bv bt (num (cat d 16 e) 56 8) = xt7 at *
  generalize bv bt (num (cat d 16 e) 64 8) = xt8 at *
  generalize bv bt (num (cat d 16 e) 72 8) = xt9 at *
  generalize bv bt (num (cat d 16 e) 80 8) = xt10 at *
  generalize bv bt (num (cat d 16 e) 88 4) = xt11 at *
  generalize bv bt (num (cat d 16 e) 92 4) = xt12 at *
  generalize bv bt (num (cat d 16 e) 96 2) = xt13 at *
  generalize bv bt (num (cat d 16 e) 98 2) = xt14 at *
  generalize bv bt (num (cat d 16 e) 100 8) = xt15 at *
  generalize bv bt (num e 92 8) = xt16 at *
  generalize bv bt (num e 100 8) = xt17 at *
  generalize num (cat d n e) 0 8 = xa0 at *
  generalize num (cat d n e) 8 8 = xa1 at *
  generalize num (cat d n e) 16 8 = xa2 at *
  generalize num (cat d n e) 24 8 = xa3 at *
  generalize num (cat d n e) 32 8 = xa4 at *
  generalize num (cat d n e) 40 8 = xa5 at *
  generalize num (cat d n e) 48 8 = xa6 at *
  generalize num (cat d n e) 56 8 = xa7 at *
  generalize num (cat d n e) 64 8 = xa8 at *
  generalize num (cat d n e) 72 8 = xa9 at *
  generalize num (cat d n e) 80 8 = xa10 at *
  generalize num (cat d n e) 88 4 = xa11 at *
  generalize num (cat d n e) 92 2 = xa12 at *
  generalize num (cat d n e) 94 2 = xa13 at *
  generalize num (cat d n e) 96 8 = xa14 at *
  generalize bv br (num e 1 8) = xr0 at *
  generalize bv br (num e 9 8) = xr1 at *
  generalize bv br (num e 17 8) = xr2 at *
  generalize bv br (num e 25 8) = xr3 at *
  generalize bv br (num e 33 8) = xr4 at *
  generalize bv br (num e 41 8) = xr5 at *
  generalize bv br (num e 49 8) = xr6 at *
  generalize bv br (num e 57 8) = xr7 at *
  generalize bv br (e 0) = xr8 at *
  generalize bv br (num d 0 8) = xd0 at *
  generalize bv br (num d 8 8) = xd1 at *
  generalize bv br (num d 16 8) = xd2 at *
  generalize bv bd (num d 0 8) = xe0 at *
  generalize bv bd (num d 8 8) = xe1 at *
  generalize bv bd (num e 0 8) = xe2 at *
  generalize bv bd (num e 8 8) = xe3 at *
  have hnm : n + m ≤ 9223372036854775807 := by omega
  have q1 := fun dd => conv8 (hs.below (grow_below w dd)) c
  have q2 := fun dd => conv8 (ht.below (grow_below w dd)) k
  clear hs ht hd he hbt hbr hbd hn hm hC hk
  replace KA := Lib.hid KA
  replace RA := Lib.hid RA
  replace KT := Lib.hid KT
  replace RT := Lib.hid RT
  replace KR := Lib.hid KR
  replace RR := Lib.hid RR
  replace KD := Lib.hid KD
  replace RD := Lib.hid RD
  replace PT := Lib.hid PT
  replace PR := Lib.hid PR
  replace PD := Lib.hid PD
  replace FT := Lib.hid FT
  replace FR := Lib.hid FR
  replace FD := Lib.hid FD
  replace RX := Lib.hid RX
  replace hba := Lib.hid hba
  replace hbc := Lib.hid hbc
  go_enter Try.func9, Try.ntmps9
  go_upto_region 3 with fail
  first | (with_reducible refine rgrow2 (by kernel_rfl) (by kernel_rfl) ?_) | (refine rgrow (by kernel_rfl) (by kernel_rfl) ?_)
  repeat (go_big_quiet_step ((fail)))
  refine wpQuiet_nil ?_
  intro dr
  clear q1 q2
  have hb0 := grow_below w dr
  generalize Grow w dr = w0 at *
  as_aux_lemma =>
    replace hb0 := Lib.hid hb0
    go_wp2_with fail
    refine (KA.out _ (by have t := hb0.out; first | ((repeat (first | with_reducible exact Below.refl _ _ | with_reducible assumption | (with_reducible refine bel_set ?_ (by first | exact Nat.le_refl _ | (simp; done) | (simp; omega) | omega) _) | with_reducible refine bel_grow ?_ _ | with_reducible refine Below.drew ?_ | with_reducible refine below_drewN ?_ _ | with_reducible refine bel_alloc ?_ _ | with_reducible refine bel_trans ?_ (by assumption))); done) | (repeat (first | exact Below.refl _ _ | assumption | refine below_drewN ?_ _ | refine bel_grow ?_ _ | refine Below.drew ?_ | refine bel_alloc ?_ _ | refine bel_set ?_ (by first | exact Nat.le_refl _ | (simp; done) | (simp; omega) | omega) _ | refine bel_trans ?_ (by assumption))))).mono ?_
    rintro e w_1 ⟨rfl, hb_1⟩
    have z_1 := hb_1.size
    try simp at z_1
    have t_ := hb0.out
    have hB_1 := bel_eld (w := w) (X := _) (by first | ((repeat (first | with_reducible exact Below.refl _ _ | with_reducible assumption | (with_reducible refine bel_set ?_ (by first | exact Nat.le_refl _ | (simp; done) | (simp; omega) | omega) _) | with_reducible refine bel_grow ?_ _ | with_reducible refine Below.drew ?_ | with_reducible refine below_drewN ?_ _ | with_reducible refine bel_alloc ?_ _ | with_reducible refine bel_trans ?_ (by assumption))); done) | (repeat (first | exact Below.refl _ _ | assumption | refine below_drewN ?_ _ | refine bel_grow ?_ _ | refine Below.drew ?_ | refine bel_alloc ?_ _ | refine bel_set ?_ (by first | exact Nat.le_refl _ | (simp; done) | (simp; omega) | omega) _ | refine bel_trans ?_ (by assumption)))) hb_1
    clear t_
    clear hb0 hb_1
    replace hB_1 := Lib.hid hB_1
    go_wp2_with fail
    refine (RA.out _).mono ?_
    rintro e w_2 ⟨rfl, hb_2⟩
    have z_2 := hb_2.size
    try simp at z_2
    have t_ := hB_1.out
    have hB_2 := bel_eld (w := w) (X := _) (by first | ((repeat (first | with_reducible exact Below.refl _ _ | with_reducible assumption | (with_reducible refine bel_set ?_ (by first | exact Nat.le_refl _ | (simp; done) | (simp; omega) | omega) _) | with_reducible refine bel_grow ?_ _ | with_reducible refine Below.drew ?_ | with_reducible refine below_drewN ?_ _ | with_reducible refine bel_alloc ?_ _ | with_reducible refine bel_trans ?_ (by assumption))); done) | (repeat (first | exact Below.refl _ _ | assumption | refine below_drewN ?_ _ | refine bel_grow ?_ _ | refine Below.drew ?_ | refine bel_alloc ?_ _ | refine bel_set ?_ (by first | exact Nat.le_refl _ | (simp; done) | (simp; omega) | omega) _ | refine bel_trans ?_ (by assumption)))) hb_2
    clear t_
    have g_a : Blk w_2 (w_1.heap.size) 56 #[.int .u64 (bv ba xa0), .int .u64 (bv ba xa1), .int .u64 (bv ba xa2), .int .u64 (bv ba xa3), .int .u64 (bv ba xa4), .int .u64 (bv ba xa5), .int .u64 (bv ba xa6), .int .u64 (bv ba xa7), .int .u64 (bv ba xa8), .int .u64 (bv ba xa9), .int .u64 (bv ba xa10), .int .u32 (bv ba xa11), .int .u16 (bv ba xa12), .int .u16 (bv ba xa13), .int .u64 (bv ba xa14)] := by
      refine Blk.kept ?_ hb_2
      (repeat (first | with_reducible assumption | (with_reducible refine Blk.new' ?_; first | with_reducible rfl | (simp; done)) | with_reducible refine Blk.alloc ?_ _ | with_reducible refine Blk.grow ?_ _ | with_reducible refine Blk.drew ?_ | with_reducible refine Blk.drewN ?_ _ | (with_reducible refine Blk.far ?_ (by first | (dsimp only; omega) | (simp; omega)) _) | (with_reducible apply Blk.two) | (with_reducible refine Blk.set' ?_ _ _ ?_) | (with_reducible rfl) | rfl))
    clear hB_1 hb_2
    have f_a := g_a
    clear g_a
    have r_a := rowAt_blk f_a
    have a_l := f_a.lt
    replace f_a := Lib.hid f_a
    replace hB_2 := Lib.hid hB_2
    go_upto_region 6 with fail
    refine abs_wp (fun Y_ => Below w.heap.size w Y_ ∧ Blk Y_ (w_1.heap.size) 56 #[.int .u64 (bv ba xa0), .int .u64 (bv ba xa1), .int .u64 (bv ba xa2), .int .u64 (bv ba xa3), .int .u64 (bv ba xa4), .int .u64 (bv ba xa5), .int .u64 (bv ba xa6), .int .u64 (bv ba xa7), .int .u64 (bv ba xa8), .int .u64 (bv ba xa9), .int .u64 (bv ba xa10), .int .u32 (bv ba xa11), .int .u16 (bv ba xa12), .int .u16 (bv ba xa13), .int .u64 (bv ba xa14)] ∧ Blk Y_ (w_2.heap.size) 56 #[.int .u64 (bv bc xa0), .int .u64 (bv bc xa1), .int .u64 (bv bc xa2), .int .u64 (bv bc xa3), .int .u64 (bv bc xa4), .int .u64 (bv bc xa5), .int .u64 (bv bc xa6), .int .u64 (bv bc xa7), .int .u64 (bv bc xa8), .int .u64 (bv bc xa9), .int .u64 (bv bc xa10), .int .u32 (bv bc xa11), .int .u16 (bv bc xa12), .int .u16 (bv bc xa13), .int .u64 (bv bc xa14)]) ?_ ?_
    · have t_B := hB_2.out
      have t_a := f_a.out
      refine ⟨by (repeat (first | with_reducible exact Below.refl _ _ | with_reducible assumption | (with_reducible refine bel_set ?_ (by first | exact Nat.le_refl _ | (simp; done) | (simp; omega) | omega) _) | with_reducible refine bel_grow ?_ _ | with_reducible refine Below.drew ?_ | with_reducible refine bel_alloc ?_ _ | with_reducible refine bel_eld ?_ (by assumption))), ?_, ?_⟩
      · (repeat (first | with_reducible assumption | (with_reducible refine Blk.new' ?_; first | with_reducible rfl | (simp; done)) | with_reducible refine Blk.alloc ?_ _ | with_reducible refine Blk.grow ?_ _ | with_reducible refine Blk.drew ?_ | with_reducible refine Blk.drewN ?_ _ | (with_reducible refine Blk.far ?_ (by first | (dsimp only; omega) | (simp; omega)) _) | (with_reducible apply Blk.two) | (with_reducible refine Blk.kept ?_ (by assumption)) | (with_reducible refine Blk.setRow ?_ (by first | rfl | (simp; done))) | (with_reducible refine Blk.setRow_far ?_ (by first | omega | (simp; omega)) _) | (with_reducible refine Blk.set' ?_ _ _ (by first | rfl | (simp; done)))))
      · (repeat (first | with_reducible assumption | (with_reducible refine Blk.new' ?_; first | with_reducible rfl | (simp; done)) | with_reducible refine Blk.alloc ?_ _ | with_reducible refine Blk.grow ?_ _ | with_reducible refine Blk.drew ?_ | with_reducible refine Blk.drewN ?_ _ | (with_reducible refine Blk.far ?_ (by first | (dsimp only; omega) | (simp; omega)) _) | (with_reducible apply Blk.two) | (with_reducible refine Blk.kept ?_ (by assumption)) | (with_reducible refine Blk.setRow ?_ (by first | rfl | (simp; done))) | (with_reducible refine Blk.setRow_far ?_ (by first | omega | (simp; omega)) _) | (with_reducible refine Blk.set' ?_ _ _ (by first | rfl | (simp; done)))))
    clear f_a a_l r_a hB_2
    rintro X ⟨hB_3, f_a, f_c⟩
    have r_a := rowAt_blk f_a
    have a_l := f_a.lt
    replace f_a := Lib.hid f_a
    have r_c := rowAt_blk f_c
    have c_l := f_c.lt
    replace f_c := Lib.hid f_c
    replace hB_3 := Lib.hid hB_3
    go_cut [10] (fun s10 wx => s10 = .bool ba ∧ X = wx)
    case first =>
      cases bc
      · go_wp2_with fail
        go_meet
        exact ⟨by rw [kb1 hbc.out hba.out], rfl⟩
      · by_cases h16 : n = 16
        · have h16' : ((n : Int) == 16) = true := by simp [h16]
          have hx : ba = true := kb3 h16 hbc.out hba.out
          replace h16 := Lib.hid h16
          replace hx := Lib.hid hx
          go_wp2_with fail
          go_meet
          exact ⟨by rw [hx.out], rfl⟩
        · have h16' : ((n : Int) == 16) = false := by simp; omega
          have hx : ba = false := kb2 h16 hba.out
          replace h16 := Lib.hid h16
          replace hx := Lib.hid hx
          go_wp2_with fail
          go_meet
          exact ⟨by rw [hx.out], rfl⟩
    case rest =>
      obtain ⟨rfl, rfl⟩ := hcut
      go_upto_region 7 with fail
      go_cut [82] (fun s82 wx => s82 = .bool false ∧ X = wx)
      case first =>
        cases ba
        · simp only [bv_f] at r_a
          go_wp2_with fail
          go_meet
          exact ⟨rfl, rfl⟩
        · obtain rfl : true = bc := (kb4 hbc.out hba.out).symm
          go_wp2_with fail
          go_meet
          exact ⟨rfl, rfl⟩
      case rest =>
        obtain ⟨rfl, rfl⟩ := hcut
        clear f_a r_a a_l f_c r_c c_l
        as_aux_lemma =>
          replace hB_3 := Lib.hid hB_3
          go_wp2_with fail
          refine (KT.out _ (by have t := hB_3.out; first | ((repeat (first | with_reducible exact Below.refl _ _ | with_reducible assumption | (with_reducible refine bel_set ?_ (by first | exact Nat.le_refl _ | (simp; done) | (simp; omega) | omega) _) | with_reducible refine bel_grow ?_ _ | with_reducible refine Below.drew ?_ | with_reducible refine below_drewN ?_ _ | with_reducible refine bel_alloc ?_ _ | with_reducible refine bel_trans ?_ (by assumption))); done) | (repeat (first | exact Below.refl _ _ | assumption | refine below_drewN ?_ _ | refine bel_grow ?_ _ | refine Below.drew ?_ | refine bel_alloc ?_ _ | refine bel_set ?_ (by first | exact Nat.le_refl _ | (simp; done) | (simp; omega) | omega) _ | refine bel_trans ?_ (by assumption))))).mono ?_
          rintro e w_4 ⟨rfl, hb_4⟩
          have z_4 := hb_4.size
          try simp at z_4
          have t_ := hB_3.out
          have hB_4 := bel_eld (w := w) (X := _) (by first | ((repeat (first | with_reducible exact Below.refl _ _ | with_reducible assumption | (with_reducible refine bel_set ?_ (by first | exact Nat.le_refl _ | (simp; done) | (simp; omega) | omega) _) | with_reducible refine bel_grow ?_ _ | with_reducible refine Below.drew ?_ | with_reducible refine below_drewN ?_ _ | with_reducible refine bel_alloc ?_ _ | with_reducible refine bel_trans ?_ (by assumption))); done) | (repeat (first | exact Below.refl _ _ | assumption | refine below_drewN ?_ _ | refine bel_grow ?_ _ | refine Below.drew ?_ | refine bel_alloc ?_ _ | refine bel_set ?_ (by first | exact Nat.le_refl _ | (simp; done) | (simp; omega) | omega) _ | refine bel_trans ?_ (by assumption)))) hb_4
          clear t_
          clear hB_3 hb_4
          replace hB_4 := Lib.hid hB_4
          go_wp2_with fail
          refine (RT.out _).mono ?_
          rintro e w_5 ⟨rfl, hb_5⟩
          have z_5 := hb_5.size
          try simp at z_5
          have t_ := hB_4.out
          have hB_5 := bel_eld (w := w) (X := _) (by first | ((repeat (first | with_reducible exact Below.refl _ _ | with_reducible assumption | (with_reducible refine bel_set ?_ (by first | exact Nat.le_refl _ | (simp; done) | (simp; omega) | omega) _) | with_reducible refine bel_grow ?_ _ | with_reducible refine Below.drew ?_ | with_reducible refine below_drewN ?_ _ | with_reducible refine bel_alloc ?_ _ | with_reducible refine bel_trans ?_ (by assumption))); done) | (repeat (first | exact Below.refl _ _ | assumption | refine below_drewN ?_ _ | refine bel_grow ?_ _ | refine Below.drew ?_ | refine bel_alloc ?_ _ | refine bel_set ?_ (by first | exact Nat.le_refl _ | (simp; done) | (simp; omega) | omega) _ | refine bel_trans ?_ (by assumption)))) hb_5
          clear t_
          have g_x : Blk w_5 (w_4.heap.size) 78 #[.int .u64 xt0, .int .u64 xt1, .int .u64 xt2, .int .u64 xt3, .int .u64 xt4, .int .u64 xt5, .int .u64 xt6, .int .u64 xt7, .int .u64 xt8, .int .u64 xt9, .int .u64 xt10, .int .u32 xt11, .int .u32 xt12, .int .u16 xt13, .int .u16 xt14, .int .u64 xt15, .int .u64 xt16, .int .u64 xt17] := by
            refine Blk.kept ?_ hb_5
            (repeat (first | with_reducible assumption | (with_reducible refine Blk.new' ?_; first | with_reducible rfl | (simp; done)) | with_reducible refine Blk.alloc ?_ _ | with_reducible refine Blk.grow ?_ _ | with_reducible refine Blk.drew ?_ | with_reducible refine Blk.drewN ?_ _ | (with_reducible refine Blk.far ?_ (by first | (dsimp only; omega) | (simp; omega)) _) | (with_reducible apply Blk.two) | (with_reducible refine Blk.set' ?_ _ _ ?_) | (with_reducible rfl) | rfl))
          clear hB_4 hb_5
          have f_x := g_x
          clear g_x
          have r_x := rowAt_blk f_x
          have x_l := f_x.lt
          replace f_x := Lib.hid f_x
          replace hB_5 := Lib.hid hB_5
          as_aux_lemma =>
            go_wp2_with fail
            refine (KR.out _ (by have t := hB_5.out; first | ((repeat (first | with_reducible exact Below.refl _ _ | with_reducible assumption | (with_reducible refine bel_set ?_ (by first | exact Nat.le_refl _ | (simp; done) | (simp; omega) | omega) _) | with_reducible refine bel_grow ?_ _ | with_reducible refine Below.drew ?_ | with_reducible refine below_drewN ?_ _ | with_reducible refine bel_alloc ?_ _ | with_reducible refine bel_trans ?_ (by assumption))); done) | (repeat (first | exact Below.refl _ _ | assumption | refine below_drewN ?_ _ | refine bel_grow ?_ _ | refine Below.drew ?_ | refine bel_alloc ?_ _ | refine bel_set ?_ (by first | exact Nat.le_refl _ | (simp; done) | (simp; omega) | omega) _ | refine bel_trans ?_ (by assumption))))).mono ?_
            rintro e w_6 ⟨rfl, hb_6⟩
            have z_6 := hb_6.size
            try simp at z_6
            have t_ := hB_5.out
            have hB_6 := bel_eld (w := w) (X := _) (by first | ((repeat (first | with_reducible exact Below.refl _ _ | with_reducible assumption | (with_reducible refine bel_set ?_ (by first | exact Nat.le_refl _ | (simp; done) | (simp; omega) | omega) _) | with_reducible refine bel_grow ?_ _ | with_reducible refine Below.drew ?_ | with_reducible refine below_drewN ?_ _ | with_reducible refine bel_alloc ?_ _ | with_reducible refine bel_trans ?_ (by assumption))); done) | (repeat (first | exact Below.refl _ _ | assumption | refine below_drewN ?_ _ | refine bel_grow ?_ _ | refine Below.drew ?_ | refine bel_alloc ?_ _ | refine bel_set ?_ (by first | exact Nat.le_refl _ | (simp; done) | (simp; omega) | omega) _ | refine bel_trans ?_ (by assumption)))) hb_6
            clear t_
            have t_x := f_x.out
            have g_x : Blk w_6 (w_4.heap.size) 78 #[.int .u64 xt0, .int .u64 xt1, .int .u64 xt2, .int .u64 xt3, .int .u64 xt4, .int .u64 xt5, .int .u64 xt6, .int .u64 xt7, .int .u64 xt8, .int .u64 xt9, .int .u64 xt10, .int .u32 xt11, .int .u32 xt12, .int .u16 xt13, .int .u16 xt14, .int .u64 xt15, .int .u64 xt16, .int .u64 xt17] := by
              refine Blk.kept ?_ hb_6
              (repeat (first | with_reducible assumption | (with_reducible refine Blk.new' ?_; first | with_reducible rfl | (simp; done)) | with_reducible refine Blk.alloc ?_ _ | with_reducible refine Blk.grow ?_ _ | with_reducible refine Blk.drew ?_ | with_reducible refine Blk.drewN ?_ _ | (with_reducible refine Blk.far ?_ (by first | (dsimp only; omega) | (simp; omega)) _) | (with_reducible apply Blk.two) | (with_reducible refine Blk.set' ?_ _ _ ?_) | (with_reducible rfl) | rfl))
            have g_y : Blk w_6 (w_5.heap.size) 78 #[.int .u64 xt0, .int .u64 xt1, .int .u64 xt2, .int .u64 xt3, .int .u64 xt4, .int .u64 xt5, .int .u64 xt6, .int .u64 xt7, .int .u64 xt8, .int .u64 xt9, .int .u64 xt10, .int .u32 xt11, .int .u32 xt12, .int .u16 xt13, .int .u16 xt14, .int .u64 xt15, .int .u64 xt16, .int .u64 xt17] := by
              refine Blk.kept ?_ hb_6
              (repeat (first | with_reducible assumption | (with_reducible refine Blk.new' ?_; first | with_reducible rfl | (simp; done)) | with_reducible refine Blk.alloc ?_ _ | with_reducible refine Blk.grow ?_ _ | with_reducible refine Blk.drew ?_ | with_reducible refine Blk.drewN ?_ _ | (with_reducible refine Blk.far ?_ (by first | (dsimp only; omega) | (simp; omega)) _) | (with_reducible apply Blk.two) | (with_reducible refine Blk.set' ?_ _ _ ?_) | (with_reducible rfl) | rfl))
            clear f_x x_l r_x t_x hB_5 hb_6
            have f_x := g_x
            clear g_x
            have f_y := g_y
            clear g_y
            have r_x := rowAt_blk f_x
            have x_l := f_x.lt
            replace f_x := Lib.hid f_x
            have r_y := rowAt_blk f_y
            have y_l := f_y.lt
            replace f_y := Lib.hid f_y
            replace hB_6 := Lib.hid hB_6
            go_wp2_with fail
            refine (RR.out _).mono ?_
            rintro e w_7 ⟨rfl, hb_7⟩
            have z_7 := hb_7.size
            try simp at z_7
            have t_ := hB_6.out
            have hB_7 := bel_eld (w := w) (X := _) (by first | ((repeat (first | with_reducible exact Below.refl _ _ | with_reducible assumption | (with_reducible refine bel_set ?_ (by first | exact Nat.le_refl _ | (simp; done) | (simp; omega) | omega) _) | with_reducible refine bel_grow ?_ _ | with_reducible refine Below.drew ?_ | with_reducible refine below_drewN ?_ _ | with_reducible refine bel_alloc ?_ _ | with_reducible refine bel_trans ?_ (by assumption))); done) | (repeat (first | exact Below.refl _ _ | assumption | refine below_drewN ?_ _ | refine bel_grow ?_ _ | refine Below.drew ?_ | refine bel_alloc ?_ _ | refine bel_set ?_ (by first | exact Nat.le_refl _ | (simp; done) | (simp; omega) | omega) _ | refine bel_trans ?_ (by assumption)))) hb_7
            clear t_
            have t_x := f_x.out
            have t_y := f_y.out
            have g_x : Blk w_7 (w_4.heap.size) 78 #[.int .u64 xt0, .int .u64 xt1, .int .u64 xt2, .int .u64 xt3, .int .u64 xt4, .int .u64 xt5, .int .u64 xt6, .int .u64 xt7, .int .u64 xt8, .int .u64 xt9, .int .u64 xt10, .int .u32 xt11, .int .u32 xt12, .int .u16 xt13, .int .u16 xt14, .int .u64 xt15, .int .u64 xt16, .int .u64 xt17] := by
              refine Blk.kept ?_ hb_7
              (repeat (first | with_reducible assumption | (with_reducible refine Blk.new' ?_; first | with_reducible rfl | (simp; done)) | with_reducible refine Blk.alloc ?_ _ | with_reducible refine Blk.grow ?_ _ | with_reducible refine Blk.drew ?_ | with_reducible refine Blk.drewN ?_ _ | (with_reducible refine Blk.far ?_ (by first | (dsimp only; omega) | (simp; omega)) _) | (with_reducible apply Blk.two) | (with_reducible refine Blk.set' ?_ _ _ ?_) | (with_reducible rfl) | rfl))
            have g_y : Blk w_7 (w_5.heap.size) 78 #[.int .u64 xt0, .int .u64 xt1, .int .u64 xt2, .int .u64 xt3, .int .u64 xt4, .int .u64 xt5, .int .u64 xt6, .int .u64 xt7, .int .u64 xt8, .int .u64 xt9, .int .u64 xt10, .int .u32 xt11, .int .u32 xt12, .int .u16 xt13, .int .u16 xt14, .int .u64 xt15, .int .u64 xt16, .int .u64 xt17] := by
              refine Blk.kept ?_ hb_7
              (repeat (first | with_reducible assumption | (with_reducible refine Blk.new' ?_; first | with_reducible rfl | (simp; done)) | with_reducible refine Blk.alloc ?_ _ | with_reducible refine Blk.grow ?_ _ | with_reducible refine Blk.drew ?_ | with_reducible refine Blk.drewN ?_ _ | (with_reducible refine Blk.far ?_ (by first | (dsimp only; omega) | (simp; omega)) _) | (with_reducible apply Blk.two) | (with_reducible refine Blk.set' ?_ _ _ ?_) | (with_reducible rfl) | rfl))
            have g_i : Blk w_7 (w_6.heap.size) 24 #[.int .u64 xd0, .int .u64 xd1] := by
              refine Blk.kept ?_ hb_7
              (repeat (first | with_reducible assumption | (with_reducible refine Blk.new' ?_; first | with_reducible rfl | (simp; done)) | with_reducible refine Blk.alloc ?_ _ | with_reducible refine Blk.grow ?_ _ | with_reducible refine Blk.drew ?_ | with_reducible refine Blk.drewN ?_ _ | (with_reducible refine Blk.far ?_ (by first | (dsimp only; omega) | (simp; omega)) _) | (with_reducible apply Blk.two) | (with_reducible refine Blk.set' ?_ _ _ ?_) | (with_reducible rfl) | rfl))
            have g_r : Blk w_7 (w_6.heap.size + 1) 30 #[.int .u64 xr0, .int .u64 xr1, .int .u64 xr2, .int .u64 xr3, .int .u64 xr4, .int .u64 xr5, .int .u64 xr6, .int .u64 xr7, .int .u64 xd2, .int .u8 xr8] := by
              refine Blk.kept ?_ hb_7
              (repeat (first | with_reducible assumption | (with_reducible refine Blk.new' ?_; first | with_reducible rfl | (simp; done)) | with_reducible refine Blk.alloc ?_ _ | with_reducible refine Blk.grow ?_ _ | with_reducible refine Blk.drew ?_ | with_reducible refine Blk.drewN ?_ _ | (with_reducible refine Blk.far ?_ (by first | (dsimp only; omega) | (simp; omega)) _) | (with_reducible apply Blk.two) | (with_reducible refine Blk.set' ?_ _ _ ?_) | (with_reducible rfl) | rfl))
            clear f_x x_l r_x f_y y_l r_y t_x t_y hB_6 hb_7
            have f_x := g_x
            clear g_x
            have f_y := g_y
            clear g_y
            have f_i := g_i
            clear g_i
            have f_r := g_r
            clear g_r
            have r_x := rowAt_blk f_x
            have x_l := f_x.lt
            replace f_x := Lib.hid f_x
            have r_y := rowAt_blk f_y
            have y_l := f_y.lt
            replace f_y := Lib.hid f_y
            have i_0 : w_7.cell? ⟨w_6.heap.size, 0, none⟩ = some (.int .u64 xd0) := (f_i).cell 0
            have i_1 : w_7.cell? ⟨w_6.heap.size, 1, none⟩ = some (.int .u64 xd1) := (f_i).cell 1
            have i_f0 := (f_i).frozen 0
            have i_f1 := (f_i).frozen 1
            have i_l := (f_i).lt
            replace f_i := Lib.hid f_i
            have r_r := rowAt_blk f_r
            have r_l := f_r.lt
            replace f_r := Lib.hid f_r
            replace hB_7 := Lib.hid hB_7
            as_aux_lemma =>
              go_wp2_with fail
              refine (KD.out _ (by have t := hB_7.out; first | ((repeat (first | with_reducible exact Below.refl _ _ | with_reducible assumption | (with_reducible refine bel_set ?_ (by first | exact Nat.le_refl _ | (simp; done) | (simp; omega) | omega) _) | with_reducible refine bel_grow ?_ _ | with_reducible refine Below.drew ?_ | with_reducible refine below_drewN ?_ _ | with_reducible refine bel_alloc ?_ _ | with_reducible refine bel_trans ?_ (by assumption))); done) | (repeat (first | exact Below.refl _ _ | assumption | refine below_drewN ?_ _ | refine bel_grow ?_ _ | refine Below.drew ?_ | refine bel_alloc ?_ _ | refine bel_set ?_ (by first | exact Nat.le_refl _ | (simp; done) | (simp; omega) | omega) _ | refine bel_trans ?_ (by assumption))))).mono ?_
              rintro e w_8 ⟨rfl, hb_8⟩
              have z_8 := hb_8.size
              try simp at z_8
              have t_ := hB_7.out
              have hB_8 := bel_eld (w := w) (X := _) (by first | ((repeat (first | with_reducible exact Below.refl _ _ | with_reducible assumption | (with_reducible refine bel_set ?_ (by first | exact Nat.le_refl _ | (simp; done) | (simp; omega) | omega) _) | with_reducible refine bel_grow ?_ _ | with_reducible refine Below.drew ?_ | with_reducible refine below_drewN ?_ _ | with_reducible refine bel_alloc ?_ _ | with_reducible refine bel_trans ?_ (by assumption))); done) | (repeat (first | exact Below.refl _ _ | assumption | refine below_drewN ?_ _ | refine bel_grow ?_ _ | refine Below.drew ?_ | refine bel_alloc ?_ _ | refine bel_set ?_ (by first | exact Nat.le_refl _ | (simp; done) | (simp; omega) | omega) _ | refine bel_trans ?_ (by assumption)))) hb_8
              clear t_
              have t_x := f_x.out
              have t_y := f_y.out
              have t_i := f_i.out
              have t_r := f_r.out
              have g_x : Blk w_8 (w_4.heap.size) 78 #[.int .u64 xt0, .int .u64 xt1, .int .u64 xt2, .int .u64 xt3, .int .u64 xt4, .int .u64 xt5, .int .u64 xt6, .int .u64 xt7, .int .u64 xt8, .int .u64 xt9, .int .u64 xt10, .int .u32 xt11, .int .u32 xt12, .int .u16 xt13, .int .u16 xt14, .int .u64 xt15, .int .u64 xt16, .int .u64 xt17] := by
                refine Blk.kept ?_ hb_8
                (repeat (first | with_reducible assumption | (with_reducible refine Blk.new' ?_; first | with_reducible rfl | (simp; done)) | with_reducible refine Blk.alloc ?_ _ | with_reducible refine Blk.grow ?_ _ | with_reducible refine Blk.drew ?_ | with_reducible refine Blk.drewN ?_ _ | (with_reducible refine Blk.far ?_ (by first | (dsimp only; omega) | (simp; omega)) _) | (with_reducible apply Blk.two) | (with_reducible refine Blk.set' ?_ _ _ ?_) | (with_reducible rfl) | rfl))
              have g_y : Blk w_8 (w_5.heap.size) 78 #[.int .u64 xt0, .int .u64 xt1, .int .u64 xt2, .int .u64 xt3, .int .u64 xt4, .int .u64 xt5, .int .u64 xt6, .int .u64 xt7, .int .u64 xt8, .int .u64 xt9, .int .u64 xt10, .int .u32 xt11, .int .u32 xt12, .int .u16 xt13, .int .u16 xt14, .int .u64 xt15, .int .u64 xt16, .int .u64 xt17] := by
                refine Blk.kept ?_ hb_8
                (repeat (first | with_reducible assumption | (with_reducible refine Blk.new' ?_; first | with_reducible rfl | (simp; done)) | with_reducible refine Blk.alloc ?_ _ | with_reducible refine Blk.grow ?_ _ | with_reducible refine Blk.drew ?_ | with_reducible refine Blk.drewN ?_ _ | (with_reducible refine Blk.far ?_ (by first | (dsimp only; omega) | (simp; omega)) _) | (with_reducible apply Blk.two) | (with_reducible refine Blk.set' ?_ _ _ ?_) | (with_reducible rfl) | rfl))
              have g_i : Blk w_8 (w_6.heap.size) 24 #[.int .u64 xd0, .int .u64 xd1] := by
                refine Blk.kept ?_ hb_8
                (repeat (first | with_reducible assumption | (with_reducible refine Blk.new' ?_; first | with_reducible rfl | (simp; done)) | with_reducible refine Blk.alloc ?_ _ | with_reducible refine Blk.grow ?_ _ | with_reducible refine Blk.drew ?_ | with_reducible refine Blk.drewN ?_ _ | (with_reducible refine Blk.far ?_ (by first | (dsimp only; omega) | (simp; omega)) _) | (with_reducible apply Blk.two) | (with_reducible refine Blk.set' ?_ _ _ ?_) | (with_reducible rfl) | rfl))
              have g_r : Blk w_8 (w_6.heap.size + 1) 30 #[.int .u64 xr0, .int .u64 xr1, .int .u64 xr2, .int .u64 xr3, .int .u64 xr4, .int .u64 xr5, .int .u64 xr6, .int .u64 xr7, .int .u64 xd2, .int .u8 xr8] := by
                refine Blk.kept ?_ hb_8
                (repeat (first | with_reducible assumption | (with_reducible refine Blk.new' ?_; first | with_reducible rfl | (simp; done)) | with_reducible refine Blk.alloc ?_ _ | with_reducible refine Blk.grow ?_ _ | with_reducible refine Blk.drew ?_ | with_reducible refine Blk.drewN ?_ _ | (with_reducible refine Blk.far ?_ (by first | (dsimp only; omega) | (simp; omega)) _) | (with_reducible apply Blk.two) | (with_reducible refine Blk.set' ?_ _ _ ?_) | (with_reducible rfl) | rfl))
              have g_o : Blk w_8 (w_7.heap.size) 24 #[.int .u64 xd0, .int .u64 xd1] := by
                refine Blk.kept ?_ hb_8
                (repeat (first | with_reducible assumption | (with_reducible refine Blk.new' ?_; first | with_reducible rfl | (simp; done)) | with_reducible refine Blk.alloc ?_ _ | with_reducible refine Blk.grow ?_ _ | with_reducible refine Blk.drew ?_ | with_reducible refine Blk.drewN ?_ _ | (with_reducible refine Blk.far ?_ (by first | (dsimp only; omega) | (simp; omega)) _) | (with_reducible apply Blk.two) | (with_reducible refine Blk.set' ?_ _ _ ?_) | (with_reducible rfl) | rfl))
              have g_q : Blk w_8 (w_7.heap.size + 1) 30 #[.int .u64 xr0, .int .u64 xr1, .int .u64 xr2, .int .u64 xr3, .int .u64 xr4, .int .u64 xr5, .int .u64 xr6, .int .u64 xr7, .int .u64 xd2, .int .u8 xr8] := by
                refine Blk.kept ?_ hb_8
                (repeat (first | with_reducible assumption | (with_reducible refine Blk.new' ?_; first | with_reducible rfl | (simp; done)) | with_reducible refine Blk.alloc ?_ _ | with_reducible refine Blk.grow ?_ _ | with_reducible refine Blk.drew ?_ | with_reducible refine Blk.drewN ?_ _ | (with_reducible refine Blk.far ?_ (by first | (dsimp only; omega) | (simp; omega)) _) | (with_reducible apply Blk.two) | (with_reducible refine Blk.set' ?_ _ _ ?_) | (with_reducible rfl) | rfl))
              clear f_x x_l r_x f_y y_l r_y f_i i_l i_0 i_1 i_f0 i_f1 f_r r_l r_r t_x t_y t_i t_r hB_7 hb_8
              have f_x := g_x
              clear g_x
              have f_y := g_y
              clear g_y
              have f_i := g_i
              clear g_i
              have f_r := g_r
              clear g_r
              have f_o := g_o
              clear g_o
              have f_q := g_q
              clear g_q
              have r_x := rowAt_blk f_x
              have x_l := f_x.lt
              replace f_x := Lib.hid f_x
              have r_y := rowAt_blk f_y
              have y_l := f_y.lt
              replace f_y := Lib.hid f_y
              have i_0 : w_8.cell? ⟨w_6.heap.size, 0, none⟩ = some (.int .u64 xd0) := (f_i).cell 0
              have i_1 : w_8.cell? ⟨w_6.heap.size, 1, none⟩ = some (.int .u64 xd1) := (f_i).cell 1
              have i_f0 := (f_i).frozen 0
              have i_f1 := (f_i).frozen 1
              have i_l := (f_i).lt
              replace f_i := Lib.hid f_i
              have r_r := rowAt_blk f_r
              have r_l := f_r.lt
              replace f_r := Lib.hid f_r
              have o_0 : w_8.cell? ⟨w_7.heap.size, 0, none⟩ = some (.int .u64 xd0) := (f_o).cell 0
              have o_1 : w_8.cell? ⟨w_7.heap.size, 1, none⟩ = some (.int .u64 xd1) := (f_o).cell 1
              have o_f0 := (f_o).frozen 0
              have o_f1 := (f_o).frozen 1
              have o_l := (f_o).lt
              replace f_o := Lib.hid f_o
              have r_q := rowAt_blk f_q
              have q_l := f_q.lt
              replace f_q := Lib.hid f_q
              replace hB_8 := Lib.hid hB_8
              go_wp2_with fail
              refine (RD.out _).mono ?_
              rintro e w_9 ⟨rfl, hb_9⟩
              have z_9 := hb_9.size
              try simp at z_9
              have t_ := hB_8.out
              have hB_9 := bel_eld (w := w) (X := _) (by first | ((repeat (first | with_reducible exact Below.refl _ _ | with_reducible assumption | (with_reducible refine bel_set ?_ (by first | exact Nat.le_refl _ | (simp; done) | (simp; omega) | omega) _) | with_reducible refine bel_grow ?_ _ | with_reducible refine Below.drew ?_ | with_reducible refine below_drewN ?_ _ | with_reducible refine bel_alloc ?_ _ | with_reducible refine bel_trans ?_ (by assumption))); done) | (repeat (first | exact Below.refl _ _ | assumption | refine below_drewN ?_ _ | refine bel_grow ?_ _ | refine Below.drew ?_ | refine bel_alloc ?_ _ | refine bel_set ?_ (by first | exact Nat.le_refl _ | (simp; done) | (simp; omega) | omega) _ | refine bel_trans ?_ (by assumption)))) hb_9
              clear t_
              have t_x := f_x.out
              have t_y := f_y.out
              have t_i := f_i.out
              have t_r := f_r.out
              have t_o := f_o.out
              have t_q := f_q.out
              have g_x : Blk w_9 (w_4.heap.size) 78 #[.int .u64 xt0, .int .u64 xt1, .int .u64 xt2, .int .u64 xt3, .int .u64 xt4, .int .u64 xt5, .int .u64 xt6, .int .u64 xt7, .int .u64 xt8, .int .u64 xt9, .int .u64 xt10, .int .u32 xt11, .int .u32 xt12, .int .u16 xt13, .int .u16 xt14, .int .u64 xt15, .int .u64 xt16, .int .u64 xt17] := by
                refine Blk.kept ?_ hb_9
                (repeat (first | with_reducible assumption | (with_reducible refine Blk.new' ?_; first | with_reducible rfl | (simp; done)) | with_reducible refine Blk.alloc ?_ _ | with_reducible refine Blk.grow ?_ _ | with_reducible refine Blk.drew ?_ | with_reducible refine Blk.drewN ?_ _ | (with_reducible refine Blk.far ?_ (by first | (dsimp only; omega) | (simp; omega)) _) | (with_reducible apply Blk.two) | (with_reducible refine Blk.set' ?_ _ _ ?_) | (with_reducible rfl) | rfl))
              have g_y : Blk w_9 (w_5.heap.size) 78 #[.int .u64 xt0, .int .u64 xt1, .int .u64 xt2, .int .u64 xt3, .int .u64 xt4, .int .u64 xt5, .int .u64 xt6, .int .u64 xt7, .int .u64 xt8, .int .u64 xt9, .int .u64 xt10, .int .u32 xt11, .int .u32 xt12, .int .u16 xt13, .int .u16 xt14, .int .u64 xt15, .int .u64 xt16, .int .u64 xt17] := by
                refine Blk.kept ?_ hb_9
                (repeat (first | with_reducible assumption | (with_reducible refine Blk.new' ?_; first | with_reducible rfl | (simp; done)) | with_reducible refine Blk.alloc ?_ _ | with_reducible refine Blk.grow ?_ _ | with_reducible refine Blk.drew ?_ | with_reducible refine Blk.drewN ?_ _ | (with_reducible refine Blk.far ?_ (by first | (dsimp only; omega) | (simp; omega)) _) | (with_reducible apply Blk.two) | (with_reducible refine Blk.set' ?_ _ _ ?_) | (with_reducible rfl) | rfl))
              have g_i : Blk w_9 (w_6.heap.size) 24 #[.int .u64 xd0, .int .u64 xd1] := by
                refine Blk.kept ?_ hb_9
                (repeat (first | with_reducible assumption | (with_reducible refine Blk.new' ?_; first | with_reducible rfl | (simp; done)) | with_reducible refine Blk.alloc ?_ _ | with_reducible refine Blk.grow ?_ _ | with_reducible refine Blk.drew ?_ | with_reducible refine Blk.drewN ?_ _ | (with_reducible refine Blk.far ?_ (by first | (dsimp only; omega) | (simp; omega)) _) | (with_reducible apply Blk.two) | (with_reducible refine Blk.set' ?_ _ _ ?_) | (with_reducible rfl) | rfl))
              have g_r : Blk w_9 (w_6.heap.size + 1) 30 #[.int .u64 xr0, .int .u64 xr1, .int .u64 xr2, .int .u64 xr3, .int .u64 xr4, .int .u64 xr5, .int .u64 xr6, .int .u64 xr7, .int .u64 xd2, .int .u8 xr8] := by
                refine Blk.kept ?_ hb_9
                (repeat (first | with_reducible assumption | (with_reducible refine Blk.new' ?_; first | with_reducible rfl | (simp; done)) | with_reducible refine Blk.alloc ?_ _ | with_reducible refine Blk.grow ?_ _ | with_reducible refine Blk.drew ?_ | with_reducible refine Blk.drewN ?_ _ | (with_reducible refine Blk.far ?_ (by first | (dsimp only; omega) | (simp; omega)) _) | (with_reducible apply Blk.two) | (with_reducible refine Blk.set' ?_ _ _ ?_) | (with_reducible rfl) | rfl))
              have g_o : Blk w_9 (w_7.heap.size) 24 #[.int .u64 xd0, .int .u64 xd1] := by
                refine Blk.kept ?_ hb_9
                (repeat (first | with_reducible assumption | (with_reducible refine Blk.new' ?_; first | with_reducible rfl | (simp; done)) | with_reducible refine Blk.alloc ?_ _ | with_reducible refine Blk.grow ?_ _ | with_reducible refine Blk.drew ?_ | with_reducible refine Blk.drewN ?_ _ | (with_reducible refine Blk.far ?_ (by first | (dsimp only; omega) | (simp; omega)) _) | (with_reducible apply Blk.two) | (with_reducible refine Blk.set' ?_ _ _ ?_) | (with_reducible rfl) | rfl))
              have g_q : Blk w_9 (w_7.heap.size + 1) 30 #[.int .u64 xr0, .int .u64 xr1, .int .u64 xr2, .int .u64 xr3, .int .u64 xr4, .int .u64 xr5, .int .u64 xr6, .int .u64 xr7, .int .u64 xd2, .int .u8 xr8] := by
                refine Blk.kept ?_ hb_9
                (repeat (first | with_reducible assumption | (with_reducible refine Blk.new' ?_; first | with_reducible rfl | (simp; done)) | with_reducible refine Blk.alloc ?_ _ | with_reducible refine Blk.grow ?_ _ | with_reducible refine Blk.drew ?_ | with_reducible refine Blk.drewN ?_ _ | (with_reducible refine Blk.far ?_ (by first | (dsimp only; omega) | (simp; omega)) _) | (with_reducible apply Blk.two) | (with_reducible refine Blk.set' ?_ _ _ ?_) | (with_reducible rfl) | rfl))
              have g_u : Blk w_9 (w_8.heap.size) 26 #[.int .u64 xe0, .int .u64 xe1, .int .u64 xe2, .int .u64 xe3] := by
                refine Blk.kept ?_ hb_9
                (repeat (first | with_reducible assumption | (with_reducible refine Blk.new' ?_; first | with_reducible rfl | (simp; done)) | with_reducible refine Blk.alloc ?_ _ | with_reducible refine Blk.grow ?_ _ | with_reducible refine Blk.drew ?_ | with_reducible refine Blk.drewN ?_ _ | (with_reducible refine Blk.far ?_ (by first | (dsimp only; omega) | (simp; omega)) _) | (with_reducible apply Blk.two) | (with_reducible refine Blk.set' ?_ _ _ ?_) | (with_reducible rfl) | rfl))
              clear f_x x_l r_x f_y y_l r_y f_i i_l i_0 i_1 i_f0 i_f1 f_r r_l r_r f_o o_l o_0 o_1 o_f0 o_f1 f_q q_l r_q t_x t_y t_i t_r t_o t_q hB_8 hb_9
              have f_x := g_x
              clear g_x
              have f_y := g_y
              clear g_y
              have f_i := g_i
              clear g_i
              have f_r := g_r
              clear g_r
              have f_o := g_o
              clear g_o
              have f_q := g_q
              clear g_q
              have f_u := g_u
              clear g_u
              have r_x := rowAt_blk f_x
              have x_l := f_x.lt
              replace f_x := Lib.hid f_x
              have r_y := rowAt_blk f_y
              have y_l := f_y.lt
              replace f_y := Lib.hid f_y
              have i_0 : w_9.cell? ⟨w_6.heap.size, 0, none⟩ = some (.int .u64 xd0) := (f_i).cell 0
              have i_1 : w_9.cell? ⟨w_6.heap.size, 1, none⟩ = some (.int .u64 xd1) := (f_i).cell 1
              have i_f0 := (f_i).frozen 0
              have i_f1 := (f_i).frozen 1
              have i_l := (f_i).lt
              replace f_i := Lib.hid f_i
              have r_r := rowAt_blk f_r
              have r_l := f_r.lt
              replace f_r := Lib.hid f_r
              have o_0 : w_9.cell? ⟨w_7.heap.size, 0, none⟩ = some (.int .u64 xd0) := (f_o).cell 0
              have o_1 : w_9.cell? ⟨w_7.heap.size, 1, none⟩ = some (.int .u64 xd1) := (f_o).cell 1
              have o_f0 := (f_o).frozen 0
              have o_f1 := (f_o).frozen 1
              have o_l := (f_o).lt
              replace f_o := Lib.hid f_o
              have r_q := rowAt_blk f_q
              have q_l := f_q.lt
              replace f_q := Lib.hid f_q
              have u_0 : w_9.cell? ⟨w_8.heap.size, 0, none⟩ = some (.int .u64 xe0) := (f_u).cell 0
              have u_1 : w_9.cell? ⟨w_8.heap.size, 1, none⟩ = some (.int .u64 xe1) := (f_u).cell 1
              have u_2 : w_9.cell? ⟨w_8.heap.size, 2, none⟩ = some (.int .u64 xe2) := (f_u).cell 2
              have u_3 : w_9.cell? ⟨w_8.heap.size, 3, none⟩ = some (.int .u64 xe3) := (f_u).cell 3
              have u_f0 := (f_u).frozen 0
              have u_f1 := (f_u).frozen 1
              have u_f2 := (f_u).frozen 2
              have u_f3 := (f_u).frozen 3
              have u_l := (f_u).lt
              replace f_u := Lib.hid f_u
              replace hB_9 := Lib.hid hB_9
              as_aux_lemma =>
                go_wp2_with fail
                refine (PT.out _).mono ?_
                rintro e w_10 ⟨A1, c1, B1, k1, rfl, jA, jB, s_1, s_2, hb_10⟩
                have z_10 := hb_10.size
                try simp at z_10
                have t_ := hB_9.out
                have hB_10 := bel_eld (w := w) (X := _) (by first | ((repeat (first | with_reducible exact Below.refl _ _ | with_reducible assumption | (with_reducible refine bel_set ?_ (by first | exact Nat.le_refl _ | (simp; done) | (simp; omega) | omega) _) | with_reducible refine bel_grow ?_ _ | with_reducible refine Below.drew ?_ | with_reducible refine below_drewN ?_ _ | with_reducible refine bel_alloc ?_ _ | with_reducible refine bel_trans ?_ (by assumption))); done) | (repeat (first | exact Below.refl _ _ | assumption | refine below_drewN ?_ _ | refine bel_grow ?_ _ | refine Below.drew ?_ | refine bel_alloc ?_ _ | refine bel_set ?_ (by first | exact Nat.le_refl _ | (simp; done) | (simp; omega) | omega) _ | refine bel_trans ?_ (by assumption)))) hb_10
                clear t_
                replace s_1 := Lib.hid s_1
                replace s_2 := Lib.hid s_2
                have t_i := f_i.out
                have t_r := f_r.out
                have t_u := f_u.out
                have g_i : Blk w_10 (w_6.heap.size) 24 #[.int .u64 xd0, .int .u64 xd1] := by
                  refine Blk.kept ?_ hb_10
                  (repeat (first | with_reducible assumption | (with_reducible refine Blk.new' ?_; first | with_reducible rfl | (simp; done)) | with_reducible refine Blk.alloc ?_ _ | with_reducible refine Blk.grow ?_ _ | with_reducible refine Blk.drew ?_ | with_reducible refine Blk.drewN ?_ _ | (with_reducible refine Blk.far ?_ (by first | (dsimp only; omega) | (simp; omega)) _) | (with_reducible apply Blk.two) | (with_reducible refine Blk.set' ?_ _ _ ?_) | (with_reducible rfl) | rfl))
                have g_r : Blk w_10 (w_6.heap.size + 1) 30 #[.int .u64 xr0, .int .u64 xr1, .int .u64 xr2, .int .u64 xr3, .int .u64 xr4, .int .u64 xr5, .int .u64 xr6, .int .u64 xr7, .int .u64 xd2, .int .u8 xr8] := by
                  refine Blk.kept ?_ hb_10
                  (repeat (first | with_reducible assumption | (with_reducible refine Blk.new' ?_; first | with_reducible rfl | (simp; done)) | with_reducible refine Blk.alloc ?_ _ | with_reducible refine Blk.grow ?_ _ | with_reducible refine Blk.drew ?_ | with_reducible refine Blk.drewN ?_ _ | (with_reducible refine Blk.far ?_ (by first | (dsimp only; omega) | (simp; omega)) _) | (with_reducible apply Blk.two) | (with_reducible refine Blk.set' ?_ _ _ ?_) | (with_reducible rfl) | rfl))
                have g_u : Blk w_10 (w_8.heap.size) 26 #[.int .u64 xe0, .int .u64 xe1, .int .u64 xe2, .int .u64 xe3] := by
                  refine Blk.kept ?_ hb_10
                  (repeat (first | with_reducible assumption | (with_reducible refine Blk.new' ?_; first | with_reducible rfl | (simp; done)) | with_reducible refine Blk.alloc ?_ _ | with_reducible refine Blk.grow ?_ _ | with_reducible refine Blk.drew ?_ | with_reducible refine Blk.drewN ?_ _ | (with_reducible refine Blk.far ?_ (by first | (dsimp only; omega) | (simp; omega)) _) | (with_reducible apply Blk.two) | (with_reducible refine Blk.set' ?_ _ _ ?_) | (with_reducible rfl) | rfl))
                clear f_x x_l r_x f_y y_l r_y f_i i_l i_0 i_1 i_f0 i_f1 f_r r_l r_r f_o o_l o_0 o_1 o_f0 o_f1 f_q q_l r_q f_u u_l u_0 u_1 u_2 u_3 u_f0 u_f1 u_f2 u_f3 t_i t_r t_u hB_9 hb_10
                have f_i := g_i
                clear g_i
                have f_r := g_r
                clear g_r
                have f_u := g_u
                clear g_u
                have i_0 : w_10.cell? ⟨w_6.heap.size, 0, none⟩ = some (.int .u64 xd0) := (f_i).cell 0
                have i_1 : w_10.cell? ⟨w_6.heap.size, 1, none⟩ = some (.int .u64 xd1) := (f_i).cell 1
                have i_f0 := (f_i).frozen 0
                have i_f1 := (f_i).frozen 1
                have i_l := (f_i).lt
                replace f_i := Lib.hid f_i
                have r_r := rowAt_blk f_r
                have r_l := f_r.lt
                replace f_r := Lib.hid f_r
                have u_0 : w_10.cell? ⟨w_8.heap.size, 0, none⟩ = some (.int .u64 xe0) := (f_u).cell 0
                have u_1 : w_10.cell? ⟨w_8.heap.size, 1, none⟩ = some (.int .u64 xe1) := (f_u).cell 1
                have u_2 : w_10.cell? ⟨w_8.heap.size, 2, none⟩ = some (.int .u64 xe2) := (f_u).cell 2
                have u_3 : w_10.cell? ⟨w_8.heap.size, 3, none⟩ = some (.int .u64 xe3) := (f_u).cell 3
                have u_f0 := (f_u).frozen 0
                have u_f1 := (f_u).frozen 1
                have u_f2 := (f_u).frozen 2
                have u_f3 := (f_u).frozen 3
                have u_l := (f_u).lt
                replace f_u := Lib.hid f_u
                replace hB_10 := Lib.hid hB_10
                as_aux_lemma =>
                  go_wp2_with fail
                  refine (PR.out _).mono ?_
                  rintro e w_11 ⟨A2, c2, B2, k2, rfl, jC, jD, s_3, s_4, hb_11⟩
                  have z_11 := hb_11.size
                  try simp at z_11
                  have t_ := hB_10.out
                  have hB_11 := bel_eld (w := w) (X := _) (by first | ((repeat (first | with_reducible exact Below.refl _ _ | with_reducible assumption | (with_reducible refine bel_set ?_ (by first | exact Nat.le_refl _ | (simp; done) | (simp; omega) | omega) _) | with_reducible refine bel_grow ?_ _ | with_reducible refine Below.drew ?_ | with_reducible refine below_drewN ?_ _ | with_reducible refine bel_alloc ?_ _ | with_reducible refine bel_trans ?_ (by assumption))); done) | (repeat (first | exact Below.refl _ _ | assumption | refine below_drewN ?_ _ | refine bel_grow ?_ _ | refine Below.drew ?_ | refine bel_alloc ?_ _ | refine bel_set ?_ (by first | exact Nat.le_refl _ | (simp; done) | (simp; omega) | omega) _ | refine bel_trans ?_ (by assumption)))) hb_11
                  clear t_
                  have hP_ := bel_eld (w := w_10) (X := _) (by first | ((repeat (first | with_reducible exact Below.refl _ _ | with_reducible assumption | (with_reducible refine bel_set ?_ (by first | exact Nat.le_refl _ | (simp; done) | (simp; omega) | omega) _) | with_reducible refine bel_grow ?_ _ | with_reducible refine Below.drew ?_ | with_reducible refine below_drewN ?_ _ | with_reducible refine bel_alloc ?_ _ | with_reducible refine bel_trans ?_ (by assumption))); done) | (repeat (first | exact Below.refl _ _ | assumption | refine below_drewN ?_ _ | refine bel_grow ?_ _ | refine Below.drew ?_ | refine bel_alloc ?_ _ | refine bel_set ?_ (by first | exact Nat.le_refl _ | (simp; done) | (simp; omega) | omega) _ | refine bel_trans ?_ (by assumption)))) hb_11
                  have k_s_1 := Lib.hid (s_1.out.below hP_)
                  clear s_1
                  have s_1 := k_s_1
                  clear k_s_1
                  have k_s_2 := Lib.hid (s_2.out.below hP_)
                  clear s_2
                  have s_2 := k_s_2
                  clear k_s_2
                  replace s_3 := Lib.hid s_3
                  replace s_4 := Lib.hid s_4
                  have t_u := f_u.out
                  have g_u : Blk w_11 (w_8.heap.size) 26 #[.int .u64 xe0, .int .u64 xe1, .int .u64 xe2, .int .u64 xe3] := Blk.kept t_u hP_
                  clear hP_
                  clear f_i i_l i_0 i_1 i_f0 i_f1 f_r r_l r_r f_u u_l u_0 u_1 u_2 u_3 u_f0 u_f1 u_f2 u_f3 t_u hB_10 hb_11
                  have f_u := g_u
                  clear g_u
                  have u_0 : w_11.cell? ⟨w_8.heap.size, 0, none⟩ = some (.int .u64 xe0) := (f_u).cell 0
                  have u_1 : w_11.cell? ⟨w_8.heap.size, 1, none⟩ = some (.int .u64 xe1) := (f_u).cell 1
                  have u_2 : w_11.cell? ⟨w_8.heap.size, 2, none⟩ = some (.int .u64 xe2) := (f_u).cell 2
                  have u_3 : w_11.cell? ⟨w_8.heap.size, 3, none⟩ = some (.int .u64 xe3) := (f_u).cell 3
                  have u_f0 := (f_u).frozen 0
                  have u_f1 := (f_u).frozen 1
                  have u_f2 := (f_u).frozen 2
                  have u_f3 := (f_u).frozen 3
                  have u_l := (f_u).lt
                  replace f_u := Lib.hid f_u
                  replace hB_11 := Lib.hid hB_11
                  go_wp2_with fail
                  refine (PD.out _).mono ?_
                  rintro e w_12 ⟨A3, c3, B3, k3, rfl, jE, jF, s_5, s_6, hb_12⟩
                  have z_12 := hb_12.size
                  try simp at z_12
                  have t_ := hB_11.out
                  have hB_12 := bel_eld (w := w) (X := _) (by first | ((repeat (first | with_reducible exact Below.refl _ _ | with_reducible assumption | (with_reducible refine bel_set ?_ (by first | exact Nat.le_refl _ | (simp; done) | (simp; omega) | omega) _) | with_reducible refine bel_grow ?_ _ | with_reducible refine Below.drew ?_ | with_reducible refine below_drewN ?_ _ | with_reducible refine bel_alloc ?_ _ | with_reducible refine bel_trans ?_ (by assumption))); done) | (repeat (first | exact Below.refl _ _ | assumption | refine below_drewN ?_ _ | refine bel_grow ?_ _ | refine Below.drew ?_ | refine bel_alloc ?_ _ | refine bel_set ?_ (by first | exact Nat.le_refl _ | (simp; done) | (simp; omega) | omega) _ | refine bel_trans ?_ (by assumption)))) hb_12
                  clear t_
                  have hP_ := bel_eld (w := w_11) (X := _) (by first | ((repeat (first | with_reducible exact Below.refl _ _ | with_reducible assumption | (with_reducible refine bel_set ?_ (by first | exact Nat.le_refl _ | (simp; done) | (simp; omega) | omega) _) | with_reducible refine bel_grow ?_ _ | with_reducible refine Below.drew ?_ | with_reducible refine below_drewN ?_ _ | with_reducible refine bel_alloc ?_ _ | with_reducible refine bel_trans ?_ (by assumption))); done) | (repeat (first | exact Below.refl _ _ | assumption | refine below_drewN ?_ _ | refine bel_grow ?_ _ | refine Below.drew ?_ | refine bel_alloc ?_ _ | refine bel_set ?_ (by first | exact Nat.le_refl _ | (simp; done) | (simp; omega) | omega) _ | refine bel_trans ?_ (by assumption)))) hb_12
                  have k_s_1 := Lib.hid (s_1.out.below hP_)
                  clear s_1
                  have s_1 := k_s_1
                  clear k_s_1
                  have k_s_2 := Lib.hid (s_2.out.below hP_)
                  clear s_2
                  have s_2 := k_s_2
                  clear k_s_2
                  have k_s_3 := Lib.hid (s_3.out.below hP_)
                  clear s_3
                  have s_3 := k_s_3
                  clear k_s_3
                  have k_s_4 := Lib.hid (s_4.out.below hP_)
                  clear s_4
                  have s_4 := k_s_4
                  clear k_s_4
                  replace s_5 := Lib.hid s_5
                  replace s_6 := Lib.hid s_6
                  clear hP_
                  clear f_u u_l u_0 u_1 u_2 u_3 u_f0 u_f1 u_f2 u_f3 hB_11 hb_12
                  replace hB_12 := Lib.hid hB_12
                  as_aux_lemma =>
                    go_wp2_with fail
                    refine (RX.out _).mono ?_
                    rintro e w_13 ⟨rfl, hb_13⟩
                    have z_13 := hb_13.size
                    try simp at z_13
                    have t_ := hB_12.out
                    have hB_13 := bel_eld (w := w) (X := _) (by first | ((repeat (first | with_reducible exact Below.refl _ _ | with_reducible assumption | (with_reducible refine bel_set ?_ (by first | exact Nat.le_refl _ | (simp; done) | (simp; omega) | omega) _) | with_reducible refine bel_grow ?_ _ | with_reducible refine Below.drew ?_ | with_reducible refine below_drewN ?_ _ | with_reducible refine bel_alloc ?_ _ | with_reducible refine bel_trans ?_ (by assumption))); done) | (repeat (first | exact Below.refl _ _ | assumption | refine below_drewN ?_ _ | refine bel_grow ?_ _ | refine Below.drew ?_ | refine bel_alloc ?_ _ | refine bel_set ?_ (by first | exact Nat.le_refl _ | (simp; done) | (simp; omega) | omega) _ | refine bel_trans ?_ (by assumption)))) hb_13
                    clear t_
                    have hP_ := bel_eld (w := w_12) (X := _) (by first | ((repeat (first | with_reducible exact Below.refl _ _ | with_reducible assumption | (with_reducible refine bel_set ?_ (by first | exact Nat.le_refl _ | (simp; done) | (simp; omega) | omega) _) | with_reducible refine bel_grow ?_ _ | with_reducible refine Below.drew ?_ | with_reducible refine below_drewN ?_ _ | with_reducible refine bel_alloc ?_ _ | with_reducible refine bel_trans ?_ (by assumption))); done) | (repeat (first | exact Below.refl _ _ | assumption | refine below_drewN ?_ _ | refine bel_grow ?_ _ | refine Below.drew ?_ | refine bel_alloc ?_ _ | refine bel_set ?_ (by first | exact Nat.le_refl _ | (simp; done) | (simp; omega) | omega) _ | refine bel_trans ?_ (by assumption)))) hb_13
                    have k_s_1 := Lib.hid (s_1.out.below hP_)
                    clear s_1
                    have s_1 := k_s_1
                    clear k_s_1
                    have k_s_2 := Lib.hid (s_2.out.below hP_)
                    clear s_2
                    have s_2 := k_s_2
                    clear k_s_2
                    have k_s_3 := Lib.hid (s_3.out.below hP_)
                    clear s_3
                    have s_3 := k_s_3
                    clear k_s_3
                    have k_s_4 := Lib.hid (s_4.out.below hP_)
                    clear s_4
                    have s_4 := k_s_4
                    clear k_s_4
                    have k_s_5 := Lib.hid (s_5.out.below hP_)
                    clear s_5
                    have s_5 := k_s_5
                    clear k_s_5
                    have k_s_6 := Lib.hid (s_6.out.below hP_)
                    clear s_6
                    have s_6 := k_s_6
                    clear k_s_6
                    clear hP_
                    clear hB_12 hb_13
                    replace hB_13 := Lib.hid hB_13
                    have q1 := conv8 s_1.out c1
                    have q2 := conv8 s_2.out k1
                    have q3 := conv8 s_3.out c2
                    have q4 := conv8 s_4.out k2
                    have q5 := conv8 s_5.out c3
                    have q6 := conv8 s_6.out k3
                    clear s_1 s_2 s_3 s_4 s_5 s_6
                    cases bt <;> cases br <;> cases bd
                    all_goals (
                      try (rw [(FT.out rfl).1] at q1; rw [(FT.out rfl).2] at q2)
                      try (rw [(FR.out rfl).1] at q3; rw [(FR.out rfl).2] at q4)
                      try (rw [(FD.out rfl).1] at q5; rw [(FD.out rfl).2] at q6)
                      go_wp2_with fail
                      go_ret
                      exact ⟨rfl, hB_13.out⟩)
theorem recordKept_any (A B : Option Addr) (n c m k : Nat) (hC : n ≤ c ∧ c ≤ maxLen) (hk : m ≤ k ∧ k ≤ maxLen) (d e : Nat → Int) (hd : ∀ i, 0 ≤ d i ∧ d i < 256) (he : ∀ i, 0 ≤ e i ∧ e i < 256) (w : World) (hs : SlIs w A n (yV d)) (ht : SlIs w B m (yV e)) : Calls Try.prog 9 #[.slice A n c, .slice B m k] w fun r w' => r = .returned (.bool true) ∧ Below w.heap.size w w' := by
  by_cases h : n ≤ 200 ∧ m ≤ 200
  · exact recordKept_near A B n c m k hC hk h.1 h.2 d e hd he w hs ht
  · exact recordKept_far A B n c m k (by omega) (by omega) (by omega) w
end Go.Proofs.Ytflaeljjalpnkaa
