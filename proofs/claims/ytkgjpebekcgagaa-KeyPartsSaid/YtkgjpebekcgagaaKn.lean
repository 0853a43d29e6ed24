/-
  The document's Pair, Parts, Halves, walked; key.Parts and key.Halves at any bytes.
-/
import Derived.Test.YtkgjpebekcgagaaKk
import Derived.Test.YtkgjpebekcgagaaKeyC
import Derived.Test.YtkgjpebekcgagaaWideCmp
import Derived.Test.YtkgjpebekcgagaaEq
namespace Go.Proofs.Ytkgjpebekcgagaa
set_option linter.unusedVariables false
set_option linter.unusedSimpArgs false
open Go.RowKit

theorem abs_post {P : Program} {f : Func} {Φ : Ending → World → Prop} {e : Exit} {a : Act} {W : World} (I : World → Prop) (hI : I W) (h : ∀ X, I X → bodyPost P f Φ e a X) : bodyPost P f Φ e a W := h W hI
theorem knum_lo {d e : Nat → Int} {n s k : Nat} (h : s + k ≤ n) : num (cat d n e) s k = num d s k := num_congr (fun j hj => cat_lo (by omega))
theorem knum_hi {d e : Nat → Int} {n s : Nat} (h : n ≤ s) : ∀ k, num (cat d n e) s k = num e (s - n) k
  | 0 => rfl
  | k + 1 => by
    show num (cat d n e) s k * 256 + cat d n e (s + k) = num e (s - n) k * 256 + e (s - n + k)
    rw [knum_hi h k]
    congr 1
    unfold cat
    rw [if_neg (by omega)]
    congr 1
    omega
theorem knum_nb8 {N : Int} (h : Wd N) : num (nb 8 N) 0 8 = N := by
  unfold Wd at h
  simp [num, nb]
  omega
set_option maxHeartbeats 2000000 in
theorem rpair_any (h l m : Int) (hh : Wd h) (hl : Wd l) (hm : Wd m) (w : World) : Calls Try.prog 24 #[.agg #[.int .u64 h, .int .u64 l], .int .u64 m] w fun r w' =>
      r = .returned (.string (strF (cat (dgt h l) 16 (nb 8 m)) 24)) ∧ Below w.heap.size w w' := by
  have HB := Lib.hid (fun w => refbytes_any h l hh hl w)
  have HS := Lib.hid (fun w => rstamp_any m hm w)
  have e1 : strF (dgt h l) 16 ++ strF (nb 8 m) 8 = strF (cat (dgt h l) 16 (nb 8 m)) 24 := strF_cat _ _ 16 8
  have e2 := strF_size (dgt h l) 16
  have e3 := strF_size (nb 8 m) 8
  clear hh hl hm
  have hb0 := Below.refl w.heap.size w
  go_enter Try.func24, Try.ntmps24
  replace hb0 := Lib.hid hb0
  go_wp2_with fail
  refine (HB.out _).mono ?_
  rintro e w_1 ⟨rfl, hb_1⟩
  have z_1 := hb_1.size
  try simp at z_1
  have t_ := hb0.out
  have hB_1 := bel_eld (w := w) (X := _) (by first | ((repeat (first | with_reducible exact Below.refl _ _ | with_reducible assumption | (with_reducible refine bel_set ?_ (by first | exact Nat.le_refl _ | (simp; done) | (simp; omega) | omega) _) | with_reducible refine bel_grow ?_ _ | with_reducible refine Below.drew ?_ | with_reducible refine below_drewN ?_ _ | with_reducible refine bel_alloc ?_ _ | with_reducible refine bel_trans ?_ (by assumption))); done) | (repeat (first | exact Below.refl _ _ | assumption | refine below_drewN ?_ _ | refine bel_grow ?_ _ | refine Below.drew ?_ | refine bel_alloc ?_ _ | refine bel_set ?_ (by first | exact Nat.le_refl _ | (simp; done) | (simp; omega) | omega) _ | refine bel_trans ?_ (by assumption)))) hb_1
  clear t_
  clear hb0 hb_1
  replace hB_1 := Lib.hid hB_1
  go_wp2_with fail
  refine (HS.out _).mono ?_
  rintro e w_2 ⟨rfl, hb_2⟩
  have z_2 := hb_2.size
  try simp at z_2
  have t_ := hB_1.out
  have hB_2 := bel_eld (w := w) (X := _) (by first | ((repeat (first | with_reducible exact Below.refl _ _ | with_reducible assumption | (with_reducible refine bel_set ?_ (by first | exact Nat.le_refl _ | (simp; done) | (simp; omega) | omega) _) | with_reducible refine bel_grow ?_ _ | with_reducible refine Below.drew ?_ | with_reducible refine below_drewN ?_ _ | with_reducible refine bel_alloc ?_ _ | with_reducible refine bel_trans ?_ (by assumption))); done) | (repeat (first | exact Below.refl _ _ | assumption | refine below_drewN ?_ _ | refine bel_grow ?_ _ | refine Below.drew ?_ | refine bel_alloc ?_ _ | refine bel_set ?_ (by first | exact Nat.le_refl _ | (simp; done) | (simp; omega) | omega) _ | refine bel_trans ?_ (by assumption)))) hb_2
  clear t_
  clear hB_1 hb_2
  replace hB_2 := Lib.hid hB_2
  go_wp2_with fail
  go_ret
  exact ⟨rfl, by have t := hB_2.out; (repeat (first | exact Below.refl _ _ | assumption | refine below_drewN ?_ _ | refine bel_grow ?_ _ | refine Below.drew ?_ | refine bel_alloc ?_ _ | refine bel_set ?_ (by first | exact Nat.le_refl _ | (simp; done) | (simp; omega) | omega) _ | refine bel_trans ?_ (by assumption)))⟩
/-- what bytes are read as, as the two of -/
def hlA (d : Nat → Int) (n : Nat) : Int := if n = 16 then num d 0 8 else 0
def hlB (d : Nat → Int) (n : Nat) : Int := if n = 16 then num d 8 8 else 0
theorem halves_all (A : Option Addr) (n c : Nat) (hc : n ≤ c) (hC : c ≤ maxLen) (e : Nat → Int) (he : ∀ i, 0 ≤ e i ∧ e i < 256) (w : World) (hs : SlIs w A n (yV e)) : Calls Try.prog 20 #[.slice A n c] w fun r w' => r = .returned (.tuple #[.int .u64 (hlA e n), .int .u64 (hlB e n), .bool (decide (n = 16))]) ∧ Below w.heap.size w w' := by
  unfold hlA hlB
  by_cases h : n = 16
  · subst h; rw [if_pos rfl, if_pos rfl]; exact halves_yes A c e he hc hC w hs
  · rw [if_neg h, if_neg h, decide_eq_false h]; exact halves_no A n c (by omega) h w
def ptA (d : Nat → Int) (n : Nat) : Int := if n = 24 then num d 0 8 else 0
def ptB (d : Nat → Int) (n : Nat) : Int := if n = 24 then num d 8 8 else 0
def ptC (d : Nat → Int) (n : Nat) : Int := if n = 24 then num d 16 8 else 0
theorem parts_all (A : Option Addr) (n c : Nat) (hc : n ≤ c) (hC : c ≤ maxLen) (e : Nat → Int) (he : ∀ i, 0 ≤ e i ∧ e i < 256) (w : World) (hs : SlIs w A n (yV e)) : Calls Try.prog 19 #[.slice A n c] w fun r w' => r = .returned (.tuple #[.agg #[.int .u64 (ptA e n), .int .u64 (ptB e n)], .int .u64 (ptC e n), .bool (decide (n = 24))]) ∧ Below w.heap.size w w' := by
  unfold ptA ptB ptC
  by_cases h : n = 24
  · subst h; rw [if_pos rfl, if_pos rfl, if_pos rfl]; exact parts_yes A c e he hc hC w hs
  · rw [if_neg h, if_neg h, if_neg h, decide_eq_false h]; exact parts_no A n c (by omega) h w
set_option maxHeartbeats 2000000 in
theorem rhalves_any (n : Nat) (hn : n ≤ maxLen) (d : Nat → Int) (hd : ∀ i, 0 ≤ d i ∧ d i < 256) (w : World) : Calls Try.prog 26 #[.string (strF d n)] w fun r w' =>
      r = .returned (.tuple #[.int .u64 (hlA d n), .int .u64 (hlB d n), .bool (decide (n = 16))]) ∧ Below w.heap.size w w' := by
  have H := Lib.hid (fun w => reads_any n hn d hd w)
  rw [show hlA d n = rdH d n from rfl, show hlB d n = rdL d n from rfl]
  clear hd hn
  generalize rdH d n = a at *
  generalize rdL d n = b at *
  generalize decide (n = 16) = ok at *
  have hb0 := Below.refl w.heap.size w
  go_enter Try.func26, Try.ntmps26
  replace hb0 := Lib.hid hb0
  go_wp2_with fail
  refine (H.out _).mono ?_
  rintro e w_1 ⟨rfl, hb_1⟩
  have z_1 := hb_1.size
  try simp at z_1
  have t_ := hb0.out
  have hB_1 := bel_eld (w := w) (X := _) (by first | ((repeat (first | with_reducible exact Below.refl _ _ | with_reducible assumption | (with_reducible refine bel_set ?_ (by first | exact Nat.le_refl _ | (simp; done) | (simp; omega) | omega) _) | with_reducible refine bel_grow ?_ _ | with_reducible refine Below.drew ?_ | with_reducible refine below_drewN ?_ _ | with_reducible refine bel_alloc ?_ _ | with_reducible refine bel_trans ?_ (by assumption))); done) | (repeat (first | exact Below.refl _ _ | assumption | refine below_drewN ?_ _ | refine bel_grow ?_ _ | refine Below.drew ?_ | refine bel_alloc ?_ _ | refine bel_set ?_ (by first | exact Nat.le_refl _ | (simp; done) | (simp; omega) | omega) _ | refine bel_trans ?_ (by assumption)))) hb_1
  clear t_
  clear hb0 hb_1
  replace hB_1 := Lib.hid hB_1
  go_upto_region 2 with fail
  refine abs_wp (fun Y_ => Below w.heap.size w Y_ ∧ Blk Y_ (w_1.heap.size) 36 #[.int .u64 a, .int .u64 b]) ?_ ?_
  · have t_B := hB_1.out
    refine ⟨by (repeat (first | with_reducible exact Below.refl _ _ | with_reducible assumption | (with_reducible refine bel_set ?_ (by first | exact Nat.le_refl _ | (simp; done) | (simp; omega) | omega) _) | with_reducible refine bel_grow ?_ _ | with_reducible refine Below.drew ?_ | with_reducible refine bel_alloc ?_ _ | with_reducible refine bel_eld ?_ (by assumption))), ?_⟩
    · (repeat (first | with_reducible assumption | (with_reducible refine Blk.new' ?_; first | with_reducible rfl | (simp; done)) | with_reducible refine Blk.alloc ?_ _ | with_reducible refine Blk.grow ?_ _ | with_reducible refine Blk.drew ?_ | with_reducible refine Blk.drewN ?_ _ | (with_reducible refine Blk.far ?_ (by first | (dsimp only; omega) | (simp; omega)) _) | (with_reducible apply Blk.two) | (with_reducible refine Blk.kept ?_ (by assumption)) | (with_reducible refine Blk.setRow ?_ (by first | rfl | (simp; done))) | (with_reducible refine Blk.setRow_far ?_ (by first | omega | (simp; omega)) _) | (with_reducible refine Blk.set' ?_ _ _ (by first | rfl | (simp; done)))))
  clear hB_1
  rintro X ⟨hB_2, f_x⟩
  have x_0 : X.cell? ⟨w_1.heap.size, 0, none⟩ = some (.int .u64 a) := (f_x).cell 0
  have x_1 : X.cell? ⟨w_1.heap.size, 1, none⟩ = some (.int .u64 b) := (f_x).cell 1
  have x_f0 := (f_x).frozen 0
  have x_f1 := (f_x).frozen 1
  have x_l := (f_x).lt
  replace f_x := Lib.hid f_x
  replace hB_2 := Lib.hid hB_2
  first | (with_reducible refine rgrow2 (by kernel_rfl) (by kernel_rfl) ?_) | (refine rgrow (by kernel_rfl) (by kernel_rfl) ?_)
  repeat (go_big_quiet_step ((fail)))
  refine wpQuiet_nil ?_
  intro dr
  go_wp2_with fail
  refine bodyPost_ret (v := .tuple #[.int .u64 a, .int .u64 b, .bool ok]) (by simp [results, Try.results26, go_sem]) rfl ⟨rfl, ?_⟩
  have t := hB_2.out
  (repeat (first | with_reducible exact Below.refl _ _ | with_reducible assumption | (with_reducible refine bel_set ?_ (by first | exact Nat.le_refl _ | (simp; done) | (simp; omega) | omega) _) | with_reducible refine bel_grow ?_ _ | with_reducible refine Below.drew ?_ | with_reducible refine below_drewN ?_ _ | with_reducible refine bel_alloc ?_ _ | with_reducible refine bel_trans ?_ (by assumption)))
theorem strF_z8 : ({ data := #[0, 0, 0, 0, 0, 0, 0, 0] } : ByteArray) = strF (fun _ => 0) 8 := by decide
set_option maxHeartbeats 2000000 in
theorem rparts_any (n : Nat) (hn : n ≤ 1000000) (d : Nat → Int) (hd : ∀ i, 0 ≤ d i ∧ d i < 256) (w : World) : Calls Try.prog 25 #[.string (strF d n)] w fun r w' =>
      r = .returned (.tuple #[.agg #[.int .u64 (ptA d n), .int .u64 (ptB d n)], .int .u64 (ptC d n), .bool (decide (n = 24))]) ∧ Below w.heap.size w w' := by
  have es : (strF d n).size = n := strF_size d n
  unfold ptA ptB ptC
  by_cases h : n = 24
  · subst h
    rw [if_pos rfl, if_pos rfl, if_pos rfl]
    have e1 : (strF d 24).extract 0 16 = strF d 16 := strF_ext (by omega) (by omega)
    have e2 : (strF d 24).extract 16 24 = strF (shf d 16) 8 := strF_ext (by omega) (by omega)
    have e3 : ({ data := #[0, 0, 0, 0, 0, 0, 0, 0] } : ByteArray) ++ strF (shf d 16) 8 = strF (cat (fun _ => 0) 8 (shf d 16)) 16 := by rw [strF_z8]; exact strF_cat _ _ 8 8
    have e4 := strF_size (shf d 16) 8
    have H1 := fun w => reads_any 16 (by simp [maxLen]) d hd w
    have H2 := fun w => reads_any 16 (by simp [maxLen]) (cat (fun _ => 0) 8 (shf d 16)) (cat_ok (fun _ => (⟨Int.le_refl 0, by decide⟩ : (0 : Int) ≤ 0 ∧ (0 : Int) < 256)) (shf_lo hd 16)) w
    unfold rdH rdL at H1 H2
    simp only [if_pos, decide_true] at H1 H2
    rw [show num (cat (fun _ => 0) 8 (shf d 16)) 8 8 = num d 16 8 from (knum_hi (by omega) 8).trans (num_shf d 16 8)] at H2
    replace H1 := Lib.hid H1
    replace H2 := Lib.hid H2
    clear hd
    generalize num (cat (fun _ => 0) 8 (shf d 16)) 0 8 = q9 at *
    generalize num d 0 8 = q0 at *
    generalize num d 8 8 = q1 at *
    generalize num d 16 8 = q2 at *
    have hb0 := Below.refl w.heap.size w
    go_enter Try.func25, Try.ntmps25
    replace hb0 := Lib.hid hb0
    go_wp2_with fail
    refine (H1.out _).mono ?_
    rintro e w_1 ⟨rfl, hb_1⟩
    have z_1 := hb_1.size
    try simp at z_1
    have t_ := hb0.out
    have hB_1 := bel_eld (w := w) (X := _) (by first | ((repeat (first | with_reducible exact Below.refl _ _ | with_reducible assumption | (with_reducible refine bel_set ?_ (by first | exact Nat.le_refl _ | (simp; done) | (simp; omega) | omega) _) | with_reducible refine bel_grow ?_ _ | with_reducible refine Below.drew ?_ | with_reducible refine below_drewN ?_ _ | with_reducible refine bel_alloc ?_ _ | with_reducible refine bel_trans ?_ (by assumption))); done) | (repeat (first | exact Below.refl _ _ | assumption | refine below_drewN ?_ _ | refine bel_grow ?_ _ | refine Below.drew ?_ | refine bel_alloc ?_ _ | refine bel_set ?_ (by first | exact Nat.le_refl _ | (simp; done) | (simp; omega) | omega) _ | refine bel_trans ?_ (by assumption)))) hb_1
    clear t_
    have g_a : Blk w_1 (w.heap.size) 36 #[.int .u64 0, .int .u64 0] := by
      refine Blk.kept ?_ hb_1
      (repeat (first | with_reducible assumption | (with_reducible refine Blk.new' ?_; first | with_reducible rfl | (simp; done)) | with_reducible refine Blk.alloc ?_ _ | with_reducible refine Blk.grow ?_ _ | with_reducible refine Blk.drew ?_ | with_reducible refine Blk.drewN ?_ _ | (with_reducible refine Blk.far ?_ (by first | (dsimp only; omega) | (simp; omega)) _) | (with_reducible apply Blk.two) | (with_reducible refine Blk.set' ?_ _ _ ?_) | (with_reducible rfl) | rfl))
    clear hb0 hb_1
    have f_a := g_a
    clear g_a
    have a_0 : w_1.cell? ⟨w.heap.size, 0, none⟩ = some (.int .u64 0) := (f_a).cell 0
    have a_1 : w_1.cell? ⟨w.heap.size, 1, none⟩ = some (.int .u64 0) := (f_a).cell 1
    have a_f0 := (f_a).frozen 0
    have a_f1 := (f_a).frozen 1
    have a_l := (f_a).lt
    replace f_a := Lib.hid f_a
    replace hB_1 := Lib.hid hB_1
    go_wp2_with fail
    refine (H2.out _).mono ?_
    rintro e w_2 ⟨rfl, hb_2⟩
    have z_2 := hb_2.size
    try simp at z_2
    have t_ := hB_1.out
    have hB_2 := bel_eld (w := w) (X := _) (by first | ((repeat (first | with_reducible exact Below.refl _ _ | with_reducible assumption | (with_reducible refine bel_set ?_ (by first | exact Nat.le_refl _ | (simp; done) | (simp; omega) | omega) _) | with_reducible refine bel_grow ?_ _ | with_reducible refine Below.drew ?_ | with_reducible refine below_drewN ?_ _ | with_reducible refine bel_alloc ?_ _ | with_reducible refine bel_trans ?_ (by assumption))); done) | (repeat (first | exact Below.refl _ _ | assumption | refine below_drewN ?_ _ | refine bel_grow ?_ _ | refine Below.drew ?_ | refine bel_alloc ?_ _ | refine bel_set ?_ (by first | exact Nat.le_refl _ | (simp; done) | (simp; omega) | omega) _ | refine bel_trans ?_ (by assumption)))) hb_2
    clear t_
    have t_a := f_a.out
    have g_a : Blk w_2 (w.heap.size) 36 #[.int .u64 0, .int .u64 0] := by
      refine Blk.kept ?_ hb_2
      (repeat (first | with_reducible assumption | (with_reducible refine Blk.new' ?_; first | with_reducible rfl | (simp; done)) | with_reducible refine Blk.alloc ?_ _ | with_reducible refine Blk.grow ?_ _ | with_reducible refine Blk.drew ?_ | with_reducible refine Blk.drewN ?_ _ | (with_reducible refine Blk.far ?_ (by first | (dsimp only; omega) | (simp; omega)) _) | (with_reducible apply Blk.two) | (with_reducible refine Blk.set' ?_ _ _ ?_) | (with_reducible rfl) | rfl))
    have g_x : Blk w_2 (w_1.heap.size) 36 #[.int .u64 q0, .int .u64 q1] := by
      refine Blk.kept ?_ hb_2
      (repeat (first | with_reducible assumption | (with_reducible refine Blk.new' ?_; first | with_reducible rfl | (simp; done)) | with_reducible refine Blk.alloc ?_ _ | with_reducible refine Blk.grow ?_ _ | with_reducible refine Blk.drew ?_ | with_reducible refine Blk.drewN ?_ _ | (with_reducible refine Blk.far ?_ (by first | (dsimp only; omega) | (simp; omega)) _) | (with_reducible apply Blk.two) | (with_reducible refine Blk.set' ?_ _ _ ?_) | (with_reducible rfl) | rfl))
    clear f_a a_l a_0 a_1 a_f0 a_f1 t_a hB_1 hb_2
    have f_a := g_a
    clear g_a
    have f_x := g_x
    clear g_x
    have a_0 : w_2.cell? ⟨w.heap.size, 0, none⟩ = some (.int .u64 0) := (f_a).cell 0
    have a_1 : w_2.cell? ⟨w.heap.size, 1, none⟩ = some (.int .u64 0) := (f_a).cell 1
    have a_f0 := (f_a).frozen 0
    have a_f1 := (f_a).frozen 1
    have a_l := (f_a).lt
    replace f_a := Lib.hid f_a
    have x_0 : w_2.cell? ⟨w_1.heap.size, 0, none⟩ = some (.int .u64 q0) := (f_x).cell 0
    have x_1 : w_2.cell? ⟨w_1.heap.size, 1, none⟩ = some (.int .u64 q1) := (f_x).cell 1
    have x_f0 := (f_x).frozen 0
    have x_f1 := (f_x).frozen 1
    have x_l := (f_x).lt
    replace f_x := Lib.hid f_x
    replace hB_2 := Lib.hid hB_2
    go_upto_region 5 with fail
    refine abs_wp (fun Y_ => Below w.heap.size w Y_ ∧ Blk Y_ (w.heap.size) 36 #[.int .u64 0, .int .u64 0] ∧ Blk Y_ (w_1.heap.size) 36 #[.int .u64 q0, .int .u64 q1] ∧ Blk Y_ (w_2.heap.size) 36 #[.int .u64 q9, .int .u64 q2]) ?_ ?_
    · have t_B := hB_2.out
      have t_a := f_a.out
      have t_x := f_x.out
      refine ⟨by (repeat (first | with_reducible exact Below.refl _ _ | with_reducible assumption | (with_reducible refine bel_set ?_ (by first | exact Nat.le_refl _ | (simp; done) | (simp; omega) | omega) _) | with_reducible refine bel_grow ?_ _ | with_reducible refine Below.drew ?_ | with_reducible refine bel_alloc ?_ _ | with_reducible refine bel_eld ?_ (by assumption))), ?_, ?_, ?_⟩
      · (repeat (first | with_reducible assumption | (with_reducible refine Blk.new' ?_; first | with_reducible rfl | (simp; done)) | with_reducible refine Blk.alloc ?_ _ | with_reducible refine Blk.grow ?_ _ | with_reducible refine Blk.drew ?_ | with_reducible refine Blk.drewN ?_ _ | (with_reducible refine Blk.far ?_ (by first | (dsimp only; omega) | (simp; omega)) _) | (with_reducible apply Blk.two) | (with_reducible refine Blk.kept ?_ (by assumption)) | (with_reducible refine Blk.setRow ?_ (by first | rfl | (simp; done))) | (with_reducible refine Blk.setRow_far ?_ (by first | omega | (simp; omega)) _) | (with_reducible refine Blk.set' ?_ _ _ (by first | rfl | (simp; done)))))
      · (repeat (first | with_reducible assumption | (with_reducible refine Blk.new' ?_; first | with_reducible rfl | (simp; done)) | with_reducible refine Blk.alloc ?_ _ | with_reducible refine Blk.grow ?_ _ | with_reducible refine Blk.drew ?_ | with_reducible refine Blk.drewN ?_ _ | (with_reducible refine Blk.far ?_ (by first | (dsimp only; omega) | (simp; omega)) _) | (with_reducible apply Blk.two) | (with_reducible refine Blk.kept ?_ (by assumption)) | (with_reducible refine Blk.setRow ?_ (by first | rfl | (simp; done))) | (with_reducible refine Blk.setRow_far ?_ (by first | omega | (simp; omega)) _) | (with_reducible refine Blk.set' ?_ _ _ (by first | rfl | (simp; done)))))
      · (repeat (first | with_reducible assumption | (with_reducible refine Blk.new' ?_; first | with_reducible rfl | (simp; done)) | with_reducible refine Blk.alloc ?_ _ | with_reducible refine Blk.grow ?_ _ | with_reducible refine Blk.drew ?_ | with_reducible refine Blk.drewN ?_ _ | (with_reducible refine Blk.far ?_ (by first | (dsimp only; omega) | (simp; omega)) _) | (with_reducible apply Blk.two) | (with_reducible refine Blk.kept ?_ (by assumption)) | (with_reducible refine Blk.setRow ?_ (by first | rfl | (simp; done))) | (with_reducible refine Blk.setRow_far ?_ (by first | omega | (simp; omega)) _) | (with_reducible refine Blk.set' ?_ _ _ (by first | rfl | (simp; done)))))
    clear f_a a_l a_0 a_1 a_f0 a_f1 f_x x_l x_0 x_1 x_f0 x_f1 hB_2
    rintro X ⟨hB_3, f_a, f_x, f_y⟩
    have a_0 : X.cell? ⟨w.heap.size, 0, none⟩ = some (.int .u64 0) := (f_a).cell 0
    have a_1 : X.cell? ⟨w.heap.size, 1, none⟩ = some (.int .u64 0) := (f_a).cell 1
    have a_f0 := (f_a).frozen 0
    have a_f1 := (f_a).frozen 1
    have a_l := (f_a).lt
    replace f_a := Lib.hid f_a
    have x_0 : X.cell? ⟨w_1.heap.size, 0, none⟩ = some (.int .u64 q0) := (f_x).cell 0
    have x_1 : X.cell? ⟨w_1.heap.size, 1, none⟩ = some (.int .u64 q1) := (f_x).cell 1
    have x_f0 := (f_x).frozen 0
    have x_f1 := (f_x).frozen 1
    have x_l := (f_x).lt
    replace f_x := Lib.hid f_x
    have y_0 : X.cell? ⟨w_2.heap.size, 0, none⟩ = some (.int .u64 q9) := (f_y).cell 0
    have y_1 : X.cell? ⟨w_2.heap.size, 1, none⟩ = some (.int .u64 q2) := (f_y).cell 1
    have y_f0 := (f_y).frozen 0
    have y_f1 := (f_y).frozen 1
    have y_l := (f_y).lt
    replace f_y := Lib.hid f_y
    replace hB_3 := Lib.hid hB_3
    go_region
    go_wp2_with fail
    refine abs_post (fun Y_ => Below w.heap.size w Y_ ∧ Blk Y_ (w.heap.size) 36 #[.int .u64 q0, .int .u64 q1]) ?_ ?_
    · have t_B := hB_3.out
      have t_a := f_a.out
      have t_x := f_x.out
      have t_y := f_y.out
      exact ⟨by (repeat (first | with_reducible exact Below.refl _ _ | with_reducible assumption | (with_reducible refine bel_set ?_ (by first | exact Nat.le_refl _ | (simp; done) | (simp; omega) | omega) _) | with_reducible refine bel_grow ?_ _ | with_reducible refine Below.drew ?_ | with_reducible refine bel_alloc ?_ _ | (with_reducible refine below_setRow ?_ (by first | omega | (simp; omega)) _) | with_reducible refine bel_eld ?_ (by assumption))), by (repeat (first | with_reducible assumption | (with_reducible refine Blk.new' ?_; first | with_reducible rfl | (simp; done)) | with_reducible refine Blk.alloc ?_ _ | with_reducible refine Blk.grow ?_ _ | with_reducible refine Blk.drew ?_ | with_reducible refine Blk.drewN ?_ _ | (with_reducible refine Blk.far ?_ (by first | (dsimp only; omega) | (simp; omega)) _) | (with_reducible apply Blk.two) | (with_reducible refine Blk.kept ?_ (by assumption)) | (with_reducible refine Blk.setRow (by assumption) (by first | rfl | (simp; done))) | (with_reducible refine Blk.setRow_far ?_ (by first | omega | (simp; omega)) _) | (with_reducible refine Blk.set' ?_ _ _ (by first | rfl | (simp; done)))))⟩
    rintro Y_ ⟨bZ_, gP_⟩
    have p_0 := gP_.cell 0
    have p_1 := gP_.cell 1
    have p_l := gP_.lt
    refine bodyPost_ret (v := .tuple #[.agg #[.int .u64 q0, .int .u64 q1], .int .u64 q2, .bool true]) (by simp [results, Try.results25, go_sem, p_0, p_1, p_l]) rfl ⟨by first | rfl | (rw [hk.out]; rfl), bZ_⟩
  · rw [if_neg h, if_neg h, if_neg h, decide_eq_false h]
    have h' : ((n : Int) != 24) = true := by rw [bne_iff_ne]; omega
    go_enter Try.func25, Try.ntmps25
    go_wp2
    refine bodyPost_ret (v := .tuple #[.agg #[.int .u64 0, .int .u64 0], .int .u64 0, .bool false]) (by simp [results, Try.results25, go_sem]) rfl ⟨rfl, ?_⟩
    (repeat (first | exact Below.refl _ _ | assumption | refine below_drewN ?_ _ | refine bel_grow ?_ _ | refine Below.drew ?_ | refine bel_alloc ?_ _ | refine bel_set ?_ (by first | exact Nat.le_refl _ | (simp; done) | (simp; omega) | omega) _ | refine bel_trans ?_ (by assumption)))
end Go.Proofs.Ytkgjpebekcgagaa
