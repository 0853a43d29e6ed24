/-
  The document's small functions of layer 18, walked.
-/
import Derived.Test.YtpbnakoimlmhnaaBa
import Derived.Test.YtpbnakoimlmhnaaBm
import Derived.Deep.DeepCutAuto
namespace Go.Proofs.Ytpbnakoimlmhnaa
set_option linter.unusedVariables false
set_option linter.unusedSimpArgs false
open Go.RowKit

attribute [local go_sem] loadV_ptr storeV_ptr one_func drew_hs ext_deb ext_cre ext_cols ext_acc
attribute [local go_sem ↓] load_Cols store_Cols load_Transfer store_Transfer load_Parties store_Parties load_Acct store_Acct
theorem bit_any (f b : Int) (hf : 0 ≤ f ∧ f < 65536) (hb : 1 ≤ b ∧ b < 65536) (w : World) : Calls Try.prog 45 #[.int .u16 f, .int .u16 b] w fun r w' => r = .returned (.bool (f / b % 2 == 1)) ∧ Below w.heap.size w w' := by
  have h0 : 0 ≤ f := hf.1
  have h1 : 1 ≤ b := hb.1
  have h2 : ¬ b = 0 := by omega
  have h3 : 0 ≤ f / b := Int.ediv_nonneg h0 (by omega)
  have h4 : f / b ≤ f := Int.ediv_le_self _ h0
  go_enter Try.func45, Try.ntmps45
  go_wp2
  go_ret
  refine ⟨?_, (by repeat (first | exact Below.refl _ _ | assumption | refine below_drewN ?_ _ | refine bel_grow ?_ _ | refine Below.drew ?_ | refine bel_alloc ?_ _ | refine bel_set ?_ (by first | exact Nat.le_refl _ | (simp; done) | (simp; omega) | omega) _ | refine bel_trans ?_ (by assumption)))⟩
  show Ending.returned (Value.bool ((IntKind.u16.wrap (f.tdiv b)).tmod 2 == 1)) = _
  rw [Int.tdiv_eq_ediv_of_nonneg h0, IntKind.wrap_u16, Int.emod_eq_of_lt h3 (by omega), Int.tmod_eq_emod_of_nonneg h3]
theorem refclosed_t (f : Int) (hf : 0 ≤ f ∧ f < 65536) (w : World) : Calls Try.prog 46 #[.int .u16 f, .bool true] w fun r w' => r = .returned (.int .u16 (bits .or .u16 f 16)) ∧ Below w.heap.size w w' := by
  have HB := Lib.hid (fun w => bit_any f 16 hf (by omega) w)
  rw [u16_or16 f hf.1 hf.2]
  by_cases h : f / 16 % 2 = 1
  · have e : f + 16 - f / 16 % 2 * 16 = f := by omega
    rw [e]
    have hb : (f / 16 % 2 == 1) = true := by simpa using h
    rw [hb] at HB
    clear h hb e hf
    go_enter Try.func46, Try.ntmps46
    go_wp2_with (go_at_call 45; (with_reducible refine (gro (HB.out _)).mono ?_); rintro e w' ⟨rfl, d1, rfl⟩)
    go_ret
    exact ⟨rfl, by (repeat (first | exact Below.refl _ _ | assumption | refine below_drewN ?_ _ | refine bel_grow ?_ _ | refine Below.drew ?_ | refine bel_alloc ?_ _ | refine bel_set ?_ (by first | exact Nat.le_refl _ | (simp; done) | (simp; omega) | omega) _ | refine bel_trans ?_ (by assumption)))⟩
  · have e : f + 16 - f / 16 % 2 * 16 = f + 16 := by omega
    rw [e]
    have hb : (f / 16 % 2 == 1) = false := by simpa using h
    rw [hb] at HB
    have ew : IntKind.u16.wrap (f + 16) = f + 16 := by rw [IntKind.wrap_u16]; omega
    clear h hb e hf
    go_enter Try.func46, Try.ntmps46
    go_wp2_with (go_at_call 45; (with_reducible refine (gro (HB.out _)).mono ?_); rintro e w' ⟨rfl, d1, rfl⟩)
    go_ret
    exact ⟨rfl, by (repeat (first | exact Below.refl _ _ | assumption | refine below_drewN ?_ _ | refine bel_grow ?_ _ | refine Below.drew ?_ | refine bel_alloc ?_ _ | refine bel_set ?_ (by first | exact Nat.le_refl _ | (simp; done) | (simp; omega) | omega) _ | refine bel_trans ?_ (by assumption)))⟩
theorem refclosed_f (f : Int) (hf : 0 ≤ f ∧ f < 65536) (w : World) : Calls Try.prog 46 #[.int .u16 f, .bool false] w fun r w' => r = .returned (.int .u16 (bits .andNot .u16 f 16)) ∧ Below w.heap.size w w' := by
  have HB := Lib.hid (fun w => bit_any f 16 hf (by omega) w)
  rw [u16_not16 f hf.1 hf.2]
  by_cases h : f / 16 % 2 = 1
  · have e : f - f / 16 % 2 * 16 = f - 16 := by omega
    rw [e]
    have hb : (f / 16 % 2 == 1) = true := by simpa using h
    rw [hb] at HB
    have ew : IntKind.u16.wrap (f - 16) = f - 16 := by rw [IntKind.wrap_u16]; omega
    clear h hb e hf
    go_enter Try.func46, Try.ntmps46
    go_wp2_with (go_at_call 45; (with_reducible refine (gro (HB.out _)).mono ?_); rintro e w' ⟨rfl, d1, rfl⟩)
    go_ret
    exact ⟨rfl, by (repeat (first | exact Below.refl _ _ | assumption | refine below_drewN ?_ _ | refine bel_grow ?_ _ | refine Below.drew ?_ | refine bel_alloc ?_ _ | refine bel_set ?_ (by first | exact Nat.le_refl _ | (simp; done) | (simp; omega) | omega) _ | refine bel_trans ?_ (by assumption)))⟩
  · have e : f - f / 16 % 2 * 16 = f := by omega
    rw [e]
    have hb : (f / 16 % 2 == 1) = false := by simpa using h
    rw [hb] at HB
    clear h hb e hf
    go_enter Try.func46, Try.ntmps46
    go_wp2_with (go_at_call 45; (with_reducible refine (gro (HB.out _)).mono ?_); rintro e w' ⟨rfl, d1, rfl⟩)
    go_ret
    exact ⟨rfl, by (repeat (first | exact Below.refl _ _ | assumption | refine below_drewN ?_ _ | refine bel_grow ?_ _ | refine Below.drew ?_ | refine bel_alloc ?_ _ | refine bel_set ?_ (by first | exact Nat.le_refl _ | (simp; done) | (simp; omega) | omega) _ | refine bel_trans ?_ (by assumption)))⟩
theorem reffits_any (a b c d : Int) (ha : Wd a) (hb : Wd b) (hc : Wd c) (hd : Wd d) (w : World) : Calls Try.prog 55 #[.agg #[.int .u64 a, .int .u64 b], .agg #[.int .u64 c, .int .u64 d]] w fun r w' => r = .returned (.bool (addB a b c d)) ∧ Below w.heap.size w w' := by
  have HA := Lib.hid (fun w => refadd_any a b c d ha hb hc hd w)
  clear ha hb hc hd
  go_enter Try.func55, Try.ntmps55
  go_wp2_with (go_at_call 24; (with_reducible refine (gro (HA.out _)).mono ?_); rintro e w' ⟨rfl, d1, rfl⟩)
  go_ret
  exact ⟨rfl, by (repeat (first | exact Below.refl _ _ | assumption | refine below_drewN ?_ _ | refine bel_grow ?_ _ | refine Below.drew ?_ | refine bel_alloc ?_ _ | refine bel_set ?_ (by first | exact Nat.le_refl _ | (simp; done) | (simp; omega) | omega) _ | refine bel_trans ?_ (by assumption)))⟩
theorem refleast_any (a b c d : Int) (ha : Wd a) (hb : Wd b) (hc : Wd c) (hd : Wd d) (w : World) : Calls Try.prog 50 #[.agg #[.int .u64 a, .int .u64 b], .agg #[.int .u64 c, .int .u64 d]] w fun r w' => r = .returned (.agg #[.int .u64 (lsH a b c d), .int .u64 (lsL a b c d)]) ∧ Below w.heap.size w w' := by
  have HC := Lib.hid (fun w => refcmp_any c d a b hc hd ha hb w)
  unfold lsH lsL
  generalize cmpV c d a b = cc at *
  clear ha hb hc hd
  have hb0 := Below.refl w.heap.size w
  by_cases h : cc < 0
  · rw [if_pos h, if_pos h]
    have hc : decide (cc < 0) = true := by simpa using h
    go_enter Try.func50, Try.ntmps50
    replace hb0 := Lib.hid hb0
    go_wp2_with fail
    refine (HC.out _).mono ?_
    rintro e w_1 ⟨rfl, hb_1⟩
    have z_1 := hb_1.size
    try simp at z_1
    have t_ := hb0.out
    have hB_1 := bel_eld (w := w) (X := _) (by first | ((repeat (first | with_reducible exact Below.refl _ _ | with_reducible assumption | (with_reducible refine bel_set ?_ (by first | exact Nat.le_refl _ | (simp; done) | (simp; omega) | omega) _) | with_reducible refine bel_grow ?_ _ | with_reducible refine Below.drew ?_ | with_reducible refine below_drewN ?_ _ | with_reducible refine bel_alloc ?_ _ | with_reducible refine bel_trans ?_ (by assumption))); done) | (repeat (first | exact Below.refl _ _ | assumption | refine below_drewN ?_ _ | refine bel_grow ?_ _ | refine Below.drew ?_ | refine bel_alloc ?_ _ | refine bel_set ?_ (by first | exact Nat.le_refl _ | (simp; done) | (simp; omega) | omega) _ | refine bel_trans ?_ (by assumption)))) hb_1
    clear t_
    have g_a : Blk w_1 (w.heap.size) 24 #[.int .u64 a, .int .u64 b] := by
      refine Blk.kept ?_ hb_1
      (repeat (first | with_reducible assumption | (with_reducible refine Blk.new' ?_; first | with_reducible rfl | (simp; done)) | with_reducible refine Blk.alloc ?_ _ | with_reducible refine Blk.grow ?_ _ | with_reducible refine Blk.drew ?_ | with_reducible refine Blk.drewN ?_ _ | (with_reducible refine Blk.far ?_ (by first | (dsimp only; omega) | (simp; omega)) _) | (with_reducible apply Blk.two) | (with_reducible refine Blk.set' ?_ _ _ ?_) | (with_reducible rfl) | rfl))
    have g_c : Blk w_1 (w.heap.size + 1) 24 #[.int .u64 c, .int .u64 d] := by
      refine Blk.kept ?_ hb_1
      (repeat (first | with_reducible assumption | (with_reducible refine Blk.new' ?_; first | with_reducible rfl | (simp; done)) | with_reducible refine Blk.alloc ?_ _ | with_reducible refine Blk.grow ?_ _ | with_reducible refine Blk.drew ?_ | with_reducible refine Blk.drewN ?_ _ | (with_reducible refine Blk.far ?_ (by first | (dsimp only; omega) | (simp; omega)) _) | (with_reducible apply Blk.two) | (with_reducible refine Blk.set' ?_ _ _ ?_) | (with_reducible rfl) | rfl))
    have g_r : Blk w_1 (w.heap.size + 2) 24 #[.int .u64 0, .int .u64 0] := by
      refine Blk.kept ?_ hb_1
      (repeat (first | with_reducible assumption | (with_reducible refine Blk.new' ?_; first | with_reducible rfl | (simp; done)) | with_reducible refine Blk.alloc ?_ _ | with_reducible refine Blk.grow ?_ _ | with_reducible refine Blk.drew ?_ | with_reducible refine Blk.drewN ?_ _ | (with_reducible refine Blk.far ?_ (by first | (dsimp only; omega) | (simp; omega)) _) | (with_reducible apply Blk.two) | (with_reducible refine Blk.set' ?_ _ _ ?_) | (with_reducible rfl) | rfl))
    clear hb0 hb_1
    have f_a := g_a
    clear g_a
    have f_c := g_c
    clear g_c
    have f_r := g_r
    clear g_r
    have a_0 : w_1.cell? ⟨w.heap.size, 0, none⟩ = some (.int .u64 a) := (f_a).cell 0
    have a_1 : w_1.cell? ⟨w.heap.size, 1, none⟩ = some (.int .u64 b) := (f_a).cell 1
    have a_f0 := (f_a).frozen 0
    have a_f1 := (f_a).frozen 1
    have a_l := (f_a).lt
    replace f_a := Lib.hid f_a
    have c_0 : w_1.cell? ⟨w.heap.size + 1, 0, none⟩ = some (.int .u64 c) := (f_c).cell 0
    have c_1 : w_1.cell? ⟨w.heap.size + 1, 1, none⟩ = some (.int .u64 d) := (f_c).cell 1
    have c_f0 := (f_c).frozen 0
    have c_f1 := (f_c).frozen 1
    have c_l := (f_c).lt
    replace f_c := Lib.hid f_c
    have r_0 : w_1.cell? ⟨w.heap.size + 2, 0, none⟩ = some (.int .u64 0) := (f_r).cell 0
    have r_1 : w_1.cell? ⟨w.heap.size + 2, 1, none⟩ = some (.int .u64 0) := (f_r).cell 1
    have r_f0 := (f_r).frozen 0
    have r_f1 := (f_r).frozen 1
    have r_l := (f_r).lt
    replace f_r := Lib.hid f_r
    replace hB_1 := Lib.hid hB_1
    go_wp2_with fail
    refine abs_post (fun Y_ => Below w.heap.size w Y_ ∧ Blk Y_ (w.heap.size + 2) 24 #[.int .u64 c, .int .u64 d]) ?_ ?_
    · have t_B := hB_1.out
      have t_a := f_a.out
      have t_c := f_c.out
      have t_r := f_r.out
      exact ⟨by (repeat (first | with_reducible exact Below.refl _ _ | with_reducible assumption | (with_reducible refine bel_set ?_ (by first | exact Nat.le_refl _ | (simp; done) | (simp; omega) | omega) _) | with_reducible refine bel_grow ?_ _ | with_reducible refine Below.drew ?_ | with_reducible refine bel_alloc ?_ _ | (with_reducible refine below_setRow ?_ (by first | omega | (simp; omega)) _) | with_reducible refine bel_eld ?_ (by assumption))), by (repeat (first | with_reducible assumption | (with_reducible refine Blk.new' ?_; first | with_reducible rfl | (simp; done)) | with_reducible refine Blk.alloc ?_ _ | with_reducible refine Blk.grow ?_ _ | with_reducible refine Blk.drew ?_ | with_reducible refine Blk.drewN ?_ _ | (with_reducible refine Blk.far ?_ (by first | (dsimp only; omega) | (simp; omega)) _) | (with_reducible apply Blk.two) | (with_reducible refine Blk.kept ?_ (by assumption)) | (with_reducible refine Blk.setRow (by assumption) (by first | rfl | (simp; done))) | (with_reducible refine Blk.setRow_far ?_ (by first | omega | (simp; omega)) _) | (with_reducible refine Blk.set' ?_ _ _ (by first | rfl | (simp; done)))))⟩
    rintro Y_ ⟨bZ_, gP_⟩
    have p_0 := gP_.cell 0
    have p_1 := gP_.cell 1
    have p_l := gP_.lt
    refine bodyPost_ret (v := .agg #[.int .u64 c, .int .u64 d]) (by simp [results, Try.results50, go_sem, p_0, p_1, p_l]) rfl ⟨by first | rfl | (rw [hk.out]; rfl), bZ_⟩
  · rw [if_neg h, if_neg h]
    have hc : decide (cc < 0) = false := by simpa using h
    go_enter Try.func50, Try.ntmps50
    replace hb0 := Lib.hid hb0
    go_wp2_with fail
    refine (HC.out _).mono ?_
    rintro e w_1 ⟨rfl, hb_1⟩
    have z_1 := hb_1.size
    try simp at z_1
    have t_ := hb0.out
    have hB_1 := bel_eld (w := w) (X := _) (by first | ((repeat (first | with_reducible exact Below.refl _ _ | with_reducible assumption | (with_reducible refine bel_set ?_ (by first | exact Nat.le_refl _ | (simp; done) | (simp; omega) | omega) _) | with_reducible refine bel_grow ?_ _ | with_reducible refine Below.drew ?_ | with_reducible refine below_drewN ?_ _ | with_reducible refine bel_alloc ?_ _ | with_reducible refine bel_trans ?_ (by assumption))); done) | (repeat (first | exact Below.refl _ _ | assumption | refine below_drewN ?_ _ | refine bel_grow ?_ _ | refine Below.drew ?_ | refine bel_alloc ?_ _ | refine bel_set ?_ (by first | exact Nat.le_refl _ | (simp; done) | (simp; omega) | omega) _ | refine bel_trans ?_ (by assumption)))) hb_1
    clear t_
    have g_a : Blk w_1 (w.heap.size) 24 #[.int .u64 a, .int .u64 b] := by
      refine Blk.kept ?_ hb_1
      (repeat (first | with_reducible assumption | (with_reducible refine Blk.new' ?_; first | with_reducible rfl | (simp; done)) | with_reducible refine Blk.alloc ?_ _ | with_reducible refine Blk.grow ?_ _ | with_reducible refine Blk.drew ?_ | with_reducible refine Blk.drewN ?_ _ | (with_reducible refine Blk.far ?_ (by first | (dsimp only; omega) | (simp; omega)) _) | (with_reducible apply Blk.two) | (with_reducible refine Blk.set' ?_ _ _ ?_) | (with_reducible rfl) | rfl))
    have g_c : Blk w_1 (w.heap.size + 1) 24 #[.int .u64 c, .int .u64 d] := by
      refine Blk.kept ?_ hb_1
      (repeat (first | with_reducible assumption | (with_reducible refine Blk.new' ?_; first | with_reducible rfl | (simp; done)) | with_reducible refine Blk.alloc ?_ _ | with_reducible refine Blk.grow ?_ _ | with_reducible refine Blk.drew ?_ | with_reducible refine Blk.drewN ?_ _ | (with_reducible refine Blk.far ?_ (by first | (dsimp only; omega) | (simp; omega)) _) | (with_reducible apply Blk.two) | (with_reducible refine Blk.set' ?_ _ _ ?_) | (with_reducible rfl) | rfl))
    have g_r : Blk w_1 (w.heap.size + 2) 24 #[.int .u64 0, .int .u64 0] := by
      refine Blk.kept ?_ hb_1
      (repeat (first | with_reducible assumption | (with_reducible refine Blk.new' ?_; first | with_reducible rfl | (simp; done)) | with_reducible refine Blk.alloc ?_ _ | with_reducible refine Blk.grow ?_ _ | with_reducible refine Blk.drew ?_ | with_reducible refine Blk.drewN ?_ _ | (with_reducible refine Blk.far ?_ (by first | (dsimp only; omega) | (simp; omega)) _) | (with_reducible apply Blk.two) | (with_reducible refine Blk.set' ?_ _ _ ?_) | (with_reducible rfl) | rfl))
    clear hb0 hb_1
    have f_a := g_a
    clear g_a
    have f_c := g_c
    clear g_c
    have f_r := g_r
    clear g_r
    have a_0 : w_1.cell? ⟨w.heap.size, 0, none⟩ = some (.int .u64 a) := (f_a).cell 0
    have a_1 : w_1.cell? ⟨w.heap.size, 1, none⟩ = some (.int .u64 b) := (f_a).cell 1
    have a_f0 := (f_a).frozen 0
    have a_f1 := (f_a).frozen 1
    have a_l := (f_a).lt
    replace f_a := Lib.hid f_a
    have c_0 : w_1.cell? ⟨w.heap.size + 1, 0, none⟩ = some (.int .u64 c) := (f_c).cell 0
    have c_1 : w_1.cell? ⟨w.heap.size + 1, 1, none⟩ = some (.int .u64 d) := (f_c).cell 1
    have c_f0 := (f_c).frozen 0
    have c_f1 := (f_c).frozen 1
    have c_l := (f_c).lt
    replace f_c := Lib.hid f_c
    have r_0 : w_1.cell? ⟨w.heap.size + 2, 0, none⟩ = some (.int .u64 0) := (f_r).cell 0
    have r_1 : w_1.cell? ⟨w.heap.size + 2, 1, none⟩ = some (.int .u64 0) := (f_r).cell 1
    have r_f0 := (f_r).frozen 0
    have r_f1 := (f_r).frozen 1
    have r_l := (f_r).lt
    replace f_r := Lib.hid f_r
    replace hB_1 := Lib.hid hB_1
    go_wp2_with fail
    refine abs_post (fun Y_ => Below w.heap.size w Y_ ∧ Blk Y_ (w.heap.size + 2) 24 #[.int .u64 a, .int .u64 b]) ?_ ?_
    · have t_B := hB_1.out
      have t_a := f_a.out
      have t_c := f_c.out
      have t_r := f_r.out
      exact ⟨by (repeat (first | with_reducible exact Below.refl _ _ | with_reducible assumption | (with_reducible refine bel_set ?_ (by first | exact Nat.le_refl _ | (simp; done) | (simp; omega) | omega) _) | with_reducible refine bel_grow ?_ _ | with_reducible refine Below.drew ?_ | with_reducible refine bel_alloc ?_ _ | (with_reducible refine below_setRow ?_ (by first | omega | (simp; omega)) _) | with_reducible refine bel_eld ?_ (by assumption))), by (repeat (first | with_reducible assumption | (with_reducible refine Blk.new' ?_; first | with_reducible rfl | (simp; done)) | with_reducible refine Blk.alloc ?_ _ | with_reducible refine Blk.grow ?_ _ | with_reducible refine Blk.drew ?_ | with_reducible refine Blk.drewN ?_ _ | (with_reducible refine Blk.far ?_ (by first | (dsimp only; omega) | (simp; omega)) _) | (with_reducible apply Blk.two) | (with_reducible refine Blk.kept ?_ (by assumption)) | (with_reducible refine Blk.setRow (by assumption) (by first | rfl | (simp; done))) | (with_reducible refine Blk.setRow_far ?_ (by first | omega | (simp; omega)) _) | (with_reducible refine Blk.set' ?_ _ _ (by first | rfl | (simp; done)))))⟩
    rintro Y_ ⟨bZ_, gP_⟩
    have p_0 := gP_.cell 0
    have p_1 := gP_.cell 1
    have p_l := gP_.lt
    refine bodyPost_ret (v := .agg #[.int .u64 a, .int .u64 b]) (by simp [results, Try.results50, go_sem, p_0, p_1, p_l]) rfl ⟨by first | rfl | (rw [hk.out]; rfl), bZ_⟩
theorem refleft_any (o1 o2 p1 p2 q1 q2 : Int) (h1 : Wd o1) (h2 : Wd o2) (h3 : Wd p1) (h4 : Wd p2) (h5 : Wd q1) (h6 : Wd q2) (w : World) : Calls Try.prog 51 #[.agg #[.int .u64 o1, .int .u64 o2], .agg #[.int .u64 p1, .int .u64 p2], .agg #[.int .u64 q1, .int .u64 q2]] w fun r w' => r = .returned (.agg #[.int .u64 (leH o1 o2 p1 p2 q1 q2), .int .u64 (leL o1 o2 p1 p2 q1 q2)]) ∧ Below w.heap.size w w' := by
  obtain ⟨u1, u2⟩ := add_u h3 h4 h5 h6
  have HA := Lib.hid (fun w => refadd_any p1 p2 q1 q2 h3 h4 h5 h6 w)
  have HS := Lib.hid (fun w => refsub_any o1 o2 (addH p1 p2 q1 q2) (addL p1 p2 q1 q2) h1 h2 u1 u2 w)
  unfold leH leL
  clear h1 h2 h3 h4 h5 h6 u1 u2
  generalize addB p1 p2 q1 q2 = ok at *
  generalize addH p1 p2 q1 q2 = h at *
  generalize addL p1 p2 q1 q2 = l at *
  generalize subH o1 o2 h l = vh at *
  generalize subL o1 o2 h l = vl at *
  generalize subB o1 o2 h l = vb at *
  have hb0 := Below.refl w.heap.size w
  go_enter Try.func51, Try.ntmps51
  replace hb0 := Lib.hid hb0
  go_wp2_with fail
  refine (HA.out _).mono ?_
  rintro e w_1 ⟨rfl, hb_1⟩
  have z_1 := hb_1.size
  try simp at z_1
  have t_ := hb0.out
  have hB_1 := bel_eld (w := w) (X := _) (by first | ((repeat (first | with_reducible exact Below.refl _ _ | with_reducible assumption | (with_reducible refine bel_set ?_ (by first | exact Nat.le_refl _ | (simp; done) | (simp; omega) | omega) _) | with_reducible refine bel_grow ?_ _ | with_reducible refine Below.drew ?_ | with_reducible refine below_drewN ?_ _ | with_reducible refine bel_alloc ?_ _ | with_reducible refine bel_trans ?_ (by assumption))); done) | (repeat (first | exact Below.refl _ _ | assumption | refine below_drewN ?_ _ | refine bel_grow ?_ _ | refine Below.drew ?_ | refine bel_alloc ?_ _ | refine bel_set ?_ (by first | exact Nat.le_refl _ | (simp; done) | (simp; omega) | omega) _ | refine bel_trans ?_ (by assumption)))) hb_1
  clear t_
  have g_a : Blk w_1 (w.heap.size) 24 #[.int .u64 o1, .int .u64 o2] := by
    refine Blk.kept ?_ hb_1
    (repeat (first | with_reducible assumption | (with_reducible refine Blk.new' ?_; first | with_reducible rfl | (simp; done)) | with_reducible refine Blk.alloc ?_ _ | with_reducible refine Blk.grow ?_ _ | with_reducible refine Blk.drew ?_ | with_reducible refine Blk.drewN ?_ _ | (with_reducible refine Blk.far ?_ (by first | (dsimp only; omega) | (simp; omega)) _) | (with_reducible apply Blk.two) | (with_reducible refine Blk.set' ?_ _ _ ?_) | (with_reducible rfl) | rfl))
  have g_r : Blk w_1 (w.heap.size + 3) 24 #[.int .u64 0, .int .u64 0] := by
    refine Blk.kept ?_ hb_1
    (repeat (first | with_reducible assumption | (with_reducible refine Blk.new' ?_; first | with_reducible rfl | (simp; done)) | with_reducible refine Blk.alloc ?_ _ | with_reducible refine Blk.grow ?_ _ | with_reducible refine Blk.drew ?_ | with_reducible refine Blk.drewN ?_ _ | (with_reducible refine Blk.far ?_ (by first | (dsimp only; omega) | (simp; omega)) _) | (with_reducible apply Blk.two) | (with_reducible refine Blk.set' ?_ _ _ ?_) | (with_reducible rfl) | rfl))
  clear hb0 hb_1
  have f_a := g_a
  clear g_a
  have f_r := g_r
  clear g_r
  have a_0 : w_1.cell? ⟨w.heap.size, 0, none⟩ = some (.int .u64 o1) := (f_a).cell 0
  have a_1 : w_1.cell? ⟨w.heap.size, 1, none⟩ = some (.int .u64 o2) := (f_a).cell 1
  have a_f0 := (f_a).frozen 0
  have a_f1 := (f_a).frozen 1
  have a_l := (f_a).lt
  replace f_a := Lib.hid f_a
  have r_0 : w_1.cell? ⟨w.heap.size + 3, 0, none⟩ = some (.int .u64 0) := (f_r).cell 0
  have r_1 : w_1.cell? ⟨w.heap.size + 3, 1, none⟩ = some (.int .u64 0) := (f_r).cell 1
  have r_f0 := (f_r).frozen 0
  have r_f1 := (f_r).frozen 1
  have r_l := (f_r).lt
  replace f_r := Lib.hid f_r
  replace hB_1 := Lib.hid hB_1
  cases ok
  case false =>
    go_wp2_with fail
    refine abs_post (fun Y_ => Below w.heap.size w Y_ ∧ Blk Y_ (w.heap.size + 3) 24 #[.int .u64 0, .int .u64 0]) ?_ ?_
    · have t_B := hB_1.out
      have t_a := f_a.out
      have t_r := f_r.out
      exact ⟨by (repeat (first | with_reducible exact Below.refl _ _ | with_reducible assumption | (with_reducible refine bel_set ?_ (by first | exact Nat.le_refl _ | (simp; done) | (simp; omega) | omega) _) | with_reducible refine bel_grow ?_ _ | with_reducible refine Below.drew ?_ | with_reducible refine bel_alloc ?_ _ | (with_reducible refine below_setRow ?_ (by first | omega | (simp; omega)) _) | with_reducible refine bel_eld ?_ (by assumption))), by (repeat (first | with_reducible assumption | (with_reducible refine Blk.new' ?_; first | with_reducible rfl | (simp; done)) | with_reducible refine Blk.alloc ?_ _ | with_reducible refine Blk.grow ?_ _ | with_reducible refine Blk.drew ?_ | with_reducible refine Blk.drewN ?_ _ | (with_reducible refine Blk.far ?_ (by first | (dsimp only; omega) | (simp; omega)) _) | (with_reducible apply Blk.two) | (with_reducible refine Blk.kept ?_ (by assumption)) | (with_reducible refine Blk.setRow (by assumption) (by first | rfl | (simp; done))) | (with_reducible refine Blk.setRow_far ?_ (by first | omega | (simp; omega)) _) | (with_reducible refine Blk.set' ?_ _ _ (by first | rfl | (simp; done)))))⟩
    rintro Y_ ⟨bZ_, gP_⟩
    have p_0 := gP_.cell 0
    have p_1 := gP_.cell 1
    have p_l := gP_.lt
    refine bodyPost_ret (v := .agg #[.int .u64 0, .int .u64 0]) (by simp [results, Try.results51, go_sem, p_0, p_1, p_l]) rfl ⟨by first | rfl | (rw [hk.out]; rfl), bZ_⟩
  case true =>
    go_wp2_with fail
    refine (HS.out _).mono ?_
    rintro e w_2 ⟨rfl, hb_2⟩
    have z_2 := hb_2.size
    try simp at z_2
    have t_ := hB_1.out
    have hB_2 := bel_eld (w := w) (X := _) (by first | ((repeat (first | with_reducible exact Below.refl _ _ | with_reducible assumption | (with_reducible refine bel_set ?_ (by first | exact Nat.le_refl _ | (simp; done) | (simp; omega) | omega) _) | with_reducible refine bel_grow ?_ _ | with_reducible refine Below.drew ?_ | with_reducible refine below_drewN ?_ _ | with_reducible refine bel_alloc ?_ _ | with_reducible refine bel_trans ?_ (by assumption))); done) | (repeat (first | exact Below.refl _ _ | assumption | refine below_drewN ?_ _ | refine bel_grow ?_ _ | refine Below.drew ?_ | refine bel_alloc ?_ _ | refine bel_set ?_ (by first | exact Nat.le_refl _ | (simp; done) | (simp; omega) | omega) _ | refine bel_trans ?_ (by assumption)))) hb_2
    clear t_
    have t_a := f_a.out
    have t_r := f_r.out
    have g_a : Blk w_2 (w.heap.size) 24 #[.int .u64 o1, .int .u64 o2] := by
      refine Blk.kept ?_ hb_2
      (repeat (first | with_reducible assumption | (with_reducible refine Blk.new' ?_; first | with_reducible rfl | (simp; done)) | with_reducible refine Blk.alloc ?_ _ | with_reducible refine Blk.grow ?_ _ | with_reducible refine Blk.drew ?_ | with_reducible refine Blk.drewN ?_ _ | (with_reducible refine Blk.far ?_ (by first | (dsimp only; omega) | (simp; omega)) _) | (with_reducible apply Blk.two) | (with_reducible refine Blk.set' ?_ _ _ ?_) | (with_reducible rfl) | rfl))
    have g_r : Blk w_2 (w.heap.size + 3) 24 #[.int .u64 0, .int .u64 0] := by
      refine Blk.kept ?_ hb_2
      (repeat (first | with_reducible assumption | (with_reducible refine Blk.new' ?_; first | with_reducible rfl | (simp; done)) | with_reducible refine Blk.alloc ?_ _ | with_reducible refine Blk.grow ?_ _ | with_reducible refine Blk.drew ?_ | with_reducible refine Blk.drewN ?_ _ | (with_reducible refine Blk.far ?_ (by first | (dsimp only; omega) | (simp; omega)) _) | (with_reducible apply Blk.two) | (with_reducible refine Blk.set' ?_ _ _ ?_) | (with_reducible rfl) | rfl))
    clear f_a a_l a_0 a_1 a_f0 a_f1 f_r r_l r_0 r_1 r_f0 r_f1 t_a t_r hB_1 hb_2
    have f_a := g_a
    clear g_a
    have f_r := g_r
    clear g_r
    have a_0 : w_2.cell? ⟨w.heap.size, 0, none⟩ = some (.int .u64 o1) := (f_a).cell 0
    have a_1 : w_2.cell? ⟨w.heap.size, 1, none⟩ = some (.int .u64 o2) := (f_a).cell 1
    have a_f0 := (f_a).frozen 0
    have a_f1 := (f_a).frozen 1
    have a_l := (f_a).lt
    replace f_a := Lib.hid f_a
    have r_0 : w_2.cell? ⟨w.heap.size + 3, 0, none⟩ = some (.int .u64 0) := (f_r).cell 0
    have r_1 : w_2.cell? ⟨w.heap.size + 3, 1, none⟩ = some (.int .u64 0) := (f_r).cell 1
    have r_f0 := (f_r).frozen 0
    have r_f1 := (f_r).frozen 1
    have r_l := (f_r).lt
    replace f_r := Lib.hid f_r
    replace hB_2 := Lib.hid hB_2
    go_wp2_with fail
    refine abs_post (fun Y_ => Below w.heap.size w Y_ ∧ Blk Y_ (w.heap.size + 3) 24 #[.int .u64 vh, .int .u64 vl]) ?_ ?_
    · have t_B := hB_2.out
      have t_a := f_a.out
      have t_r := f_r.out
      exact ⟨by (repeat (first | with_reducible exact Below.refl _ _ | with_reducible assumption | (with_reducible refine bel_set ?_ (by first | exact Nat.le_refl _ | (simp; done) | (simp; omega) | omega) _) | with_reducible refine bel_grow ?_ _ | with_reducible refine Below.drew ?_ | with_reducible refine bel_alloc ?_ _ | (with_reducible refine below_setRow ?_ (by first | omega | (simp; omega)) _) | with_reducible refine bel_eld ?_ (by assumption))), by (repeat (first | with_reducible assumption | (with_reducible refine Blk.new' ?_; first | with_reducible rfl | (simp; done)) | with_reducible refine Blk.alloc ?_ _ | with_reducible refine Blk.grow ?_ _ | with_reducible refine Blk.drew ?_ | with_reducible refine Blk.drewN ?_ _ | (with_reducible refine Blk.far ?_ (by first | (dsimp only; omega) | (simp; omega)) _) | (with_reducible apply Blk.two) | (with_reducible refine Blk.kept ?_ (by assumption)) | (with_reducible refine Blk.setRow (by assumption) (by first | rfl | (simp; done))) | (with_reducible refine Blk.setRow_far ?_ (by first | omega | (simp; omega)) _) | (with_reducible refine Blk.set' ?_ _ _ (by first | rfl | (simp; done)))))⟩
    rintro Y_ ⟨bZ_, gP_⟩
    have p_0 := gP_.cell 0
    have p_1 := gP_.cell 1
    have p_l := gP_.lt
    refine bodyPost_ret (v := .agg #[.int .u64 vh, .int .u64 vl]) (by simp [results, Try.results51, go_sem, p_0, p_1, p_l]) rfl ⟨by first | rfl | (rw [hk.out]; rfl), bZ_⟩
end Go.Proofs.Ytpbnakoimlmhnaa
