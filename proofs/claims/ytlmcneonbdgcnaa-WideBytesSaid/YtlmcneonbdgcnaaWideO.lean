/-
  The walk of the statement WideBytes.
-/
import Derived.Test.YtlmcneonbdgcnaaWideN
import Derived.Test.YtlmcneonbdgcnaaWideJ
import Derived.Test.YtlmcneonbdgcnaaLess
import Derived.Deep.DeepCutAuto
namespace Go.Proofs.Ytlmcneonbdgcnaa
set_option linter.unusedVariables false
set_option linter.unusedSimpArgs false
open Go.RowKit

theorem num_dgt {h l : Int} (hh : Wd h) (hl : Wd l) : num (dgt h l) 0 8 = h ∧ num (dgt h l) 8 8 = l := by
  have hV := num_eq (V h l) (V_lo hh hl)
  rw [V_div hl, V_mod hl] at hV
  refine ⟨?_, ?_⟩
  · exact (num_congr (fun j hj => by rw [Nat.zero_add]; exact dgt_dg hl (by omega))).trans hV.1
  · exact (num_congr (fun j hj => dgt_dg hl (by omega))).trans hV.2
theorem dgt_less {a b c d : Int} (ha : Wd a) (hb : Wd b) (hc : Wd c) (hd : Wd d) : rowLess (dgt a b) (dgt c d) 16 = decide (cmpV a b c d < 0) := by
  rw [Bool.eq_iff_iff, rowLess_iff, decide_eq_true_eq, cmp_lt hb hd]
  have hA := V_lo ha hb
  have hB := V_lo hc hd
  constructor
  · rintro ⟨k, hk, h1, h2⟩
    rw [dgt_dg hb hk, dgt_dg hd hk] at h2
    exact dg_less hA hB hk (fun j hj => by rw [← dgt_dg hb (by omega), ← dgt_dg hd (by omega)]; exact h1 j hj) h2
  · intro hlt
    apply Classical.byContradiction
    intro hno
    have hall : ∀ k, k ≤ 16 → ∀ j, j < k → dg (V a b) j = dg (V c d) j := by
      intro k
      induction k with
      | zero => intro _ j hj; omega
      | succ k ih =>
        intro hk j hj
        by_cases e : j = k
        · subst e
          rcases Int.lt_trichotomy (dg (V a b) j) (dg (V c d) j) with h | h | h
          · exact absurd ⟨j, by omega, fun i hi => by rw [dgt_dg hb (by omega), dgt_dg hd (by omega)]; exact ih (by omega) i hi, by rw [dgt_dg hb (by omega), dgt_dg hd (by omega)]; exact h⟩ hno
          · exact h
          · have := dg_less hB hA (k := j) (by omega) (fun i hi => (ih (by omega) i hi).symm) h
            omega
        · exact ih (by omega) j (by omega)
    have := dg_all hA hB (hall 16 (by omega))
    omega
theorem dgt_eq {a b c d : Int} (ha : Wd a) (hb : Wd b) (hc : Wd c) (hd : Wd d) : decide (16 = 16 ∧ ∀ i, i < 16 → dgt a b i = dgt c d i) = (a == c && b == d) := by
  rw [Bool.eq_iff_iff, decide_eq_true_eq, Bool.and_eq_true, beq_iff_eq, beq_iff_eq]
  constructor
  · rintro ⟨_, h⟩
    have h1 := num_dgt ha hb
    have h2 := num_dgt hc hd
    exact ⟨h1.1.symm.trans ((num_congr (fun j hj => h _ (by omega))).trans h2.1), h1.2.symm.trans ((num_congr (fun j hj => h _ (by omega))).trans h2.2)⟩
  · rintro ⟨rfl, rfl⟩; exact ⟨rfl, fun _ _ => rfl⟩
theorem dgt_less_at {a b c d : Int} (ha : Wd a) (hb : Wd b) (hc : Wd c) (hd : Wd d) : Op.bytesLess (strF (dgt a b) 16).toList (strF (dgt c d) 16).toList = decide (cmpV a b c d < 0) := by
  rw [strF_less (fun i _ => dgt_lo a b i) (fun i _ => dgt_lo c d i), dgt_less ha hb hc hd]
theorem dgt_eq_at {a b c d : Int} (ha : Wd a) (hb : Wd b) (hc : Wd c) (hd : Wd d) : ((strF (dgt a b) 16).toList == (strF (dgt c d) 16).toList) = (a == c && b == d) := by
  rw [strF_eq (fun i _ => dgt_lo a b i) (fun i _ => dgt_lo c d i), ← dgt_eq ha hb hc hd]

/-- what n bytes are read as -/
def rdH (d : Nat → Int) (n : Nat) : Int := if n = 16 then num d 0 8 else 0
def rdL (d : Nat → Int) (n : Nat) : Int := if n = 16 then num d 8 8 else 0
theorem read_any (A : Option Addr) (n c : Nat) (hn : n ≤ maxLen) (d : Nat → Int) (hd : ∀ i, 0 ≤ d i ∧ d i < 256) (w : World) (hs : SlIs w A n (yV d)) : Calls Try.prog 23 #[.slice A n c] w fun r w' =>
      r = .returned (.tuple #[.agg #[.int .u64 (rdH d n), .int .u64 (rdL d n)], .bool (decide (n = 16))]) ∧ Below w.heap.size w w' := by
  unfold rdH rdL
  by_cases h : n = 16
  · subst h; rw [if_pos rfl, if_pos rfl]; exact read_yes A c d hd w hs
  · rw [if_neg h, if_neg h, decide_eq_false h]; exact read_no A n c hn h w
theorem reads_any (n : Nat) (hn : n ≤ maxLen) (d : Nat → Int) (hd : ∀ i, 0 ≤ d i ∧ d i < 256) (w : World) : Calls Try.prog 24 #[.string (strF d n)] w fun r w' =>
      r = .returned (.tuple #[.agg #[.int .u64 (rdH d n), .int .u64 (rdL d n)], .bool (decide (n = 16))]) ∧ Below w.heap.size w w' := by
  unfold rdH rdL
  by_cases h : n = 16
  · subst h
    rw [if_pos rfl, if_pos rfl]
    have := reads_yes (strF d 16) (strF_size d 16) w
    rw [num_congr (d := sB (strF d 16)) (e := d) (s := 0) (k := 8) (fun j hj => sB_strF (by omega) (hd _)), num_congr (d := sB (strF d 16)) (e := d) (s := 8) (k := 8) (fun j hj => sB_strF (by omega) (hd _))] at this
    exact this
  · rw [if_neg h, if_neg h, decide_eq_false h]; exact reads_no _ (by rw [strF_size]; exact hn) (by rw [strF_size]; exact h) w

set_option maxHeartbeats 1000000 in
theorem wideBytes_far (a b c d : Int) (A : Option Addr) (n k : Nat) (hn : n ≤ maxLen) (h1 : 100 < n) (w : World) : Calls Try.prog 7 #[.agg #[.int .u64 a, .int .u64 b], .agg #[.int .u64 c, .int .u64 d], .slice A n k] w fun r w' =>
      r = .returned (.bool true) ∧ Below w.heap.size w w' := by
  unfold maxLen at hn
  have hn' : decide ((100 : Int) < n) = true := by simp; omega
  go_enter Try.func7, Try.ntmps7
  go_wp2_with (first | (go_at_call 8; first | ((with_reducible refine (grow_call (wfixed_any _)).mono ?_); rintro e w' ⟨rfl, d1, rfl⟩) | ((with_reducible refine (gro (wfixed_any _)).mono ?_); rintro e w' ⟨rfl, d1, rfl⟩)))
  go_ret
  exact ⟨rfl, (by repeat (first | exact Below.refl _ _ | assumption | refine below_drewN ?_ _ | refine bel_grow ?_ _ | refine Below.drew ?_ | refine bel_alloc ?_ _ | refine bel_set ?_ (by first | exact Nat.le_refl _ | (simp; done) | (simp; omega) | omega) _ | refine bel_trans ?_ (by assumption)))⟩

set_option maxHeartbeats 4000000 in
theorem wideBytes_near (a b c d : Int) (ha : Wd a) (hb : Wd b) (hc : Wd c) (hd : Wd d) (A : Option Addr) (n k : Nat) (hn : n ≤ 100) (e : Nat → Int) (he : ∀ i, 0 ≤ e i ∧ e i < 256) (w : World) (hs : SlIs w A n (yV e)) : Calls Try.prog 7 #[.agg #[.int .u64 a, .int .u64 b], .agg #[.int .u64 c, .int .u64 d], .slice A n k] w fun r w' =>
      r = .returned (.bool true) ∧ Below w.heap.size w w' := by
  have hn' : decide ((100 : Int) < n) = false := by simp; omega
  have HA := Lib.hid (fun w => bytes_any a b ha hb w)
  have HB := Lib.hid (fun w => bytes_any c d hc hd w)
  have HR := Lib.hid (fun w => refbytes_any a b ha hb w)
  have HC := Lib.hid (fun w => cmp_any a b c d w)
  have HS := Lib.hid (fun w hs => read_any A n k (by simp only [maxLen]; omega) e he w hs)
  have HT := Lib.hid (fun w => reads_any n (by simp only [maxLen]; omega) e he w)
  have HX := fun g w hs => read_yes (some ⟨g, 0, none⟩) 16 (dgt a b) (dgt_lo a b) w hs
  rw [(num_dgt ha hb).1, (num_dgt ha hb).2] at HX
  replace HX := Lib.hid HX
  have k1 := Lib.hid (dgt_less_at ha hb hc hd)
  have k2 := Lib.hid (dgt_eq_at ha hb hc hd)
  clear ha hb hc hd he
  replace hs := Lib.hid hs
  generalize rdH e n = rh at *
  generalize rdL e n = rl at *
  generalize cmpV a b c d = cc at *
  have hb0 := Below.refl w.heap.size w
  go_enter Try.func7, Try.ntmps7
  go_upto_region 3 with fail
  go_cut [7, 8] (fun s7 s8 wx => s7 = .string (strF (dgt a b) 16) ∧ s8 = .string (strF (dgt c d) 16) ∧ Hid (Below w.heap.size w wx) ∧ Hid (Blk wx w.heap.size 26 #[.int .u64 a, .int .u64 b]) ∧ Hid (Blk wx (w.heap.size + 1) 26 #[.int .u64 c, .int .u64 d]))
  case first =>
    go_region_with
      (first
        | (go_at_call 22; (with_reducible refine (HA.out _).mono ?_); rintro e w1 ⟨gx, rfl, hgx, hrx, hbx⟩; have cvx := fun (W : World) (h : Below w1.heap.size w1 W) => conv_str (P := Try.prog) (src := 37) (e := 5) (dst := 9) Try.underlying37 Try.underlying5 Try.underlying9 (SlIs.below (SlIs.row hrx (Nat.le_refl 16)) h) 16; have rfx := Below.refl w1.heap.size w1; have cb0 : w1.cell? ⟨w.heap.size + 1, 0, none⟩ = some (.int .u64 c) := keepc hbx (by simp [go_sem]); have cb1 : w1.cell? ⟨w.heap.size + 1, 1, none⟩ = some (.int .u64 d) := keepc hbx (by simp [go_sem]); replace hrx := Lib.hid hrx)
        | (go_at_call 22; (with_reducible refine (HB.out _).mono ?_); rintro e w2 ⟨gy, rfl, hgy, hry, hby⟩; have cvy := fun (W : World) (h : Below w2.heap.size w2 W) => conv_str (P := Try.prog) (src := 37) (e := 5) (dst := 9) Try.underlying37 Try.underlying5 Try.underlying9 (SlIs.below (SlIs.row hry (Nat.le_refl 16)) h) 16; have rfy := Below.refl w2.heap.size w2; replace hry := Lib.hid hry))
    all_goals (
      clear rfx rfy cvx cvy
      go_wp2_with fail
      go_meet
      refine ⟨rfl, rfl, ?_, ?_, ?_⟩
      · show Below _ _ _
        (repeat (first | exact Below.refl _ _ | assumption | refine below_drewN ?_ _ | refine bel_grow ?_ _ | refine Below.drew ?_ | refine bel_alloc ?_ _ | refine bel_set ?_ (by first | exact Nat.le_refl _ | (simp; done) | (simp; omega) | omega) _ | refine bel_trans ?_ (by assumption)))
      · show Blk _ _ _ _
        refine Blk.kept ?_ hby
        refine Blk.kept ?_ hbx
        (repeat (first | with_reducible assumption | (with_reducible refine Blk.new' ?_; first | with_reducible rfl | (simp; done)) | with_reducible refine Blk.alloc ?_ _ | with_reducible refine Blk.grow ?_ _ | with_reducible refine Blk.drew ?_ | with_reducible refine Blk.drewN ?_ _ | (with_reducible refine Blk.far ?_ (by first | (dsimp only; omega) | (simp; omega)) _) | (with_reducible apply Blk.two)))
      · show Blk _ _ _ _
        refine Blk.kept ?_ hby
        refine Blk.kept ?_ hbx
        (repeat (first | with_reducible assumption | (with_reducible refine Blk.new' ?_; first | with_reducible rfl | (simp; done)) | with_reducible refine Blk.alloc ?_ _ | with_reducible refine Blk.grow ?_ _ | with_reducible refine Blk.drew ?_ | with_reducible refine Blk.drewN ?_ _ | (with_reducible refine Blk.far ?_ (by first | (dsimp only; omega) | (simp; omega)) _) | (with_reducible apply Blk.two))))
  case rest =>
    obtain ⟨rfl, rfl, xb, xa, xc⟩ := hcut
    have f_a := xa.out
    have f_b := xc.out
    have hB := xb.out
    have a_0 := (f_a).cell 0
    have a_1 := (f_a).cell 1
    have a_f0 := (f_a).frozen 0
    have a_f1 := (f_a).frozen 1
    have a_l := (f_a).lt
    replace f_a := Lib.hid f_a
    have b_0 := (f_b).cell 0
    have b_1 := (f_b).cell 1
    have b_f0 := (f_b).frozen 0
    have b_f1 := (f_b).frozen 1
    have b_l := (f_b).lt
    replace f_b := Lib.hid f_b
    replace hB := Lib.hid hB
    go_wp2_with fail
    refine (HA.out _).mono ?_
    rintro e w_1 ⟨gx, rfl, hgx, hrx, hb_1⟩
    have z_1 := hb_1.size
    try simp at z_1
    have t_ := hB.out
    have hB_1 := bel_eld (w := w) (X := _) (by repeat (first | exact Below.refl _ _ | assumption | refine below_drewN ?_ _ | refine bel_grow ?_ _ | refine Below.drew ?_ | refine bel_alloc ?_ _ | refine bel_set ?_ (by first | exact Nat.le_refl _ | (simp; done) | (simp; omega) | omega) _ | refine bel_trans ?_ (by assumption))) hb_1
    clear t_
    have t_a := f_a.out
    have t_b := f_b.out
    have g_a : Blk w_1 (w.heap.size) 26 #[.int .u64 a, .int .u64 b] := by
      refine Blk.kept ?_ hb_1
      (repeat (first | with_reducible assumption | (with_reducible refine Blk.new' ?_; first | with_reducible rfl | (simp; done)) | with_reducible refine Blk.alloc ?_ _ | with_reducible refine Blk.grow ?_ _ | with_reducible refine Blk.drew ?_ | with_reducible refine Blk.drewN ?_ _ | (with_reducible refine Blk.far ?_ (by first | (dsimp only; omega) | (simp; omega)) _) | (with_reducible apply Blk.two)))
    have g_b : Blk w_1 (w.heap.size + 1) 26 #[.int .u64 c, .int .u64 d] := by
      refine Blk.kept ?_ hb_1
      (repeat (first | with_reducible assumption | (with_reducible refine Blk.new' ?_; first | with_reducible rfl | (simp; done)) | with_reducible refine Blk.alloc ?_ _ | with_reducible refine Blk.grow ?_ _ | with_reducible refine Blk.drew ?_ | with_reducible refine Blk.drewN ?_ _ | (with_reducible refine Blk.far ?_ (by first | (dsimp only; omega) | (simp; omega)) _) | (with_reducible apply Blk.two)))
    clear f_a a_l a_0 a_1 a_f0 a_f1 f_b b_l b_0 b_1 b_f0 b_f1 t_a t_b hB hb_1
    have f_a := g_a
    clear g_a
    have f_b := g_b
    clear g_b
    have a_0 := (f_a).cell 0
    have a_1 := (f_a).cell 1
    have a_f0 := (f_a).frozen 0
    have a_f1 := (f_a).frozen 1
    have a_l := (f_a).lt
    replace f_a := Lib.hid f_a
    have b_0 := (f_b).cell 0
    have b_1 := (f_b).cell 1
    have b_f0 := (f_b).frozen 0
    have b_f1 := (f_b).frozen 1
    have b_l := (f_b).lt
    replace f_b := Lib.hid f_b
    replace hB_1 := Lib.hid hB_1
    go_wp2_with fail
    refine (HX.out _ _ (SlIs.row hrx (Nat.le_refl 16))).mono ?_
    rintro e w_2 ⟨rfl, hb_2⟩
    have z_2 := hb_2.size
    try simp at z_2
    have t_ := hB_1.out
    have hB_2 := bel_eld (w := w) (X := _) (by repeat (first | exact Below.refl _ _ | assumption | refine below_drewN ?_ _ | refine bel_grow ?_ _ | refine Below.drew ?_ | refine bel_alloc ?_ _ | refine bel_set ?_ (by first | exact Nat.le_refl _ | (simp; done) | (simp; omega) | omega) _ | refine bel_trans ?_ (by assumption))) hb_2
    clear t_
    have t_a := f_a.out
    have t_b := f_b.out
    have g_a : Blk w_2 (w.heap.size) 26 #[.int .u64 a, .int .u64 b] := by
      refine Blk.kept ?_ hb_2
      (repeat (first | with_reducible assumption | (with_reducible refine Blk.new' ?_; first | with_reducible rfl | (simp; done)) | with_reducible refine Blk.alloc ?_ _ | with_reducible refine Blk.grow ?_ _ | with_reducible refine Blk.drew ?_ | with_reducible refine Blk.drewN ?_ _ | (with_reducible refine Blk.far ?_ (by first | (dsimp only; omega) | (simp; omega)) _) | (with_reducible apply Blk.two)))
    have g_b : Blk w_2 (w.heap.size + 1) 26 #[.int .u64 c, .int .u64 d] := by
      refine Blk.kept ?_ hb_2
      (repeat (first | with_reducible assumption | (with_reducible refine Blk.new' ?_; first | with_reducible rfl | (simp; done)) | with_reducible refine Blk.alloc ?_ _ | with_reducible refine Blk.grow ?_ _ | with_reducible refine Blk.drew ?_ | with_reducible refine Blk.drewN ?_ _ | (with_reducible refine Blk.far ?_ (by first | (dsimp only; omega) | (simp; omega)) _) | (with_reducible apply Blk.two)))
    clear f_a a_l a_0 a_1 a_f0 a_f1 f_b b_l b_0 b_1 b_f0 b_f1 t_a t_b hB_1 hb_2
    have f_a := g_a
    clear g_a
    have f_b := g_b
    clear g_b
    have a_0 := (f_a).cell 0
    have a_1 := (f_a).cell 1
    have a_f0 := (f_a).frozen 0
    have a_f1 := (f_a).frozen 1
    have a_l := (f_a).lt
    replace f_a := Lib.hid f_a
    have b_0 := (f_b).cell 0
    have b_1 := (f_b).cell 1
    have b_f0 := (f_b).frozen 0
    have b_f1 := (f_b).frozen 1
    have b_l := (f_b).lt
    replace f_b := Lib.hid f_b
    replace hB_2 := Lib.hid hB_2
    clear hrx hgx
    go_wp2_with fail
    refine (HS.out _ (SlIs.below hs.out (by have t := hB_2.out; (repeat (first | exact Below.refl _ _ | assumption | refine below_drewN ?_ _ | refine bel_grow ?_ _ | refine Below.drew ?_ | refine bel_alloc ?_ _ | refine bel_set ?_ (by first | exact Nat.le_refl _ | (simp; done) | (simp; omega) | omega) _ | refine bel_trans ?_ (by assumption)))))).mono ?_
    rintro e w_3 ⟨rfl, hb_3⟩
    have z_3 := hb_3.size
    try simp at z_3
    have t_ := hB_2.out
    have hB_3 := bel_eld (w := w) (X := _) (by repeat (first | exact Below.refl _ _ | assumption | refine below_drewN ?_ _ | refine bel_grow ?_ _ | refine Below.drew ?_ | refine bel_alloc ?_ _ | refine bel_set ?_ (by first | exact Nat.le_refl _ | (simp; done) | (simp; omega) | omega) _ | refine bel_trans ?_ (by assumption))) hb_3
    clear t_
    have t_a := f_a.out
    have t_b := f_b.out
    have g_a : Blk w_3 (w.heap.size) 26 #[.int .u64 a, .int .u64 b] := by
      refine Blk.kept ?_ hb_3
      (repeat (first | with_reducible assumption | (with_reducible refine Blk.new' ?_; first | with_reducible rfl | (simp; done)) | with_reducible refine Blk.alloc ?_ _ | with_reducible refine Blk.grow ?_ _ | with_reducible refine Blk.drew ?_ | with_reducible refine Blk.drewN ?_ _ | (with_reducible refine Blk.far ?_ (by first | (dsimp only; omega) | (simp; omega)) _) | (with_reducible apply Blk.two)))
    have g_b : Blk w_3 (w.heap.size + 1) 26 #[.int .u64 c, .int .u64 d] := by
      refine Blk.kept ?_ hb_3
      (repeat (first | with_reducible assumption | (with_reducible refine Blk.new' ?_; first | with_reducible rfl | (simp; done)) | with_reducible refine Blk.alloc ?_ _ | with_reducible refine Blk.grow ?_ _ | with_reducible refine Blk.drew ?_ | with_reducible refine Blk.drewN ?_ _ | (with_reducible refine Blk.far ?_ (by first | (dsimp only; omega) | (simp; omega)) _) | (with_reducible apply Blk.two)))
    have g_s : Blk w_3 (w_2.heap.size) 26 #[.int .u64 a, .int .u64 b] := by
      refine Blk.kept ?_ hb_3
      (repeat (first | with_reducible assumption | (with_reducible refine Blk.new' ?_; first | with_reducible rfl | (simp; done)) | with_reducible refine Blk.alloc ?_ _ | with_reducible refine Blk.grow ?_ _ | with_reducible refine Blk.drew ?_ | with_reducible refine Blk.drewN ?_ _ | (with_reducible refine Blk.far ?_ (by first | (dsimp only; omega) | (simp; omega)) _) | (with_reducible apply Blk.two)))
    clear f_a a_l a_0 a_1 a_f0 a_f1 f_b b_l b_0 b_1 b_f0 b_f1 t_a t_b hB_2 hb_3
    have f_a := g_a
    clear g_a
    have f_b := g_b
    clear g_b
    have f_s := g_s
    clear g_s
    have a_0 := (f_a).cell 0
    have a_1 := (f_a).cell 1
    have a_f0 := (f_a).frozen 0
    have a_f1 := (f_a).frozen 1
    have a_l := (f_a).lt
    replace f_a := Lib.hid f_a
    have b_0 := (f_b).cell 0
    have b_1 := (f_b).cell 1
    have b_f0 := (f_b).frozen 0
    have b_f1 := (f_b).frozen 1
    have b_l := (f_b).lt
    replace f_b := Lib.hid f_b
    have s_0 := (f_s).cell 0
    have s_1 := (f_s).cell 1
    have s_f0 := (f_s).frozen 0
    have s_f1 := (f_s).frozen 1
    have s_l := (f_s).lt
    replace f_s := Lib.hid f_s
    replace hB_3 := Lib.hid hB_3
    have hcv := conv_str (P := Try.prog) (w := w_3.alloc (.cells #[.int .u64 rh, .int .u64 rl] 26)) (src := 37) (e := 5) (dst := 9) Try.underlying37 Try.underlying5 Try.underlying9 (SlIs.below hs.out (by have t := hB_3.out; (repeat (first | exact Below.refl _ _ | assumption | refine below_drewN ?_ _ | refine bel_grow ?_ _ | refine Below.drew ?_ | refine bel_alloc ?_ _ | refine bel_set ?_ (by first | exact Nat.le_refl _ | (simp; done) | (simp; omega) | omega) _ | refine bel_trans ?_ (by assumption))))) k
    go_wp2_with fail
    refine (HT.out _).mono ?_
    rintro e w_4 ⟨rfl, hb_4⟩
    have z_4 := hb_4.size
    try simp at z_4
    have t_ := hB_3.out
    have hB_4 := bel_eld (w := w) (X := _) (by repeat (first | exact Below.refl _ _ | assumption | refine below_drewN ?_ _ | refine bel_grow ?_ _ | refine Below.drew ?_ | refine bel_alloc ?_ _ | refine bel_set ?_ (by first | exact Nat.le_refl _ | (simp; done) | (simp; omega) | omega) _ | refine bel_trans ?_ (by assumption))) hb_4
    clear t_
    have t_a := f_a.out
    have t_b := f_b.out
    have t_s := f_s.out
    have g_a : Blk w_4 (w.heap.size) 26 #[.int .u64 a, .int .u64 b] := by
      refine Blk.kept ?_ hb_4
      (repeat (first | with_reducible assumption | (with_reducible refine Blk.new' ?_; first | with_reducible rfl | (simp; done)) | with_reducible refine Blk.alloc ?_ _ | with_reducible refine Blk.grow ?_ _ | with_reducible refine Blk.drew ?_ | with_reducible refine Blk.drewN ?_ _ | (with_reducible refine Blk.far ?_ (by first | (dsimp only; omega) | (simp; omega)) _) | (with_reducible apply Blk.two)))
    have g_b : Blk w_4 (w.heap.size + 1) 26 #[.int .u64 c, .int .u64 d] := by
      refine Blk.kept ?_ hb_4
      (repeat (first | with_reducible assumption | (with_reducible refine Blk.new' ?_; first | with_reducible rfl | (simp; done)) | with_reducible refine Blk.alloc ?_ _ | with_reducible refine Blk.grow ?_ _ | with_reducible refine Blk.drew ?_ | with_reducible refine Blk.drewN ?_ _ | (with_reducible refine Blk.far ?_ (by first | (dsimp only; omega) | (simp; omega)) _) | (with_reducible apply Blk.two)))
    have g_s : Blk w_4 (w_2.heap.size) 26 #[.int .u64 a, .int .u64 b] := by
      refine Blk.kept ?_ hb_4
      (repeat (first | with_reducible assumption | (with_reducible refine Blk.new' ?_; first | with_reducible rfl | (simp; done)) | with_reducible refine Blk.alloc ?_ _ | with_reducible refine Blk.grow ?_ _ | with_reducible refine Blk.drew ?_ | with_reducible refine Blk.drewN ?_ _ | (with_reducible refine Blk.far ?_ (by first | (dsimp only; omega) | (simp; omega)) _) | (with_reducible apply Blk.two)))
    have g_d : Blk w_4 (w_3.heap.size) 26 #[.int .u64 rh, .int .u64 rl] := by
      refine Blk.kept ?_ hb_4
      (repeat (first | with_reducible assumption | (with_reducible refine Blk.new' ?_; first | with_reducible rfl | (simp; done)) | with_reducible refine Blk.alloc ?_ _ | with_reducible refine Blk.grow ?_ _ | with_reducible refine Blk.drew ?_ | with_reducible refine Blk.drewN ?_ _ | (with_reducible refine Blk.far ?_ (by first | (dsimp only; omega) | (simp; omega)) _) | (with_reducible apply Blk.two)))
    clear f_a a_l a_0 a_1 a_f0 a_f1 f_b b_l b_0 b_1 b_f0 b_f1 f_s s_l s_0 s_1 s_f0 s_f1 t_a t_b t_s hB_3 hb_4
    have f_a := g_a
    clear g_a
    have f_b := g_b
    clear g_b
    have f_s := g_s
    clear g_s
    have f_d := g_d
    clear g_d
    have a_0 := (f_a).cell 0
    have a_1 := (f_a).cell 1
    have a_f0 := (f_a).frozen 0
    have a_f1 := (f_a).frozen 1
    have a_l := (f_a).lt
    replace f_a := Lib.hid f_a
    have b_0 := (f_b).cell 0
    have b_1 := (f_b).cell 1
    have b_f0 := (f_b).frozen 0
    have b_f1 := (f_b).frozen 1
    have b_l := (f_b).lt
    replace f_b := Lib.hid f_b
    have s_0 := (f_s).cell 0
    have s_1 := (f_s).cell 1
    have s_f0 := (f_s).frozen 0
    have s_f1 := (f_s).frozen 1
    have s_l := (f_s).lt
    replace f_s := Lib.hid f_s
    have d_0 := (f_d).cell 0
    have d_1 := (f_d).cell 1
    have d_f0 := (f_d).frozen 0
    have d_f1 := (f_d).frozen 1
    have d_l := (f_d).lt
    replace f_d := Lib.hid f_d
    replace hB_4 := Lib.hid hB_4
    clear hcv
    have k1' := k1.out
    have k2' := k2.out
    go_wp2_with fail
    refine (wfixed_any _).mono ?_
    rintro e w_5 ⟨rfl, hb_5⟩
    have z_5 := hb_5.size
    try simp at z_5
    have t_ := hB_4.out
    have hB_5 := bel_eld (w := w) (X := _) (by repeat (first | exact Below.refl _ _ | assumption | refine below_drewN ?_ _ | refine bel_grow ?_ _ | refine Below.drew ?_ | refine bel_alloc ?_ _ | refine bel_set ?_ (by first | exact Nat.le_refl _ | (simp; done) | (simp; omega) | omega) _ | refine bel_trans ?_ (by assumption))) hb_5
    clear t_
    have t_a := f_a.out
    have t_b := f_b.out
    have t_s := f_s.out
    have t_d := f_d.out
    have g_a : Blk w_5 (w.heap.size) 26 #[.int .u64 a, .int .u64 b] := by
      refine Blk.kept ?_ hb_5
      (repeat (first | with_reducible assumption | (with_reducible refine Blk.new' ?_; first | with_reducible rfl | (simp; done)) | with_reducible refine Blk.alloc ?_ _ | with_reducible refine Blk.grow ?_ _ | with_reducible refine Blk.drew ?_ | with_reducible refine Blk.drewN ?_ _ | (with_reducible refine Blk.far ?_ (by first | (dsimp only; omega) | (simp; omega)) _) | (with_reducible apply Blk.two)))
    have g_b : Blk w_5 (w.heap.size + 1) 26 #[.int .u64 c, .int .u64 d] := by
      refine Blk.kept ?_ hb_5
      (repeat (first | with_reducible assumption | (with_reducible refine Blk.new' ?_; first | with_reducible rfl | (simp; done)) | with_reducible refine Blk.alloc ?_ _ | with_reducible refine Blk.grow ?_ _ | with_reducible refine Blk.drew ?_ | with_reducible refine Blk.drewN ?_ _ | (with_reducible refine Blk.far ?_ (by first | (dsimp only; omega) | (simp; omega)) _) | (with_reducible apply Blk.two)))
    have g_s : Blk w_5 (w_2.heap.size) 26 #[.int .u64 a, .int .u64 b] := by
      refine Blk.kept ?_ hb_5
      (repeat (first | with_reducible assumption | (with_reducible refine Blk.new' ?_; first | with_reducible rfl | (simp; done)) | with_reducible refine Blk.alloc ?_ _ | with_reducible refine Blk.grow ?_ _ | with_reducible refine Blk.drew ?_ | with_reducible refine Blk.drewN ?_ _ | (with_reducible refine Blk.far ?_ (by first | (dsimp only; omega) | (simp; omega)) _) | (with_reducible apply Blk.two)))
    have g_d : Blk w_5 (w_3.heap.size) 26 #[.int .u64 rh, .int .u64 rl] := by
      refine Blk.kept ?_ hb_5
      (repeat (first | with_reducible assumption | (with_reducible refine Blk.new' ?_; first | with_reducible rfl | (simp; done)) | with_reducible refine Blk.alloc ?_ _ | with_reducible refine Blk.grow ?_ _ | with_reducible refine Blk.drew ?_ | with_reducible refine Blk.drewN ?_ _ | (with_reducible refine Blk.far ?_ (by first | (dsimp only; omega) | (simp; omega)) _) | (with_reducible apply Blk.two)))
    have g_e : Blk w_5 (w_4.heap.size) 26 #[.int .u64 rh, .int .u64 rl] := by
      refine Blk.kept ?_ hb_5
      (repeat (first | with_reducible assumption | (with_reducible refine Blk.new' ?_; first | with_reducible rfl | (simp; done)) | with_reducible refine Blk.alloc ?_ _ | with_reducible refine Blk.grow ?_ _ | with_reducible refine Blk.drew ?_ | with_reducible refine Blk.drewN ?_ _ | (with_reducible refine Blk.far ?_ (by first | (dsimp only; omega) | (simp; omega)) _) | (with_reducible apply Blk.two)))
    clear f_a a_l a_0 a_1 a_f0 a_f1 f_b b_l b_0 b_1 b_f0 b_f1 f_s s_l s_0 s_1 s_f0 s_f1 f_d d_l d_0 d_1 d_f0 d_f1 t_a t_b t_s t_d hB_4 hb_5
    have f_a := g_a
    clear g_a
    have f_b := g_b
    clear g_b
    have f_s := g_s
    clear g_s
    have f_d := g_d
    clear g_d
    have f_e := g_e
    clear g_e
    have a_0 := (f_a).cell 0
    have a_1 := (f_a).cell 1
    have a_f0 := (f_a).frozen 0
    have a_f1 := (f_a).frozen 1
    have a_l := (f_a).lt
    replace f_a := Lib.hid f_a
    have b_0 := (f_b).cell 0
    have b_1 := (f_b).cell 1
    have b_f0 := (f_b).frozen 0
    have b_f1 := (f_b).frozen 1
    have b_l := (f_b).lt
    replace f_b := Lib.hid f_b
    have s_0 := (f_s).cell 0
    have s_1 := (f_s).cell 1
    have s_f0 := (f_s).frozen 0
    have s_f1 := (f_s).frozen 1
    have s_l := (f_s).lt
    replace f_s := Lib.hid f_s
    have d_0 := (f_d).cell 0
    have d_1 := (f_d).cell 1
    have d_f0 := (f_d).frozen 0
    have d_f1 := (f_d).frozen 1
    have d_l := (f_d).lt
    replace f_d := Lib.hid f_d
    have e_0 := (f_e).cell 0
    have e_1 := (f_e).cell 1
    have e_f0 := (f_e).frozen 0
    have e_f1 := (f_e).frozen 1
    have e_l := (f_e).lt
    replace f_e := Lib.hid f_e
    replace hB_5 := Lib.hid hB_5
    go_wp2_with fail
    refine (HR.out _).mono ?_
    rintro e w_6 ⟨rfl, hb_6⟩
    have z_6 := hb_6.size
    try simp at z_6
    have t_ := hB_5.out
    have hB_6 := bel_eld (w := w) (X := _) (by repeat (first | exact Below.refl _ _ | assumption | refine below_drewN ?_ _ | refine bel_grow ?_ _ | refine Below.drew ?_ | refine bel_alloc ?_ _ | refine bel_set ?_ (by first | exact Nat.le_refl _ | (simp; done) | (simp; omega) | omega) _ | refine bel_trans ?_ (by assumption))) hb_6
    clear t_
    have t_a := f_a.out
    have t_b := f_b.out
    have t_s := f_s.out
    have t_d := f_d.out
    have t_e := f_e.out
    have g_a : Blk w_6 (w.heap.size) 26 #[.int .u64 a, .int .u64 b] := by
      refine Blk.kept ?_ hb_6
      (repeat (first | with_reducible assumption | (with_reducible refine Blk.new' ?_; first | with_reducible rfl | (simp; done)) | with_reducible refine Blk.alloc ?_ _ | with_reducible refine Blk.grow ?_ _ | with_reducible refine Blk.drew ?_ | with_reducible refine Blk.drewN ?_ _ | (with_reducible refine Blk.far ?_ (by first | (dsimp only; omega) | (simp; omega)) _) | (with_reducible apply Blk.two)))
    have g_b : Blk w_6 (w.heap.size + 1) 26 #[.int .u64 c, .int .u64 d] := by
      refine Blk.kept ?_ hb_6
      (repeat (first | with_reducible assumption | (with_reducible refine Blk.new' ?_; first | with_reducible rfl | (simp; done)) | with_reducible refine Blk.alloc ?_ _ | with_reducible refine Blk.grow ?_ _ | with_reducible refine Blk.drew ?_ | with_reducible refine Blk.drewN ?_ _ | (with_reducible refine Blk.far ?_ (by first | (dsimp only; omega) | (simp; omega)) _) | (with_reducible apply Blk.two)))
    have g_s : Blk w_6 (w_2.heap.size) 26 #[.int .u64 a, .int .u64 b] := by
      refine Blk.kept ?_ hb_6
      (repeat (first | with_reducible assumption | (with_reducible refine Blk.new' ?_; first | with_reducible rfl | (simp; done)) | with_reducible refine Blk.alloc ?_ _ | with_reducible refine Blk.grow ?_ _ | with_reducible refine Blk.drew ?_ | with_reducible refine Blk.drewN ?_ _ | (with_reducible refine Blk.far ?_ (by first | (dsimp only; omega) | (simp; omega)) _) | (with_reducible apply Blk.two)))
    have g_d : Blk w_6 (w_3.heap.size) 26 #[.int .u64 rh, .int .u64 rl] := by
      refine Blk.kept ?_ hb_6
      (repeat (first | with_reducible assumption | (with_reducible refine Blk.new' ?_; first | with_reducible rfl | (simp; done)) | with_reducible refine Blk.alloc ?_ _ | with_reducible refine Blk.grow ?_ _ | with_reducible refine Blk.drew ?_ | with_reducible refine Blk.drewN ?_ _ | (with_reducible refine Blk.far ?_ (by first | (dsimp only; omega) | (simp; omega)) _) | (with_reducible apply Blk.two)))
    have g_e : Blk w_6 (w_4.heap.size) 26 #[.int .u64 rh, .int .u64 rl] := by
      refine Blk.kept ?_ hb_6
      (repeat (first | with_reducible assumption | (with_reducible refine Blk.new' ?_; first | with_reducible rfl | (simp; done)) | with_reducible refine Blk.alloc ?_ _ | with_reducible refine Blk.grow ?_ _ | with_reducible refine Blk.drew ?_ | with_reducible refine Blk.drewN ?_ _ | (with_reducible refine Blk.far ?_ (by first | (dsimp only; omega) | (simp; omega)) _) | (with_reducible apply Blk.two)))
    clear f_a a_l a_0 a_1 a_f0 a_f1 f_b b_l b_0 b_1 b_f0 b_f1 f_s s_l s_0 s_1 s_f0 s_f1 f_d d_l d_0 d_1 d_f0 d_f1 f_e e_l e_0 e_1 e_f0 e_f1 t_a t_b t_s t_d t_e hB_5 hb_6
    have f_a := g_a
    clear g_a
    have f_b := g_b
    clear g_b
    have f_s := g_s
    clear g_s
    have f_d := g_d
    clear g_d
    have f_e := g_e
    clear g_e
    have a_0 := (f_a).cell 0
    have a_1 := (f_a).cell 1
    have a_f0 := (f_a).frozen 0
    have a_f1 := (f_a).frozen 1
    have a_l := (f_a).lt
    replace f_a := Lib.hid f_a
    have b_0 := (f_b).cell 0
    have b_1 := (f_b).cell 1
    have b_f0 := (f_b).frozen 0
    have b_f1 := (f_b).frozen 1
    have b_l := (f_b).lt
    replace f_b := Lib.hid f_b
    have s_0 := (f_s).cell 0
    have s_1 := (f_s).cell 1
    have s_f0 := (f_s).frozen 0
    have s_f1 := (f_s).frozen 1
    have s_l := (f_s).lt
    replace f_s := Lib.hid f_s
    have d_0 := (f_d).cell 0
    have d_1 := (f_d).cell 1
    have d_f0 := (f_d).frozen 0
    have d_f1 := (f_d).frozen 1
    have d_l := (f_d).lt
    replace f_d := Lib.hid f_d
    have e_0 := (f_e).cell 0
    have e_1 := (f_e).cell 1
    have e_f0 := (f_e).frozen 0
    have e_f1 := (f_e).frozen 1
    have e_l := (f_e).lt
    replace f_e := Lib.hid f_e
    replace hB_6 := Lib.hid hB_6
    go_wp2_with fail
    refine (HC.out _).mono ?_
    rintro e w_7 ⟨rfl, hb_7⟩
    have z_7 := hb_7.size
    try simp at z_7
    have t_ := hB_6.out
    have hB_7 := bel_eld (w := w) (X := _) (by repeat (first | exact Below.refl _ _ | assumption | refine below_drewN ?_ _ | refine bel_grow ?_ _ | refine Below.drew ?_ | refine bel_alloc ?_ _ | refine bel_set ?_ (by first | exact Nat.le_refl _ | (simp; done) | (simp; omega) | omega) _ | refine bel_trans ?_ (by assumption))) hb_7
    clear t_
    have t_a := f_a.out
    have t_b := f_b.out
    have t_s := f_s.out
    have t_d := f_d.out
    have t_e := f_e.out
    have g_a : Blk w_7 (w.heap.size) 26 #[.int .u64 a, .int .u64 b] := by
      refine Blk.kept ?_ hb_7
      (repeat (first | with_reducible assumption | (with_reducible refine Blk.new' ?_; first | with_reducible rfl | (simp; done)) | with_reducible refine Blk.alloc ?_ _ | with_reducible refine Blk.grow ?_ _ | with_reducible refine Blk.drew ?_ | with_reducible refine Blk.drewN ?_ _ | (with_reducible refine Blk.far ?_ (by first | (dsimp only; omega) | (simp; omega)) _) | (with_reducible apply Blk.two)))
    have g_b : Blk w_7 (w.heap.size + 1) 26 #[.int .u64 c, .int .u64 d] := by
      refine Blk.kept ?_ hb_7
      (repeat (first | with_reducible assumption | (with_reducible refine Blk.new' ?_; first | with_reducible rfl | (simp; done)) | with_reducible refine Blk.alloc ?_ _ | with_reducible refine Blk.grow ?_ _ | with_reducible refine Blk.drew ?_ | with_reducible refine Blk.drewN ?_ _ | (with_reducible refine Blk.far ?_ (by first | (dsimp only; omega) | (simp; omega)) _) | (with_reducible apply Blk.two)))
    have g_s : Blk w_7 (w_2.heap.size) 26 #[.int .u64 a, .int .u64 b] := by
      refine Blk.kept ?_ hb_7
      (repeat (first | with_reducible assumption | (with_reducible refine Blk.new' ?_; first | with_reducible rfl | (simp; done)) | with_reducible refine Blk.alloc ?_ _ | with_reducible refine Blk.grow ?_ _ | with_reducible refine Blk.drew ?_ | with_reducible refine Blk.drewN ?_ _ | (with_reducible refine Blk.far ?_ (by first | (dsimp only; omega) | (simp; omega)) _) | (with_reducible apply Blk.two)))
    have g_d : Blk w_7 (w_3.heap.size) 26 #[.int .u64 rh, .int .u64 rl] := by
      refine Blk.kept ?_ hb_7
      (repeat (first | with_reducible assumption | (with_reducible refine Blk.new' ?_; first | with_reducible rfl | (simp; done)) | with_reducible refine Blk.alloc ?_ _ | with_reducible refine Blk.grow ?_ _ | with_reducible refine Blk.drew ?_ | with_reducible refine Blk.drewN ?_ _ | (with_reducible refine Blk.far ?_ (by first | (dsimp only; omega) | (simp; omega)) _) | (with_reducible apply Blk.two)))
    have g_e : Blk w_7 (w_4.heap.size) 26 #[.int .u64 rh, .int .u64 rl] := by
      refine Blk.kept ?_ hb_7
      (repeat (first | with_reducible assumption | (with_reducible refine Blk.new' ?_; first | with_reducible rfl | (simp; done)) | with_reducible refine Blk.alloc ?_ _ | with_reducible refine Blk.grow ?_ _ | with_reducible refine Blk.drew ?_ | with_reducible refine Blk.drewN ?_ _ | (with_reducible refine Blk.far ?_ (by first | (dsimp only; omega) | (simp; omega)) _) | (with_reducible apply Blk.two)))
    clear f_a a_l a_0 a_1 a_f0 a_f1 f_b b_l b_0 b_1 b_f0 b_f1 f_s s_l s_0 s_1 s_f0 s_f1 f_d d_l d_0 d_1 d_f0 d_f1 f_e e_l e_0 e_1 e_f0 e_f1 t_a t_b t_s t_d t_e hB_6 hb_7
    have f_a := g_a
    clear g_a
    have f_b := g_b
    clear g_b
    have f_s := g_s
    clear g_s
    have f_d := g_d
    clear g_d
    have f_e := g_e
    clear g_e
    have a_0 := (f_a).cell 0
    have a_1 := (f_a).cell 1
    have a_f0 := (f_a).frozen 0
    have a_f1 := (f_a).frozen 1
    have a_l := (f_a).lt
    replace f_a := Lib.hid f_a
    have b_0 := (f_b).cell 0
    have b_1 := (f_b).cell 1
    have b_f0 := (f_b).frozen 0
    have b_f1 := (f_b).frozen 1
    have b_l := (f_b).lt
    replace f_b := Lib.hid f_b
    have s_0 := (f_s).cell 0
    have s_1 := (f_s).cell 1
    have s_f0 := (f_s).frozen 0
    have s_f1 := (f_s).frozen 1
    have s_l := (f_s).lt
    replace f_s := Lib.hid f_s
    have d_0 := (f_d).cell 0
    have d_1 := (f_d).cell 1
    have d_f0 := (f_d).frozen 0
    have d_f1 := (f_d).frozen 1
    have d_l := (f_d).lt
    replace f_d := Lib.hid f_d
    have e_0 := (f_e).cell 0
    have e_1 := (f_e).cell 1
    have e_f0 := (f_e).frozen 0
    have e_f1 := (f_e).frozen 1
    have e_l := (f_e).lt
    replace f_e := Lib.hid f_e
    replace hB_7 := Lib.hid hB_7
    go_wp2_with fail
    go_ret
    exact ⟨rfl, by have t := hB_7.out; exact t⟩

theorem wideBytes_any (a b c d : Int) (ha : Wd a) (hb : Wd b) (hc : Wd c) (hd : Wd d) (A : Option Addr) (n k : Nat) (hn : n ≤ maxLen) (e : Nat → Int) (he : ∀ i, 0 ≤ e i ∧ e i < 256) (w : World) (hs : SlIs w A n (yV e)) : Calls Try.prog 7 #[.agg #[.int .u64 a, .int .u64 b], .agg #[.int .u64 c, .int .u64 d], .slice A n k] w fun r w' =>
      r = .returned (.bool true) ∧ Below w.heap.size w w' := by
  by_cases h : n ≤ 100
  · exact wideBytes_near a b c d ha hb hc hd A n k h e he w hs
  · exact wideBytes_far a b c d A n k hn (by omega) w
end Go.Proofs.Ytlmcneonbdgcnaa
