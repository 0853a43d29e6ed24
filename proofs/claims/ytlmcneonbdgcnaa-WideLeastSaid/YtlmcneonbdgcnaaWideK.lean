/-
  The walk of the statement WideLeast.
-/
import Derived.Test.YtlmcneonbdgcnaaWideJ
namespace Go.Proofs.Ytlmcneonbdgcnaa
set_option linter.unusedVariables false
set_option linter.unusedSimpArgs false
open Go.RowKit

/-- is m among the first n numbers? -/
def thr (h l : Nat → Int) (m0 m1 : Int) : Nat → Bool
  | 0 => false
  | n + 1 => thr h l m0 m1 n || (h n == m0 && l n == m1)
theorem thr_in {h l : Nat → Int} {m0 m1 : Int} {i : Nat} : ∀ {n : Nat}, i < n → h i = m0 → l i = m1 → thr h l m0 m1 n = true
  | 0, hi, _, _ => by omega
  | n + 1, hi, e1, e2 => by
    unfold thr
    by_cases e : i = n
    · subst e; simp [e1, e2]
    · rw [thr_in (n := n) (by omega) e1 e2]; rfl

set_option maxHeartbeats 2000000 in
theorem wideLeast_any (A : Option Addr) (n c : Nat) (h l : Nat → Int) (hn : n ≤ maxLen) (hd : ∀ i, i < n → Wd (h i) ∧ Wd (l i)) (w : World) (hs : SlIs w A (n * 2) (pV h l)) :
    Calls Try.prog 6 #[.slice A n c] w fun r w' => r = .returned (.bool true) ∧ Below w.heap.size w w' := by
  unfold maxLen at hn
  by_cases h2 : 200 < n
  · have hn' : decide ((200 : Int) < n) = true := by simp; omega
    go_enter Try.func6, Try.ntmps6
    go_wp2_with (first | (go_at_call 8; first | ((with_reducible refine (grow_call (wfixed_any _)).mono ?_); rintro e w' ⟨rfl, d1, rfl⟩) | ((with_reducible refine (gro (wfixed_any _)).mono ?_); rintro e w' ⟨rfl, d1, rfl⟩)))
    go_ret
    exact ⟨rfl, (by repeat (first | exact Below.refl _ _ | assumption | refine below_drewN ?_ _ | refine bel_grow ?_ _ | refine Below.drew ?_ | refine bel_alloc ?_ _ | refine bel_set ?_ (by first | exact Nat.le_refl _ | (simp; done) | (simp; omega) | omega) _ | refine bel_trans ?_ (by assumption)))⟩
  have hn' : decide ((200 : Int) < n) = false := by simp; omega
  have hL := Lib.hid (fun w hs => least_any A n c h l (by omega) w hs)
  have hB0 := Below.refl w.heap.size w
  by_cases h0 : n = 0
  · subst h0
    have e1 : (lst h l 0).1 = 18446744073709551615 := rfl
    have e2 : (lst h l 0).2 = 18446744073709551615 := rfl
    rw [e1, e2] at hL
    clear e1 e2
    replace hs := Lib.hid hs
    go_enter Try.func6, Try.ntmps6
    replace hB0 := Lib.hid hB0
    go_wp2_with fail
    refine (hL.out _ hs.out).mono ?_
    rintro e w_1 ⟨rfl, hb_1⟩
    have z_1 := hb_1.size
    try simp at z_1
    have t_ := hB0.out
    have hB_1 := bel_eld (w := w) (X := _) (by repeat (first | exact Below.refl _ _ | assumption | refine below_drewN ?_ _ | refine bel_grow ?_ _ | refine Below.drew ?_ | refine bel_alloc ?_ _ | refine bel_set ?_ (by first | exact Nat.le_refl _ | (simp; done) | (simp; omega) | omega) _ | refine bel_trans ?_ (by assumption))) hb_1
    clear t_
    clear hB0 hb_1
    replace hB_1 := Lib.hid hB_1
    go_wp2_with fail
    first | (with_reducible refine rgrow2 (by kernel_rfl) (by kernel_rfl) ?_) | (refine rgrow (by kernel_rfl) (by kernel_rfl) ?_)
    repeat (go_big_quiet_step (((first | (go_at_call 8; exact grow_call (wfixed_any _)) | (go_at_call 20; exact grow_call (top_any _))))))
    refine wpQuiet_nil ?_
    intro dr
    go_wp2_with fail
    go_ret
    exact ⟨rfl, by have t := hB_1.out; (repeat (first | exact Below.refl _ _ | assumption | refine below_drewN ?_ _ | refine bel_grow ?_ _ | refine Below.drew ?_ | refine bel_alloc ?_ _ | refine bel_set ?_ (by first | exact Nat.le_refl _ | (simp; done) | (simp; omega) | omega) _ | refine bel_trans ?_ (by assumption)))⟩
  · have h0' : ((n : Int) == 0) = false := by simp; omega
    have hu := Lib.hid (lst_u hd)
    have hle := Lib.hid (lst_le hd)
    obtain ⟨i, hi, i1, i2⟩ := lst_in hd (by omega)
    have hin : thr h l (lst h l n).1 (lst h l n).2 n = true := thr_in hi i1 i2
    replace hin := Lib.hid hin
    replace hs := Lib.hid hs
    replace hd := Lib.hid hd
    clear i1 i2 hi
    generalize (lst h l n).1 = m0 at *
    generalize (lst h l n).2 = m1 at *
    go_enter Try.func6, Try.ntmps6
    replace hB0 := Lib.hid hB0
    go_wp2_with fail
    refine (hL.out _ hs.out).mono ?_
    rintro e w_1 ⟨rfl, hb_1⟩
    have z_1 := hb_1.size
    try simp at z_1
    have t_ := hB0.out
    have hB_1 := bel_eld (w := w) (X := _) (by repeat (first | exact Below.refl _ _ | assumption | refine below_drewN ?_ _ | refine bel_grow ?_ _ | refine Below.drew ?_ | refine bel_alloc ?_ _ | refine bel_set ?_ (by first | exact Nat.le_refl _ | (simp; done) | (simp; omega) | omega) _ | refine bel_trans ?_ (by assumption))) hb_1
    clear t_
    clear hB0 hb_1
    replace hB_1 := Lib.hid hB_1
    go_wp2_with fail
    go_loopw [4, 24] (fun t i wr => ∃ (k : Nat), k ≤ n ∧ i = .int .i64 k ∧ t = .bool (thr h l m0 m1 k) ∧ Hid (Below w.heap.size w wr) ∧ Hid (Blk wr w_1.heap.size 26 #[.int .u64 m0, .int .u64 m1])) (fun _ i _ => n - (intOf i).toNat)
    case atStart =>
      have t1 := hB_1.out
      refine ⟨0, by omega, rfl, rfl, ?_, ?_⟩
      · show Below _ _ _
        (repeat (first | exact Below.refl _ _ | assumption | refine below_drewN ?_ _ | refine bel_grow ?_ _ | refine Below.drew ?_ | refine bel_alloc ?_ _ | refine bel_set ?_ (by first | exact Nat.le_refl _ | (simp; done) | (simp; omega) | omega) _ | refine bel_trans ?_ (by assumption)))
      · show Blk _ _ _ _
        (repeat (first | with_reducible assumption | (with_reducible refine Blk.new' ?_; first | with_reducible rfl | (simp; done)) | with_reducible refine Blk.alloc ?_ _ | with_reducible refine Blk.grow ?_ _ | with_reducible refine Blk.drew ?_ | with_reducible refine Blk.drewN ?_ _ | (with_reducible refine Blk.far ?_ (by first | (dsimp only; omega) | (simp; omega)) _) | (with_reducible apply Blk.two)))
    case round =>
      clear hB_1
      obtain ⟨k, hk, rfl, rfl, hb, ho⟩ := hrel
      by_cases hlt : k < n
      · obtain ⟨b, o, rfl, hbl, hc⟩ := hs.out (by omega)
        have c0 := keepc hb.out (hc (k * 2) (by omega))
        have c1 := keepc hb.out (hc (k * 2 + 1) (by omega))
        rw [pV_0] at c0
        rw [pV_1, ← Nat.add_assoc] at c1
        have bl : b < wr.heap.size := Nat.lt_of_lt_of_le hbl hb.out.size
        clear hc
        have hx := hd.out k hlt
        have HC := Lib.hid (fun w => refcmp_any (h k) (l k) m0 m1 hx.1 hx.2 hu.out.1 hu.out.2 w)
        have hge : decide (cmpV (h k) (l k) m0 m1 < 0) = false := by
          have := hle.out k hlt
          have e := cmp_lt (a := h k) (c := m0) hx.2 hu.out.2
          simp only [decide_eq_false_iff_not, e]; omega
        have e1 : thr h l m0 m1 (k + 1) = (thr h l m0 m1 k || (h k == m0 && l k == m1)) := rfl
        replace e1 := Lib.hid e1
        clear hx
        generalize cmpV (h k) (l k) m0 m1 = cc at *
        generalize hq : thr h l m0 m1 k = q at *
        replace hq := Lib.hid hq
        have f_o := ho.out
        have hB := hb.out
        cases q
        · have o_0 := (f_o).cell 0
          have o_1 := (f_o).cell 1
          have o_f0 := (f_o).frozen 0
          have o_f1 := (f_o).frozen 1
          have o_l := (f_o).lt
          replace f_o := Lib.hid f_o
          replace hB := Lib.hid hB
          go_wp2_with fail
          refine (HC.out _).mono ?_
          rintro e w_6 ⟨rfl, hb_6⟩
          have z_6 := hb_6.size
          try simp at z_6
          have t_ := hB.out
          have hB_6 := bel_eld (w := w) (X := _) (by repeat (first | exact Below.refl _ _ | assumption | refine below_drewN ?_ _ | refine bel_grow ?_ _ | refine Below.drew ?_ | refine bel_alloc ?_ _ | refine bel_set ?_ (by first | exact Nat.le_refl _ | (simp; done) | (simp; omega) | omega) _ | refine bel_trans ?_ (by assumption))) hb_6
          clear t_
          have t_o := f_o.out
          have g_o : Blk w_6 (w_1.heap.size) 26 #[.int .u64 m0, .int .u64 m1] := by
            refine Blk.kept ?_ hb_6
            (repeat (first | with_reducible assumption | (with_reducible refine Blk.new' ?_; first | with_reducible rfl | (simp; done)) | with_reducible refine Blk.alloc ?_ _ | with_reducible refine Blk.grow ?_ _ | with_reducible refine Blk.drew ?_ | with_reducible refine Blk.drewN ?_ _ | (with_reducible refine Blk.far ?_ (by first | (dsimp only; omega) | (simp; omega)) _) | (with_reducible apply Blk.two)))
          clear f_o o_l o_0 o_1 o_f0 o_f1 t_o hB hb_6
          have f_o := g_o
          clear g_o
          have o_0 := (f_o).cell 0
          have o_1 := (f_o).cell 1
          have o_f0 := (f_o).frozen 0
          have o_f1 := (f_o).frozen 1
          have o_l := (f_o).lt
          replace f_o := Lib.hid f_o
          replace hB_6 := Lib.hid hB_6
          go_wp2_with fail
          go_roundw
          case rel =>
            have t1 := hB_6.out
            have t3 := f_o.out
            refine ⟨k + 1, by omega, by go_num, by rw [e1.out]; simp, ?_, ?_⟩
            · show Below _ _ _
              (repeat (first | exact Below.refl _ _ | assumption | refine below_drewN ?_ _ | refine bel_grow ?_ _ | refine Below.drew ?_ | refine bel_alloc ?_ _ | refine bel_set ?_ (by first | exact Nat.le_refl _ | (simp; done) | (simp; omega) | omega) _ | refine bel_trans ?_ (by assumption)))
            · show Blk _ _ _ _
              (repeat (first | with_reducible assumption | (with_reducible refine Blk.new' ?_; first | with_reducible rfl | (simp; done)) | with_reducible refine Blk.alloc ?_ _ | with_reducible refine Blk.grow ?_ _ | with_reducible refine Blk.drew ?_ | with_reducible refine Blk.drewN ?_ _ | (with_reducible refine Blk.far ?_ (by first | (dsimp only; omega) | (simp; omega)) _) | (with_reducible apply Blk.two)))
          case measure => simp [intOf]; omega
        · have o_0 := (f_o).cell 0
          have o_1 := (f_o).cell 1
          have o_f0 := (f_o).frozen 0
          have o_f1 := (f_o).frozen 1
          have o_l := (f_o).lt
          replace f_o := Lib.hid f_o
          replace hB := Lib.hid hB
          go_wp2_with fail
          refine (HC.out _).mono ?_
          rintro e w_6 ⟨rfl, hb_6⟩
          have z_6 := hb_6.size
          try simp at z_6
          have t_ := hB.out
          have hB_6 := bel_eld (w := w) (X := _) (by repeat (first | exact Below.refl _ _ | assumption | refine below_drewN ?_ _ | refine bel_grow ?_ _ | refine Below.drew ?_ | refine bel_alloc ?_ _ | refine bel_set ?_ (by first | exact Nat.le_refl _ | (simp; done) | (simp; omega) | omega) _ | refine bel_trans ?_ (by assumption))) hb_6
          clear t_
          have t_o := f_o.out
          have g_o : Blk w_6 (w_1.heap.size) 26 #[.int .u64 m0, .int .u64 m1] := by
            refine Blk.kept ?_ hb_6
            (repeat (first | with_reducible assumption | (with_reducible refine Blk.new' ?_; first | with_reducible rfl | (simp; done)) | with_reducible refine Blk.alloc ?_ _ | with_reducible refine Blk.grow ?_ _ | with_reducible refine Blk.drew ?_ | with_reducible refine Blk.drewN ?_ _ | (with_reducible refine Blk.far ?_ (by first | (dsimp only; omega) | (simp; omega)) _) | (with_reducible apply Blk.two)))
          clear f_o o_l o_0 o_1 o_f0 o_f1 t_o hB hb_6
          have f_o := g_o
          clear g_o
          have o_0 := (f_o).cell 0
          have o_1 := (f_o).cell 1
          have o_f0 := (f_o).frozen 0
          have o_f1 := (f_o).frozen 1
          have o_l := (f_o).lt
          replace f_o := Lib.hid f_o
          replace hB_6 := Lib.hid hB_6
          go_wp2_with fail
          go_roundw
          case rel =>
            have t1 := hB_6.out
            have t3 := f_o.out
            refine ⟨k + 1, by omega, by go_num, by rw [e1.out]; simp, ?_, ?_⟩
            · show Below _ _ _
              (repeat (first | exact Below.refl _ _ | assumption | refine below_drewN ?_ _ | refine bel_grow ?_ _ | refine Below.drew ?_ | refine bel_alloc ?_ _ | refine bel_set ?_ (by first | exact Nat.le_refl _ | (simp; done) | (simp; omega) | omega) _ | refine bel_trans ?_ (by assumption)))
            · show Blk _ _ _ _
              (repeat (first | with_reducible assumption | (with_reducible refine Blk.new' ?_; first | with_reducible rfl | (simp; done)) | with_reducible refine Blk.alloc ?_ _ | with_reducible refine Blk.grow ?_ _ | with_reducible refine Blk.drew ?_ | with_reducible refine Blk.drewN ?_ _ | (with_reducible refine Blk.far ?_ (by first | (dsimp only; omega) | (simp; omega)) _) | (with_reducible apply Blk.two)))
          case measure => simp [intOf]; omega
      · obtain rfl : k = n := by omega
        rw [hin.out]
        have hb2 := hb.out
        go_wp2_with (first | (go_at_call 8; first | ((with_reducible refine (grow_call (wfixed_any _)).mono ?_); rintro e w' ⟨rfl, d1, rfl⟩) | ((with_reducible refine (gro (wfixed_any _)).mono ?_); rintro e w' ⟨rfl, d1, rfl⟩)))
        go_ret
        exact ⟨rfl, (by repeat (first | exact Below.refl _ _ | assumption | refine below_drewN ?_ _ | refine bel_grow ?_ _ | refine Below.drew ?_ | refine bel_alloc ?_ _ | refine bel_set ?_ (by first | exact Nat.le_refl _ | (simp; done) | (simp; omega) | omega) _ | refine bel_trans ?_ (by assumption)))⟩
end Go.Proofs.Ytlmcneonbdgcnaa
