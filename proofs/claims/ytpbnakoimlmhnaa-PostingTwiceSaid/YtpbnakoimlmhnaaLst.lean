/-
  The least of any numbers, walked.
-/
import Derived.Test.YtpbnakoimlmhnaaWideF
namespace Go.Proofs.Ytpbnakoimlmhnaa
set_option linter.unusedVariables false
set_option linter.unusedSimpArgs false
open Go.RowKit

/-- the least of the first n numbers -/
def lst (h l : Nat → Int) : Nat → Int × Int
  | 0 => (18446744073709551615, 18446744073709551615)
  | n + 1 => if cmpV (h n) (l n) (lst h l n).1 (lst h l n).2 < 0 then (h n, l n) else lst h l n
theorem lst_u {h l : Nat → Int} : ∀ {n : Nat}, (∀ i, i < n → Wd (h i) ∧ Wd (l i)) → Wd (lst h l n).1 ∧ Wd (lst h l n).2
  | 0, _ => by unfold lst Wd; decide
  | n + 1, hd => by
    unfold lst
    split
    · exact hd n (by omega)
    · exact lst_u (fun i hi => hd i (by omega))
theorem lst_le {h l : Nat → Int} : ∀ {n : Nat}, (∀ i, i < n → Wd (h i) ∧ Wd (l i)) → ∀ i, i < n → V (lst h l n).1 (lst h l n).2 ≤ V (h i) (l i)
  | 0, _, i, hi => by omega
  | n + 1, hd, i, hi => by
    have hu := lst_u (h := h) (l := l) (n := n) (fun i hi => hd i (by omega))
    have ih := lst_le (h := h) (l := l) (n := n) (fun i hi => hd i (by omega)) i
    unfold lst
    split
    · rename_i hc
      rw [cmp_lt (hd n (by omega)).2 hu.2] at hc
      by_cases e : i = n
      · subst e; exact Int.le_refl _
      · have := ih (by omega); dsimp only; omega
    · rename_i hc
      rw [cmp_lt (hd n (by omega)).2 hu.2] at hc
      by_cases e : i = n
      · subst e; omega
      · exact ih (by omega)
theorem V_top {a b : Int} (ha : Wd a) (hb : Wd b) (h : V 18446744073709551615 18446744073709551615 ≤ V a b) : a = 18446744073709551615 ∧ b = 18446744073709551615 := by
  unfold V Wd at *; omega
theorem lst_in {h l : Nat → Int} : ∀ {n : Nat}, (∀ i, i < n → Wd (h i) ∧ Wd (l i)) → 0 < n → ∃ i, i < n ∧ h i = (lst h l n).1 ∧ l i = (lst h l n).2
  | 0, _, h0 => by omega
  | n + 1, hd, _ => by
    have hu := lst_u (h := h) (l := l) (n := n) (fun i hi => hd i (by omega))
    unfold lst
    split
    · exact ⟨n, by omega, rfl, rfl⟩
    · rename_i hc
      rw [cmp_lt (hd n (by omega)).2 hu.2] at hc
      by_cases e : n = 0
      · subst e
        have := V_top (hd 0 (by omega)).1 (hd 0 (by omega)).2 (by simpa [lst] using hc)
        exact ⟨0, by omega, by simpa [lst] using this.1, by simpa [lst] using this.2⟩
      · obtain ⟨i, hi, e1, e2⟩ := lst_in (h := h) (l := l) (n := n) (fun i hi => hd i (by omega)) (by omega)
        exact ⟨i, by omega, e1, e2⟩

set_option maxHeartbeats 2000000 in
theorem least_any (A : Option Addr) (n c : Nat) (h l : Nat → Int) (hn : n ≤ 1000000) (w : World) (hs : SlIs w A (n * 2) (pV h l)) :
    Calls Try.prog 48 #[.slice A n c] w fun r w' =>
      r = .returned (.agg #[.int .u64 (lst h l n).1, .int .u64 (lst h l n).2]) ∧ Below w.heap.size w w' := by
  replace hs := Lib.hid hs
  have hb0 := Below.refl w.heap.size w
  go_enter Try.func48, Try.ntmps48
  replace hb0 := Lib.hid hb0
  go_wp2_with fail
  refine (wtop_any _).mono ?_
  rintro e w_1 ⟨rfl, hb_1⟩
  have z_1 := hb_1.size
  try simp at z_1
  have t_ := hb0.out
  have hB_1 := bel_eld (w := w) (X := _) (by repeat (first | exact Below.refl _ _ | assumption | refine below_drewN ?_ _ | refine bel_grow ?_ _ | refine Below.drew ?_ | refine bel_alloc ?_ _ | refine bel_set ?_ (by first | exact Nat.le_refl _ | (simp; done) | (simp; omega) | omega) _ | refine bel_trans ?_ (by assumption))) hb_1
  clear t_
  have g_r : Blk w_1 (w.heap.size) 24 #[.int .u64 0, .int .u64 0] := by
    refine Blk.kept ?_ hb_1
    (repeat (first | with_reducible assumption | (with_reducible refine Blk.new' ?_; first | with_reducible rfl | (simp; done)) | with_reducible refine Blk.alloc ?_ _ | with_reducible refine Blk.grow ?_ _ | with_reducible refine Blk.drew ?_ | with_reducible refine Blk.drewN ?_ _ | (with_reducible refine Blk.far ?_ (by first | (dsimp only; omega) | (simp; omega)) _) | (with_reducible apply Blk.two) | (with_reducible refine Blk.set' ?_ _ _ ?_) | (with_reducible rfl) | rfl))
  clear hb0 hb_1
  have f_r := g_r
  clear g_r
  have r_0 := (f_r).cell 0
  have r_1 := (f_r).cell 1
  have r_f0 := (f_r).frozen 0
  have r_f1 := (f_r).frozen 1
  have r_l := (f_r).lt
  replace f_r := Lib.hid f_r
  replace hB_1 := Lib.hid hB_1
  go_wp2_with fail
  go_loopw [9] (fun i wr => ∃ (k : Nat), k ≤ n ∧ i = .int .i64 k ∧ Hid (Below w.heap.size w wr) ∧ Hid (Blk wr w.heap.size 24 #[.int .u64 0, .int .u64 0]) ∧
    Hid (Blk wr w_1.heap.size 24 #[.int .u64 (lst h l k).1, .int .u64 (lst h l k).2])) (fun i _ => n - (intOf i).toNat)
  case atStart =>
    have t1 := hB_1.out
    have t2 := f_r.out
    refine ⟨0, by omega, rfl, ?_, ?_, ?_⟩
    · show Below _ _ _
      (repeat (first | exact Below.refl _ _ | assumption | refine below_drewN ?_ _ | refine bel_grow ?_ _ | refine Below.drew ?_ | refine bel_alloc ?_ _ | refine bel_set ?_ (by first | exact Nat.le_refl _ | (simp; done) | (simp; omega) | omega) _ | refine bel_trans ?_ (by assumption)))
    · show Blk _ _ _ _
      (repeat (first | with_reducible assumption | (with_reducible refine Blk.new' ?_; first | with_reducible rfl | (simp; done)) | with_reducible refine Blk.alloc ?_ _ | with_reducible refine Blk.grow ?_ _ | with_reducible refine Blk.drew ?_ | with_reducible refine Blk.drewN ?_ _ | (with_reducible refine Blk.far ?_ (by first | (dsimp only; omega) | (simp; omega)) _) | (with_reducible apply Blk.two) | (with_reducible refine Blk.set' ?_ _ _ ?_) | (with_reducible rfl) | rfl))
    · show Blk _ _ _ #[.int .u64 18446744073709551615, .int .u64 18446744073709551615]
      (repeat (first | with_reducible assumption | (with_reducible refine Blk.new' ?_; first | with_reducible rfl | (simp; done)) | with_reducible refine Blk.alloc ?_ _ | with_reducible refine Blk.grow ?_ _ | with_reducible refine Blk.drew ?_ | with_reducible refine Blk.drewN ?_ _ | (with_reducible refine Blk.far ?_ (by first | (dsimp only; omega) | (simp; omega)) _) | (with_reducible apply Blk.two) | (with_reducible refine Blk.set' ?_ _ _ ?_) | (with_reducible rfl) | rfl))
  case round =>
    clear r_0 r_1 r_f0 r_f1 f_r hB_1
    obtain ⟨k, hk, rfl, hb, hr, ho⟩ := hrel
    have r0 := (hr.out).cell 0
    have r1 := (hr.out).cell 1
    have rf0 := (hr.out).frozen 0
    have rf1 := (hr.out).frozen 1
    have rl := (hr.out).lt
    have o0 := (ho.out).cell 0
    have o1 := (ho.out).cell 1
    have of0 := (ho.out).frozen 0
    have of1 := (ho.out).frozen 1
    have ol := (ho.out).lt
    by_cases hlt : k < n
    · obtain ⟨b, o, rfl, hbl, hc⟩ := hs.out (by omega)
      have c0 := keepc hb.out (hc (k * 2) (by omega))
      have c1 := keepc hb.out (hc (k * 2 + 1) (by omega))
      rw [pV_0] at c0
      rw [pV_1, ← Nat.add_assoc] at c1
      have bl : b < wr.heap.size := Nat.lt_of_lt_of_le hbl hb.out.size
      clear hc
      have HC := Lib.hid (fun w => cmp_any (h k) (l k) (lst h l k).1 (lst h l k).2 w)
      have e1 : cmpV (h k) (l k) (lst h l k).1 (lst h l k).2 < 0 → lst h l (k + 1) = (h k, l k) := fun e => by rw [lst, if_pos e]
      have e2 : ¬ cmpV (h k) (l k) (lst h l k).1 (lst h l k).2 < 0 → lst h l (k + 1) = lst h l k := fun e => by rw [lst, if_neg e]
      replace e1 := Lib.hid e1
      replace e2 := Lib.hid e2
      generalize cmpV (h k) (l k) (lst h l k).1 (lst h l k).2 = cc at *
      have f_o := ho.out
      have f_r := hr.out
      have hB := hb.out
      by_cases hcc : cc < 0
      · have hcc' : decide (cc < 0) = true := by simpa using hcc
        replace e1 := Lib.hid (e1.out hcc)
        clear e2 o0 o1 of0 of1 r0 r1 rf0 rf1 ol rl
        have r_0 := (f_r).cell 0
        have r_1 := (f_r).cell 1
        have r_f0 := (f_r).frozen 0
        have r_f1 := (f_r).frozen 1
        have r_l := (f_r).lt
        replace f_r := Lib.hid f_r
        have o_0 := (f_o).cell 0
        have o_1 := (f_o).cell 1
        have o_f0 := (f_o).frozen 0
        have o_f1 := (f_o).frozen 1
        have o_l := (f_o).lt
        replace f_o := Lib.hid f_o
        replace hB := Lib.hid hB
        go_wp2_with fail
        refine (HC.out _).mono ?_
        rintro e w_6 ⟨rfl, hb_6⟩
        have z_6 := hb_6.size
        try simp at z_6
        have t_ := hB.out
        have hB_6 := bel_eld (w := w) (X := _) (by repeat (first | exact Below.refl _ _ | assumption | refine below_drewN ?_ _ | refine bel_grow ?_ _ | refine Below.drew ?_ | refine bel_alloc ?_ _ | refine bel_set ?_ (by first | exact Nat.le_refl _ | (simp; done) | (simp; omega) | omega) _ | refine bel_trans ?_ (by assumption))) hb_6
        clear t_
        have t_r := f_r.out
        have t_o := f_o.out
        have g_r : Blk w_6 (w.heap.size) 24 #[.int .u64 0, .int .u64 0] := by
          refine Blk.kept ?_ hb_6
          (repeat (first | with_reducible assumption | (with_reducible refine Blk.new' ?_; first | with_reducible rfl | (simp; done)) | with_reducible refine Blk.alloc ?_ _ | with_reducible refine Blk.grow ?_ _ | with_reducible refine Blk.drew ?_ | with_reducible refine Blk.drewN ?_ _ | (with_reducible refine Blk.far ?_ (by first | (dsimp only; omega) | (simp; omega)) _) | (with_reducible apply Blk.two) | (with_reducible refine Blk.set' ?_ _ _ ?_) | (with_reducible rfl) | rfl))
        have g_o : Blk w_6 (w_1.heap.size) 24 #[.int .u64 (lst h l k).1, .int .u64 (lst h l k).2] := by
          refine Blk.kept ?_ hb_6
          (repeat (first | with_reducible assumption | (with_reducible refine Blk.new' ?_; first | with_reducible rfl | (simp; done)) | with_reducible refine Blk.alloc ?_ _ | with_reducible refine Blk.grow ?_ _ | with_reducible refine Blk.drew ?_ | with_reducible refine Blk.drewN ?_ _ | (with_reducible refine Blk.far ?_ (by first | (dsimp only; omega) | (simp; omega)) _) | (with_reducible apply Blk.two) | (with_reducible refine Blk.set' ?_ _ _ ?_) | (with_reducible rfl) | rfl))
        have g_x : Blk w_6 (wr.heap.size) 24 #[.int .u64 (h k), .int .u64 (l k)] := by
          refine Blk.kept ?_ hb_6
          (repeat (first | with_reducible assumption | (with_reducible refine Blk.new' ?_; first | with_reducible rfl | (simp; done)) | with_reducible refine Blk.alloc ?_ _ | with_reducible refine Blk.grow ?_ _ | with_reducible refine Blk.drew ?_ | with_reducible refine Blk.drewN ?_ _ | (with_reducible refine Blk.far ?_ (by first | (dsimp only; omega) | (simp; omega)) _) | (with_reducible apply Blk.two) | (with_reducible refine Blk.set' ?_ _ _ ?_) | (with_reducible rfl) | rfl))
        clear f_r r_l r_0 r_1 r_f0 r_f1 f_o o_l o_0 o_1 o_f0 o_f1 t_r t_o hB hb_6
        have f_r := g_r
        clear g_r
        have f_o := g_o
        clear g_o
        have f_x := g_x
        clear g_x
        have r_0 := (f_r).cell 0
        have r_1 := (f_r).cell 1
        have r_f0 := (f_r).frozen 0
        have r_f1 := (f_r).frozen 1
        have r_l := (f_r).lt
        replace f_r := Lib.hid f_r
        have o_0 := (f_o).cell 0
        have o_1 := (f_o).cell 1
        have o_f0 := (f_o).frozen 0
        have o_f1 := (f_o).frozen 1
        have o_l := (f_o).lt
        replace f_o := Lib.hid f_o
        have x_0 := (f_x).cell 0
        have x_1 := (f_x).cell 1
        have x_f0 := (f_x).frozen 0
        have x_f1 := (f_x).frozen 1
        have x_l := (f_x).lt
        replace f_x := Lib.hid f_x
        replace hB_6 := Lib.hid hB_6
        go_wp2_with fail
        go_roundw
        case rel =>
          have t1 := hB_6.out
          have t2 := f_r.out
          have t3 := f_o.out
          refine ⟨k + 1, by omega, by go_num, ?_, ?_, ?_⟩
          · show Below _ _ _
            (repeat (first | exact Below.refl _ _ | assumption | refine below_drewN ?_ _ | refine bel_grow ?_ _ | refine Below.drew ?_ | refine bel_alloc ?_ _ | refine bel_set ?_ (by first | exact Nat.le_refl _ | (simp; done) | (simp; omega) | omega) _ | refine bel_trans ?_ (by assumption)))
          · show Blk _ _ _ _
            (repeat (first | with_reducible assumption | (with_reducible refine Blk.new' ?_; first | with_reducible rfl | (simp; done)) | with_reducible refine Blk.alloc ?_ _ | with_reducible refine Blk.grow ?_ _ | with_reducible refine Blk.drew ?_ | with_reducible refine Blk.drewN ?_ _ | (with_reducible refine Blk.far ?_ (by first | (dsimp only; omega) | (simp; omega)) _) | (with_reducible apply Blk.two) | (with_reducible refine Blk.set' ?_ _ _ ?_) | (with_reducible rfl) | rfl))
          · rw [e1.out]
            show Blk _ _ _ _
            (repeat (first | with_reducible assumption | (with_reducible refine Blk.new' ?_; first | with_reducible rfl | (simp; done)) | with_reducible refine Blk.alloc ?_ _ | with_reducible refine Blk.grow ?_ _ | with_reducible refine Blk.drew ?_ | with_reducible refine Blk.drewN ?_ _ | (with_reducible refine Blk.far ?_ (by first | (dsimp only; omega) | (simp; omega)) _) | (with_reducible apply Blk.two) | (with_reducible refine Blk.set' ?_ _ _ ?_) | (with_reducible rfl) | rfl))
        case measure => simp [intOf]; omega
      · have hcc' : decide (cc < 0) = false := by simpa using hcc
        replace e2 := Lib.hid (e2.out hcc)
        clear e1 o0 o1 of0 of1 r0 r1 rf0 rf1 ol rl
        have r_0 := (f_r).cell 0
        have r_1 := (f_r).cell 1
        have r_f0 := (f_r).frozen 0
        have r_f1 := (f_r).frozen 1
        have r_l := (f_r).lt
        replace f_r := Lib.hid f_r
        have o_0 := (f_o).cell 0
        have o_1 := (f_o).cell 1
        have o_f0 := (f_o).frozen 0
        have o_f1 := (f_o).frozen 1
        have o_l := (f_o).lt
        replace f_o := Lib.hid f_o
        replace hB := Lib.hid hB
        go_wp2_with fail
        refine (HC.out _).mono ?_
        rintro e w_6 ⟨rfl, hb_6⟩
        have z_6 := hb_6.size
        try simp at z_6
        have t_ := hB.out
        have hB_6 := bel_eld (w := w) (X := _) (by repeat (first | exact Below.refl _ _ | assumption | refine below_drewN ?_ _ | refine bel_grow ?_ _ | refine Below.drew ?_ | refine bel_alloc ?_ _ | refine bel_set ?_ (by first | exact Nat.le_refl _ | (simp; done) | (simp; omega) | omega) _ | refine bel_trans ?_ (by assumption))) hb_6
        clear t_
        have t_r := f_r.out
        have t_o := f_o.out
        have g_r : Blk w_6 (w.heap.size) 24 #[.int .u64 0, .int .u64 0] := by
          refine Blk.kept ?_ hb_6
          (repeat (first | with_reducible assumption | (with_reducible refine Blk.new' ?_; first | with_reducible rfl | (simp; done)) | with_reducible refine Blk.alloc ?_ _ | with_reducible refine Blk.grow ?_ _ | with_reducible refine Blk.drew ?_ | with_reducible refine Blk.drewN ?_ _ | (with_reducible refine Blk.far ?_ (by first | (dsimp only; omega) | (simp; omega)) _) | (with_reducible apply Blk.two) | (with_reducible refine Blk.set' ?_ _ _ ?_) | (with_reducible rfl) | rfl))
        have g_o : Blk w_6 (w_1.heap.size) 24 #[.int .u64 (lst h l k).1, .int .u64 (lst h l k).2] := by
          refine Blk.kept ?_ hb_6
          (repeat (first | with_reducible assumption | (with_reducible refine Blk.new' ?_; first | with_reducible rfl | (simp; done)) | with_reducible refine Blk.alloc ?_ _ | with_reducible refine Blk.grow ?_ _ | with_reducible refine Blk.drew ?_ | with_reducible refine Blk.drewN ?_ _ | (with_reducible refine Blk.far ?_ (by first | (dsimp only; omega) | (simp; omega)) _) | (with_reducible apply Blk.two) | (with_reducible refine Blk.set' ?_ _ _ ?_) | (with_reducible rfl) | rfl))
        have g_x : Blk w_6 (wr.heap.size) 24 #[.int .u64 (h k), .int .u64 (l k)] := by
          refine Blk.kept ?_ hb_6
          (repeat (first | with_reducible assumption | (with_reducible refine Blk.new' ?_; first | with_reducible rfl | (simp; done)) | with_reducible refine Blk.alloc ?_ _ | with_reducible refine Blk.grow ?_ _ | with_reducible refine Blk.drew ?_ | with_reducible refine Blk.drewN ?_ _ | (with_reducible refine Blk.far ?_ (by first | (dsimp only; omega) | (simp; omega)) _) | (with_reducible apply Blk.two) | (with_reducible refine Blk.set' ?_ _ _ ?_) | (with_reducible rfl) | rfl))
        clear f_r r_l r_0 r_1 r_f0 r_f1 f_o o_l o_0 o_1 o_f0 o_f1 t_r t_o hB hb_6
        have f_r := g_r
        clear g_r
        have f_o := g_o
        clear g_o
        have f_x := g_x
        clear g_x
        have r_0 := (f_r).cell 0
        have r_1 := (f_r).cell 1
        have r_f0 := (f_r).frozen 0
        have r_f1 := (f_r).frozen 1
        have r_l := (f_r).lt
        replace f_r := Lib.hid f_r
        have o_0 := (f_o).cell 0
        have o_1 := (f_o).cell 1
        have o_f0 := (f_o).frozen 0
        have o_f1 := (f_o).frozen 1
        have o_l := (f_o).lt
        replace f_o := Lib.hid f_o
        have x_0 := (f_x).cell 0
        have x_1 := (f_x).cell 1
        have x_f0 := (f_x).frozen 0
        have x_f1 := (f_x).frozen 1
        have x_l := (f_x).lt
        replace f_x := Lib.hid f_x
        replace hB_6 := Lib.hid hB_6
        go_wp2_with fail
        go_roundw
        case rel =>
          have t1 := hB_6.out
          have t2 := f_r.out
          have t3 := f_o.out
          refine ⟨k + 1, by omega, by go_num, ?_, ?_, ?_⟩
          · show Below _ _ _
            (repeat (first | exact Below.refl _ _ | assumption | refine below_drewN ?_ _ | refine bel_grow ?_ _ | refine Below.drew ?_ | refine bel_alloc ?_ _ | refine bel_set ?_ (by first | exact Nat.le_refl _ | (simp; done) | (simp; omega) | omega) _ | refine bel_trans ?_ (by assumption)))
          · show Blk _ _ _ _
            (repeat (first | with_reducible assumption | (with_reducible refine Blk.new' ?_; first | with_reducible rfl | (simp; done)) | with_reducible refine Blk.alloc ?_ _ | with_reducible refine Blk.grow ?_ _ | with_reducible refine Blk.drew ?_ | with_reducible refine Blk.drewN ?_ _ | (with_reducible refine Blk.far ?_ (by first | (dsimp only; omega) | (simp; omega)) _) | (with_reducible apply Blk.two) | (with_reducible refine Blk.set' ?_ _ _ ?_) | (with_reducible rfl) | rfl))
          · rw [e2.out]
            show Blk _ _ _ _
            (repeat (first | with_reducible assumption | (with_reducible refine Blk.new' ?_; first | with_reducible rfl | (simp; done)) | with_reducible refine Blk.alloc ?_ _ | with_reducible refine Blk.grow ?_ _ | with_reducible refine Blk.drew ?_ | with_reducible refine Blk.drewN ?_ _ | (with_reducible refine Blk.far ?_ (by first | (dsimp only; omega) | (simp; omega)) _) | (with_reducible apply Blk.two) | (with_reducible refine Blk.set' ?_ _ _ ?_) | (with_reducible rfl) | rfl))
        case measure => simp [intOf]; omega
    · obtain rfl : k = n := by omega
      go_wp2
      refine bodyPost_ret (v := .agg #[.int .u64 (lst h l k).1, .int .u64 (lst h l k).2]) (by simp [results, Try.results48, go_sem, r0, r1, rl]) rfl ⟨rfl, ?_⟩
      have hb2 := hb.out
      (repeat (first | exact Below.refl _ _ | assumption | refine below_drewN ?_ _ | refine bel_grow ?_ _ | refine Below.drew ?_ | refine bel_alloc ?_ _ | refine bel_set ?_ (by first | exact Nat.le_refl _ | (simp; done) | (simp; omega) | omega) _ | refine bel_trans ?_ (by assumption)))
end Go.Proofs.Ytpbnakoimlmhnaa
