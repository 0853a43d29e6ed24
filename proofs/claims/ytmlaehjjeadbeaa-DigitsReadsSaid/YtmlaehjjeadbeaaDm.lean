/-
  The document's Number of a text; DigitsReads' walk.
-/
import Derived.Test.YtmlaehjjeadbeaaDl
namespace Go.Proofs.Ytmlaehjjeadbeaa
set_option linter.unusedVariables false
set_option linter.unusedSimpArgs false
open Go.RowKit

set_option maxHeartbeats 4000000 in
theorem rdnumber_any (n : Nat) (d : Nat → Int) (hn : n ≤ maxLen) (hd : ∀ i, 0 ≤ d i ∧ d i < 256) (w : World) : Calls Try.prog 11 #[.string (strF d n)] w fun r w' =>
      r = .returned (.tuple #[.int .u64 (nbL d n), .int .i64 (nbC d n)]) ∧ Below w.heap.size w w' := by
  have HR := Lib.hid (fun w => rread_any n d hn hd w)
  have hc := rd_cases d n
  have hw := (rd_wd d n).1
  unfold Wd at hw
  have e1 : nbC d n = if drC d n = 0 ∧ drH d n ≠ 0 then 9 else drC d n := rfl
  have e2 : nbL d n = if drC d n = 0 ∧ drH d n = 0 then drL d n else 0 := rfl
  have hC : drC d n = 0 ∨ drC d n = 2 ∨ drC d n = 9 := by omega
  clear hc
  generalize drC d n = c at *
  generalize drH d n = h at *
  generalize drL d n = l at *
  rcases hC with rfl | rfl | rfl
  · by_cases hz : h = 0
    · subst hz
      simp only [ne_eq, not_true_eq_false, and_false, if_false, and_self, if_true] at e1 e2
      rw [e1, e2]
      clear e1 e2
      go_enter Try.func11, Try.ntmps11
      go_wp2_with fail
      refine (HR.out _).mono ?_
      rintro r w1 ⟨rfl, hb1⟩
      go_wp2_with fail
      refine bodyPost_ret (v := .tuple #[.int .u64 l, .int .i64 0]) (by simp [results, Try.results11, go_sem]) rfl ⟨rfl, ?_⟩
      (repeat (first | exact Below.refl _ _ | assumption | refine below_drewN ?_ _ | refine bel_grow ?_ _ | refine Below.drew ?_ | refine bel_alloc ?_ _ | refine bel_set ?_ (by first | exact Nat.le_refl _ | (simp; done) | (simp; omega) | omega) _ | refine bel_trans ?_ (by assumption)))
    · rw [if_pos ⟨rfl, hz⟩] at e1
      rw [if_neg (fun h => hz h.2)] at e2
      rw [e1, e2]
      have h1 : decide (0 < h) = true := decide_eq_true (by omega)
      clear e1 e2
      go_enter Try.func11, Try.ntmps11
      go_wp2_with fail
      refine (HR.out _).mono ?_
      rintro r w1 ⟨rfl, hb1⟩
      go_wp2_with fail
      refine bodyPost_ret (v := .tuple #[.int .u64 0, .int .i64 9]) (by simp [results, Try.results11, go_sem]) rfl ⟨rfl, ?_⟩
      (repeat (first | exact Below.refl _ _ | assumption | refine below_drewN ?_ _ | refine bel_grow ?_ _ | refine Below.drew ?_ | refine bel_alloc ?_ _ | refine bel_set ?_ (by first | exact Nat.le_refl _ | (simp; done) | (simp; omega) | omega) _ | refine bel_trans ?_ (by assumption)))
  · rw [if_neg (by simp)] at e1 e2
    rw [e1, e2]
    clear e1 e2
    go_enter Try.func11, Try.ntmps11
    go_wp2_with fail
    refine (HR.out _).mono ?_
    rintro r w1 ⟨rfl, hb1⟩
    go_wp2_with fail
    refine bodyPost_ret (v := .tuple #[.int .u64 0, .int .i64 2]) (by simp [results, Try.results11, go_sem]) rfl ⟨rfl, ?_⟩
    (repeat (first | exact Below.refl _ _ | assumption | refine below_drewN ?_ _ | refine bel_grow ?_ _ | refine Below.drew ?_ | refine bel_alloc ?_ _ | refine bel_set ?_ (by first | exact Nat.le_refl _ | (simp; done) | (simp; omega) | omega) _ | refine bel_trans ?_ (by assumption)))
  · rw [if_neg (by simp)] at e1 e2
    rw [e1, e2]
    clear e1 e2
    go_enter Try.func11, Try.ntmps11
    go_wp2_with fail
    refine (HR.out _).mono ?_
    rintro r w1 ⟨rfl, hb1⟩
    go_wp2_with fail
    refine bodyPost_ret (v := .tuple #[.int .u64 0, .int .i64 9]) (by simp [results, Try.results11, go_sem]) rfl ⟨rfl, ?_⟩
    (repeat (first | exact Below.refl _ _ | assumption | refine below_drewN ?_ _ | refine bel_grow ?_ _ | refine Below.drew ?_ | refine bel_alloc ?_ _ | refine bel_set ?_ (by first | exact Nat.le_refl _ | (simp; done) | (simp; omega) | omega) _ | refine bel_trans ?_ (by assumption)))

set_option maxHeartbeats 4000000 in
theorem digitsReads_any (n : Nat) (d : Nat → Int) (hn : n ≤ maxLen) (hd : ∀ i, 0 ≤ d i ∧ d i < 256) (w : World) : Calls Try.prog 4 #[.string (strF d n)] w fun r w' =>
      r = .returned (.bool true) ∧ Below w.heap.size w w' := by
  have HX := Lib.hid dfixed_any
  have es : (strF d n).size = n := strF_size d n
  have H1 := Lib.hid (fun w => read_any n d hn hd w)
  have H2 := Lib.hid (fun w => rread_any n d hn hd w)
  have H3 := Lib.hid (fun w => dnumber_any n d hn hd w)
  have H4 := Lib.hid (fun w => rdnumber_any n d hn hd w)
  unfold maxLen at hn
  generalize strF d n = s at *
  generalize drC d n = c at *
  generalize drH d n = h at *
  generalize drL d n = l at *
  generalize nbC d n = nc at *
  generalize nbL d n = nl at *
  clear hd
  by_cases hlong : 200 < n
  · have k1 : decide ((200 : Int) < n) = true := decide_eq_true (by omega)
    go_enter Try.func4, Try.ntmps4
    go_wp2_with fail
    refine (HX.out _).mono ?_
    rintro r w1 ⟨rfl, hb1⟩
    go_wp2_with fail
    go_ret
    exact ⟨rfl, hb1⟩
  · have k1 : decide ((200 : Int) < n) = false := decide_eq_false (by omega)
    go_enter Try.func4, Try.ntmps4
    go_wp2_with fail
    refine (H1.out _).mono ?_
    rintro r w1 ⟨rfl, hb1⟩
    go_wp2_with fail
    refine (H2.out _).mono ?_
    rintro r w2 ⟨rfl, hb2⟩
    go_wp2_with fail
    refine (H3.out _).mono ?_
    rintro r w3 ⟨rfl, hb3⟩
    go_wp2_with fail
    refine (H4.out _).mono ?_
    rintro r w4 ⟨rfl, hb4⟩
    go_wp2_with fail
    refine (HX.out _).mono ?_
    rintro r w5 ⟨rfl, hb5⟩
    have gA := (((((Blk.new w1 24 #[.int .u64 h, .int .u64 l]).kept hb2).alloc (.cells #[.int .u64 h, .int .u64 l] 24)).kept hb3).kept hb4).kept hb5
    have gB := (((Blk.new w2 24 #[.int .u64 h, .int .u64 l]).kept hb3).kept hb4).kept hb5
    have t1 := bel_alloc hb1 (.cells #[.int .u64 h, .int .u64 l] 24)
    have t2 := bel_alloc (bel_eld t1 hb2) (.cells #[.int .u64 h, .int .u64 l] 24)
    have hb6 := bel_eld (bel_eld (bel_eld t2 hb3) hb4) hb5
    have p0 := (gA).cell 0
    have p1 := (gA).cell 1
    have pf0 := (gA).frozen 0
    have pf1 := (gA).frozen 1
    have pl := (gA).lt
    have q0 := (gB).cell 0
    have q1 := (gB).cell 1
    have qf0 := (gB).frozen 0
    have qf1 := (gB).frozen 1
    have ql := (gB).lt
    simp at p0 p1 q0 q1
    replace hb6 := Lib.hid hb6
    clear hb1 hb2 hb3 hb4 hb5 gA gB t1 t2
    go_wp2_with fail
    go_ret
    refine ⟨?_, hb6.out⟩
    first | rfl | (simp; done)
theorem digitsReads_all (s : ByteArray) (hn : s.size ≤ maxLen) (w : World) : Calls Try.prog 4 #[.string s] w fun r w' => r = .returned (.bool true) ∧ Below w.heap.size w w' := by
  have h := digitsReads_any s.size (sB s) hn (sB_lo s) w
  rwa [strF_sB] at h
end Go.Proofs.Ytmlaehjjeadbeaa
