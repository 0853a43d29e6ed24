/-
  digits.Number, and the chapter's examples, walked.
-/
import Derived.Test.YtmlaehjjeadbeaaDoorDf
import Derived.Test.YtmlaehjjeadbeaaDoorDd
import Derived.Test.YtmlaehjjeadbeaaDoorRef1
namespace Go.Proofs.YtmlaehjjeadbeaaDoor
set_option linter.unusedVariables false
set_option linter.unusedSimpArgs false
open Go.RowKit

/-- what a row of bytes is read as, as a short number -/
def nbC (d : Nat → Int) (n : Nat) : Int := if drC d n = 0 ∧ drH d n ≠ 0 then 9 else drC d n
def nbL (d : Nat → Int) (n : Nat) : Int := if drC d n = 0 ∧ drH d n = 0 then drL d n else 0
set_option maxHeartbeats 4000000 in
theorem dnumber_any (n : Nat) (d : Nat → Int) (hn : n ≤ maxLen) (hd : ∀ i, 0 ≤ d i ∧ d i < 256) (w : World) : Calls Tryd.prog 8 #[.string (strF d n)] w fun r w' =>
      r = .returned (.tuple #[.int .u64 (nbL d n), .int .i64 (nbC d n)]) ∧ Below w.heap.size w w' := by
  have HR := Lib.hid (fun w => read_any n d hn hd w)
  have hc := rd_cases d n
  have e1 : nbC d n = if drC d n = 0 ∧ drH d n ≠ 0 then 9 else drC d n := rfl
  have e2 : nbL d n = if drC d n = 0 ∧ drH d n = 0 then drL d n else 0 := rfl
  have hC : drC d n = 0 ∨ drC d n = 2 ∨ drC d n = 9 := by omega
  clear hc
  generalize drC d n = c at *
  generalize drH d n = h at *
  generalize drL d n = l at *
  rcases hC with rfl | rfl | rfl
  · by_cases hz : h = 0
    · subst hz
      simp only [ne_eq, not_true_eq_false, and_false, if_false, and_self, if_true] at e1 e2
      rw [e1, e2]
      clear e1 e2
      go_enter Tryd.func8, Tryd.ntmps8
      go_wp2_with fail
      refine (HR.out _).mono ?_
      rintro r w1 ⟨rfl, hb1⟩
      go_wp2_with fail
      refine bodyPost_ret (v := .tuple #[.int .u64 l, .int .i64 0]) (by simp [results, Tryd.results8, go_sem]) rfl ⟨rfl, ?_⟩
      (repeat (first | exact Below.refl _ _ | assumption | refine below_drewN ?_ _ | refine bel_grow ?_ _ | refine Below.drew ?_ | refine bel_alloc ?_ _ | refine bel_set ?_ (by first | exact Nat.le_refl _ | (simp; done) | (simp; omega) | omega) _ | refine bel_trans ?_ (by assumption)))
    · rw [if_pos ⟨rfl, hz⟩] at e1
      rw [if_neg (fun h => hz h.2)] at e2
      rw [e1, e2]
      have h1 : (h != 0) = true := by rw [bne_iff_ne]; exact hz
      clear e1 e2
      go_enter Tryd.func8, Tryd.ntmps8
      go_wp2_with fail
      refine (HR.out _).mono ?_
      rintro r w1 ⟨rfl, hb1⟩
      go_wp2_with fail
      refine bodyPost_ret (v := .tuple #[.int .u64 0, .int .i64 9]) (by simp [results, Tryd.results8, go_sem]) rfl ⟨rfl, ?_⟩
      (repeat (first | exact Below.refl _ _ | assumption | refine below_drewN ?_ _ | refine bel_grow ?_ _ | refine Below.drew ?_ | refine bel_alloc ?_ _ | refine bel_set ?_ (by first | exact Nat.le_refl _ | (simp; done) | (simp; omega) | omega) _ | refine bel_trans ?_ (by assumption)))
  · rw [if_neg (by simp)] at e1 e2
    rw [e1, e2]
    clear e1 e2
    go_enter Tryd.func8, Tryd.ntmps8
    go_wp2_with fail
    refine (HR.out _).mono ?_
    rintro r w1 ⟨rfl, hb1⟩
    go_wp2_with fail
    refine bodyPost_ret (v := .tuple #[.int .u64 0, .int .i64 2]) (by simp [results, Tryd.results8, go_sem]) rfl ⟨rfl, ?_⟩
    (repeat (first | exact Below.refl _ _ | assumption | refine below_drewN ?_ _ | refine bel_grow ?_ _ | refine Below.drew ?_ | refine bel_alloc ?_ _ | refine bel_set ?_ (by first | exact Nat.le_refl _ | (simp; done) | (simp; omega) | omega) _ | refine bel_trans ?_ (by assumption)))
  · rw [if_neg (by simp)] at e1 e2
    rw [e1, e2]
    clear e1 e2
    go_enter Tryd.func8, Tryd.ntmps8
    go_wp2_with fail
    refine (HR.out _).mono ?_
    rintro r w1 ⟨rfl, hb1⟩
    go_wp2_with fail
    refine bodyPost_ret (v := .tuple #[.int .u64 0, .int .i64 9]) (by simp [results, Tryd.results8, go_sem]) rfl ⟨rfl, ?_⟩
    (repeat (first | exact Below.refl _ _ | assumption | refine below_drewN ?_ _ | refine bel_grow ?_ _ | refine Below.drew ?_ | refine bel_alloc ?_ _ | refine bel_set ?_ (by first | exact Nat.le_refl _ | (simp; done) | (simp; omega) | omega) _ | refine bel_trans ?_ (by assumption)))

/-- the greatest number's text, and the next one's -/
theorem str_top : ({ data := #[51, 52, 48, 50, 56, 50, 51, 54, 54, 57, 50, 48, 57, 51, 56, 52, 54, 51, 52, 54, 51, 51, 55, 52, 54, 48, 55, 52, 51, 49, 55, 54, 56, 50, 49, 49, 52, 53, 53] } : ByteArray) = strF (dtx 340282366920938463463374607431768211455 39) 39 := by decide +kernel
theorem str_over : ({ data := #[51, 52, 48, 50, 56, 50, 51, 54, 54, 57, 50, 48, 57, 51, 56, 52, 54, 51, 52, 54, 51, 51, 55, 52, 54, 48, 55, 52, 51, 49, 55, 54, 56, 50, 49, 49, 52, 53, 54] } : ByteArray) = strF (dtx 340282366920938463463374607431768211456 39) 39 := by decide +kernel
theorem str_007 : ({ data := #[48, 48, 55] } : ByteArray) = strF (dtx 7 3) 3 := by decide +kernel
theorem dl_top : DL 340282366920938463463374607431768211455 39 := by unfold DL; omega
theorem dl_over : DL 340282366920938463463374607431768211456 39 := by unfold DL; omega
theorem rd_top : drC (dtx 340282366920938463463374607431768211455 39) 39 = 0 ∧ drH (dtx 340282366920938463463374607431768211455 39) 39 = 18446744073709551615 ∧ drL (dtx 340282366920938463463374607431768211455 39) 39 = 18446744073709551615 := by
  obtain ⟨a, b, c⟩ := rd_ok (dtx_rgt dl_top) (by rw [val_text dl_top.2.1]; omega)
  rw [a, b, c, val_text dl_top.2.1]
  omega
theorem rd_2over : drC (dtx 340282366920938463463374607431768211456 39) 39 = 9 ∧ drH (dtx 340282366920938463463374607431768211456 39) 39 = 0 ∧ drL (dtx 340282366920938463463374607431768211456 39) 39 = 0 :=
  rd_over (dtx_rgt dl_over) (by rw [val_text dl_over.2.1]; omega)
theorem rd_007 : drC (dtx 7 3) 3 = 2 ∧ drH (dtx 7 3) 3 = 0 ∧ drL (dtx 7 3) 3 = 0 :=
  rd_form (by
    cases h : rgt (dtx 7 3) 3 with
    | false => rfl
    | true =>
      have := (rgt_iff.1 h).2.2
      unfold dtx at this
      omega)
set_option maxHeartbeats 4000000 in
theorem dfixed_any (w : World) : Calls Tryd.prog 9 #[] w fun r w' => r = .returned (.bool true) ∧ Below w.heap.size w w' := by
  have H1 := Lib.hid (fun w => read_any 39 (dtx 340282366920938463463374607431768211455 39) (by unfold maxLen; omega) (dtx_ok _ _) w)
  have H2 := Lib.hid (fun w => read_any 39 (dtx 340282366920938463463374607431768211456 39) (by unfold maxLen; omega) (dtx_ok _ _) w)
  have H3 := Lib.hid (fun w => read_any 3 (dtx 7 3) (by unfold maxLen; omega) (dtx_ok _ _) w)
  rw [← str_top, rd_top.1, rd_top.2.1, rd_top.2.2] at H1
  rw [← str_over, rd_2over.1, rd_2over.2.1, rd_2over.2.2] at H2
  rw [← str_007, rd_007.1, rd_007.2.1, rd_007.2.2] at H3
  have HT := Lib.hid (fun w => text_any 340282366920938463463374607431768211455 39 (by omega) dl_top w)
  rw [← str_top] at HT
  simp only [show ((340282366920938463463374607431768211455 : Nat) : Int) / 18446744073709551616 = 18446744073709551615 by omega, show ((340282366920938463463374607431768211455 : Nat) : Int) % 18446744073709551616 = 18446744073709551615 by omega] at HT
  go_enter Tryd.func9, Tryd.ntmps9
  go_wp2_with fail
  refine (H1.out _).mono ?_
  rintro r w1 ⟨rfl, hb1⟩
  go_wp2_with fail
  refine (H2.out _).mono ?_
  rintro r w2 ⟨rfl, hb2⟩
  go_wp2_with fail
  refine (H3.out _).mono ?_
  rintro r w3 ⟨rfl, hb3⟩
  go_wp2_with fail
  have gA := ((((Blk.new w1 24 #[.int .u64 18446744073709551615, .int .u64 18446744073709551615]).kept hb2).alloc (.cells #[.int .u64 0, .int .u64 0] 24)).kept hb3).alloc (.cells #[.int .u64 0, .int .u64 0] 24)
  have hb4 : Below w.heap.size w (w3.alloc (.cells #[.int .u64 0, .int .u64 0] 24)) := by
    have t1 := bel_alloc hb1 (.cells #[.int .u64 18446744073709551615, .int .u64 18446744073709551615] 24)
    have t2 := bel_alloc (bel_eld t1 hb2) (.cells #[.int .u64 0, .int .u64 0] 24)
    exact bel_alloc (bel_eld t2 hb3) _
  generalize w3.alloc (.cells #[.int .u64 0, .int .u64 0] 24) = W at *
  have b0 := (gA).cell 0
  have b1 := (gA).cell 1
  have bf0 := (gA).frozen 0
  have bf1 := (gA).frozen 1
  have bl := (gA).lt
  simp at b0 b1
  replace hb4 := Lib.hid hb4
  clear hb1 hb2 hb3 gA
  first | (with_reducible refine rgrow2 (by kernel_rfl) (by kernel_rfl) ?_) | (refine rgrow (by kernel_rfl) (by kernel_rfl) ?_)
  repeat (go_big_quiet_step (((first | (go_at_call 18; exact grow_call (top_any _)) | (go_at_call 5; exact grow_call (HT.out _))))))
  refine wpQuiet_nil ?_
  intro dr
  go_wp2_with fail
  go_ret
  exact ⟨rfl, by have t := hb4.out; (repeat (first | exact Below.refl _ _ | assumption | refine below_drewN ?_ _ | refine bel_grow ?_ _ | refine Below.drew ?_ | refine bel_alloc ?_ _ | refine bel_set ?_ (by first | exact Nat.le_refl _ | (simp; done) | (simp; omega) | omega) _ | refine bel_trans ?_ (by assumption)))⟩
end Go.Proofs.YtmlaehjjeadbeaaDoor
