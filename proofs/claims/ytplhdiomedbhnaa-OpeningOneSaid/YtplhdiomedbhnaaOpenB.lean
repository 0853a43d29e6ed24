/-
  The verdict of any account that is handed in: the program's answer.
-/
import Derived.Test.YtplhdiomedbhnaaOpenA
import Derived.ChangeKeysEq
namespace Go.Proofs.Ytplhdiomedbhnaa
set_option linter.unusedVariables false
set_option linter.unusedSimpArgs false
open Go.RowKit

theorem neq_bal (a b c d e f g h : Int) (w : World) : (binOp .neq 45 (.agg #[.int .u64 a, .int .u64 b, .int .u64 c, .int .u64 d, .int .u64 e, .int .u64 f, .int .u64 g, .int .u64 h]) (.agg #[.int .u64 0, .int .u64 0, .int .u64 0, .int .u64 0, .int .u64 0, .int .u64 0, .int .u64 0, .int .u64 0])).run Try.prog w = .ok (.bool (!(a == 0 && b == 0 && (c == 0 && d == 0) && (e == 0 && f == 0) && (g == 0 && h == 0)))) w := by
  obtain ⟨i, hi⟩ : ∃ i, Try.prog.info? 24 = some i := ⟨_, rfl⟩
  have hc : Try.prog.cellsOf 24 = 2 := by kernel_rfl
  have hr : List.range 4 = [0, 1, 2, 3] := rfl
  go_simp
  rw [run_equalIn_array (n := 4) _ _ _ _ (by kernel_rfl) hi, hr, hc]
  simp only [Op.eqItems]
  go_simp
  by_cases h1 : a = 0 <;> by_cases h2 : b = 0 <;> by_cases h3 : c = 0 <;> by_cases h4 : d = 0 <;> by_cases h5 : e = 0 <;> by_cases h6 : f = 0 <;> by_cases h7 : g = 0 <;> by_cases h8 : h = 0 <;> simp [h1, h2, h3, h4, h5, h6, h7, h8]
attribute [go_sem ↓] neq_bal

theorem four_b {W : World} {s : Nat} {b0 b1 b2 b3 : Bool} (h0 : W.cell? ⟨s, 0, none⟩ = some (.bool b0)) (h1 : W.cell? ⟨s, 2, none⟩ = some (.bool b1)) (h2 : W.cell? ⟨s, 4, none⟩ = some (.bool b2)) (h3 : W.cell? ⟨s, 6, none⟩ = some (.bool b3)) :
    ∀ k, k < 4 → W.cell? ⟨s, k * 2, none⟩ = some (.bool (lB [b0, b1, b2, b3] k)) := by
  intro k hk
  rcases (by omega : k = 0 ∨ k = 1 ∨ k = 2 ∨ k = 3) with rfl | rfl | rfl | rfl
  · exact h0
  · exact h1
  · exact h2
  · exact h3
theorem four_i {W : World} {s : Nat} {b0 b1 b2 b3 : Int} (h0 : W.cell? ⟨s, 1, none⟩ = some (.int .u32 b0)) (h1 : W.cell? ⟨s, 3, none⟩ = some (.int .u32 b1)) (h2 : W.cell? ⟨s, 5, none⟩ = some (.int .u32 b2)) (h3 : W.cell? ⟨s, 7, none⟩ = some (.int .u32 b3)) :
    ∀ k, k < 4 → W.cell? ⟨s, k * 2 + 1, none⟩ = some (.int .u32 (lI [b0, b1, b2, b3] k)) := by
  intro k hk
  rcases (by omega : k = 0 ∨ k = 1 ∨ k = 2 ∨ k = 3) with rfl | rfl | rfl | rfl
  · exact h0
  · exact h1
  · exact h2
  · exact h3


def chkV1 (ai1 ai2 afl ast : Int) : Int := firstV (lB [ast != 0, bits .andNot .u16 afl 15 != 0, ai1 == 0 && ai2 == 0, ai1 == 18446744073709551615 && ai2 == 18446744073709551615]) (lI [3, 4, 5, 6]) 4
def chkV2 (atg alg acd afl otg olg ocd ofl : Int) : Int := firstV (lB [afl != bits .andNot .u16 ofl 16, atg != otg, alg != olg, acd != ocd, true]) (lI [7, 13, 14, 15, 16]) 5
def balB (ap1 ap2 aq1 aq2 ar1 ar2 as1 as2 : Int) : Bool := (ap1 == 0 && ap2 == 0 && (aq1 == 0 && aq2 == 0) && (ar1 == 0 && ar2 == 0) && (as1 == 0 && as2 == 0))
def chkV3 (p q : Bool) (ap1 ap2 aq1 aq2 ar1 ar2 as1 as2 alg acd : Int) : Int := firstV (lB [p && q, !(balB ap1 ap2 aq1 aq2 ar1 ar2 as1 as2), alg == 0, acd == 0]) (lI [17, 18, 27, 28]) 4
def chkV (x : Bool) (ai1 ai2 ap1 ap2 aq1 aq2 ar1 ar2 as1 as2 atg alg acd afl ast oi1 oi2 op1 op2 oq1 oq2 or1 or2 os1 os2 otg olg ocd ofl ost : Int) : Int :=
  if chkV1 ai1 ai2 afl ast != 0 then chkV1 ai1 ai2 afl ast else if x then chkV2 atg alg acd afl otg olg ocd ofl
  else chkV3 (bits .and .u16 afl 2 != 0) (bits .and .u16 afl 4 != 0) ap1 ap2 aq1 aq2 ar1 ar2 as1 as2 alg acd

set_option maxHeartbeats 4000000 in
theorem check_any (ai1 ai2 ap1 ap2 aq1 aq2 ar1 ar2 as1 as2 atg alg acd afl ast oi1 oi2 op1 op2 oq1 oq2 or1 or2 os1 os2 otg olg ocd ofl ost : Int) (x : Bool) (w : World) : Calls Try.prog 7 #[.agg #[.int .u64 ai1, .int .u64 ai2, .int .u64 ap1, .int .u64 ap2, .int .u64 aq1, .int .u64 aq2, .int .u64 ar1, .int .u64 ar2, .int .u64 as1, .int .u64 as2, .int .u64 atg, .int .u32 alg, .int .u16 acd, .int .u16 afl, .int .u64 ast], .agg #[.int .u64 oi1, .int .u64 oi2, .int .u64 op1, .int .u64 op2, .int .u64 oq1, .int .u64 oq2, .int .u64 or1, .int .u64 or2, .int .u64 os1, .int .u64 os2, .int .u64 otg, .int .u32 olg, .int .u16 ocd, .int .u16 ofl, .int .u64 ost], .bool x] w fun r w' =>
      r = .returned (.int .u32 (chkV x ai1 ai2 ap1 ap2 aq1 aq2 ar1 ar2 as1 as2 atg alg acd afl ast oi1 oi2 op1 op2 oq1 oq2 or1 or2 os1 os2 otg olg ocd ofl ost)) ∧ Below w.heap.size w w' := by
  have HF1 : ∀ (s : Nat) (W : World), s < W.heap.size → W.cell? ⟨s, 0, none⟩ = some (.bool (ast != 0)) → W.cell? ⟨s, 2, none⟩ = some (.bool (bits .andNot .u16 afl 15 != 0)) → W.cell? ⟨s, 4, none⟩ = some (.bool (ai1 == 0 && ai2 == 0)) → W.cell? ⟨s, 6, none⟩ = some (.bool (ai1 == 18446744073709551615 && ai2 == 18446744073709551615)) →
      W.cell? ⟨s, 1, none⟩ = some (.int .u32 3) → W.cell? ⟨s, 3, none⟩ = some (.int .u32 4) → W.cell? ⟨s, 5, none⟩ = some (.int .u32 5) → W.cell? ⟨s, 7, none⟩ = some (.int .u32 6) →
      Calls Try.prog 12 #[.slice (some ⟨s, 0, none⟩) 4 4] W fun r w' => r = .returned (.int .u32 (chkV1 ai1 ai2 afl ast)) ∧ Below W.heap.size W w' :=
    fun s W h0 h1 h2 h3 h4 h5 h6 h7 h8 => first_any _ _ 4 4 s W h0 (by omega) (four_b h1 h2 h3 h4) (four_i h5 h6 h7 h8)
  have HF2 : ∀ W, Calls Try.prog 14 #[.agg #[.int .u64 ai1, .int .u64 ai2, .int .u64 ap1, .int .u64 ap2, .int .u64 aq1, .int .u64 aq2, .int .u64 ar1, .int .u64 ar2, .int .u64 as1, .int .u64 as2, .int .u64 atg, .int .u32 alg, .int .u16 acd, .int .u16 afl, .int .u64 ast], .agg #[.int .u64 oi1, .int .u64 oi2, .int .u64 op1, .int .u64 op2, .int .u64 oq1, .int .u64 oq2, .int .u64 or1, .int .u64 or2, .int .u64 os1, .int .u64 os2, .int .u64 otg, .int .u32 olg, .int .u16 ocd, .int .u16 ofl, .int .u64 ost]] W fun r w' => r = .returned (.int .u32 (chkV2 atg alg acd afl otg olg ocd ofl)) ∧ Below W.heap.size W w' := fun W => again_any ai1 ai2 ap1 ap2 aq1 aq2 ar1 ar2 as1 as2 atg alg acd afl ast oi1 oi2 op1 op2 oq1 oq2 or1 or2 os1 os2 otg olg ocd ofl ost W
  have HF3 : ∀ (p q : Bool) (s : Nat) (W : World), s < W.heap.size → W.cell? ⟨s, 0, none⟩ = some (.bool (p && q)) → W.cell? ⟨s, 2, none⟩ = some (.bool (!(ap1 == 0 && ap2 == 0 && (aq1 == 0 && aq2 == 0) && (ar1 == 0 && ar2 == 0) && (as1 == 0 && as2 == 0)))) → W.cell? ⟨s, 4, none⟩ = some (.bool (alg == 0)) → W.cell? ⟨s, 6, none⟩ = some (.bool (acd == 0)) →
      W.cell? ⟨s, 1, none⟩ = some (.int .u32 17) → W.cell? ⟨s, 3, none⟩ = some (.int .u32 18) → W.cell? ⟨s, 5, none⟩ = some (.int .u32 27) → W.cell? ⟨s, 7, none⟩ = some (.int .u32 28) →
      Calls Try.prog 12 #[.slice (some ⟨s, 0, none⟩) 4 4] W fun r w' => r = .returned (.int .u32 (chkV3 p q ap1 ap2 aq1 aq2 ar1 ar2 as1 as2 alg acd)) ∧ Below W.heap.size W w' :=
    fun p q s W h0 h1 h2 h3 h4 h5 h6 h7 h8 => first_any _ _ 4 4 s W h0 (by omega) (four_b h1 h2 h3 h4) (four_i h5 h6 h7 h8)
  unfold chkV
  generalize chkV1 ai1 ai2 afl ast = V1 at *
  generalize chkV2 atg alg acd afl otg olg ocd ofl = V2 at *
  replace HF1 := Lib.hid HF1
  replace HF2 := Lib.hid HF2
  replace HF3 := Lib.hid HF3
  by_cases hV : (V1 != 0) = true
  · rw [if_pos hV]
    go_enter Try.func7, Try.ntmps7
    go_wp2
    first | (with_reducible refine rtail2 19 (by kernel_rfl) (by kernel_rfl) ?_) | (refine rtail 19 (by kernel_rfl) (by kernel_rfl) ?_)
    simp only [List.take_succ_cons, List.take_zero, List.drop_succ_cons, List.drop_zero]
    repeat (go_big_quiet_step (((go_at_call 13; exact grow_call (wtop_any _)))))
    refine wpQuiet_nil ?_
    intro dr
    go_wp2_with (go_at_call 12; refine (gro_to (bel_alloc (grow_below _ _) _) (HF1.out _ _ ?_ ?_ ?_ ?_ ?_ ?_ ?_ ?_ ?_)).mono ?_; (simp); (simp [go_sem]); (simp [go_sem]); (simp [go_sem]); (simp [go_sem]); (simp [go_sem]); (simp [go_sem]); (simp [go_sem]); (simp [go_sem]); rintro e w' ⟨rfl, d3, rfl⟩)
    go_wp2
    go_ret
    exact ⟨rfl, (by repeat (first | exact Below.refl _ _ | assumption | refine below_drewN ?_ _ | refine bel_grow ?_ _ | refine Below.drew ?_ | refine bel_alloc ?_ _ | refine bel_set ?_ (by first | exact Nat.le_refl _ | (simp; done) | (simp; omega) | omega) _ | refine bel_trans ?_ (by assumption)))⟩
  · rw [if_neg hV]
    obtain rfl : V1 = 0 := by simpa using hV
    clear hV
    cases x
    case true =>
      go_enter Try.func7, Try.ntmps7
      go_wp2
      first | (with_reducible refine rtail2 19 (by kernel_rfl) (by kernel_rfl) ?_) | (refine rtail 19 (by kernel_rfl) (by kernel_rfl) ?_)
      simp only [List.take_succ_cons, List.take_zero, List.drop_succ_cons, List.drop_zero]
      repeat (go_big_quiet_step (((go_at_call 13; exact grow_call (wtop_any _)))))
      refine wpQuiet_nil ?_
      intro dr
      go_wp2_with (go_at_call 12; refine (gro_to (bel_alloc (grow_below _ _) _) (HF1.out _ _ ?_ ?_ ?_ ?_ ?_ ?_ ?_ ?_ ?_)).mono ?_; (simp); (simp [go_sem]); (simp [go_sem]); (simp [go_sem]); (simp [go_sem]); (simp [go_sem]); (simp [go_sem]); (simp [go_sem]); (simp [go_sem]); rintro e w' ⟨rfl, d3, rfl⟩)
      go_wp2_with (go_at_call 14; refine (grow_call (HF2.out _)).mono ?_; rintro e w' ⟨rfl, d2, rfl⟩)
      go_ret
      exact ⟨rfl, (by repeat (first | exact Below.refl _ _ | assumption | refine below_drewN ?_ _ | refine bel_grow ?_ _ | refine Below.drew ?_ | refine bel_alloc ?_ _ | refine bel_set ?_ (by first | exact Nat.le_refl _ | (simp; done) | (simp; omega) | omega) _ | refine bel_trans ?_ (by assumption)))⟩
    case false =>
      by_cases hp : (bits .and .u16 afl 2 != 0) = true
      · go_enter Try.func7, Try.ntmps7
        go_wp2
        first | (with_reducible refine rtail2 19 (by kernel_rfl) (by kernel_rfl) ?_) | (refine rtail 19 (by kernel_rfl) (by kernel_rfl) ?_)
        simp only [List.take_succ_cons, List.take_zero, List.drop_succ_cons, List.drop_zero]
        repeat (go_big_quiet_step (((go_at_call 13; exact grow_call (wtop_any _)))))
        refine wpQuiet_nil ?_
        intro dr
        go_wp2_with (go_at_call 12; refine (gro_to (bel_alloc (grow_below _ _) _) (HF1.out _ _ ?_ ?_ ?_ ?_ ?_ ?_ ?_ ?_ ?_)).mono ?_; (simp); (simp [go_sem]); (simp [go_sem]); (simp [go_sem]); (simp [go_sem]); (simp [go_sem]); (simp [go_sem]); (simp [go_sem]); (simp [go_sem]); rintro e w' ⟨rfl, d3, rfl⟩)
        go_wp2_with fail
        first | (with_reducible refine rtail2 24 (by kernel_rfl) (by kernel_rfl) ?_) | (refine rtail 24 (by kernel_rfl) (by kernel_rfl) ?_)
        simp only [List.take_succ_cons, List.take_zero, List.drop_succ_cons, List.drop_zero]
        repeat (go_big_quiet_step (((go_at_call 15; exact grow_call (balances_any ai1 ai2 ap1 ap2 aq1 aq2 ar1 ar2 as1 as2 atg alg acd afl ast _)))))
        refine wpQuiet_nil ?_
        intro dr
        go_wp2_with (go_at_call 12; refine (gro_to (bel_alloc (grow_below _ _) _) (HF3.out true (bits .and .u16 afl 4 != 0) _ _ ?_ ?_ ?_ ?_ ?_ ?_ ?_ ?_ ?_)).mono ?_; (simp); (simp [go_sem]); (simp [go_sem]); (simp [go_sem]); (simp [go_sem]); (simp [go_sem]); (simp [go_sem]); (simp [go_sem]); (simp [go_sem]); rintro e w' ⟨rfl, d3, rfl⟩)
        go_wp2
        go_ret
        exact ⟨by simp [hp], (by repeat (first | exact Below.refl _ _ | assumption | refine below_drewN ?_ _ | refine bel_grow ?_ _ | refine Below.drew ?_ | refine bel_alloc ?_ _ | refine bel_set ?_ (by first | exact Nat.le_refl _ | (simp; done) | (simp; omega) | omega) _ | refine bel_trans ?_ (by assumption)))⟩
      · have hp : (bits .and .u16 afl 2 != 0) = false := by simpa using hp
        go_enter Try.func7, Try.ntmps7
        go_wp2
        first | (with_reducible refine rtail2 19 (by kernel_rfl) (by kernel_rfl) ?_) | (refine rtail 19 (by kernel_rfl) (by kernel_rfl) ?_)
        simp only [List.take_succ_cons, List.take_zero, List.drop_succ_cons, List.drop_zero]
        repeat (go_big_quiet_step (((go_at_call 13; exact grow_call (wtop_any _)))))
        refine wpQuiet_nil ?_
        intro dr
        go_wp2_with (go_at_call 12; refine (gro_to (bel_alloc (grow_below _ _) _) (HF1.out _ _ ?_ ?_ ?_ ?_ ?_ ?_ ?_ ?_ ?_)).mono ?_; (simp); (simp [go_sem]); (simp [go_sem]); (simp [go_sem]); (simp [go_sem]); (simp [go_sem]); (simp [go_sem]); (simp [go_sem]); (simp [go_sem]); rintro e w' ⟨rfl, d3, rfl⟩)
        go_wp2_with fail
        first | (with_reducible refine rtail2 24 (by kernel_rfl) (by kernel_rfl) ?_) | (refine rtail 24 (by kernel_rfl) (by kernel_rfl) ?_)
        simp only [List.take_succ_cons, List.take_zero, List.drop_succ_cons, List.drop_zero]
        repeat (go_big_quiet_step (((go_at_call 15; exact grow_call (balances_any ai1 ai2 ap1 ap2 aq1 aq2 ar1 ar2 as1 as2 atg alg acd afl ast _)))))
        refine wpQuiet_nil ?_
        intro dr
        go_wp2_with (go_at_call 12; refine (gro_to (bel_alloc (grow_below _ _) _) (HF3.out false (bits .and .u16 afl 4 != 0) _ _ ?_ ?_ ?_ ?_ ?_ ?_ ?_ ?_ ?_)).mono ?_; (simp); (simp [go_sem]); (simp [go_sem]); (simp [go_sem]); (simp [go_sem]); (simp [go_sem]); (simp [go_sem]); (simp [go_sem]); (simp [go_sem]); rintro e w' ⟨rfl, d3, rfl⟩)
        go_wp2
        go_ret
        exact ⟨by simp [hp], (by repeat (first | exact Below.refl _ _ | assumption | refine below_drewN ?_ _ | refine bel_grow ?_ _ | refine Below.drew ?_ | refine bel_alloc ?_ _ | refine bel_set ?_ (by first | exact Nat.le_refl _ | (simp; done) | (simp; omega) | omega) _ | refine bel_trans ?_ (by assumption)))⟩
end Go.Proofs.Ytplhdiomedbhnaa
