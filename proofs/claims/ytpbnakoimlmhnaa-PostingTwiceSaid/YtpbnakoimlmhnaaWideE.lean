/-
  The sum of any numbers: the program's and the document's, walked.
-/
import Derived.Test.YtpbnakoimlmhnaaWideD
import Derived.Test.YtpbnakoimlmhnaaSlice
namespace Go.Proofs.Ytpbnakoimlmhnaa
set_option linter.unusedVariables false
set_option linter.unusedSimpArgs false
open Go.RowKit

/-- the sum of the first n numbers -/
def tot (h l : Nat → Int) : Nat → Int
  | 0 => 0
  | n + 1 => tot h l n + V (h n) (l n)
theorem V_nn {h l : Int} (hh : Wd h) (hl : Wd l) : 0 ≤ V h l := (V_lo hh hl).1
theorem tot_nn {h l : Nat → Int} {n : Nat} (hd : ∀ i, i < n → Wd (h i) ∧ Wd (l i)) : 0 ≤ tot h l n := by
  induction n with
  | zero => simp [tot]
  | succ n ih => have := ih (fun i hi => hd i (by omega)); have := V_nn (hd n (by omega)).1 (hd n (by omega)).2; simp only [tot]; omega
theorem tot_mono {h l : Nat → Int} {k n : Nat} (hk : k ≤ n) (hd : ∀ i, i < n → Wd (h i) ∧ Wd (l i)) : tot h l k ≤ tot h l n := by
  induction n with
  | zero => obtain rfl : k = 0 := by omega
            exact Int.le_refl _
  | succ n ih =>
    by_cases e : k = n + 1
    · subst e; exact Int.le_refl _
    · have := ih (by omega) (fun i hi => hd i (by omega)); have := V_nn (hd n (by omega)).1 (hd n (by omega)).2; simp only [tot]; omega
def sumB (h l : Nat → Int) (n : Nat) : Bool := decide (tot h l n < pw 16)
def sumH (h l : Nat → Int) (n : Nat) : Int := if sumB h l n then tot h l n / 18446744073709551616 else 0
def sumL (h l : Nat → Int) (n : Nat) : Int := if sumB h l n then tot h l n % 18446744073709551616 else 0
/-- the cells of pairs of words -/
def pV (h l : Nat → Int) (j : Nat) : Value := .int .u64 (if j % 2 = 0 then h (j / 2) else l (j / 2))
theorem pV_0 (h l : Nat → Int) (k : Nat) : pV h l (k * 2) = .int .u64 (h k) := by unfold pV; rw [if_pos (by omega), show k * 2 / 2 = k from by omega]
theorem pV_1 (h l : Nat → Int) (k : Nat) : pV h l (k * 2 + 1) = .int .u64 (l k) := by unfold pV; rw [if_neg (by omega), show (k * 2 + 1) / 2 = k from by omega]

set_option maxHeartbeats 1000000 in
theorem sum_any (A : Option Addr) (n c : Nat) (h l : Nat → Int) (hn : n ≤ 1000000) (hd : ∀ i, i < n → Wd (h i) ∧ Wd (l i)) (w : World) (hs : SlIs w A (n * 2) (pV h l)) :
    Calls Try.prog 79 #[.slice A n c] w fun r w' =>
      r = .returned (.tuple #[.agg #[.int .u64 (sumH h l n), .int .u64 (sumL h l n)], .bool (sumB h l n)]) ∧ Below w.heap.size w w' := by
  replace hs := Lib.hid hs
  replace hd := Lib.hid hd
  go_enter Try.func79, Try.ntmps79
  go_wp2
  go_loopw [11] (fun i wr => ∃ (k : Nat), k ≤ n ∧ i = .int .i64 k ∧ Hid (tot h l k < pw 16) ∧ Hid (Below w.heap.size w wr) ∧ Hid (wr.rowIs w.heap.size 24 2 (fun _ => .int .u64 0)) ∧
    Hid (wr.rowIs (w.heap.size + 1) 24 2 (pV (fun _ => tot h l k / 18446744073709551616) (fun _ => tot h l k % 18446744073709551616)))) (fun i _ => n - (intOf i).toNat)
  case atStart =>
    refine ⟨0, by omega, rfl, by rw [pw_16]; simp [tot, Hid], ?_, ?_, ?_⟩
    · show Below _ _ _
      (repeat (first | exact Below.refl _ _ | assumption | refine below_drewN ?_ _ | refine bel_grow ?_ _ | refine Below.drew ?_ | refine bel_alloc ?_ _ | refine bel_set ?_ (by first | exact Nat.le_refl _ | (simp; done) | (simp; omega) | omega) _ | refine bel_trans ?_ (by assumption)))
    · show World.rowIs _ _ _ _ _
      refine World.rowIs.alloc (rowIs_zero _ ?_ ?_) _
      · rfl
      · rfl
    · show World.rowIs _ _ _ _ _
      refine (rowIs_zero (.int .u64 0) ?_ ?_).congr (fun i hi => ?_)
      · simp
      · rfl
      · simp [pV, tot]
  case round =>
    obtain ⟨k, hk, rfl, ht, hb, hr, ho⟩ := hrel
    by_cases hlt : k < n
    · obtain ⟨b, o, rfl, hbl, hc⟩ := hs.out (by omega)
      have c0 := keepc hb.out (hc (k * 2) (by omega))
      have c1 := keepc hb.out (hc (k * 2 + 1) (by omega))
      rw [pV_0] at c0
      rw [pV_1, ← Nat.add_assoc] at c1
      have bl : b < wr.heap.size := Nat.lt_of_lt_of_le hbl hb.out.size
      have o0 := ho.out.cell (i := 0) (by omega)
      have o1 := ho.out.cell (i := 1) (by omega)
      have o2 := ho.out.frozen 0
      have o3 := ho.out.frozen 1
      have ol := ho.out.lt
      have e0 : pV (fun _ => tot h l k / 18446744073709551616) (fun _ => tot h l k % 18446744073709551616) 0 = .int .u64 (tot h l k / 18446744073709551616) := rfl
      have e1 : pV (fun _ => tot h l k / 18446744073709551616) (fun _ => tot h l k % 18446744073709551616) 1 = .int .u64 (tot h l k % 18446744073709551616) := rfl
      rw [e0] at o0
      rw [e1] at o1
      clear e0 e1 hc
      have hS : 0 ≤ tot h l k ∧ tot h l k < pw 16 := ⟨tot_nn (fun i hi => hd.out i (by omega)), ht.out⟩
      obtain ⟨hx, hy⟩ := hd.out k hlt
      have HA := Lib.hid (fun w => add_any (tot h l k / 18446744073709551616) (tot h l k % 18446744073709551616) (h k) (l k) (Wd_of hS).1 (Wd_of hS).2 hx hy w)
      have B1 := Lib.hid (addB_V (tot h l k / 18446744073709551616) (tot h l k % 18446744073709551616) (h k) (l k))
      have B2 := Lib.hid (@addH_V (tot h l k / 18446744073709551616) (tot h l k % 18446744073709551616) (h k) (l k))
      have B3 := Lib.hid (@addL_V (tot h l k / 18446744073709551616) (tot h l k % 18446744073709551616) (h k) (l k))
      rw [V_of, show tot h l k + V (h k) (l k) = tot h l (k + 1) from rfl] at B1 B2 B3
      have hmono := tot_mono (h := h) (l := l) (k := k + 1) (n := n) (by omega) hd.out
      replace hmono := Lib.hid hmono
      have hS' := Lib.hid hS
      clear hS hx hy
      generalize addB (tot h l k / 18446744073709551616) (tot h l k % 18446744073709551616) (h k) (l k) = ok at *
      generalize addH (tot h l k / 18446744073709551616) (tot h l k % 18446744073709551616) (h k) (l k) = nh at *
      generalize addL (tot h l k / 18446744073709551616) (tot h l k % 18446744073709551616) (h k) (l k) = nl at *
      cases ok
      · have hov : ¬ tot h l (k + 1) < pw 16 := by simpa using B1.out.symm
        have f1 : sumB h l n = false := by unfold sumB; have := hmono.out; simp; omega
        have f2 : sumH h l n = 0 := by unfold sumH; rw [f1]; rfl
        have f3 : sumL h l n = 0 := by unfold sumL; rw [f1]; rfl
        have r0 := hr.out.cell (i := 0) (by omega)
        have r1 := hr.out.cell (i := 1) (by omega)
        have r2 := hr.out.frozen 0
        have r3 := hr.out.frozen 1
        have rl := hr.out.lt
        replace hov := Lib.hid hov
        replace f1 := Lib.hid f1
        replace f2 := Lib.hid f2
        replace f3 := Lib.hid f3
        go_wp2_with (go_at_call 72; (with_reducible refine (gro_to (W := wr) (bel_alloc (Below.refl _ _) _) (HA.out _)).mono ?_); rintro e w3 ⟨rfl, d1, rfl⟩)
        refine bodyPost_ret (v := .tuple #[.agg #[.int .u64 0, .int .u64 0], .bool false]) (by simp [results, Try.results79, go_sem, r0, r1, rl]) rfl ⟨by rw [f1.out, f2.out, f3.out], ?_⟩
        have hb2 := hb.out
        (repeat (first | exact Below.refl _ _ | assumption | refine below_drewN ?_ _ | refine bel_grow ?_ _ | refine Below.drew ?_ | refine bel_alloc ?_ _ | refine bel_set ?_ (by first | exact Nat.le_refl _ | (simp; done) | (simp; omega) | omega) _ | refine bel_trans ?_ (by assumption)))
      · have hov : tot h l (k + 1) < pw 16 := by simpa using B1.out.symm
        have f2 := Lib.hid (B2.out hov)
        have f3 := Lib.hid (B3.out hov)
        replace hov := Lib.hid hov
        go_wp2_with (go_at_call 72; (with_reducible refine (gro_to (W := wr) (bel_alloc (Below.refl _ _) _) (HA.out _)).mono ?_); rintro e w3 ⟨rfl, d1, rfl⟩)
        go_roundw
        case rel =>
          have hb2 := hb.out
          have hr2 := hr.out
          have ho2 := ho.out
          refine ⟨k + 1, by omega, by go_num, hov.out, ?_, ?_, ?_⟩
          · show Below _ _ _
            (repeat (first | exact Below.refl _ _ | assumption | refine below_drewN ?_ _ | refine bel_grow ?_ _ | refine Below.drew ?_ | refine bel_alloc ?_ _ | refine bel_set ?_ (by first | exact Nat.le_refl _ | (simp; done) | (simp; omega) | omega) _ | refine bel_trans ?_ (by assumption)))
          · show World.rowIs _ _ _ _ _
            (repeat (first | with_reducible assumption | with_reducible refine World.rowIs.alloc ?_ _ | with_reducible refine rowIs_grow ?_ | with_reducible refine World.rowIs.drew ?_ | with_reducible refine rowIs_drewN ?_ _ | with_reducible refine World.rowIs.setOther ?_ (by first | (dsimp only; omega) | (simp; omega)) _))
          · show World.rowIs _ _ _ _ _
            refine World.rowIs.alloc ?_ _
            refine rowIs_two (f := _) (rowIs_grow ho2) ?_ ?_
            · show _ = Value.int _ _
              rw [f2.out]; rfl
            · show _ = Value.int _ _
              rw [f3.out]; rfl
        case measure => simp [intOf]; omega
    · obtain rfl : k = n := by omega
      have f1 : sumB h l k = true := by unfold sumB; simpa using ht.out
      have f2 : sumH h l k = tot h l k / 18446744073709551616 := by unfold sumH; rw [f1]; rfl
      have f3 : sumL h l k = tot h l k % 18446744073709551616 := by unfold sumL; rw [f1]; rfl
      have r0 := hr.out.cell (i := 0) (by omega)
      have r1 := hr.out.cell (i := 1) (by omega)
      have r2 := hr.out.frozen 0
      have r3 := hr.out.frozen 1
      have rl := hr.out.lt
      have o0 := ho.out.cell (i := 0) (by omega)
      have o1 := ho.out.cell (i := 1) (by omega)
      have e0 : pV (fun _ => tot h l k / 18446744073709551616) (fun _ => tot h l k % 18446744073709551616) 0 = .int .u64 (tot h l k / 18446744073709551616) := rfl
      have e1 : pV (fun _ => tot h l k / 18446744073709551616) (fun _ => tot h l k % 18446744073709551616) 1 = .int .u64 (tot h l k % 18446744073709551616) := rfl
      rw [e0] at o0
      rw [e1] at o1
      clear e0 e1
      replace f1 := Lib.hid f1
      replace f2 := Lib.hid f2
      replace f3 := Lib.hid f3
      go_wp2
      refine bodyPost_ret (v := .tuple #[.agg #[.int .u64 (tot h l k / 18446744073709551616), .int .u64 (tot h l k % 18446744073709551616)], .bool true]) (by simp [results, Try.results79, go_sem, r0, r1, rl]) rfl ⟨by rw [f1.out, f2.out, f3.out], ?_⟩
      have hb2 := hb.out
      (repeat (first | exact Below.refl _ _ | assumption | refine below_drewN ?_ _ | refine bel_grow ?_ _ | refine Below.drew ?_ | refine bel_alloc ?_ _ | refine bel_set ?_ (by first | exact Nat.le_refl _ | (simp; done) | (simp; omega) | omega) _ | refine bel_trans ?_ (by assumption)))
end Go.Proofs.Ytpbnakoimlmhnaa
