/-
  The document's sums, differences and order of two numbers of 128 bits, walked.
-/
import Derived.Test.YtmlaehjjeadbeaaWideV
import Derived.Test.YtmlaehjjeadbeaaWideX
namespace Go.Proofs.Ytmlaehjjeadbeaa
set_option linter.unusedVariables false
set_option linter.unusedSimpArgs false
open Go.RowKit

theorem addB_V (a b c d : Int) : addB a b c d = decide (V a b + V c d < pw 16) := by
  rw [pw_16]; rfl
theorem addH_V {a b c d : Int} (h : V a b + V c d < pw 16) : addH a b c d = (V a b + V c d) / 18446744073709551616 := by
  unfold addH
  rw [addB_V, if_pos (by simpa using h)]
  unfold V
  omega
theorem addL_V {a b c d : Int} (h : V a b + V c d < pw 16) : addL a b c d = (V a b + V c d) % 18446744073709551616 := by
  unfold addL
  rw [addB_V, if_pos (by simpa using h)]
  unfold V
  omega
theorem addH_no {a b c d : Int} (h : ¬ V a b + V c d < pw 16) : addH a b c d = 0 ∧ addL a b c d = 0 := by
  unfold addH addL
  rw [addB_V, if_neg (by simpa using h), if_neg (by simpa using h)]
  exact ⟨rfl, rfl⟩

set_option maxHeartbeats 1000000 in
theorem refadd_any (a b c d : Int) (ha : Wd a) (hb : Wd b) (hc : Wd c) (hd : Wd d) (w : World) : Calls Try.prog 21 #[.agg #[.int .u64 a, .int .u64 b], .agg #[.int .u64 c, .int .u64 d]] w fun r w' =>
      r = .returned (.tuple #[.agg #[.int .u64 (addH a b c d), .int .u64 (addL a b c d)], .bool (addB a b c d)]) ∧ Below w.heap.size w w' := by
  have HX := Lib.hid (fun w => digitsV_any a b ha hb w)
  have HY := Lib.hid (fun w => digitsV_any c d hc hd w)
  have hA := Lib.hid (V_lo ha hb)
  have hB := Lib.hid (V_lo hc hd)
  have K1 := Lib.hid (addB_V a b c d)
  have K2 := Lib.hid (@addH_V a b c d)
  have K3 := Lib.hid (@addL_V a b c d)
  have K4 := Lib.hid (@addH_no a b c d)
  generalize V a b = A at *
  generalize V c d = B at *
  generalize addB a b c d = ok at *
  generalize addH a b c d = oh at *
  generalize addL a b c d = ol at *
  go_enter Try.func21, Try.ntmps21
  go_wp2
  go_region_held3 (fun w' => w'.cell? ⟨w.heap.size, 0, none⟩ = some (.int .u64 a) ∧ w'.cell? ⟨w.heap.size, 1, none⟩ = some (.int .u64 b) ∧ w'.cell? ⟨w.heap.size + 1, 0, none⟩ = some (.int .u64 c) ∧ w'.cell? ⟨w.heap.size + 1, 1, none⟩ = some (.int .u64 d)) (first | (simp [go_sem]; done) | (go_split_ands; refine ⟨?_, ?_, ?_, ?_⟩ <;> first | exact keepc hby (by assumption) | exact keepc hbx (by assumption)))
    (first
      | (go_at_call 16; (with_reducible refine (HX.out _).mono ?_); rintro e w1 ⟨gx, rfl, hgx, hrx, hbx⟩)
      | (go_at_call 16; (with_reducible refine (HY.out _).mono ?_); rintro e w2 ⟨gy, rfl, hgy, hry, hby⟩))
  go_wp2
  have z0 := hbx.size
  have z1 := hby.size
  have z2 := hrx.lt
  have z3 := hry.lt
  simp at z0 hgx
  have hx := Lib.hid (rowIs_below hrx hby hrx.lt)
  have hy := Lib.hid hry
  have hres : w2.rowIs (w.heap.size + 1 + 1) 24 2 (fun _ => .int .u64 0) := by
    refine rowIs_below (rowIs_below (World.rowIs.drew (rowIs_zero (w := (w.alloc _).alloc _) (c := #[.int .u64 0, .int .u64 0]) _ ?_ ?_)) hbx ?_) hby ?_
    · simp
    · rfl
    · simp
    · omega
  replace hres := Lib.hid hres
  have hb : Below w.heap.size w w2 := (by repeat (first | exact Below.refl _ _ | assumption | refine below_drewN ?_ _ | refine bel_grow ?_ _ | refine Below.drew ?_ | refine bel_alloc ?_ _ | refine bel_set ?_ (by first | exact Nat.le_refl _ | (simp; done) | (simp; omega) | omega) _ | refine bel_trans ?_ (by assumption)))
  replace hb := Lib.hid hb
  clear hrx hry hbx hby
  go_loopw [8, 9] (fun c i wr => ∃ (k : Int) (d : Nat → Int), -1 ≤ k ∧ k ≤ 15 ∧ i = .int .i64 k ∧ c = .int .i64 (carry A B (15 - k).toNat) ∧ Hid (∀ j : Nat, j ≤ k → d j = dg A j) ∧ Hid (∀ j : Nat, k < j → j < 16 → d j = dg (A + B) j) ∧
      Hid (Below w.heap.size w wr) ∧ Hid (wr.rowIs gx 3 16 (iV d)) ∧ Hid (wr.rowIs gy 3 16 (iV (dg B))) ∧ Hid (wr.rowIs (w.heap.size + 1 + 1) 24 2 (fun _ => .int .u64 0))) (fun _ i _ => (intOf i + 1).toNat)
  case atStart => exact ⟨15, dg A, by omega, by omega, rfl, by rw [show (15 - (15 : Int)).toNat = 0 from rfl, carry_0], fun j _ => rfl, fun j h1 h2 => by omega, hb, hx, hy, hres⟩
  case round =>
    clear hx hy hres hb
    obtain ⟨k, d, hk0, hk1, rfl, rfl, hd0, hd1, hb, hx, hy, hres⟩ := hrel
    by_cases hneg : k = -1
    · subst hneg
      have hcar := carry_16 A B hA.out hB.out
      rw [show (15 - (-1 : Int)).toNat = 16 from rfl]
      have r0 := hres.out.cell (i := 0) (by omega)
      have r1 := hres.out.cell (i := 1) (by omega)
      have r2 := hres.out.frozen 0
      have r3 := hres.out.frozen 1
      have lt := hres.out.lt
      have hA' := hA.out
      have hB' := hB.out
      by_cases hov : A + B < pw 16
      · have e0 : carry A B 16 = 0 := by rw [hcar, Int.ediv_eq_zero_of_lt (by omega) hov]
        rw [e0]
        obtain rfl := K2.out hov
        obtain rfl := K3.out hov
        have e1 : ok = true := by rw [K1.out]; simpa using hov
        subst e1
        have HN := Lib.hid (fun w hr => numberV_any (A + B) ⟨by omega, hov⟩ d (fun j hj => hd1.out j (by omega) hj) gx 16 w hr)
        clear hcar e0 hA' hB' hov
        go_wp2_with (go_at_call 23; (with_reducible refine (gro (HN.out _ hx.out)).mono ?_); rintro e w3 ⟨rfl, d1, rfl⟩)
        refine bodyPost_ret (v := .tuple #[.agg #[.int .u64 ((A + B) / 18446744073709551616), .int .u64 ((A + B) % 18446744073709551616)], .bool true]) (by simp [results, Try.results21, go_sem, r0, r1, lt]) rfl ⟨rfl, ?_⟩
        refine Below.setCell (Below.setCell (Below.trans hb.out ((grow_below _ _).mono hb.out.size)) ?_ _) ?_ _ <;> (dsimp only; omega)
      · have h1 := carry_lo A B 16
        have e0 : carry A B 16 = 1 := by
          have : 1 ≤ (A + B) / pw 16 := Int.le_ediv_of_mul_le (pw_pos 16) (by omega)
          omega
        rw [e0]
        obtain ⟨rfl, rfl⟩ := K4.out (by omega)
        have e1 : ok = false := by rw [K1.out]; simpa using hov
        subst e1
        clear hcar e0 hA' hB' hov h1
        go_wp2
        refine bodyPost_ret (v := .tuple #[.agg #[.int .u64 0, .int .u64 0], .bool false]) (by simp [results, Try.results21, go_sem, r0, r1]) rfl ⟨rfl, ?_⟩
        refine Below.setCell (Below.setCell hb.out ?_ _) ?_ _ <;> (dsimp only; omega)
    · obtain ⟨m, rfl⟩ := Int.eq_ofNat_of_zero_le (show 0 ≤ k by omega)
      have c1 := hx.out.cell (i := m) (by omega)
      have c2 := hy.out.cell (i := m) (by omega)
      have c3 := hx.out.frozen m
      have e1 : iV d m = .int .i64 (dg A m) := by unfold iV; rw [hd0.out m (by omega)]
      rw [e1] at c1
      have e2 : iV (dg B) m = .int .i64 (dg B m) := rfl
      rw [e2] at c2
      have f0 := carry_lo A B (15 - m)
      have f1 := Lib.hid (carry_dg A B (15 - m) (by omega))
      have f2 := Lib.hid (carry_succ A B (15 - m) (by omega))
      rw [show (15 - (m : Int)).toNat = 15 - m from by omega]
      rw [show 15 - (15 - m) = m from by omega] at f1 f2
      have q1 := dg_lo A m
      have q2 := dg_lo B m
      clear e1 e2
      generalize dg A m = p at *
      generalize dg B m = q at *
      generalize carry A B (15 - m) = r at *
      go_wp2
      go_quiet (fail)
      go_wp2
      go_roundw
      case rel =>
        refine ⟨(m : Int) - 1, fun j => if j = m then (p + q + r) % 256 else d j, by omega, by omega, rfl, ?_, fun j hj => ?_, fun j h1 h2 => ?_, ?_, ?_, ?_, ?_⟩
        · rw [show (15 - ((m : Int) - 1)).toNat = 15 - m + 1 from by omega, ← f2.out]
        · dsimp only; rw [if_neg (by omega)]; exact hd0.out j (by omega)
        · by_cases ej : j = m
          · subst ej; dsimp only; rw [if_pos rfl]; exact f1.out
          · dsimp only; rw [if_neg ej]; exact hd1.out j (by omega) h2
        · exact Below.setCell (p := ⟨gx, m, none⟩) (Below.drewN hb.out _) (by dsimp only; omega) _
        · exact ((rowIs_drewN hx.out _).set m _).congr (fun j hj => by unfold iV; by_cases e2 : j = m <;> simp [e2])
        · exact (rowIs_drewN hy.out _).setOther (by dsimp only; omega) _
        · exact (rowIs_drewN hres.out _).setOther (by dsimp only; omega) _
      case measure => simp [intOf]
end Go.Proofs.Ytmlaehjjeadbeaa
