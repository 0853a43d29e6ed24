/-
  The document's differences of two numbers of 128 bits, walked.
-/
import Derived.Test.YtpbnakoimlmhnaaWideC
import Derived.Test.YtpbnakoimlmhnaaWideCmp
namespace Go.Proofs.Ytpbnakoimlmhnaa
set_option linter.unusedVariables false
set_option linter.unusedSimpArgs false
open Go.RowKit

theorem subB_V (a b c d : Int) : subB a b c d = decide (V c d ≤ V a b) := rfl
theorem subH_V {a b c d : Int} (hb : Wd b) (hd : Wd d) (h : V c d ≤ V a b) : subH a b c d = (V a b - V c d) / 18446744073709551616 := by
  unfold subH
  rw [subB_V, if_pos (by simpa using h)]
  unfold V Wd at *
  split <;> omega
theorem subL_V {a b c d : Int} (h : V c d ≤ V a b) : subL a b c d = (V a b - V c d) % 18446744073709551616 := by
  unfold subL
  rw [subB_V, if_pos (by simpa using h)]
  unfold V
  omega
theorem subH_no {a b c d : Int} (h : ¬ V c d ≤ V a b) : subH a b c d = 0 ∧ subL a b c d = 0 := by
  unfold subH subL
  rw [subB_V, if_neg (by simpa using h), if_neg (by simpa using h)]
  exact ⟨rfl, rfl⟩

set_option maxHeartbeats 1000000 in
theorem refsub_any (a b c d : Int) (ha : Wd a) (hb : Wd b) (hc : Wd c) (hd : Wd d) (w : World) : Calls Try.prog 16 #[.agg #[.int .u64 a, .int .u64 b], .agg #[.int .u64 c, .int .u64 d]] w fun r w' =>
      r = .returned (.tuple #[.agg #[.int .u64 (subH a b c d), .int .u64 (subL a b c d)], .bool (subB a b c d)]) ∧ Below w.heap.size w w' := by
  have HX := Lib.hid (fun w => digitsV_any a b ha hb w)
  have HY := Lib.hid (fun w => digitsV_any c d hc hd w)
  have hA := Lib.hid (V_lo ha hb)
  have hB := Lib.hid (V_lo hc hd)
  have K1 := Lib.hid (subB_V a b c d)
  have K2 := Lib.hid (@subH_V a b c d hb hd)
  have K3 := Lib.hid (@subL_V a b c d)
  have K4 := Lib.hid (@subH_no a b c d)
  generalize V a b = A at *
  generalize V c d = B at *
  generalize subB a b c d = ok at *
  generalize subH a b c d = oh at *
  generalize subL a b c d = ol at *
  go_enter Try.func16, Try.ntmps16
  go_wp2
  go_region_held3 (fun w' => w'.cell? ⟨w.heap.size, 0, none⟩ = some (.int .u64 a) ∧ w'.cell? ⟨w.heap.size, 1, none⟩ = some (.int .u64 b) ∧ w'.cell? ⟨w.heap.size + 1, 0, none⟩ = some (.int .u64 c) ∧ w'.cell? ⟨w.heap.size + 1, 1, none⟩ = some (.int .u64 d)) (first | (simp [go_sem]; done) | (go_split_ands; refine ⟨?_, ?_, ?_, ?_⟩ <;> first | exact keepc hby (by assumption) | exact keepc hbx (by assumption)))
    (first
      | (go_at_call 43; (with_reducible refine (HX.out _).mono ?_); rintro e w1 ⟨gx, rfl, hgx, hrx, hbx⟩)
      | (go_at_call 43; (with_reducible refine (HY.out _).mono ?_); rintro e w2 ⟨gy, rfl, hgy, hry, hby⟩))
  go_wp2
  have z0 := hbx.size
  have z1 := hby.size
  have z2 := hrx.lt
  have z3 := hry.lt
  simp at z0 hgx
  have hx := Lib.hid (rowIs_below hrx hby hrx.lt)
  have hy := Lib.hid hry
  have hres : w2.rowIs (w.heap.size + 1 + 1) 24 2 (fun _ => .int .u64 0) := by
    refine rowIs_below (rowIs_below (World.rowIs.drew (rowIs_zero (w := (w.alloc _).alloc _) (c := #[.int .u64 0, .int .u64 0]) _ ?_ ?_)) hbx ?_) hby ?_
    · simp
    · rfl
    · simp
    · omega
  replace hres := Lib.hid hres
  have hb : Below w.heap.size w w2 := (by repeat (first | exact Below.refl _ _ | assumption | refine below_drewN ?_ _ | refine bel_grow ?_ _ | refine Below.drew ?_ | refine bel_alloc ?_ _ | refine bel_set ?_ (by first | exact Nat.le_refl _ | (simp; done) | (simp; omega) | omega) _ | refine bel_trans ?_ (by assumption)))
  replace hb := Lib.hid hb
  clear hrx hry hbx hby
  go_loopw [8, 9] (fun c i wr => ∃ (k : Int) (d : Nat → Int), -1 ≤ k ∧ k ≤ 15 ∧ i = .int .i64 k ∧ c = .int .i64 (loan A B (15 - k).toNat) ∧ Hid (∀ j : Nat, j ≤ k → d j = dg A j) ∧ Hid (∀ j : Nat, k < j → j < 16 → d j = dg (A - B) j) ∧
      Hid (Below w.heap.size w wr) ∧ Hid (wr.rowIs gx 3 16 (iV d)) ∧ Hid (wr.rowIs gy 3 16 (iV (dg B))) ∧ Hid (wr.rowIs (w.heap.size + 1 + 1) 24 2 (fun _ => .int .u64 0))) (fun _ i _ => (intOf i + 1).toNat)
  case atStart => exact ⟨15, dg A, by omega, by omega, rfl, by rw [show (15 - (15 : Int)).toNat = 0 from rfl, loan_0], fun j _ => rfl, fun j h1 h2 => by omega, hb, hx, hy, hres⟩
  case round =>
    clear hx hy hres hb
    obtain ⟨k, d, hk0, hk1, rfl, rfl, hd0, hd1, hb, hx, hy, hres⟩ := hrel
    by_cases hneg : k = -1
    · subst hneg
      have hcar := loan_16 A B hA.out hB.out
      rw [show (15 - (-1 : Int)).toNat = 16 from rfl]
      have r0 := hres.out.cell (i := 0) (by omega)
      have r1 := hres.out.cell (i := 1) (by omega)
      have r2 := hres.out.frozen 0
      have r3 := hres.out.frozen 1
      have lt := hres.out.lt
      have hA' := hA.out
      have hB' := hB.out
      by_cases hov : B ≤ A
      · have e0 : loan A B 16 = 0 := by rw [hcar, if_neg (by omega)]
        rw [e0]
        obtain rfl := K2.out hov
        obtain rfl := K3.out hov
        have e1 : ok = true := by rw [K1.out]; simpa using hov
        subst e1
        have HN := Lib.hid (fun w hr => numberV_any (A - B) ⟨by omega, by omega⟩ d (fun j hj => hd1.out j (by omega) hj) gx 16 w hr)
        clear hcar e0 hA' hB' hov
        go_wp2_with (go_at_call 44; (with_reducible refine (gro (HN.out _ hx.out)).mono ?_); rintro e w3 ⟨rfl, d1, rfl⟩)
        refine bodyPost_ret (v := .tuple #[.agg #[.int .u64 ((A - B) / 18446744073709551616), .int .u64 ((A - B) % 18446744073709551616)], .bool true]) (by simp [results, Try.results16, go_sem, r0, r1, lt]) rfl ⟨rfl, ?_⟩
        refine Below.setCell (Below.setCell (Below.trans hb.out ((grow_below _ _).mono hb.out.size)) ?_ _) ?_ _ <;> (dsimp only; omega)
      · have e0 : loan A B 16 = 1 := by rw [hcar, if_pos (by omega)]
        rw [e0]
        obtain ⟨rfl, rfl⟩ := K4.out (by omega)
        have e1 : ok = false := by rw [K1.out]; simpa using hov
        subst e1
        clear hcar e0 hA' hB' hov
        go_wp2
        refine bodyPost_ret (v := .tuple #[.agg #[.int .u64 0, .int .u64 0], .bool false]) (by simp [results, Try.results16, go_sem, r0, r1]) rfl ⟨rfl, ?_⟩
        refine Below.setCell (Below.setCell hb.out ?_ _) ?_ _ <;> (dsimp only; omega)
    · obtain ⟨m, rfl⟩ := Int.eq_ofNat_of_zero_le (show 0 ≤ k by omega)
      have c1 := hx.out.cell (i := m) (by omega)
      have c2 := hy.out.cell (i := m) (by omega)
      have c3 := hx.out.frozen m
      have e1 : iV d m = .int .i64 (dg A m) := by unfold iV; rw [hd0.out m (by omega)]
      rw [e1] at c1
      have e2 : iV (dg B) m = .int .i64 (dg B m) := rfl
      rw [e2] at c2
      have f0 := loan_lo A B (15 - m)
      have f1 := Lib.hid (loan_dg A B (15 - m) (by omega))
      have f2 := Lib.hid (loan_succ A B (15 - m) (by omega))
      rw [show (15 - (m : Int)).toNat = 15 - m from by omega]
      rw [show 15 - (15 - m) = m from by omega] at f1 f2
      have q1 := dg_lo A m
      have q2 := dg_lo B m
      clear e1 e2
      generalize dg A m = p at *
      generalize dg B m = q at *
      generalize loan A B (15 - m) = r at *
      by_cases hneg : p - q - r < 0
      · have e3 : p - q - r + 256 = (p - q - r) % 256 := by omega
        replace e3 := Lib.hid e3
        have f3 : loan A B (15 - m + 1) = 1 := by rw [f2.out, if_pos hneg]
        replace f3 := Lib.hid f3
        have hneg' : decide (p - q - r < 0) = true := by simpa using hneg
        go_wp2
        go_quiet (fail)
        go_wp2
        go_roundw
        case rel =>
          refine ⟨(m : Int) - 1, fun j => if j = m then (p - q - r) % 256 else d j, by omega, by omega, rfl, ?_, fun j hj => ?_, fun j h1 h2 => ?_, ?_, ?_, ?_, ?_⟩
          · rw [show (15 - ((m : Int) - 1)).toNat = 15 - m + 1 from by omega, f3.out]
          · dsimp only; rw [if_neg (by omega)]; exact hd0.out j (by omega)
          · by_cases ej : j = m
            · subst ej; dsimp only; rw [if_pos rfl]; exact f1.out
            · dsimp only; rw [if_neg ej]; exact hd1.out j (by omega) h2
          · exact Below.setCell (p := ⟨gx, m, none⟩) (Below.drewN hb.out _) (by dsimp only; omega) _
          · rw [e3.out]; exact ((rowIs_drewN hx.out _).set m _).congr (fun j hj => by unfold iV; by_cases e2 : j = m <;> simp [e2])
          · exact (rowIs_drewN hy.out _).setOther (by dsimp only; omega) _
          · exact (rowIs_drewN hres.out _).setOther (by dsimp only; omega) _
        case measure => simp [intOf]
      · have e3 : p - q - r = (p - q - r) % 256 := by omega
        replace e3 := Lib.hid e3
        have f3 : loan A B (15 - m + 1) = 0 := by rw [f2.out, if_neg hneg]
        replace f3 := Lib.hid f3
        go_wp2
        go_quiet (fail)
        go_wp2
        go_roundw
        case rel =>
          refine ⟨(m : Int) - 1, fun j => if j = m then p - q - r else d j, by omega, by omega, rfl, ?_, fun j hj => ?_, fun j h1 h2 => ?_, ?_, ?_, ?_, ?_⟩
          · rw [show (15 - ((m : Int) - 1)).toNat = 15 - m + 1 from by omega, f3.out]
          · dsimp only; rw [if_neg (by omega)]; exact hd0.out j (by omega)
          · by_cases ej : j = m
            · subst ej; dsimp only; rw [if_pos rfl]; exact e3.out.trans f1.out
            · dsimp only; rw [if_neg ej]; exact hd1.out j (by omega) h2
          · exact Below.setCell (p := ⟨gx, m, none⟩) (Below.drewN hb.out _) (by dsimp only; omega) _
          · exact ((rowIs_drewN hx.out _).set m _).congr (fun j hj => by unfold iV; by_cases e2 : j = m <;> simp [e2])
          · exact (rowIs_drewN hy.out _).setOther (by dsimp only; omega) _
          · exact (rowIs_drewN hres.out _).setOther (by dsimp only; omega) _
        case measure => simp [intOf]

end Go.Proofs.Ytpbnakoimlmhnaa
