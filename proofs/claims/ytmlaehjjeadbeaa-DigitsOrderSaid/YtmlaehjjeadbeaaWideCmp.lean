/-
  How two numbers of 128 bits stand: the document's, walked.
-/
import Derived.Test.YtmlaehjjeadbeaaWideV
namespace Go.Proofs.Ytmlaehjjeadbeaa
set_option linter.unusedVariables false
set_option linter.unusedSimpArgs false
open Go.RowKit

set_option maxHeartbeats 1000000 in
theorem refcmp_any (a b c d : Int) (ha : Wd a) (hb : Wd b) (hc : Wd c) (hd : Wd d) (w : World) : Calls Try.prog 7 #[.agg #[.int .u64 a, .int .u64 b], .agg #[.int .u64 c, .int .u64 d]] w fun r w' =>
      r = .returned (.int .i64 (cmpV a b c d)) ∧ Below w.heap.size w w' := by
  have HX := Lib.hid (fun w => digitsV_any a b ha hb w)
  have HY := Lib.hid (fun w => digitsV_any c d hc hd w)
  have hA := Lib.hid (V_lo ha hb)
  have hB := Lib.hid (V_lo hc hd)
  rw [cmpV_V hb hd]
  generalize V a b = A at *
  generalize V c d = B at *
  go_enter Try.func7, Try.ntmps7
  go_wp2
  go_region_held3 (fun w' => w'.cell? ⟨w.heap.size, 0, none⟩ = some (.int .u64 a) ∧ w'.cell? ⟨w.heap.size, 1, none⟩ = some (.int .u64 b) ∧ w'.cell? ⟨w.heap.size + 1, 0, none⟩ = some (.int .u64 c) ∧ w'.cell? ⟨w.heap.size + 1, 1, none⟩ = some (.int .u64 d)) (first | (simp [go_sem]; done) | (go_split_ands; refine ⟨?_, ?_, ?_, ?_⟩ <;> first | exact keepc hby (by assumption) | exact keepc hbx (by assumption)))
    (first
      | (go_at_call 16; (with_reducible refine (HX.out _).mono ?_); rintro e w1 ⟨gx, rfl, hgx, hrx, hbx⟩)
      | (go_at_call 16; (with_reducible refine (HY.out _).mono ?_); rintro e w2 ⟨gy, rfl, hgy, hry, hby⟩))
  go_wp2
  have hx := Lib.hid (rowIs_below hrx hby hrx.lt)
  have hy := Lib.hid hry
  have hb' : Below w.heap.size w w2 := (by repeat (first | exact Below.refl _ _ | assumption | refine below_drewN ?_ _ | refine bel_grow ?_ _ | refine Below.drew ?_ | refine bel_alloc ?_ _ | refine bel_set ?_ (by first | exact Nat.le_refl _ | (simp; done) | (simp; omega) | omega) _ | refine bel_trans ?_ (by assumption)))
  replace hb' := Lib.hid hb'
  clear hrx hry hbx hby
  go_loopw [7] (fun i wr => ∃ (k : Nat), k ≤ 16 ∧ i = .int .i64 k ∧ Hid (∀ j, j < k → dg A j = dg B j) ∧ ∃ n, wr = w2.drewN n) (fun i _ => 16 - (intOf i).toNat)
  case atStart => exact ⟨0, by omega, rfl, fun j hj => by omega, 0, rfl⟩
  case round =>
    obtain ⟨k, hk, rfl, hd, n, rfl⟩ := hrel
    by_cases hlt : k < 16
    · have c1 := hx.out.cell (i := k) (by omega)
      have c2 := hy.out.cell (i := k) (by omega)
      have e1 : iV (dg A) k = .int .i64 (dg A k) := rfl
      have e2 : iV (dg B) k = .int .i64 (dg B k) := rfl
      rw [e1] at c1
      rw [e2] at c2
      clear e1 e2
      have f1 := Lib.hid (fun h => dg_less hA.out hB.out hlt hd.out h)
      have f2 := Lib.hid (fun h => dg_less hB.out hA.out hlt (fun j hj => (hd.out j hj).symm) h)
      have f3 : dg A k = dg B k → ∀ j, j < k + 1 → dg A j = dg B j := fun e j hj => by
        by_cases ej : j = k
        · rw [ej]; exact e
        · exact hd.out j (by omega)
      replace f3 := Lib.hid f3
      generalize dg A k = p at *
      generalize dg B k = q at *
      by_cases h1 : p < q
      · have hv : cmpI A B = -1 := by unfold cmpI; rw [if_pos (f1.out h1)]
        replace hv := Lib.hid hv
        go_wp2
        go_quiet (fail)
        go_wp2
        go_ret
        exact ⟨by rw [hv.out]; rfl, by have hb2 := hb'.out; (repeat (first | exact Below.refl _ _ | assumption | refine below_drewN ?_ _ | refine bel_grow ?_ _ | refine Below.drew ?_ | refine bel_alloc ?_ _ | refine bel_set ?_ (by first | exact Nat.le_refl _ | (simp; done) | (simp; omega) | omega) _ | refine bel_trans ?_ (by assumption)))⟩
      · by_cases h2 : q < p
        · have hv : cmpI A B = 1 := by unfold cmpI; rw [if_neg (by have := f2.out h2; omega), if_pos (f2.out h2)]
          replace hv := Lib.hid hv
          go_wp2
          go_quiet (fail)
          go_wp2
          go_quiet (fail)
          go_wp2
          go_ret
          exact ⟨by rw [hv.out]; rfl, by have hb2 := hb'.out; (repeat (first | exact Below.refl _ _ | assumption | refine below_drewN ?_ _ | refine bel_grow ?_ _ | refine Below.drew ?_ | refine bel_alloc ?_ _ | refine bel_set ?_ (by first | exact Nat.le_refl _ | (simp; done) | (simp; omega) | omega) _ | refine bel_trans ?_ (by assumption)))⟩
        · go_wp2
          go_quiet (fail)
          go_wp2
          go_quiet (fail)
          go_wp2
          go_roundw
          case rel => exact ⟨k + 1, by omega, by go_num, f3.out (by omega), _, rfl⟩
          case measure => simp [intOf]; omega
    · obtain rfl : k = 16 := by omega
      have e := dg_all hA.out hB.out hd.out
      have hv : cmpI A B = 0 := by rw [e]; simp [cmpI]
      replace hv := Lib.hid hv
      clear e
      go_wp2
      go_ret
      exact ⟨by rw [hv.out]; rfl, by have hb2 := hb'.out; (repeat (first | exact Below.refl _ _ | assumption | refine below_drewN ?_ _ | refine bel_grow ?_ _ | refine Below.drew ?_ | refine bel_alloc ?_ _ | refine bel_set ?_ (by first | exact Nat.le_refl _ | (simp; done) | (simp; omega) | omega) _ | refine bel_trans ?_ (by assumption)))⟩
end Go.Proofs.Ytmlaehjjeadbeaa
