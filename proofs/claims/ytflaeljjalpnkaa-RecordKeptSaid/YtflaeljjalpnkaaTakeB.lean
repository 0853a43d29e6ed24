/-
  Wide numbers taken from bytes; filters and results of bytes: the program's, walked.
-/
import Derived.Test.YtflaeljjalpnkaaTakeA
namespace Go.Proofs.Ytflaeljjalpnkaa
set_option linter.unusedVariables false
set_option linter.unusedSimpArgs false
open Go.RowKit

theorem setCell_twice (w : World) (a : Addr) (u v : Value) : (w.setCell a u).setCell a v = w.setCell a v := by
  unfold World.setCell
  congr 1
  apply Array.ext_getElem?
  intro i
  simp only [Array.getElem?_modify]
  by_cases h : a.block = i
  · simp only [h, if_true]
    cases w.heap[i]? with
    | none => rfl
    | some o => cases o with
      | cells c t f =>
        simp only [Option.map_some]
        split
        · simp_all
        · simp_all
      | _ => rfl
  · simp [h]

set_option maxRecDepth 8000 in
set_option maxHeartbeats 2000000 in
theorem twide_any (tb : Nat) (W0 : World) (A : Option Addr) (m c : Nat) (e : Nat → Int) (he : ∀ i, 0 ≤ e i ∧ e i < 256) (hkm : 16 ≤ m) (hmc : m ≤ c) (hc : c ≤ maxLen) (w : World)
    (hs : SlIs W0 A m (yV e)) (hB : Below W0.heap.size W0 w) (hW : W0.heap.size ≤ tb) (ht : w.cell? ⟨tb, 0, none⟩ = some (.slice A m c)) (hf : w.frozen? ⟨tb, 0, none⟩ = false) :
    Calls Try.prog 54 #[.pointer (some ⟨tb, 0, none⟩)] w fun r w' => ∃ A2, r = .returned (.agg #[.int .u64 (num e 0 8), .int .u64 (num e 8 8)]) ∧ SlIs W0 A2 (m - 16) (yV (shf e 16)) ∧
      w' = (w.setCell ⟨tb, 0, none⟩ (.slice A2 (m - 16) (c - 16))).alloc (.cells #[.int .u64 (num e 0 8), .int .u64 (num e 8 8)] 24) := by
  have tl := World.block_lt_of_cell? w _ ht
  have tl2 : tb < w.heap.size := tl
  have H1 := Lib.hid (fun w hB ht hf => tnum_any tb W0 A m c 8 8 rfl e he (by omega) (by omega) (by omega) hmc hc w hs hB ht hf)
  go_enter Try.func54, Try.ntmps54
  go_wp2_with fail
  refine (H1.out _ ?_ ?_ ?_).mono ?_
  · (repeat (first | exact Below.refl _ _ | assumption | refine below_drewN ?_ _ | refine bel_grow ?_ _ | refine Below.drew ?_ | refine bel_alloc ?_ _ | refine bel_set ?_ (by first | exact Nat.le_refl _ | (simp; done) | (simp; omega) | omega) _ | refine bel_trans ?_ (by assumption)))
  · simp [go_sem, ht, tl2]
  · simp [go_sem, hf, tl2]
  rintro e1 w1 ⟨A1, rfl, hs1, rfl⟩
  have H2 := Lib.hid (fun w hB ht hf => tnum_any tb W0 A1 (m - 8) (c - 8) 8 8 rfl (shf e 8) (shf_lo he 8) (by omega) (by omega) (by omega) (by omega) (by omega) w hs1 hB ht hf)
  clear H1 hs1
  have hne : tb ≠ w.heap.size := by omega
  go_wp2_with fail
  refine (H2.out _ ?_ ?_ ?_).mono ?_
  · have t1 : Below W0.heap.size W0 (w.setCell ⟨tb, 0, none⟩ (.slice A1 (m - 8) (c - 8))) := Below.setCell hB hW _
    (repeat (first | exact Below.refl _ _ | assumption | refine below_drewN ?_ _ | refine bel_grow ?_ _ | refine Below.drew ?_ | refine bel_alloc ?_ _ | refine bel_set ?_ (by first | exact Nat.le_refl _ | (simp; done) | (simp; omega) | omega) _ | refine bel_trans ?_ (by assumption)))
  · simp [go_sem, ht, tl2]
  · simp [go_sem, hf, tl2]
  rintro e2 w2 ⟨A2, rfl, hs2, rfl⟩
  rw [show num (shf e 8) 0 8 = num e 8 8 from num_shf e 8 8]
  rw [show m - 8 - 8 = m - 16 by omega, show c - 8 - 8 = c - 16 by omega]
  rw [shf_shf, show m - 8 - 8 = m - 16 by omega] at hs2
  clear H2
  go_wp2_with fail
  refine bodyPost_ret (v := .agg #[.int .u64 (num e 0 8), .int .u64 (num e 8 8)]) (by simp [results, Try.results54, go_sem, ht, tl2]) rfl ⟨A2, rfl, hs2, ?_⟩
  rw [setCell_twice]
end Go.Proofs.Ytflaeljjalpnkaa
