/-
  The chapter's example of records holds.
-/
import Derived.Test.YtflaeljjalpnkaaRecD
import Derived.Test.YtflaeljjalpnkaaByS
import Derived.Deep.DeepCutAuto
namespace Go.Proofs.Ytflaeljjalpnkaa
set_option linter.unusedVariables false
set_option linter.unusedSimpArgs false
open Go.RowKit

/-- the example's bytes -/
def exD (j : Nat) : Int := if j = 39 then 3 else if j = 35 then 2 else if j = 15 then 1 else 0
theorem exD_eq : ∀ i, i < 40 → putFilterD 0 1 0 0 2 3 i = exD i := by decide +kernel
theorem conv8 {w : World} {A : Option Addr} {n : Nat} {d : Nat → Int} (h : SlIs w A n (yV d)) (c : Nat) : (convert 32 9 (.slice A n c)).run Try.prog w = .ok (.string (strF d n)) w :=
  conv_str Try.underlying32 Try.underlying5 Try.underlying9 h c

set_option maxRecDepth 8000 in
set_option maxHeartbeats 2000000 in
theorem rfixed_any (w : World) : Calls Try.prog 13 #[] w fun r w' => r = .returned (.bool true) ∧ Below w.heap.size w w' := by
  have HF := Lib.hid (fun w => putFilter_any 0 1 0 0 2 3 (by decide) (by decide) (by decide) (by decide) (by decide) (by decide) w)
  have hmk : ∀ w, (Instr.makeSlice 32 (.int .i64 40) (.int .i64 40)).run Try.prog w = .ok (.slice (some ⟨w.heap.size, 0, none⟩) 40 40) (w.alloc (.cells #[.int .u8 0, .int .u8 0, .int .u8 0, .int .u8 0, .int .u8 0, .int .u8 0, .int .u8 0, .int .u8 0, .int .u8 0, .int .u8 0, .int .u8 0, .int .u8 0, .int .u8 0, .int .u8 0, .int .u8 0, .int .u8 0, .int .u8 0, .int .u8 0, .int .u8 0, .int .u8 0, .int .u8 0, .int .u8 0, .int .u8 0, .int .u8 0, .int .u8 0, .int .u8 0, .int .u8 0, .int .u8 0, .int .u8 0, .int .u8 0, .int .u8 0, .int .u8 0, .int .u8 0, .int .u8 0, .int .u8 0, .int .u8 0, .int .u8 0, .int .u8 0, .int .u8 0, .int .u8 0] 5)) := fun _ => by kernel_rfl
  go_enter Try.func13, Try.ntmps13
  go_wp2_with fail
  refine (HF.out _).mono ?_
  rintro e w_1 ⟨v, rfl, ho, hb⟩
  obtain ⟨A, c, rfl, hc1, hc2, hsl⟩ := ho.byS
  replace hsl := Lib.hid hsl
  replace hb := Lib.hid hb
  clear ho
  go_upto_region 3 with fail
  refine abs_wp (fun X => Below w.heap.size w X ∧ Below w_1.heap.size w_1 X ∧ X.rowIs w_1.heap.size 5 40 (fun _ => .int .u8 0) ∧ w_1.heap.size < X.heap.size) ?_ ?_
  · refine ⟨?_, ?_, ?_, ?_⟩
    · have t := hb.out
      (repeat (first | exact Below.refl _ _ | assumption | refine below_drewN ?_ _ | refine bel_grow ?_ _ | refine Below.drew ?_ | refine bel_alloc ?_ _ | refine bel_set ?_ (by first | exact Nat.le_refl _ | (simp; done) | (simp; omega) | omega) _ | refine bel_trans ?_ (by assumption)))
    · exact bel_alloc (Below.refl _ _) _
    · exact rowIs_zero _ rfl rfl
    · simp
  rintro X ⟨x1, x2, x3, x4⟩

  have c1 := x3.cell (i := 15) (by omega)
  have c2 := x3.cell (i := 35) (by omega)
  have c3 := x3.cell (i := 39) (by omega)
  have d1 := x3.frozen 15
  have d2 := x3.frozen 35
  have d3 := x3.frozen 39
  have r3 := (((x3.set 15 (.int .u8 1)).set 35 (.int .u8 2)).set 39 (.int .u8 3)).congr (g := yV exD) (fun i hi => by
    unfold yV exD
    by_cases e3 : i = 39 <;> by_cases e2 : i = 35 <;> by_cases e1 : i = 15 <;> simp [e1, e2, e3])
  have q2 := conv8 (SlIs.row r3 (Nat.le_refl 40)) 40
  rw [← strF_congr exD_eq] at q2
  have hA : SlIs (((X.setCell ⟨w_1.heap.size, 15, none⟩ (.int .u8 1)).setCell ⟨w_1.heap.size, 35, none⟩ (.int .u8 2)).setCell ⟨w_1.heap.size, 39, none⟩ (.int .u8 3)) A 40 (yV (putFilterD 0 1 0 0 2 3)) := by
    exact hsl.out.below (Below.setCell (Below.setCell (Below.setCell x2 (Nat.le_refl _) _) (Nat.le_refl _) _) (Nat.le_refl _) _)
  have q1 := conv8 hA c
  have hx1 := Lib.hid x1
  have hsz := hb.out.size
  clear x1 x2 x3 r3 hA hsl hb
  go_wp2_with fail
  go_ret
  exact ⟨rfl, by have t := hx1.out; (repeat (first | exact Below.refl _ _ | assumption | refine below_drewN ?_ _ | refine bel_grow ?_ _ | refine Below.drew ?_ | refine bel_alloc ?_ _ | refine bel_set ?_ (by first | exact Nat.le_refl _ | (simp; done) | (simp; omega) | omega) _ | refine bel_trans ?_ (by assumption)))⟩
end Go.Proofs.Ytflaeljjalpnkaa
