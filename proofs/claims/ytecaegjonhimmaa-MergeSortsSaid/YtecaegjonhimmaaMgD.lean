/-
  container/heap's up, walked.
-/
import Derived.Test.YtecaegjonhimmaaMgC
import Derived.Shelf.Abstract
namespace Go.Proofs.Ytecaegjonhimmaa
set_option linter.unusedVariables false
set_option linter.unusedSimpArgs false
open Go.RowKit Go.Shelf

/-- the heads at B: their two cells, and their row -/
structure HeIs (w : World) (B g cap n : Nat) (dn : Bool) (H : Hs) (pl : Nat → Nat) : Prop where
  cells : HsIs w B (.slice (some ⟨g, 0, none⟩) n cap) dn H.src
  row : ∃ F, HpIs w g cap n H pl F
  ne : B ≠ g
section
variable {w w' : World} {B g cap n : Nat} {dn : Bool} {H : Hs} {pl : Nat → Nat}
theorem HsIs.kept {v src : Value} (h : HsIs w B v dn src) (hb : Below w.heap.size w w') : HsIs w' B v dn src := Blk.kept h hb
theorem HsIs.lt {v src : Value} (h : HsIs w B v dn src) : B < w.heap.size := Blk.lt h
theorem HsIs.tch {S : Nat → Prop} {v src : Value} (h : HsIs w B v dn src) (hb : Tch S w w') (hs : ¬ S B) : HsIs w' B v dn src := Blk.tch h hb hs
theorem HeIs.kept (h : HeIs w B g cap n dn H pl) (hb : Below w.heap.size w w') : HeIs w' B g cap n dn H pl := ⟨h.cells.kept hb, h.row.imp fun _ h => h.kept hb, h.ne⟩
theorem HeIs.lt (h : HeIs w B g cap n dn H pl) : g < w.heap.size := by obtain ⟨F, h⟩ := h.row; exact h.blk.lt
end
theorem enter_less : ∀ args w, (callFunc 44 args).run Try.prog w = .ok (.enter 44 args) w := enters_of Try.func44 (by kernel_rfl) rfl
theorem enter_swap : ∀ args w, (callFunc 45 args).run Try.prog w = .ok (.enter 45 args) w := enters_of Try.func45 (by kernel_rfl) rfl
set_option maxHeartbeats 4000000 in
theorem up_any (B g cap n : Nat) (dn : Bool) (H : Hs) (pl : Nat → Nat) (j : Nat) (hj : j < n) (w : World) (h : HeIs w B g cap n dn H pl) (hu : UpInv dn H n pl j) :
    Calls Try.prog 26 #[.iface 62 (.pointer (some ⟨B, 0, none⟩)), .int .i64 j] w fun r w' => r = .returned (.tuple #[]) ∧ (∃ pl', HeIs w' B g cap n dn H pl' ∧ Ord dn H n pl' ∧ SameS n pl pl') ∧ Tch (fun k => k = g) w w' := by
  have hcap : n ≤ 9223372036854775807 := by
    obtain ⟨F, h⟩ := h.row
    have := h.le; have := h.max; unfold maxLen at *; omega
  replace h := Lib.hid h
  replace hu := Lib.hid hu
  go_enter Try.func26, Try.ntmps26
  go_wp2_with fail
  go_loopw [1] (fun vj wr => ∃ (m : Nat) (q : Nat → Nat), m < n ∧ vj = .int .i64 m ∧ Hid (HeIs wr B g cap n dn H q) ∧ Hid (UpInv dn H n q m) ∧ Hid (SameS n pl q) ∧ Hid (Tch (fun k => k = g) w wr)) (fun vj _ => (intOf vj).toNat)
  case atStart => exact ⟨j, pl, hj, rfl, h.out, hu.out, SameS.refl _ _, Tch.refl _ _⟩
  case round =>
    clear h hu hj
    obtain ⟨m, q, hm, rfl, hh, hu, hs, ht⟩ := hrel
    by_cases h0 : m = 0
    · subst h0
      go_upto_region 1 with fail
      go_wp2_with fail
      go_end0
      exact ⟨rfl, ⟨q, hh.out, up_end0 hu.out, hs.out⟩, ht.out⟩
    · have mL := less_m _ _ _ hh.out.cells
      have eL := enter_less
      have hpm : par m < m := par_lt (by omega)
      obtain ⟨F, hrow⟩ := hh.out.row
      have cL := less_any g cap n dn H q F m (par m) hm (by omega) wr hrow
      have hpe : ((par m : Nat) : Int) = ((m : Int) - 1) / 2 := by unfold par; omega
      rw [hpe] at cL
      replace hpe := Lib.hid hpe
      have kne : ((((m : Int) - 1) / 2) == (m : Int)) = false := by rw [← hpe.out]; exact beq_eq_false_iff_ne.2 (by omega)
      cases hb : lessB dn H (q m) (q (par m)) with
      | false =>
        rw [hb] at cL
        go_wp2_with (go_at_fn 44; refine cL.mono ?_; rintro e2 w2 ⟨rfl, hb2⟩)
        go_end0
        exact ⟨rfl, ⟨q, hh.out.kept hb2, up_end hu.out hb, hs.out⟩, ht.out.bel hb2⟩
      | true =>
        rw [hb] at cL
        have eS := enter_swap
        go_wp2_with (first
          | (go_at_fn 44; refine cL.mono ?_; rintro e2 w2 ⟨rfl, hb2⟩; have hh2 := hh.out.kept hb2; have mS := swap_m _ _ _ hh2.cells; have cS := swap_any g cap n dn H q F (par m) m (Nat.lt_trans hpm hm) hm w2 (hrow.kept hb2); rw [hpe.out] at cS; replace hh2 := Lib.hid hh2; have ht2 := Lib.hid (ht.out.bel hb2); clear hb2)
          | (go_at_fn 45; refine cS.mono ?_; rintro e3 w3 ⟨rfl, hF3, ht3⟩))
        go_roundw
        case rel => exact ⟨par m, swp q (par m) m, Nat.lt_trans hpm hm, by rw [hpe.out], Lib.hid ⟨hh2.out.cells.tch ht3 hh2.out.ne, hF3, hh2.out.ne⟩, Lib.hid (up_step hu.out (by omega) hm hb), Lib.hid (hs.out.trans (same_swp (Nat.lt_trans hpm hm) hm)), Lib.hid (ht2.out.trans ht3)⟩
        case measure => have := hpe.out; simp [intOf]; omega
end Go.Proofs.Ytecaegjonhimmaa
