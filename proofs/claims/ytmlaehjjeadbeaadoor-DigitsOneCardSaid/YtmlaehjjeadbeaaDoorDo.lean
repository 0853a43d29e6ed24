/-
  A short number's text, the program's and the document's (door seat alone).
-/
import Derived.Test.YtmlaehjjeadbeaaDoorDn
import Derived.Test.YtmlaehjjeadbeaaDoorDj
namespace Go.Proofs.YtmlaehjjeadbeaaDoor
set_option linter.unusedVariables false
set_option linter.unusedSimpArgs false
open Go.RowKit

theorem nDigits_ndg {u : Nat} (h : u < 10 ^ 40) : Lib.nDigits u = ndg u := by
  obtain ⟨a, b, c⟩ := ndg_DL h
  rcases c with c | c
  · rw [c] at b ⊢
    exact Lib.nDigits_small (by simpa using b)
  · obtain ⟨m, hm⟩ : ∃ m, ndg u = m + 1 := ⟨ndg u - 1, by omega⟩
    rw [hm] at b c ⊢
    exact Lib.nDigits_unique m u c b
theorem dec_dtx {u : Nat} (h : u < 10 ^ 40) : ({ data := (Lib.decDigits u).toArray } : ByteArray) = strF (dtx u (ndg u)) (ndg u) := by
  have e : (strF (dtx u (ndg u)) (ndg u)).data.toList = Lib.decDigits u := by
    rw [strF_list, Lib.decDigits_eq, nDigits_ndg h]
    refine List.map_congr_left (fun i _ => ?_)
    unfold dtx Lib.dg
    congr 1
  cases hx : strF (dtx u (ndg u)) (ndg u) with
  | mk a => rw [hx] at e; congr 1; rw [← e]

theorem fmt_any (u : Nat) (h2 : u < 18446744073709551616) (w : World) (htab : Lib.TabIs Tryd.prog w "internal/strconv.uint64pow10" .u64 Lib.pow10Tab) :
    Calls Tryd.prog 17 #[.int .u64 u, .int .i64 10] w fun e w' => e = .returned (.string (strF (dtx u (ndg u)) (ndg u))) ∧ Below w.heap.size w w' := by
  have H : Calls Tryd.prog 26 #[.int .u64 u, .int .i64 10] w fun e w' => e = .returned (.string (strF (dtx u (ndg u)) (ndg u))) ∧ Below w.heap.size w w' := by
    rw [← dec_dtx (u := u) (by omega)]
    by_cases q : u < 100
    · refine (formatUint_small u q w).mono ?_
      rintro r w' ⟨rfl, rfl⟩
      exact ⟨rfl, Below.refl _ _⟩
    · exact formatUint_big u (by omega) h2 w htab
  replace H := Lib.hid H
  go_enter Tryd.func17, Tryd.ntmps17
  go_wp2_with fail
  refine H.out.mono ?_
  rintro r w1 ⟨rfl, hb⟩
  go_wp2_with fail
  go_ret
  exact ⟨rfl, hb⟩
theorem short_any (u : Nat) (h2 : u < 18446744073709551616) (w : World) (htab : Lib.TabIs Tryd.prog w "internal/strconv.uint64pow10" .u64 Lib.pow10Tab) :
    Calls Tryd.prog 7 #[.int .u64 u] w fun e w' => e = .returned (.string (strF (dtx u (ndg u)) (ndg u))) ∧ Below w.heap.size w w' := by
  have H := Lib.hid (fmt_any u h2 w htab)
  go_enter Tryd.func7, Tryd.ntmps7
  go_wp2_with fail
  refine H.out.mono ?_
  rintro r w1 ⟨rfl, hb⟩
  go_wp2_with fail
  go_ret
  exact ⟨rfl, hb⟩
theorem rshort_any (u : Nat) (h2 : u < 18446744073709551616) (w : World) :
    Calls Tryd.prog 11 #[.int .u64 u] w fun e w' => e = .returned (.string (strF (dtx u (ndg u)) (ndg u))) ∧ Below w.heap.size w w' := by
  have H := Lib.hid (fun w => rtext_any u (by omega) w)
  simp only [show (u : Int) / 18446744073709551616 = 0 by omega, show (u : Int) % 18446744073709551616 = u by omega] at H
  go_enter Tryd.func11, Tryd.ntmps11
  go_wp2_with fail
  refine (H.out _).mono ?_
  rintro r w1 ⟨rfl, hb⟩
  go_wp2_with fail
  go_ret
  exact ⟨rfl, by (repeat (first | exact Below.refl _ _ | assumption | refine below_drewN ?_ _ | refine bel_grow ?_ _ | refine Below.drew ?_ | refine bel_alloc ?_ _ | refine bel_set ?_ (by first | exact Nat.le_refl _ | (simp; done) | (simp; omega) | omega) _ | refine bel_trans ?_ (by assumption)))⟩
end Go.Proofs.YtmlaehjjeadbeaaDoor
