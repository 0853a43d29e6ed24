/-
  DigitsTexts' walk (door seat alone).
-/
import Derived.Test.YtmlaehjjeadbeaaDoorDo
namespace Go.Proofs.YtmlaehjjeadbeaaDoor
set_option linter.unusedVariables false
set_option linter.unusedSimpArgs false
open Go.RowKit

theorem tab_below {P : Program} {w w' : World} {nm : String} {k : IntKind} {zs : List Int} (h : Lib.TabIs P w nm k zs) (hb : Below w.heap.size w w') : Lib.TabIs P w' nm k zs := by
  unfold Lib.TabIs World.var? at *
  cases hg : P.globalNamed nm with
  | none => rw [hg] at h; cases h
  | some g =>
    rw [hg] at h
    simp only [Option.bind_some] at h ⊢
    have hlt : g < w.heap.size := by
      rcases Nat.lt_or_ge g w.heap.size with hlt | hge
      · exact hlt
      · rw [Array.getElem?_eq_none hge] at h; cases h
    rw [hb.block g hlt]
    exact h

set_option maxHeartbeats 8000000 in
theorem digitsTexts_any (a b : Int) (ha : Wd a) (hb : Wd b) (w : World) (htab : Lib.TabIs Tryd.prog w "internal/strconv.uint64pow10" .u64 Lib.pow10Tab) : Calls Tryd.prog 3 #[.agg #[.int .u64 a, .int .u64 b]] w fun r w' =>
      r = .returned (.bool true) ∧ Below w.heap.size w w' := by
  obtain ⟨A, hA⟩ : ∃ A : Nat, V a b = A := ⟨(V a b).toNat, by unfold V Wd at *; omega⟩
  obtain ⟨u, rfl⟩ : ∃ u : Nat, b = u := ⟨b.toNat, by unfold Wd at *; omega⟩
  have xA : A < 340282366920938463463374607431768211456 := by unfold V Wd at *; omega
  have xu : u < 18446744073709551616 := by unfold Wd at *; omega
  have ea : (A : Int) / 18446744073709551616 = a ∧ (A : Int) % 18446744073709551616 = u := by unfold V Wd at *; omega
  have dA := ndg_DL (N := A) (by omega)
  have du := ndg_DL (N := u) (by omega)
  have lA : ndg A ≤ 39 := by
    rcases Nat.lt_or_ge 39 (ndg A) with h | h
    · rcases dA.2.2 with c | c
      · omega
      · have : (10 : Nat) ^ 39 ≤ 10 ^ (ndg A - 1) := Nat.pow_le_pow_right (by omega) (by omega)
        omega
    · exact h
  have lu : ndg u ≤ 39 := by
    rcases Nat.lt_or_ge 39 (ndg u) with h | h
    · rcases du.2.2 with c | c
      · omega
      · have : (10 : Nat) ^ 39 ≤ 10 ^ (ndg u - 1) := Nat.pow_le_pow_right (by omega) (by omega)
        omega
    · exact h
  have HX := Lib.hid dfixed_any
  have HT := Lib.hid (fun w => text_any A (ndg A) xA dA w)
  have HT2 := Lib.hid (fun w => rtext_any A xA w)
  rw [ea.1, ea.2] at HT HT2
  have HR := Lib.hid (fun w => read_any (ndg A) (dtx A (ndg A)) (by unfold maxLen; omega) (dtx_ok _ _) w)
  obtain ⟨c1, c2, c3⟩ := rd_ok (dtx_rgt dA) (by rw [val_text dA.2.1]; omega)
  rw [val_text dA.2.1] at c2 c3
  rw [ea.1] at c2
  rw [ea.2] at c3
  rw [c1, c2, c3] at HR
  have HN := Lib.hid (fun w => dnumber_any (ndg u) (dtx u (ndg u)) (by unfold maxLen; omega) (dtx_ok _ _) w)
  obtain ⟨f1, f2, f3⟩ := rd_ok (dtx_rgt du) (by rw [val_text du.2.1]; omega)
  rw [val_text du.2.1] at f2 f3
  have g1 : nbC (dtx u (ndg u)) (ndg u) = 0 := by unfold nbC; rw [f1, f2]; rw [if_neg (by simp; omega)]
  have g2 : nbL (dtx u (ndg u)) (ndg u) = u := by unfold nbL; rw [f1, f2, f3]; rw [if_pos ⟨rfl, by omega⟩]; omega
  rw [g1, g2] at HN
  have HS := Lib.hid (fun w htab => short_any u xu w htab)
  have HS2 := Lib.hid (fun w => rshort_any u xu w)
  generalize strF (dtx A (ndg A)) (ndg A) = s at *
  generalize strF (dtx u (ndg u)) (ndg u) = t at *
  clear c1 c2 c3 f1 f2 f3 g1 g2 dA du lA lu ea hA
  have hb0 := bel_alloc (Below.refl w.heap.size w) (.cells #[.int .u64 a, .int .u64 u] 24)
  have gA0 := Blk.new w 24 #[.int .u64 a, .int .u64 u]
  go_enter Tryd.func3, Tryd.ntmps3
  go_wp2_with fail
  refine (HT.out _).mono ?_
  rintro r w1 ⟨rfl, hb1⟩
  replace gA0 := gA0.kept hb1
  replace hb0 := bel_eld hb0 hb1
  go_wp2_with fail
  refine (HR.out _).mono ?_
  rintro r w2 ⟨rfl, hb2⟩
  replace gA0 := (gA0.kept hb2).alloc (.cells #[.int .u64 a, .int .u64 u] 24)
  replace hb0 := bel_alloc (bel_eld hb0 hb2) (.cells #[.int .u64 a, .int .u64 u] 24)
  have gB0 := Blk.new w2 24 #[.int .u64 a, .int .u64 u]
  have p0 := (gA0).cell 0
  have p1 := (gA0).cell 1
  have pf0 := (gA0).frozen 0
  have pf1 := (gA0).frozen 1
  have pl := (gA0).lt
  simp at p0 p1
  go_wp2_with fail
  refine (HS.out _ (tab_below htab hb0)).mono ?_
  rintro r w3 ⟨rfl, hb3⟩
  replace gA0 := gA0.kept hb3
  replace gB0 := gB0.kept hb3
  replace hb0 := bel_eld hb0 hb3
  clear p0 p1 pf0 pf1 pl
  go_wp2_with fail
  refine (HN.out _).mono ?_
  rintro r w4 ⟨rfl, hb4⟩
  replace gA0 := gA0.kept hb4
  replace gB0 := gB0.kept hb4
  replace hb0 := bel_eld hb0 hb4
  go_wp2_with fail
  refine (HX.out _).mono ?_
  rintro r w5 ⟨rfl, hb5⟩
  replace gA0 := gA0.kept hb5
  replace gB0 := gB0.kept hb5
  replace hb0 := bel_eld hb0 hb5
  have p0 := (gA0).cell 0
  have p1 := (gA0).cell 1
  have pf0 := (gA0).frozen 0
  have pf1 := (gA0).frozen 1
  have pl := (gA0).lt
  simp at p0 p1
  go_wp2_with fail
  refine (HT2.out _).mono ?_
  rintro r w6 ⟨rfl, hb6⟩
  replace gA0 := gA0.kept hb6
  replace gB0 := gB0.kept hb6
  replace hb0 := bel_eld hb0 hb6
  clear p0 p1 pf0 pf1 pl
  have p0 := (gA0).cell 0
  have p1 := (gA0).cell 1
  have pf0 := (gA0).frozen 0
  have pf1 := (gA0).frozen 1
  have pl := (gA0).lt
  have q0 := (gB0).cell 0
  have q1 := (gB0).cell 1
  have qf0 := (gB0).frozen 0
  have qf1 := (gB0).frozen 1
  have ql := (gB0).lt
  simp at p0 p1 q0 q1
  go_wp2_with fail
  refine (HS2.out _).mono ?_
  rintro r w7 ⟨rfl, hb7⟩
  replace gA0 := gA0.kept hb7
  replace hb0 := bel_eld hb0 hb7
  clear p0 p1 pf0 pf1 pl q0 q1 qf0 qf1 ql
  have p0 := (gA0).cell 0
  have p1 := (gA0).cell 1
  have pf0 := (gA0).frozen 0
  have pf1 := (gA0).frozen 1
  have pl := (gA0).lt
  simp at p0 p1
  replace hb0 := Lib.hid hb0
  clear hb1 hb2 hb3 hb4 hb5 hb6 hb7 gA0 gB0
  go_wp2_with fail
  go_ret
  refine ⟨?_, hb0.out⟩
  first | rfl | (simp; done)
end Go.Proofs.YtmlaehjjeadbeaaDoor
