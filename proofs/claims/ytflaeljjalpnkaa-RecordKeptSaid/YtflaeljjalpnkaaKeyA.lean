/-
  Keys of stamps and numbers: the program's, walked.
-/
import Derived.Test.YtflaeljjalpnkaaRecC
namespace Go.Proofs.Ytflaeljjalpnkaa
set_option linter.unusedVariables false
set_option linter.unusedSimpArgs false
open Go.RowKit

theorem of_any (a : Int) (w : World) : Calls Try.prog 75 #[.int .u64 a] w fun r w' =>
      r = .returned (.agg #[.int .u64 0, .int .u64 a]) ∧ Below w.heap.size w w' := by
  go_enter Try.func75, Try.ntmps75
  go_wp2
  refine bodyPost_ret (v := .agg #[.int .u64 0, .int .u64 a]) (by simp [results, Try.results75, go_sem]) rfl ⟨rfl, ?_⟩
  (repeat (first | exact Below.refl _ _ | assumption | refine below_drewN ?_ _ | refine bel_grow ?_ _ | refine Below.drew ?_ | refine bel_alloc ?_ _ | refine bel_set ?_ (by first | exact Nat.le_refl _ | (simp; done) | (simp; omega) | omega) _ | refine bel_trans ?_ (by assumption)))
theorem Wd0 : Wd 0 := by unfold Wd; decide

set_option maxHeartbeats 1000000 in
theorem stamp_any (n : Int) (hn : Wd n) (w : World) : Calls Try.prog 66 #[.int .u64 n] w fun r w' =>
      ∃ g, r = .returned (.slice (some ⟨g, 8, none⟩) 8 8) ∧ w.heap.size ≤ g ∧ w'.rowIs g 5 16 (yV (dgt 0 n)) ∧ Below w.heap.size w w' := by
  have HB := Lib.hid (fun w => bytes_any 0 n Wd0 hn w)
  clear hn
  go_enter Try.func66, Try.ntmps66
  go_wp2_with fail
  refine (of_any _ _).mono ?_
  rintro e w1 ⟨rfl, hb1⟩
  go_wp2_with fail
  refine (HB.out _).mono ?_
  rintro e w2 ⟨g, rfl, hg, hr, hb2⟩
  have hsz := hb1.size
  replace hr := Lib.hid hr
  have hb := Lib.hid (bel_trans hb1 hb2)
  clear hb1 hb2
  go_wp2_with fail
  go_ret
  exact ⟨g, rfl, by omega, hr.out, hb.out⟩

theorem id_any (h l : Int) (hh : Wd h) (hl : Wd l) (w : World) : Calls Try.prog 47 #[.agg #[.int .u64 h, .int .u64 l]] w fun r w' =>
      ∃ g, r = .returned (.slice (some ⟨g, 0, none⟩) 16 16) ∧ w.heap.size ≤ g ∧ w'.rowIs g 5 16 (yV (dgt h l)) ∧ Below w.heap.size w w' := by
  have HB := Lib.hid (fun w => bytes_any h l hh hl w)
  clear hh hl
  go_enter Try.func47, Try.ntmps47
  go_wp2_with fail
  refine (HB.out _).mono ?_
  rintro e w2 ⟨g, rfl, hg, hr, hb2⟩
  simp at hg
  replace hr := Lib.hid hr
  have hb : Below w.heap.size w w2 := bel_trans (bel_alloc (Below.refl _ _) _) hb2
  replace hb := Lib.hid hb
  clear hb2
  go_wp2_with fail
  go_ret
  exact ⟨g, rfl, by omega, hr.out, hb.out⟩

/-- the cells of a slice that begins at off in a row of bytes -/
theorem cells_from {w : World} {g : Nat} {t : TypeId} {d : Nat → Int} {n m off : Nat} (h : w.rowIs g t n (yV d)) (hm : off + m ≤ n) : ∀ j u, (yL (fun i => d (off + i)) m)[j]? = some u → w.cell? ((⟨g, off, none⟩ : Addr).add j) = some u := by
  intro j u hu
  have hj : j < m := by
    rcases Nat.lt_or_ge j m with h1 | h1
    · exact h1
    · rw [List.getElem?_eq_none (by rw [yL_len]; exact h1)] at hu; cases hu
  have e : (⟨g, off, none⟩ : Addr).add j = ⟨g, off + j, none⟩ := by unfold Addr.add; split <;> simp_all
  rw [e, h.cell (by omega), yL_at _ m j u hu]
  rfl
theorem stamp_nb (n : Int) (i : Nat) (hi : i < 8) : dgt 0 n (8 + i) = nb 8 n i := by
  rw [dgt_low 0 n i hi]; unfold nb; rw [show 8 - 1 - i = 7 - i by omega]

set_option maxHeartbeats 1000000 in
theorem joined2_any (n m : Int) (hn : Wd n) (hm : Wd m) (w : World) : Calls Try.prog 68 #[.int .u64 n, .int .u64 m, .func (.func 66) #[] #[], .func (.func 66) #[] #[]] w fun r w' =>
      ∃ v, r = .returned v ∧ OwnB w' w.heap.size v 16 (cat (nb 8 n) 8 (nb 8 m)) ∧ Below w.heap.size w w' := by
  obtain ⟨i0, hi0, hz0, hz1, hz2⟩ := info_parts info_u8
  replace hi0 := Lib.hid hi0
  replace hz0 := Lib.hid hz0
  replace hz1 := Lib.hid hz1
  replace hz2 := Lib.hid hz2
  have H1 := Lib.hid (fun w => stamp_any n hn w)
  have H2 := Lib.hid (fun w => stamp_any m hm w)
  clear hn hm
  go_enter Try.func68, Try.ntmps68
  go_wp2_with fail
  refine (H1.out _).mono ?_
  rintro e w1 ⟨g, rfl, hg, hr, hb1⟩
  go_wp2_with fail
  refine (H2.out _).mono ?_
  rintro e w2 ⟨g2, rfl, hg2, hr2, hb2⟩
  have c1 := cells_from (off := 8) (m := 8) (rowIs_below hr hb2 hr.lt) (by omega)
  have c2 := cells_from (off := 8) (m := 8) hr2 (by omega)
  have hb := Lib.hid (bel_trans hb1 hb2)
  have hsz := hb.out.size
  replace c1 := Lib.hid c1
  replace c2 := Lib.hid c2
  clear hb1 hb2 hr hr2
  go_wp2_with (at_builtin; refine wpList_append_grows _ rfl (.tmp 11) (.tmp 14) _ rfl 5 i0 _ 1 1 Try.underlying32 hi0.out hz0.out hz1.out hz2.out rfl (by omega) (some ⟨g, 8, none⟩) 8 8 (yL (fun i => dgt 0 n (8 + i)) 8) rfl (fun h => by cases h) ?c0 ?c1 ⟨g2, 8, none⟩ 8 8 (yL (fun i => dgt 0 m (8 + i)) 8) rfl ?c2 ?c3 ?c4 (by omega) ?c5 ?c6 ?_; rotate_right; intro v' w3 hown hg3)
  case c0 => rw [yL_len]
  case c1 => rintro b ⟨⟩; exact c1.out
  case c2 => rw [yL_len]
  case c3 => exact c2.out
  case c4 => exact yL_one' _ _
  case c5 => simp [maxLen]
  case c6 => omega
  go_ret
  refine ⟨_, rfl, ?_, bel_grown hb.out hg3 (fun k hk => by cases hk)⟩
  refine OwnB.base (b := w2.heap.size) ?_ hsz
  unfold OwnB
  rw [show (16 : Nat) = 8 + 8 from rfl, yL_cat, yL_congr (d := nb 8 n) (e := fun i => dgt 0 n (8 + i)) (fun i hi => (stamp_nb n i hi).symm), yL_congr (d := nb 8 m) (e := fun i => dgt 0 m (8 + i)) (fun i hi => (stamp_nb m i hi).symm)]
  exact hown

set_option maxHeartbeats 1000000 in
theorem joinedA_any (h l m : Int) (hh : Wd h) (hl : Wd l) (hm : Wd m) (w : World) : Calls Try.prog 70 #[.agg #[.int .u64 h, .int .u64 l], .int .u64 m, .func (.func 47) #[] #[], .func (.func 66) #[] #[]] w fun r w' =>
      ∃ v, r = .returned v ∧ OwnB w' w.heap.size v 24 (cat (dgt h l) 16 (nb 8 m)) ∧ Below w.heap.size w w' := by
  obtain ⟨i0, hi0, hz0, hz1, hz2⟩ := info_parts info_u8
  replace hi0 := Lib.hid hi0
  replace hz0 := Lib.hid hz0
  replace hz1 := Lib.hid hz1
  replace hz2 := Lib.hid hz2
  have H1 := Lib.hid (fun w => id_any h l hh hl w)
  have H2 := Lib.hid (fun w => stamp_any m hm w)
  clear hh hl hm
  go_enter Try.func70, Try.ntmps70
  go_wp2_with fail
  refine (H1.out _).mono ?_
  rintro e w1 ⟨g, rfl, hg, hr, hb1⟩
  go_wp2_with fail
  refine (H2.out _).mono ?_
  rintro e w2 ⟨g2, rfl, hg2, hr2, hb2⟩
  have c1 := cells_from (off := 0) (m := 16) (rowIs_below hr hb2 hr.lt) (by omega)
  have c2 := cells_from (off := 8) (m := 8) hr2 (by omega)
  have hb : Below w.heap.size w w2 := bel_trans (bel_trans (bel_alloc (Below.refl _ _) _) hb1) hb2
  replace hb := Lib.hid hb
  have hsz := hb.out.size
  replace c1 := Lib.hid c1
  replace c2 := Lib.hid c2
  clear hb1 hb2 hr hr2 hg hg2
  go_wp2_with (at_builtin; refine wpList_append_grows _ rfl (.tmp 11) (.tmp 14) _ rfl 5 i0 _ 1 1 Try.underlying32 hi0.out hz0.out hz1.out hz2.out rfl (by omega) (some ⟨g, 0, none⟩) 16 16 (yL (fun i => dgt h l (0 + i)) 16) rfl (fun h => by cases h) ?c0 ?c1 ⟨g2, 8, none⟩ 8 8 (yL (fun i => dgt 0 m (8 + i)) 8) rfl ?c2 ?c3 ?c4 (by omega) ?c5 ?c6 ?_; rotate_right; intro v' w3 hown hg3)
  case c0 => rw [yL_len]
  case c1 => rintro b ⟨⟩; exact c1.out
  case c2 => rw [yL_len]
  case c3 => exact c2.out
  case c4 => exact yL_one' _ _
  case c5 => simp [maxLen]
  case c6 => omega
  go_ret
  refine ⟨_, rfl, ?_, bel_grown hb.out hg3 (fun k hk => by cases hk)⟩
  refine OwnB.base (b := w2.heap.size) ?_ hsz
  unfold OwnB
  rw [show (24 : Nat) = 16 + 8 from rfl, yL_cat, yL_congr (d := dgt h l) (e := fun i => dgt h l (0 + i)) (fun i hi => by rw [Nat.zero_add]), yL_congr (d := nb 8 m) (e := fun i => dgt 0 m (8 + i)) (fun i hi => (stamp_nb m i hi).symm)]
  exact hown

theorem two_any (n m : Int) (hn : Wd n) (hm : Wd m) (w : World) : Calls Try.prog 46 #[.int .u64 n, .int .u64 m] w fun r w' =>
      ∃ v, r = .returned v ∧ OwnB w' w.heap.size v 16 (cat (nb 8 n) 8 (nb 8 m)) ∧ Below w.heap.size w w' := by
  have HJ := Lib.hid (fun w => joined2_any n m hn hm w)
  clear hn hm
  go_enter Try.func46, Try.ntmps46
  go_wp2_with fail
  refine (HJ.out _).mono ?_
  rintro e w1 ⟨v, rfl, ho, hb⟩
  replace ho := Lib.hid ho
  replace hb := Lib.hid hb
  go_wp2_with fail
  go_ret
  exact ⟨v, rfl, ho.out, hb.out⟩
theorem pair_any (h l m : Int) (hh : Wd h) (hl : Wd l) (hm : Wd m) (w : World) : Calls Try.prog 48 #[.agg #[.int .u64 h, .int .u64 l], .int .u64 m] w fun r w' =>
      ∃ v, r = .returned v ∧ OwnB w' w.heap.size v 24 (cat (dgt h l) 16 (nb 8 m)) ∧ Below w.heap.size w w' := by
  have HJ := Lib.hid (fun w => joinedA_any h l m hh hl hm w)
  clear hh hl hm
  go_enter Try.func48, Try.ntmps48
  go_wp2_with fail
  refine (HJ.out _).mono ?_
  rintro e w1 ⟨v, rfl, ho, hb⟩
  have ho2 := ho.base (b' := w.heap.size) (by simp)
  have hb2 : Below w.heap.size w w1 := bel_trans (bel_alloc (Below.refl _ _) _) hb
  replace ho2 := Lib.hid ho2
  replace hb2 := Lib.hid hb2
  clear ho hb
  go_wp2_with fail
  go_ret
  exact ⟨v, rfl, ho2.out, hb2.out⟩
end Go.Proofs.Ytflaeljjalpnkaa
