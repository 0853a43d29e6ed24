/-
  slices.Concat of two, for bytes.
-/
import Derived.Test.YtflaeljjalpnkaaCatA
namespace Go.Proofs.Ytflaeljjalpnkaa
set_option linter.unusedVariables false
set_option linter.unusedSimpArgs false
open Go.RowKit

set_option maxRecDepth 8000 in
set_option maxHeartbeats 4000000 in
theorem concat_two (A B : Option Addr) (n m c c' g : Nat) (d e : Nat → Int) (h1 : 0 < n) (h2 : 0 < m) (hnm : n + m ≤ 100000) (w : World) (hg : Blk w g 32 #[.slice A n c, .slice B m c']) (hs : SlIs w A n (yV d)) (ht : SlIs w B m (yV e)) :
    Calls Try.prog 58 #[.slice (some ⟨g, 0, none⟩) 2 2] w fun r w' => ∃ v, r = .returned v ∧ OwnB w' w.heap.size v (n + m) (cat d n e) ∧ Below w.heap.size w w' := by
  obtain ⟨i0, hi0, hz0, hz1, hz2⟩ := info_parts info_u8
  replace hi0 := Lib.hid hi0
  replace hz0 := Lib.hid hz0
  replace hz1 := Lib.hid hz1
  replace hz2 := Lib.hid hz2
  obtain ⟨b, o, rfl, hbl, hc⟩ := hs h1
  obtain ⟨b', o', rfl, hbl', hc'⟩ := ht h2
  replace hc := Lib.hid hc
  replace hc' := Lib.hid hc'
  clear hs ht
  have eL : yL (cat d n e) (n + m) = yL d n ++ yL e m := yL_cat _ _ _ _
  replace eL := Lib.hid eL
  have hgl := hg.lt
  have x0 := hg.cell 0
  have x1 := hg.cell 1
  have n1 : decide ((n : Int) < 0) = false := decide_eq_false (by omega)
  have n2 : decide ((n : Int) + (m : Int) < 0) = false := decide_eq_false (by omega)
  go_enter Try.func58, Try.ntmps58
  go_wp2_with fail
  refine wp_loop_rounds 3 ?_
  rw [rounds_succ]
  go_wp2_with fail
  rw [rounds_succ]
  go_wp2_with fail
  rw [rounds_succ]
  go_wp2_with fail
  refine (grow_nil (n + m) _ ?hI (by omega) (by omega) d _).mono ?_
  case hI => omega
  rintro e1 w1 ⟨v1, rfl, ho1, hb1⟩
  have gx := hg.kept hb1
  have hs1 := hb1.size
  have hc1 := Lib.hid (keepc_n hb1 hc.out)
  clear x0 x1
  have y0 := gx.cell 0
  have y1 := gx.cell 1
  have yl := gx.lt
  unfold OwnB at *
  replace ho1 := Lib.hid ho1
  replace hb1 := Lib.hid hb1
  go_wp2_with fail
  refine wp_loop_rounds 3 ?_
  rw [rounds_succ]
  go_wp2_with (at_builtin; refine wpList_append_own _ rfl (.tmp 31) (.tmp 32) _ rfl w.heap.size 5 i0 _ 1 1 Try.underlying32 hi0.out hz0.out hz1.out hz2.out rfl (by omega) v1 0 (yL d 0) rfl ho1.out ⟨b, o, none⟩ n c (yL d n) rfl ?c0 ?c1 ?c2 ?c3 ?c4 ?c5 ?_; rotate_right; intro v2 w2 hown2 hg2 _)
  case c0 => rw [yL_len, Nat.mul_one]
  case c1 => exact news_slis hc1.out (Nat.le_refl n)
  case c2 => exact yL_one' _ _
  case c3 => simp only [maxLen]; omega
  case c4 => omega
  case c5 => omega
  have hb2 : Below w.heap.size w w2 := Below.grown hb1.out hg2 (by omega) (fun j hj => (ho1.out.lt j hj).1)
  have ho2 : w2.ownsRow w.heap.size 5 1 v2 n (yL d n) := by rw [Nat.zero_add] at hown2; exact hown2
  clear hown2 hg2 y0 y1 yl ho1 hb1 gx
  have gx := hg.kept hb2
  have hs2 := hb2.size
  have hc2 := Lib.hid (keepc_n hb2 hc'.out)
  have y0 := gx.cell 0
  have y1 := gx.cell 1
  have yl := gx.lt
  replace ho2 := Lib.hid ho2
  replace hb2 := Lib.hid hb2
  go_wp2_with fail
  rw [rounds_succ]
  go_wp2_with (at_builtin; refine wpList_append_own _ rfl (.tmp 31) (.tmp 32) _ rfl w.heap.size 5 i0 _ 1 1 Try.underlying32 hi0.out hz0.out hz1.out hz2.out rfl (by omega) v2 n (yL d n) rfl ho2.out ⟨b', o', none⟩ m c' (yL e m) rfl ?c0 ?c1 ?c2 ?c3 ?c4 ?c5 ?_; rotate_right; intro v3 w3 hown3 hg3 _)
  case c0 => rw [yL_len, Nat.mul_one]
  case c1 => exact news_slis hc2.out (Nat.le_refl m)
  case c2 => exact yL_one' _ _
  case c3 => simp only [maxLen]; omega
  case c4 => omega
  case c5 => omega
  have hb3 : Below w.heap.size w w3 := Below.grown hb2.out hg3 (by omega) (fun j hj => (ho2.out.lt j hj).1)
  rw [← eL.out] at hown3
  replace hown3 := Lib.hid hown3
  replace hb3 := Lib.hid hb3
  clear y0 y1 yl gx
  go_wp2_with fail
  rw [rounds_succ]
  go_wp2_with fail
  go_ret
  exact ⟨_, rfl, hown3.out, hb3.out⟩
end Go.Proofs.Ytflaeljjalpnkaa
