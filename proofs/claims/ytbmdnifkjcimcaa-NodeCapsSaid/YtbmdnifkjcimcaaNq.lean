/-
  slices.Clone of bytes and the taker of node, walked.
-/
import Derived.Test.YtbmdnifkjcimcaaNp
import Derived.Test.YtbmdnifkjcimcaaKd
namespace Go.Proofs.Ytbmdnifkjcimcaa
set_option linter.unusedVariables false
set_option linter.unusedSimpArgs false
open Go.RowKit

set_option maxHeartbeats 1000000 in
theorem sclone_any (A : Option Addr) (n c : Nat) (d : Nat → Int) (hn : n ≤ 1000000) (w : World) (hs : SlIs w A n (yV d)) : Calls Try.prog 48 #[.slice A n c] w fun r w' =>
      ∃ v, r = .returned v ∧ OwnB w' w.heap.size v n d ∧ Below w.heap.size w w' := by
  obtain ⟨i0, hi0, hz0, hz1, hz2⟩ := info_parts info_u8
  replace hi0 := Lib.hid hi0
  replace hz0 := Lib.hid hz0
  replace hz1 := Lib.hid hz1
  replace hz2 := Lib.hid hz2
  have q22 := eqnil_u8
  cases A with
  | none =>
    obtain rfl : n = 0 := by
      rcases Nat.eq_zero_or_pos n with h | h
      · exact h
      · obtain ⟨b, o, e, _⟩ := hs h; cases e
    clear hs
    go_enter Try.func48, Try.ntmps48
    go_wp2
    go_ret
    exact ⟨_, rfl, OwnB.nil _ _ _, Below.refl _ _⟩
  | some a =>
    by_cases h0 : n = 0
    · subst h0
      clear hs
      have H := fun W => run_append_zero (P := Try.prog) W 29 29 5 info_u8 Try.underlying29 ⟨w.heap.size, 0, none⟩ (some a) c
      go_enter Try.func48, Try.ntmps48
      go_wp2_with (at_builtin; refine wpList_append_run _ rfl (.tmp 5) (.tmp 6) 29 29 rfl _ _ rfl rfl (H _) ?_)
      go_ret
      refine ⟨_, rfl, row_own (cap := 0) (f := yV d) (rowIs_of rfl rfl (fun i hi => by omega)) (fun i hi => by omega) (Nat.le_refl _) (Nat.le_refl _) (by simp [maxLen]), ?_⟩
      (repeat (first | exact Below.refl _ _ | assumption | refine below_drewN ?_ _ | refine bel_grow ?_ _ | refine Below.drew ?_ | refine bel_alloc ?_ _ | refine bel_set ?_ (by first | exact Nat.le_refl _ | (simp; done) | (simp; omega) | omega) _ | refine bel_trans ?_ (by assumption)))
    · obtain ⟨b, o, e, hbl, hcl⟩ := hs (by omega)
      cases e
      replace hcl := Lib.hid hcl
      clear hs
      go_enter Try.func48, Try.ntmps48
      go_wp2_with (at_builtin; refine wpList_append_grows _ rfl (.tmp 5) (.tmp 6) _ rfl 5 i0 _ 1 1 Try.underlying29 hi0.out hz0.out hz1.out hz2.out rfl (by omega) (some ⟨w.heap.size, 0, none⟩) 0 0 [] rfl (fun h => by cases h) ?c0 ?c1 ⟨b, o, none⟩ n c (yL d n) rfl ?c2 ?c3 ?c4 (by omega) ?c5 ?c6 ?_; rotate_right; intro v' w3 hown hg3)
      case c0 => rfl
      case c1 => rintro b ⟨⟩ j u hu; simp at hu
      case c2 => rw [yL_len]; omega
      case c3 => exact news_slis (m := n) (fun j hj => keepc (bel_alloc (Below.refl _ _) _) (hcl.out j hj)) (Nat.le_refl _)
      case c4 => exact yL_one' _ _
      case c5 => simp [maxLen]; omega
      case c6 => omega
      go_ret
      refine ⟨_, rfl, ?_, bel_grown (bel_alloc (Below.refl _ _) _) hg3 (fun k hk => by cases hk)⟩
      rw [Nat.zero_add, List.nil_append] at hown
      exact OwnB.base (b := (w.alloc (.cells #[] 5)).heap.size) hown (by simp)
theorem SlIs.short {w : World} {A : Option Addr} {n m : Nat} {f : Nat → Value} (h : SlIs w A n f) (hm : m ≤ n) : SlIs w A m f := fun h0 => by
  obtain ⟨b, o, e, hl, hc⟩ := h (by omega)
  exact ⟨b, o, e, hl, fun j hj => hc j (by omega)⟩
set_option maxRecDepth 8000 in
set_option maxHeartbeats 4000000 in
theorem take_any (W0 : World) (B : Option Addr) (r c m : Nat) (y : Nat → Int) (g : Nat) (w : World) (hmr : m ≤ r) (hrc : r ≤ c) (hc : c ≤ maxLen) (hr : r ≤ 1000000) (hs : SlIs W0 B r (yV y)) (hB : Below W0.heap.size W0 w) (hg : Blk w g 29 #[.slice B r c]) :
    Calls Try.prog 47 #[.int .i64 m, .pointer (some ⟨g, 0, none⟩)] w fun e w' => ∃ v B' w1, e = .returned v ∧ OwnB w1 w.heap.size v m y ∧ SlIs W0 B' (r - m) (yV (shf y m)) ∧ Below w.heap.size w w1 ∧ w' = w1.setCell ⟨g, 0, none⟩ (.slice B' (r - m) (c - m)) := by
  unfold maxLen at hc
  have HC := Lib.hid (fun W A n c (h : n ≤ 1000000) (hs : SlIs W A n (yV y)) => sclone_any A n c y h W hs)
  have i1 : (0 : Int) ≤ (m : Int) := by omega
  have i2 : (m : Int) ≤ (c : Int) := by omega
  have i3 : (m : Int) ≤ (r : Int) := by omega
  have i4 : m ≤ c := by omega
  have x0 := hg.cell 0
  have xf := hg.frozen 0
  have xl := hg.lt
  replace hg := Lib.hid hg
  replace hB := Lib.hid hB
  have x0' : w.cell? ⟨g, 0, none⟩ = some (.slice B r c) := x0
  clear x0
  by_cases h0 : r = 0
  · subst h0
    obtain rfl : m = 0 := by omega
    clear hs hmr hrc i1 i2 i3 i4
    cases B with
    | none =>
      go_enter Try.func47, Try.ntmps47
      go_wp2_with fail
      refine (HC.out _ _ _ _ (by omega) SlIs.nil).mono ?_
      rintro e9 w9 ⟨v, rfl, hO, hb9⟩
      have gk := hg.out.kept hb9
      have y0 : w9.cell? ⟨g, 0, none⟩ = some (.slice none 0 c) := gk.cell 0
      have yf := gk.frozen 0
      have yl := gk.lt
      replace hO := Lib.hid hO
      replace hb9 := Lib.hid hb9
      clear gk x0' xf xl
      go_wp2_with fail
      go_ret
      exact ⟨v, none, w9, rfl, hO.out, SlIs.nil, hb9.out, rfl⟩
    | some a =>
      go_enter Try.func47, Try.ntmps47
      go_wp2_with fail
      refine (HC.out _ _ _ _ (by omega) SlIs.nil).mono ?_
      rintro e9 w9 ⟨v, rfl, hO, hb9⟩
      have gk := hg.out.kept hb9
      have y0 : w9.cell? ⟨g, 0, none⟩ = some (.slice (some a) 0 c) := gk.cell 0
      have yf := gk.frozen 0
      have yl := gk.lt
      replace hO := Lib.hid hO
      replace hb9 := Lib.hid hb9
      clear gk x0' xf xl
      cases c with
      | zero =>
        go_wp2_with fail
        go_ret
        exact ⟨v, some a, w9, rfl, hO.out, SlIs.nil, hb9.out, rfl⟩
      | succ c =>
        go_wp2_with fail
        go_ret
        exact ⟨v, some a, w9, rfl, hO.out, SlIs.nil, hb9.out, by simp⟩
  · obtain ⟨b, o, rfl, hbl, hcl⟩ := hs (by omega)
    have hsm : SlIs w (some ⟨b, o, none⟩) m (yV y) := ((hs.short hmr).below hB.out)
    replace hs := Lib.hid hs
    replace hcl := Lib.hid hcl
    go_enter Try.func47, Try.ntmps47
    go_wp2_with fail
    refine (HC.out _ _ _ _ (by omega) hsm).mono ?_
    rintro e9 w9 ⟨v, rfl, hO, hb9⟩
    have gk := hg.out.kept hb9
    have y0 : w9.cell? ⟨g, 0, none⟩ = some (.slice (some ⟨b, o, none⟩) r c) := gk.cell 0
    have yf := gk.frozen 0
    have yl := gk.lt
    replace hO := Lib.hid hO
    replace hb9 := Lib.hid hb9
    clear gk x0' xf xl hsm
    by_cases hck : c = m
    · subst hck
      obtain rfl : r = c := by omega
      go_wp2_with fail
      go_ret
      exact ⟨v, some ⟨b, o, none⟩, w9, rfl, hO.out, by rw [Nat.sub_self]; exact SlIs.nil, hb9.out, by simp⟩
    · have i5 : ¬ m = c := by omega
      go_wp2_with fail
      go_ret
      refine ⟨v, some ⟨b, o + m, none⟩, w9, rfl, hO.out, fun h => ⟨b, o + m, rfl, hbl, fun j hj => ?_⟩, hb9.out, ?_⟩
      · rw [Nat.add_assoc]; exact hcl.out (m + j) (by omega)
      · simp [hck]
end Go.Proofs.Ytbmdnifkjcimcaa
