/-
  KeyNext: the plain law, and the walk.
-/
import Derived.Test.YtkgjpebekcgagaaKi
namespace Go.Proofs.Ytkgjpebekcgagaa
set_option linter.unusedVariables false
set_option linter.unusedSimpArgs false
open Go.RowKit

theorem first_diff (d e : Nat → Int) : ∀ n, (∀ i, i < n → d i = e i) ∨ ∃ k, k < n ∧ (∀ j, j < k → d j = e j) ∧ d k ≠ e k
  | 0 => Or.inl (fun i hi => by omega)
  | n + 1 => by
    rcases first_diff d e n with h | ⟨k, h1, h2, h3⟩
    · by_cases g : d n = e n
      · refine Or.inl (fun i hi => ?_)
        by_cases q : i = n
        · rw [q]; exact g
        · exact h i (by omega)
      · exact Or.inr ⟨n, by omega, h, g⟩
    · exact Or.inr ⟨k, by omega, h2, h3⟩
section
variable {d e : Nat → Int} {n m : Nat} (hd : ∀ i, 0 ≤ d i ∧ d i < 256) (he : ∀ i, 0 ≤ e i ∧ e i < 256)
include hd he
theorem cmpB_at {k : Nat} (h1 : k < n) (h2 : k < m) (h : ∀ j, j < k → d j = e j) (hk : d k ≠ e k) : cmpB d n e m = if d k < e k then -1 else 1 := by
  rw [cmpB_lt hd he k (by omega) (by omega) h, cmp_step hd he h1 h2]
  by_cases g : d k < e k
  · rw [if_pos g, if_pos g]
  · rw [if_neg g, if_pos (by omega), if_neg g]
theorem cmpB_all (h : ∀ j, j < n → d j = e j) : cmpB d n e n = 0 := by
  rw [cmpB_lt hd he n (Nat.le_refl _) (Nat.le_refl _) h, cmp_end (Or.inl rfl) (Nat.le_refl _) (Nat.le_refl _), if_neg (by omega), if_neg (by omega)]
theorem cmpB_cases : cmpB d n e n = 0 ∧ (∀ j, j < n → d j = e j) ∨ ∃ k, k < n ∧ (∀ j, j < k → d j = e j) ∧ (cmpB d n e n = -1 ∧ d k < e k ∨ cmpB d n e n = 1 ∧ e k < d k) := by
  rcases first_diff d e n with h | ⟨k, h1, h2, h3⟩
  · exact Or.inl ⟨cmpB_all hd he h, h⟩
  · refine Or.inr ⟨k, h1, h2, ?_⟩
    rw [cmpB_at hd he h1 h1 h2 h3]
    by_cases g : d k < e k
    · exact Or.inl ⟨if_pos g, g⟩
    · exact Or.inr ⟨if_neg g, by omega⟩
end
section
variable {d e : Nat → Int} {n : Nat} (hd : ∀ i, 0 ≤ d i ∧ d i < 256) (he : ∀ i, 0 ≤ e i ∧ e i < 256)
include hd he
theorem gap_no (h : lp d n = 0) : cmpB e n d n ≤ 0 := by
  rcases cmpB_cases he hd (n := n) with ⟨h1, _⟩ | ⟨k, h1, h2, ⟨h3, _⟩ | ⟨h3, h4⟩⟩
  · omega
  · omega
  · have := lp_255 d n k (by omega) h1
    have := he k
    omega
omit he in
theorem gap_less (h : 0 < lp d n) : cmpB d n (nxt d (lp d n)) n < 0 := by
  have h1 := lp_le d n
  have h2 : nxt d (lp d n) (lp d n - 1) = d (lp d n - 1) + 1 := by unfold nxt; rw [if_neg (by omega), if_pos (by omega)]
  rw [cmpB_at hd (nxt_lo hd h) (k := lp d n - 1) (by omega) (by omega) (fun j hj => by unfold nxt; rw [if_pos (by omega)]) (by omega), if_pos (by omega)]
  decide
theorem gap_yes (h : 0 < lp d n) : cmpB e n d n ≤ 0 ∨ cmpB (nxt d (lp d n)) n e n ≤ 0 := by
  have hp1 := lp_le d n
  have hN := nxt_lo hd h
  rcases cmpB_cases he hd (n := n) with ⟨h1, _⟩ | ⟨k, h1, h2, ⟨h3, _⟩ | ⟨h3, h4⟩⟩
  · exact Or.inl (by omega)
  · exact Or.inl (by omega)
  · right
    have hk : k < lp d n := by
      rcases Nat.lt_or_ge k (lp d n) with g | g
      · exact g
      · have := lp_255 d n k g h1
        have := he k
        omega
    rcases cmpB_cases hN he (n := n) with ⟨g1, _⟩ | ⟨i, g1, g2, ⟨g3, _⟩ | ⟨g3, g4⟩⟩
    · omega
    · omega
    · exfalso
      have hi := he i
      by_cases a : i + 1 < lp d n
      · have e1 : nxt d (lp d n) i = d i := by unfold nxt; rw [if_pos a]
        rw [e1] at g4
        rcases Nat.lt_trichotomy i k with b | b | b
        · have := h2 i b; omega
        · rw [b] at g4; omega
        · have e2 := g2 k b
          unfold nxt at e2
          rw [if_pos (by omega)] at e2
          omega
      · by_cases b : i + 1 = lp d n
        · have e1 : nxt d (lp d n) i = d i + 1 := by unfold nxt; rw [if_neg a, if_pos b]
          rw [e1] at g4
          rcases Nat.lt_trichotomy i k with c | c | c
          · omega
          · rw [c] at g4; omega
          · have e2 := g2 k c
            unfold nxt at e2
            rw [if_pos (by omega)] at e2
            omega
        · have e1 : nxt d (lp d n) i = 0 := by unfold nxt; rw [if_neg a, if_neg b]
          omega
end

set_option maxHeartbeats 4000000 in
theorem keyNext_any (A : Option Addr) (n c : Nat) (x : Nat → Int) (hx : ∀ i, 0 ≤ x i ∧ x i < 256) (hn : n ≤ maxLen) (B : Option Addr) (m k : Nat) (y : Nat → Int) (hy : ∀ i, 0 ≤ y i ∧ y i < 256) (hm : m ≤ maxLen) (w : World) (hA : SlIs w A n (yV x)) (hB : SlIs w B m (yV y)) :
    Calls Try.prog 4 #[.slice A n c, .slice B m k] w fun r w' => r = .returned (.bool true) ∧ Below w.heap.size w w' := by
  unfold maxLen at hn hm
  have HX := Lib.hid (fun w => fixed03_any w)
  by_cases hg : n ≤ 30 ∧ m = n
  · obtain ⟨h30, rfl⟩ := hg
    by_cases hp : lp x m = 0
    · have HN : Calls Try.prog 8 #[.slice A m c] w fun r w' => r = .returned (.tuple #[.slice none 0 0, .bool false]) ∧ Below w.heap.size w w' := by
        rcases Nat.eq_zero_or_pos m with h0 | h0
        · subst h0; exact next_nil A c x w
        · exact next_no A m c x (by omega) h0 hx hp w hA
      have HC := Lib.hid (fun W (hb : Below w.heap.size w W) => kcmp_any B A m k m c y x W (hB.below hb) (hA.below hb))
      have hle := gap_no hx hy hp
      replace HN := Lib.hid HN
      clear hp hA hB hx hy
      generalize cmpB y m x m = v at *
      have hle2 : decide (v ≤ 0) = true := decide_eq_true hle
      replace hle := Lib.hid hle
      go_enter Try.func4, Try.ntmps4
      go_wp2_with fail
      refine HN.out.mono ?_
      rintro r w1 ⟨rfl, hb1⟩
      replace hb1 := Lib.hid hb1
      go_wp2_with fail
      refine (HX.out _).mono ?_
      rintro r w2 ⟨rfl, hb2⟩
      replace hb2 := Lib.hid (bel_eld hb1.out hb2)
      go_wp2_with fail
      refine (HC.out _ hb2.out).mono ?_
      rintro r w3 ⟨rfl, hb3⟩
      replace hb3 := Lib.hid (bel_eld hb2.out hb3)
      go_wp2_with fail
      go_ret
      exact ⟨rfl, hb3.out⟩
    · have hp' : 0 < lp x m := by omega
      have HN := Lib.hid (next_yes A m c x (by omega) hx hp' w hA)
      have hN := nxt_lo hx hp'
      have HC1 := Lib.hid (fun W G c2 (hG : SlIs W G m (yV (nxt x (lp x m)))) (hb : Below w.heap.size w W) => kcmp_any A G m c m c2 x (nxt x (lp x m)) W (hA.below hb) hG)
      have HC2 := Lib.hid (fun W (hb : Below w.heap.size w W) => kcmp_any B A m k m c y x W (hB.below hb) (hA.below hb))
      have HC3 := Lib.hid (fun W G c2 (hG : SlIs W G m (yV (nxt x (lp x m)))) (hb : Below w.heap.size w W) => kcmp_any G B m c2 m k (nxt x (lp x m)) y W hG (hB.below hb))
      have l1 := gap_less hx hp'
      have l2 := gap_yes hx hy hp'
      clear hp hp' hA hB hx hy hN
      generalize nxt x (lp x m) = z at *
      generalize cmpB x m z m = v1 at *
      generalize cmpB y m x m = v2 at *
      generalize cmpB z m y m = v3 at *
      have l1' : decide (v1 < 0) = true := decide_eq_true l1
      replace l1 := Lib.hid l1
      go_enter Try.func4, Try.ntmps4
      go_wp2_with fail
      refine HN.out.mono ?_
      rintro r w1 ⟨v, rfl, ho, hb1⟩
      obtain ⟨G, c2, rfl, hG⟩ := ho.slis
      replace hG := Lib.hid hG
      replace hb1 := Lib.hid hb1
      clear ho HN
      go_wp2_with fail
      refine (HX.out _).mono ?_
      rintro r w2 ⟨rfl, hb2⟩
      replace hG := Lib.hid (hG.out.below hb2)
      replace hb2 := Lib.hid (bel_eld hb1.out hb2)
      clear hb1
      go_wp2_with fail
      refine (HC1.out _ _ _ hG.out hb2.out).mono ?_
      rintro r w3 ⟨rfl, hb3⟩
      replace hG := Lib.hid (hG.out.below hb3)
      replace hb3 := Lib.hid (bel_eld hb2.out hb3)
      clear hb2
      go_wp2_with fail
      refine (HC2.out _ hb3.out).mono ?_
      rintro r w4 ⟨rfl, hb4⟩
      replace hG := Lib.hid (hG.out.below hb4)
      replace hb4 := Lib.hid (bel_eld hb3.out hb4)
      clear hb3
      by_cases g : v2 ≤ 0
      · have g1 : decide (v2 ≤ 0) = true := decide_eq_true g
        replace g := Lib.hid g
        replace l2 := Lib.hid l2
        go_wp2_with fail
        go_ret
        exact ⟨rfl, hb4.out⟩
      · have g1 : decide (v2 ≤ 0) = false := decide_eq_false g
        have g2 : decide (v3 ≤ 0) = true := decide_eq_true (by omega)
        replace g := Lib.hid g
        replace l2 := Lib.hid l2
        go_wp2_with fail
        refine (HC3.out _ _ _ hG.out hb4.out).mono ?_
        rintro r w5 ⟨rfl, hb5⟩
        replace hb5 := Lib.hid (bel_eld hb4.out hb5)
        go_wp2_with fail
        go_ret
        exact ⟨rfl, hb5.out⟩
  · clear hA hB hx hy
    go_enter Try.func4, Try.ntmps4
    by_cases h30 : (30 : Int) < n
    · go_wp2_with fail
      refine (HX.out _).mono ?_
      rintro r w2 ⟨rfl, hb2⟩
      replace hb2 := Lib.hid hb2
      go_wp2_with fail
      go_ret
      exact ⟨rfl, hb2.out⟩
    · have hne : ((m : Int) != n) = true := by rw [bne_iff_ne]; omega
      have h30' : decide ((30 : Int) < n) = false := decide_eq_false h30
      go_wp2_with fail
      refine (HX.out _).mono ?_
      rintro r w2 ⟨rfl, hb2⟩
      replace hb2 := Lib.hid hb2
      go_wp2_with fail
      go_ret
      exact ⟨rfl, hb2.out⟩
end Go.Proofs.Ytkgjpebekcgagaa
