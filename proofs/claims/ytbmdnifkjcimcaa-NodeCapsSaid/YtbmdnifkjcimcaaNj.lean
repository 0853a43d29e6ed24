/-
  Where a key stands: the plain laws; the document's Rises and Ahead, the statements' great, walked.
-/
import Derived.Test.YtbmdnifkjcimcaaNi
namespace Go.Proofs.Ytbmdnifkjcimcaa
set_option linter.unusedVariables false
set_option linter.unusedSimpArgs false
open Go.RowKit

theorem cb_anti : ∀ a b : List UInt8, Lib.compareBytes a b = - Lib.compareBytes b a
  | [], [] => rfl
  | [], _ :: _ => rfl
  | _ :: _, [] => rfl
  | x :: a, y :: b => by
    have h := cb_anti a b
    simp only [Lib.compareBytes]
    by_cases h1 : x < y
    · have h2 : ¬ y < x := by rw [UInt8.lt_iff_toNat_lt] at *; omega
      rw [if_pos h1, if_neg h2, if_pos h1]
    · by_cases h2 : y < x
      · rw [if_neg h1, if_pos h2, if_pos h2]; rfl
      · rw [if_neg h1, if_neg h2, if_neg h2, if_neg h1]; exact h
theorem cb_trans : ∀ a b c : List UInt8, Lib.compareBytes a b < 0 → Lib.compareBytes b c < 0 → Lib.compareBytes a c < 0
  | [], [], _, h, _ => by simp [Lib.compareBytes] at h
  | [], _ :: _, [], _, h => by simp [Lib.compareBytes] at h
  | [], _ :: _, _ :: _, _, _ => by simp [Lib.compareBytes]
  | _ :: _, [], _, h, _ => by simp [Lib.compareBytes] at h
  | _ :: _, _ :: _, [], _, h => by simp [Lib.compareBytes] at h
  | x :: a, y :: b, z :: c, h1, h2 => by
    have ih := cb_trans a b c
    simp only [Lib.compareBytes] at h1 h2 ⊢
    simp only [UInt8.lt_iff_toNat_lt] at h1 h2 ⊢
    by_cases a1 : x.toNat < y.toNat
    · by_cases b1 : y.toNat < z.toNat
      · rw [if_pos (by omega)]; decide
      · rw [if_neg b1] at h2
        by_cases b2 : z.toNat < y.toNat
        · rw [if_pos b2] at h2; simp at h2
        · rw [if_pos (by omega)]; decide
    · rw [if_neg a1] at h1
      by_cases a2 : y.toNat < x.toNat
      · rw [if_pos a2] at h1; simp at h1
      · rw [if_neg a2] at h1
        by_cases b1 : y.toNat < z.toNat
        · rw [if_pos (by omega)]; decide
        · rw [if_neg b1] at h2
          by_cases b2 : z.toNat < y.toNat
          · rw [if_pos b2] at h2; simp at h2
          · rw [if_neg b2] at h2
            rw [if_neg (by omega), if_neg (by omega)]
            exact ih h1 h2
/-- how many of the first n -/
def cntB (p : Nat → Bool) : Nat → Nat
  | 0 => 0
  | k + 1 => if p k = true then cntB p k + 1 else cntB p k
theorem cntB_le (p : Nat → Bool) : ∀ n, cntB p n ≤ n
  | 0 => Nat.le_refl _
  | n + 1 => by have := cntB_le p n; unfold cntB; split <;> omega
theorem cntB_is {p : Nat → Bool} {i : Nat} : ∀ {n : Nat}, (∀ j, j < n → (p j = true ↔ j < i)) → cntB p n = if i ≤ n then i else n
  | 0, _ => by simp [cntB]; omega
  | n + 1, h => by
    have ih := cntB_is (n := n) (fun j hj => h j (by omega))
    have hn := h n (by omega)
    unfold cntB
    by_cases hp : p n = true
    · have := hn.1 hp
      rw [if_pos hp, ih, if_neg (by omega)]
      split <;> omega
    · have : ¬ n < i := fun t => hp (hn.2 t)
      rw [if_neg hp, ih, if_pos (by omega), if_pos (by omega)]
section
variable {y : Nat → Int} {l kn : Nat} {KL : Nat → Nat} {K : Nat → Nat → Int}
theorem cmpK_anti (i : Nat) : cmpB (K i) (KL i) y l = - cmpK y l KL K i := cb_anti _ _
theorem rise_at (h : riseB KL K kn = true) {i : Nat} (hi : i + 1 < kn) : cmpB (K i) (KL i) (K (i + 1)) (KL (i + 1)) < 0 := by
  have t := anyB_no (by simpa [riseB] using h) i (by omega)
  simpa using t
theorem cmpK_up (h : riseB KL K kn = true) {i : Nat} (hi : i + 1 < kn) (hg : 0 < cmpK y l KL K (i + 1)) : 0 < cmpK y l KL K i := by
  have h1 := rise_at h hi
  have h2 := cmpK_anti (y := y) (l := l) (KL := KL) (K := K) (i + 1)
  have h3 := cb_trans _ _ _ h1 (show Lib.compareBytes (bL (K (i + 1)) (KL (i + 1))) (bL y l) < 0 by show cmpB _ _ _ _ < 0; rw [h2]; omega)
  have h4 := cmpK_anti (y := y) (l := l) (KL := KL) (K := K) i
  have h5 : cmpB (K i) (KL i) y l < 0 := h3
  omega
theorem cmpK_down (h : riseB KL K kn = true) {i : Nat} (hi : i + 1 < kn) (hg : cmpK y l KL K i < 0) : cmpK y l KL K (i + 1) < 0 := cb_trans _ _ _ hg (rise_at h hi)
theorem cmpK_ups (h : riseB KL K kn = true) {j : Nat} : ∀ m, j + m < kn → 0 < cmpK y l KL K (j + m) → 0 < cmpK y l KL K j
  | 0, _, hg => hg
  | m + 1, hj, hg => cmpK_ups h m (by omega) (cmpK_up h (by omega) hg)
theorem cmpK_downs (h : riseB KL K kn = true) {j : Nat} : ∀ m, j + m < kn → cmpK y l KL K j < 0 → cmpK y l KL K (j + m) < 0
  | 0, _, hg => hg
  | m + 1, hj, hg => cmpK_down h (by omega) (cmpK_downs h m (by omega) hg)
theorem find_is (h : riseB KL K kn = true) {i : Nat} (hi : i ≤ kn) (h1 : i = 0 ∨ 0 < cmpK y l KL K (i - 1)) (h2 : i = kn ∨ cmpK y l KL K i ≤ 0) :
    cntB (fun j => decide (cmpB (K j) (KL j) y l < 0)) kn = i := by
  rw [cntB_is (i := i) (fun j hj => ?_), if_pos hi]
  rw [decide_eq_true_iff, cmpK_anti]
  constructor
  · intro hg
    rcases Nat.lt_or_ge j i with c | c
    · exact c
    · exfalso
      have := cmpK_ups (y := y) (l := l) h (j := i) (j - i) (by omega) (by rw [show i + (j - i) = j by omega]; omega)
      omega
  · intro c
    have := cmpK_ups (y := y) (l := l) h (j := j) (i - 1 - j) (by omega) (by rw [show j + (i - 1 - j) = i - 1 by omega]; omega)
    omega
theorem search_is (h : riseB KL K kn = true) {i : Nat} (hi : i ≤ kn) (h1 : i = 0 ∨ decide (cmpK y l KL K (i - 1) < 0) = false) (h2 : i = kn ∨ decide (cmpK y l KL K i < 0) = true) :
    cntB (fun j => decide (cmpB (K j) (KL j) y l ≤ 0)) kn = i := by
  simp only [decide_eq_false_iff_not, decide_eq_true_iff] at h1 h2
  rw [cntB_is (i := i) (fun j hj => ?_), if_pos hi]
  rw [decide_eq_true_iff, cmpK_anti]
  constructor
  · intro hg
    rcases Nat.lt_or_ge j i with c | c
    · exact c
    · exfalso
      have := cmpK_downs (y := y) (l := l) h (j := i) (j - i) (by omega) (by omega)
      rw [show i + (j - i) = j by omega] at this
      omega
  · intro c
    rcases Int.lt_or_le (cmpK y l KL K j) 0 with d | d
    · exfalso
      have := cmpK_downs (y := y) (l := l) h (j := j) (i - 1 - j) (by omega) d
      rw [show j + (i - 1 - j) = i - 1 by omega] at this
      omega
    · omega
theorem ok_is {i k : Nat} (hi : i ≤ kn) (hk : k ≤ kn) (h2 : i = kn ∨ cmpK y l KL K i ≤ 0) (h1 : i = 0 ∨ 0 < cmpK y l KL K (i - 1)) (k1 : k = 0 ∨ decide (cmpK y l KL K (k - 1) < 0) = false) (k2 : k = kn ∨ decide (cmpK y l KL K k < 0) = true) (h : riseB KL K kn = true) :
    (decide (i < kn) && (cmpK y l KL K i == 0)) = decide (i < k) := by
  simp only [decide_eq_false_iff_not, decide_eq_true_iff] at k1 k2
  rw [Bool.eq_iff_iff]
  simp only [Bool.and_eq_true, decide_eq_true_eq, beq_iff_eq]
  constructor
  · rintro ⟨a1, a2⟩
    rcases Nat.lt_or_ge i k with c | c
    · exact c
    · exfalso
      have := cmpK_downs (y := y) (l := l) h (j := k) (i - k) (by omega) (by omega)
      rw [show k + (i - k) = i by omega] at this
      omega
  · intro c
    refine ⟨by omega, ?_⟩
    rcases Int.lt_or_le (cmpK y l KL K i) 0 with d | d
    · exfalso
      have := cmpK_downs (y := y) (l := l) h (j := i) (k - 1 - i) (by omega) d
      rw [show i + (k - 1 - i) = k - 1 by omega] at this
      omega
    · omega
end
/-- texts of rows -/
def sV (L : Nat → Nat) (R : Nat → Nat → Int) (i : Nat) : Value := .string (strF (R i) (L i))
set_option maxRecDepth 8000 in
set_option maxHeartbeats 2000000 in
theorem refrises_any (A : Option Addr) (n c : Nat) (L : Nat → Nat) (R : Nat → Nat → Int) (w : World) (hn : n ≤ 1000000) (hL : ∀ i, i < n → L i ≤ 1000000) (hR : ∀ i j, 0 ≤ R i j ∧ R i j < 256) (hs : SlIs w A n (sV L R)) :
    Calls Try.prog 15 #[.slice A n c] w fun r w' => r = .returned (.bool (riseB L R n)) ∧ Below w.heap.size w w' := by
  have HX : ∀ i, Hid ((fun i => decide (0 ≤ cmpB (R i) (L i) (R (i + 1)) (L (i + 1)))) i = decide (0 ≤ cmpB (R i) (L i) (R (i + 1)) (L (i + 1)))) := fun i => Lib.hid rfl
  have HC0 := Lib.hid (fun k (h1 : 1 ≤ k) (hk : k < n) w => rcmp3_any (L (k - 1)) (L k) (R (k - 1)) (R k) (hR _) (hR _) (by have := hL (k - 1) (by omega); unfold maxLen; omega) (by have := hL k hk; unfold maxLen; omega) w)
  unfold riseB
  generalize (fun i => decide (0 ≤ cmpB (R i) (L i) (R (i + 1)) (L (i + 1)))) = xs at *
  replace hs := Lib.hid hs
  replace HX := Lib.hid HX
  clear hR hL
  go_enter Try.func15, Try.ntmps15
  go_wp2
  go_loopw [3] (fun i wr => ∃ k : Nat, 1 ≤ k ∧ (k ≤ n ∨ k = 1) ∧ i = .int .i64 k ∧ Hid (∀ j, j + 1 < k → xs j = false) ∧ Hid (Below w.heap.size w wr)) (fun i _ => n - (intOf i).toNat)
  case atStart => exact ⟨1, by omega, by omega, rfl, fun j h => by omega, Below.refl _ _⟩
  case round =>
    obtain ⟨k, hk1, hk, rfl, hx, hb⟩ := hrel
    by_cases hlt : k < n
    · obtain ⟨b, o, rfl, hbl, hcl⟩ := (hs.out.below hb.out) (by omega)
      have hc1 : wr.cell? ⟨b, o + (k - 1), none⟩ = some (.string (strF (R (k - 1)) (L (k - 1)))) := hcl (k - 1) (by omega)
      have hc2 : wr.cell? ⟨b, o + k, none⟩ = some (.string (strF (R k) (L k))) := hcl k hlt
      clear hcl
      have HC := Lib.hid (fun d => HC0.out k hk1 hlt (Grow wr d))
      have hv := HX.out (k - 1)
      rw [show k - 1 + 1 = k by omega] at hv
      generalize cmpB (R (k - 1)) (L (k - 1)) (R k) (L k) = z at *
      generalize strF (R (k - 1)) (L (k - 1)) = s1 at *
      generalize strF (R k) (L k) = s2 at *
      have e1 : ((k : Int) - 1).toNat = k - 1 := by omega
      have e2 : 0 ≤ (k : Int) - 1 := by omega
      have e3 : (k : Int) - 1 < n := by omega
      cases hz : decide (0 ≤ z)
      · have hxk : xs (k - 1) = false := hv.out.trans hz
        replace hxk := Lib.hid hxk
        go_wp2_with fail
        first | (with_reducible refine rgrow2 (by kernel_rfl) (by kernel_rfl) ?_) | (refine rgrow (by kernel_rfl) (by kernel_rfl) ?_)
        repeat (go_big_quiet_step (((go_at_call 32; exact grow_call (HC.out _)))))
        refine wpQuiet_nil ?_
        intro dr
        go_wp2
        go_roundw
        case rel => exact ⟨k + 1, by omega, by omega, by go_num, fun j hj => by by_cases e : j = k - 1; (subst e; exact hxk.out); exact hx.out j (by omega), by have t := hb.out; show Below _ _ _; (repeat (first | exact Below.refl _ _ | assumption | refine below_drewN ?_ _ | refine bel_grow ?_ _ | refine Below.drew ?_ | refine bel_alloc ?_ _ | refine bel_set ?_ (by first | exact Nat.le_refl _ | (simp; done) | (simp; omega) | omega) _ | refine bel_trans ?_ (by assumption)))⟩
        case measure => simp [intOf]; omega
      · have hxk : xs (k - 1) = true := hv.out.trans hz
        replace hxk := Lib.hid hxk
        go_wp2_with fail
        first | (with_reducible refine rgrow2 (by kernel_rfl) (by kernel_rfl) ?_) | (refine rgrow (by kernel_rfl) (by kernel_rfl) ?_)
        repeat (go_big_quiet_step (((go_at_call 32; exact grow_call (HC.out _)))))
        refine wpQuiet_nil ?_
        intro dr
        go_wp2
        go_ret
        exact ⟨by rw [anyB_true hxk.out (by omega)]; rfl, by have t := hb.out; (repeat (first | exact Below.refl _ _ | assumption | refine below_drewN ?_ _ | refine bel_grow ?_ _ | refine Below.drew ?_ | refine bel_alloc ?_ _ | refine bel_set ?_ (by first | exact Nat.le_refl _ | (simp; done) | (simp; omega) | omega) _ | refine bel_trans ?_ (by assumption)))⟩
    · go_wp2
      go_ret
      exact ⟨by rw [anyB_false (fun j hj => hx.out j (by omega))]; rfl, hb.out⟩
set_option maxRecDepth 8000 in
set_option maxHeartbeats 2000000 in
theorem ahead_any (A : Option Addr) (n c l : Nat) (L : Nat → Nat) (R : Nat → Nat → Int) (y : Nat → Int) (w : World) (hn : n ≤ 1000000) (hl : l ≤ 1000000) (hy : ∀ i, 0 ≤ y i ∧ y i < 256) (hL : ∀ i, i < n → L i ≤ 1000000) (hR : ∀ i j, 0 ≤ R i j ∧ R i j < 256) (hs : SlIs w A n (sV L R)) :
    Calls Try.prog 16 #[.slice A n c, .string (strF y l)] w fun r w' => r = .returned (.tuple #[.int .i64 (cntB (fun j => decide (cmpB (R j) (L j) y l < 0)) n), .int .i64 (cntB (fun j => decide (cmpB (R j) (L j) y l ≤ 0)) n)]) ∧ Below w.heap.size w w' := by
  have HC0 := Lib.hid (fun k (hk : k < n) w => rcmp3_any (L k) l (R k) y (hR _) hy (by have := hL k hk; unfold maxLen; omega) (by unfold maxLen; omega) w)
  have P1 := Lib.hid (fun m => (show cntB (fun j => decide (cmpB (R j) (L j) y l < 0)) (m + 1) = if cmpB (R m) (L m) y l < 0 then cntB (fun j => decide (cmpB (R j) (L j) y l < 0)) m + 1 else cntB (fun j => decide (cmpB (R j) (L j) y l < 0)) m by simp [cntB]))
  have P2 := Lib.hid (fun m => (show cntB (fun j => decide (cmpB (R j) (L j) y l ≤ 0)) (m + 1) = if cmpB (R m) (L m) y l ≤ 0 then cntB (fun j => decide (cmpB (R j) (L j) y l ≤ 0)) m + 1 else cntB (fun j => decide (cmpB (R j) (L j) y l ≤ 0)) m by simp [cntB]))
  have Q1 := Lib.hid (fun m => cntB_le (fun j => decide (cmpB (R j) (L j) y l < 0)) m)
  have Q2 := Lib.hid (fun m => cntB_le (fun j => decide (cmpB (R j) (L j) y l ≤ 0)) m)
  have Z1 : cntB (fun j => decide (cmpB (R j) (L j) y l < 0)) 0 = 0 := rfl
  have Z2 : cntB (fun j => decide (cmpB (R j) (L j) y l ≤ 0)) 0 = 0 := rfl
  generalize cntB (fun j => decide (cmpB (R j) (L j) y l < 0)) = ca at *
  generalize cntB (fun j => decide (cmpB (R j) (L j) y l ≤ 0)) = cb at *
  replace Z1 := Lib.hid Z1
  replace Z2 := Lib.hid Z2
  replace hs := Lib.hid hs
  clear hR hL hy
  generalize strF y l = sy at *
  go_enter Try.func16, Try.ntmps16
  go_wp2
  go_loopw [6, 7, 8] (fun u v i wr => ∃ m a b : Nat, m ≤ n ∧ a ≤ m ∧ b ≤ m ∧ i = .int .i64 m ∧ u = .int .i64 a ∧ v = .int .i64 b ∧ Hid (a = ca m) ∧ Hid (b = cb m) ∧ Hid (Below w.heap.size w wr)) (fun _ _ i _ => n - (intOf i).toNat)
  case atStart => exact ⟨0, 0, 0, by omega, by omega, by omega, rfl, rfl, rfl, Z1.out.symm, Z2.out.symm, Below.refl _ _⟩
  case round =>
    obtain ⟨m, a, b, hm, ha, hb', rfl, rfl, rfl, hca, hcb, hb⟩ := hrel
    by_cases hlt : m < n
    · obtain ⟨b0, o, rfl, hbl, hcl⟩ := (hs.out.below hb.out) (by omega)
      have hc1 : wr.cell? ⟨b0, o + m, none⟩ = some (.string (strF (R m) (L m))) := hcl m hlt
      clear hcl
      have HC := Lib.hid (HC0.out m hlt wr)
      have p1 := P1.out m
      have p2 := P2.out m
      generalize cmpB (R m) (L m) y l = z at *
      generalize strF (R m) (L m) = s1 at *
      replace p1 := Lib.hid p1
      replace p2 := Lib.hid p2
      rcases Int.lt_trichotomy z 0 with g | g | g
      · have d1 : decide (z < 0) = true := decide_eq_true g
        have d2 : decide (z ≤ 0) = true := decide_eq_true (by omega)
        go_wp2_with fail
        refine HC.out.mono ?_
        rintro e w2 ⟨rfl, hb2⟩
        go_wp2
        go_roundw
        case rel => exact ⟨m + 1, a + 1, b + 1, by omega, by omega, by omega, by go_num, by go_num, by go_num, (show a + 1 = ca (m + 1) by rw [p1.out, if_pos g, hca.out]), (show b + 1 = cb (m + 1) by rw [p2.out, if_pos (by omega), hcb.out]), bel_eld hb.out hb2⟩
        case measure => simp [intOf]; omega
      · have d1 : decide (z < 0) = false := decide_eq_false (by omega)
        have d2 : decide (z ≤ 0) = true := decide_eq_true (by omega)
        replace g := Lib.hid g
        go_wp2_with fail
        refine HC.out.mono ?_
        rintro e w2 ⟨rfl, hb2⟩
        go_wp2
        go_roundw
        case rel => exact ⟨m + 1, a, b + 1, by omega, by omega, by omega, by go_num, rfl, by go_num, (show a = ca (m + 1) by rw [p1.out, if_neg (by have := g.out; omega), hca.out]), (show b + 1 = cb (m + 1) by rw [p2.out, if_pos (by have := g.out; omega), hcb.out]), bel_eld hb.out hb2⟩
        case measure => simp [intOf]; omega
      · have d1 : decide (z < 0) = false := decide_eq_false (by omega)
        have d2 : decide (z ≤ 0) = false := decide_eq_false (by omega)
        go_wp2_with fail
        refine HC.out.mono ?_
        rintro e w2 ⟨rfl, hb2⟩
        go_wp2
        go_roundw
        case rel => exact ⟨m + 1, a, b, by omega, by omega, by omega, by go_num, rfl, rfl, (show a = ca (m + 1) by rw [p1.out, if_neg (by omega), hca.out]), (show b = cb (m + 1) by rw [p2.out, if_neg (by omega), hcb.out]), bel_eld hb.out hb2⟩
        case measure => simp [intOf]; omega
    · obtain rfl : m = n := by omega
      go_wp2
      go_ret2
      exact ⟨by rw [← hca.out, ← hcb.out]; rfl, hb.out⟩
end Go.Proofs.Ytbmdnifkjcimcaa
