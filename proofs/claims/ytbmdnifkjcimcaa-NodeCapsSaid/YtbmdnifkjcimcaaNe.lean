/-
  slices.Concat of rows of as many bytes each; node.Write, walked.
-/
import Derived.Test.YtbmdnifkjcimcaaJ5
import Derived.Test.YtbmdnifkjcimcaaAppB
import Derived.Test.YtbmdnifkjcimcaaRows4
import Derived.Test.YtbmdnifkjcimcaaCatA
import Derived.Test.YtbmdnifkjcimcaaOwn
import Derived.Deep.RegionLaw
namespace Go.Proofs.Ytbmdnifkjcimcaa
set_option linter.unusedVariables false
set_option linter.unusedSimpArgs false
open Go.RowKit

theorem RsIs.atk {w : World} {A : Option Addr} {n k : Nat} {L : Nat → Nat} {R : Nat → Nat → Int} (h : RsIs w A n L R) (hL : ∀ i, i < n → L i = k) {i : Nat} (hi : i < n) :
    ∃ b o B C, A = some ⟨b, o, none⟩ ∧ b < w.heap.size ∧ w.cell? ⟨b, o + i, none⟩ = some (.slice B k C) ∧ k ≤ C ∧ C ≤ maxLen ∧ SlIs w B k (yV (R i)) := by
  obtain ⟨b, o, B, C, e, hl, hc, h1, h2, h3⟩ := h.at hi
  rw [hL i hi] at hc h1 h3
  exact ⟨b, o, B, C, e, hl, hc, h1, h2, h3⟩
set_option maxRecDepth 8000 in
set_option maxHeartbeats 4000000 in
theorem concatN_any (A : Option Addr) (n c k : Nat) (L : Nat → Nat) (R : Nat → Nat → Int) (h0 : 0 < n) (hk0 : 0 < k) (hT : n * k ≤ 100000) (hL : ∀ i, i < n → L i = k) (w : World) (hR : RsIs w A n L R) :
    Calls Try.prog 33 #[.slice A n c] w fun r w' => ∃ v, r = .returned v ∧ OwnB w' w.heap.size v (n * k) (rowsF k R) ∧ Below w.heap.size w w' := by
  have hn1 : n ≤ 100000 := Nat.le_trans (Nat.le_mul_of_pos_right n hk0) hT
  have hTk := fun i (hi : i < n) => (show i * k + k ≤ n * k by rw [← Nat.succ_mul]; exact Nat.mul_le_mul_right k hi)
  have hT0 : 0 < n * k := Nat.mul_pos h0 hk0
  replace hTk := Lib.hid hTk
  replace hL := Lib.hid hL
  replace hR := Lib.hid hR
  generalize hTT : n * k = T at *
  replace hTT := Lib.hid hTT
  go_enter Try.func33, Try.ntmps33
  go_wp2
  go_loop [3, 11] (fun s i => ∃ m N : Nat, m ≤ n ∧ i = .int .i64 m ∧ s = .int .i64 N ∧ N ≤ T ∧ Hid (N = m * k)) (fun _ i => n - (intOf i).toNat)
  case atStart => exact ⟨0, 0, by omega, rfl, rfl, by omega, by unfold Hid; omega⟩
  case round =>
    obtain ⟨m, N, hm, rfl, rfl, hN, hmk⟩ := hrel
    by_cases hlt : m < n
    · obtain ⟨b, o, B, C, rfl, hbl, hc, _, _, _⟩ := hR.out.atk hL.out hlt
      have hNk := hTk.out m hlt
      rw [← hmk.out] at hNk
      have d1 : decide ((N : Int) + (k : Int) < 0) = false := decide_eq_false (by omega)
      go_wp2
      go_round
      case rel => exact ⟨m + 1, N + k, by omega, by go_num, by go_num, hNk, (show N + k = (m + 1) * k by rw [hmk.out, Nat.succ_mul])⟩
      case measure => simp [intOf]; omega
    · obtain rfl : m = n := by omega
      obtain rfl : N = T := by rw [hmk.out, hTT.out]
      go_wp2_with fail
      refine (grow_nil N _ rfl (by omega) (by omega) (rowsF k R) _).mono ?_
      rintro e1 w1 ⟨v1, rfl, ho1, hb1⟩
      go_wp2_with fail
      go_loopw [6, 27] (fun s i wr => ∃ m' N' : Nat, m' ≤ m ∧ i = .int .i64 m' ∧ Hid (N' = m' * k) ∧ Hid (OwnB wr w.heap.size s N' (rowsF k R)) ∧ Hid (Below w.heap.size w wr)) (fun _ i _ => m - (intOf i).toNat)
      case atStart => exact ⟨0, 0, by omega, rfl, by unfold Hid; omega, ho1, hb1⟩
      case round =>
        obtain ⟨m', N', hm', rfl, hmk', ho, hb⟩ := hrel
        by_cases hlt' : m' < m
        · obtain ⟨b, o, B, C, rfl, hbl, hc, _, _, s1⟩ := (hR.out.below hb.out).atk hL.out hlt'
          have hNk := hTk.out m' hlt'
          rw [← hmk'.out] at hNk
          have hsz := hb.out.size
          replace s1 := Lib.hid s1
          go_wp2_with (at_builtin; refine wpList_appB rfl (.tmp 31) (.tmp 32) rfl rfl rfl ho.out s1.out (by omega) hsz ?_; intro v2 w2 ho2 hb2)
          go_roundw
          case rel => exact ⟨m' + 1, N' + k, by omega, by go_num, (show N' + k = (m' + 1) * k by rw [hmk'.out, Nat.succ_mul]), ho2.cast rfl (rowsF_step hmk'.out), hb.out.trans hb2⟩
          case measure => simp [intOf]; omega
        · obtain rfl : m' = m := by omega
          go_wp2_with fail
          go_ret
          exact ⟨_, rfl, (by have t := ho.out; rw [hmk'.out, ← hmk.out] at t; exact t), hb.out⟩
end Go.Proofs.Ytbmdnifkjcimcaa
