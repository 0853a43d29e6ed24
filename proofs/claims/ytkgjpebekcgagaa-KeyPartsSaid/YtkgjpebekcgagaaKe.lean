/-
  key.Next and the document's Next, walked.
-/
import Derived.Test.YtkgjpebekcgagaaKd
namespace Go.Proofs.Ytkgjpebekcgagaa
set_option linter.unusedVariables false
set_option linter.unusedSimpArgs false
open Go.RowKit

/-- how many bytes there are up to the last one that isn't 255 -/
def lp (d : Nat → Int) : Nat → Nat
  | 0 => 0
  | n + 1 => if d n = 255 then lp d n else n + 1
theorem lp_le (d : Nat → Int) : ∀ n, lp d n ≤ n
  | 0 => Nat.le_refl _
  | n + 1 => by unfold lp; split; have := lp_le d n; omega; omega
theorem lp_255 (d : Nat → Int) : ∀ n j, lp d n ≤ j → j < n → d j = 255
  | 0, j, _, h => by omega
  | n + 1, j, h1, h2 => by
    unfold lp at h1
    split at h1
    · by_cases e : j = n
      · rw [e]; assumption
      · exact lp_255 d n j h1 (by omega)
    · omega
theorem lp_pos (d : Nat → Int) : ∀ n, 0 < lp d n → d (lp d n - 1) ≠ 255
  | 0, h => by unfold lp at h; omega
  | n + 1, h => by
    unfold lp at h ⊢
    split
    · rename_i e
      rw [if_pos e] at h
      exact lp_pos d n h
    · assumption
/-- the next row of as many bytes -/
def nxt (d : Nat → Int) (p j : Nat) : Int := if j + 1 < p then d j else if j + 1 = p then d j + 1 else 0
/-- .. while it is made -/
def nxl (d : Nat → Int) (k j : Nat) : Int := if j < k then d j else 0

set_option maxHeartbeats 1000000 in
theorem next_nil (A : Option Addr) (c : Nat) (d : Nat → Int) (w : World) : Calls Try.prog 8 #[.slice A 0 c] w fun r w' =>
      r = .returned (.tuple #[.slice none 0 0, .bool false]) ∧ Below w.heap.size w w' := by
  have H := Lib.hid (bclone_any A 0 c d (by omega) w SlIs.nil)
  go_enter Try.func8, Try.ntmps8
  go_wp2_with fail
  refine H.out.mono ?_
  rintro r w1 ⟨v, rfl, ho, hb⟩
  obtain ⟨A2, c2, rfl, _⟩ := ho.slis
  replace ho := Lib.hid ho
  replace hb := Lib.hid hb
  go_wp2_with fail
  go_loopw [5] (fun i wr => i = .int .i64 (-1) ∧ wr = w1) (fun i _ => 1)
  case atStart => exact ⟨rfl, rfl⟩
  case round =>
    obtain ⟨rfl, rfl⟩ := hrel
    go_wp2
    refine bodyPost_ret (v := .tuple #[.slice none 0 0, .bool false]) (by simp [results, Try.results8, go_sem]) rfl ⟨rfl, hb.out⟩

set_option maxHeartbeats 2000000 in
theorem next_no (A : Option Addr) (n c : Nat) (d : Nat → Int) (hn : n ≤ 1000000) (h0 : 0 < n) (hd : ∀ i, 0 ≤ d i ∧ d i < 256) (hp : lp d n = 0) (w : World) (hs : SlIs w A n (yV d)) : Calls Try.prog 8 #[.slice A n c] w fun r w' =>
      r = .returned (.tuple #[.slice none 0 0, .bool false]) ∧ Below w.heap.size w w' := by
  have H := Lib.hid (bclone_any A n c d hn w hs)
  replace hp := Lib.hid (lp_255 d n · (by omega))
  clear hs hd
  go_enter Try.func8, Try.ntmps8
  go_wp2_with fail
  refine H.out.mono ?_
  rintro r w1 ⟨v, rfl, ho, hb⟩
  obtain ⟨g, cap, f, rfl, hg, h1, h2, hr, hf⟩ := own_row ho h0
  replace hr := Lib.hid hr
  replace hf := Lib.hid hf
  clear ho H
  replace hb := Lib.hid hb
  unfold maxLen at h2
  go_wp2_with fail
  go_loopw [5] (fun i wr => ∃ (k : Nat), k ≤ n ∧ i = .int .i64 ((k : Int) - 1) ∧ Hid (Below w.heap.size w wr) ∧ Hid (∃ f, wr.rowIs g 5 cap f ∧ ∀ i, i < n → f i = yV (nxl d k) i)) (fun i _ => (intOf i + 1).toNat)
  case atStart => exact ⟨n, Nat.le_refl _, rfl, hb.out, ⟨f, hr.out, fun i hi => by rw [hf.out i hi]; unfold yV nxl; rw [if_pos hi]⟩⟩
  case round =>
    obtain ⟨k, hk, rfl, hb, hrow⟩ := hrel
    obtain ⟨f, hr, hf⟩ := hrow.out
    replace hr := Lib.hid hr
    replace hf := Lib.hid hf
    clear hrow
    by_cases hk0 : k = 0
    · subst hk0
      go_wp2
      refine bodyPost_ret (v := .tuple #[.slice none 0 0, .bool false]) (by simp [results, Try.results8, go_sem]) rfl ⟨rfl, hb.out⟩
    · obtain ⟨m, rfl⟩ : ∃ m, k = m + 1 := ⟨k - 1, by omega⟩
      have hx := hp.out m (by omega)
      have c0 := hr.out.cell (i := m) (by omega)
      rw [hf.out m (by omega), show yV (nxl d (m + 1)) m = .int .u8 255 by unfold yV nxl; rw [if_pos (by omega), hx]] at c0
      have c1 := hr.out.frozen m
      have c2 := hr.out.lt
      have e1 : ((m + 1 : Nat) : Int) - 1 = m := by omega
      rw [e1] at *
      go_wp2
      go_roundw
      case rel =>
        refine ⟨m, by omega, by go_num, hb.out.setCell (p := ⟨g, m, none⟩) hg _, ⟨_, hr.out.set m _, fun i hi => ?_⟩⟩
        by_cases e : i = m
        · subst e; simp [yV, nxl]
        · rw [if_neg e, hf.out i hi]; unfold yV nxl
          by_cases e2 : i < m
          · rw [if_pos (by omega), if_pos e2]
          · rw [if_neg (by omega), if_neg e2]
      case measure => simp [intOf]
end Go.Proofs.Ytkgjpebekcgagaa
