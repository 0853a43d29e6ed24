/-
  Joined: Ref1N WideB WideL.
-/
import Derived.Test.YtncampbmnbhikaaJ1
import Derived.Test.YtncampbmnbhikaaJ3
-- Ref1N
namespace Go.Proofs.Ytncampbmnbhikaa
set_option linter.unusedVariables false
set_option linter.unusedSimpArgs false
open Go.RowKit

/-- the number of k digits of 256 from place s on -/
def num (d : Nat → Int) (s : Nat) : Nat → Int
  | 0 => 0
  | k + 1 => num d s k * 256 + d (s + k)
theorem num_lo (d : Nat → Int) (s : Nat) (hd : ∀ i, 0 ≤ d i ∧ d i < 256) : ∀ k, 0 ≤ num d s k
  | 0 => by simp [num]
  | k + 1 => by have := num_lo d s hd k; have := hd (s + k); simp only [num]; omega
theorem num_hi (d : Nat → Int) (s : Nat) (hd : ∀ i, 0 ≤ d i ∧ d i < 256) : ∀ k, num d s k < 256 ^ k
  | 0 => by simp [num]
  | k + 1 => by have := num_hi d s hd k; have := hd (s + k); simp only [num, Int.pow_succ]; omega
theorem num_lt (d : Nat → Int) (s : Nat) (hd : ∀ i, 0 ≤ d i ∧ d i < 256) (k : Nat) (hk : k < 8) : 0 ≤ num d s k ∧ num d s k < 72057594037927936 := by
  refine ⟨num_lo d s hd k, Int.lt_of_lt_of_le (num_hi d s hd k) ?_⟩
  match k, hk with
  | 0, _ | 1, _ | 2, _ | 3, _ | 4, _ | 5, _ | 6, _ | 7, _ => decide

def numW (w : World) (d : Nat → Int) (k n : Nat) : World := ((w.alloc (.cells #[.int .u64 0, .int .u64 0] 42)).alloc (.cells #[.int .u64 (num d 0 k), .int .u64 (num d 8 k)] 42)).drewN n
theorem numW_below (w : World) (d : Nat → Int) (k n : Nat) : Below w.heap.size w (numW w d k n) := below_drewN (((Below.refl _ _).alloc (Nat.le_refl _) _).alloc (by simp) _) n

set_option maxHeartbeats 400000 in
theorem number_any (d : Nat → Int) (hd : ∀ i, 0 ≤ d i ∧ d i < 256) (b o c : Nat) (w : World) (hb : b < w.heap.size)
    (hc : ∀ i, i < 16 → w.cell? ⟨b, o + i, none⟩ = some (.int .i64 (d i))) :
    Calls Try.prog 69 #[.slice (some ⟨b, o, none⟩) 16 c] w fun r w' =>
      r = .returned (.agg #[.int .u64 (num d 0 8), .int .u64 (num d 8 8)]) ∧ Below w.heap.size w w' := by
  have HC := Lib.hid hc
  clear hc
  go_enter Try.func69, Try.ntmps69
  go_wp2
  go_loopw [4] (fun i wr => ∃ k : Nat, k ≤ 8 ∧ i = .int .i64 k ∧ ∃ n, wr = ((w.alloc (.cells #[.int .u64 0, .int .u64 0] 42)).alloc (.cells #[.int .u64 (num d 0 k), .int .u64 (num d 8 k)] 42)).drewN n) (fun i _ => 8 - (intOf i).toNat)
  case atStart => exact ⟨0, by omega, rfl, 0, rfl⟩
  case round =>
    obtain ⟨k, hk, rfl, n, rfl⟩ := hrel
    by_cases hlt : k < 8
    · have h1 := num_lt d 0 hd k hlt
      have h2 := num_lt d 8 hd k hlt
      have h3 := hd k
      have h4 := hd (8 + k)
      have c1 := HC.out k (by omega)
      have c2 := HC.out (8 + k) (by omega)
      go_wp2
      go_region
      go_wp2
      go_region
      go_wp2
      go_roundw
      case rel => exact ⟨k + 1, by omega, by go_num, _, by simp only [num]; rw [Nat.zero_add]⟩
      case measure => simp [intOf]; omega
    · obtain rfl : k = 8 := by omega
      go_wp2
      refine bodyPost_ret (v := .agg #[.int .u64 (num d 0 8), .int .u64 (num d 8 8)]) (by simp [results, Try.results69, go_sem]) rfl ⟨rfl, ?_⟩
      (repeat (first | exact Below.refl _ _ | assumption | refine below_drewN ?_ _ | refine bel_grow ?_ _ | refine Below.drew ?_ | refine bel_alloc ?_ _ | refine bel_set ?_ (by first | exact Nat.le_refl _ | (simp; done) | (simp; omega) | omega) _ | refine bel_trans ?_ (by assumption)))

end Go.Proofs.Ytncampbmnbhikaa
-- WideB
namespace Go.Proofs.Ytncampbmnbhikaa
set_option linter.unusedVariables false
set_option linter.unusedSimpArgs false
open Go.RowKit

/-- digit j of the number h, l -/
def dgt (h l : Int) (j : Nat) : Int := if j < 8 then h / 256 ^ (7 - j) % 256 else l / 256 ^ (15 - j) % 256
theorem dgt_lo (h l : Int) (j : Nat) : 0 ≤ dgt h l j ∧ dgt h l j < 256 := by unfold dgt; split <;> omega
theorem dgt_hi (h l : Int) (m : Nat) (hm : m < 8) : dgt h l m = h / 256 ^ (7 - m) % 256 := by simp [dgt, hm]
theorem dgt_low (h l : Int) (m : Nat) (hm : m < 8) : dgt h l (8 + m) = l / 256 ^ (7 - m) % 256 := by
  unfold dgt; rw [if_neg (by omega), show 15 - (8 + m) = 7 - m from by omega]
theorem div_step (h : Int) (n : Nat) : h / 256 ^ n / 256 = h / 256 ^ (n + 1) := by
  rw [Int.pow_succ, Int.ediv_ediv_of_nonneg (by have := Int.pow_pos (n := 256) (m := n) (by omega); omega)]
theorem div_u {h : Int} (hh : Wd h) (n : Nat) : 0 ≤ h / 256 ^ n ∧ h / 256 ^ n < 18446744073709551616 := by
  have hp := Int.pow_pos (n := 256) (m := n) (by omega)
  have h1 := Int.ediv_nonneg hh.1 (Int.le_of_lt hp)
  have h2 := Int.ediv_le_self (256 ^ n) hh.1
  have := hh.2
  omega

set_option maxHeartbeats 1000000 in
theorem digits_any (h l : Int) (hh : Wd h) (hl : Wd l) (w : World) : Calls Try.prog 65 #[.agg #[.int .u64 h, .int .u64 l]] w fun r w' =>
      ∃ g, r = .returned (.slice (some ⟨g, 0, none⟩) 16 16) ∧ w.heap.size ≤ g ∧ w'.rowIs g 3 16 (iV (dgt h l)) ∧ Below w.heap.size w w' := by
  have hmk : ∀ w, (Instr.makeSlice 54 (.int .i64 16) (.int .i64 16)).run Try.prog w = .ok (.slice (some ⟨w.heap.size, 0, none⟩) 16 16) (w.alloc (.cells #[.int .i64 0, .int .i64 0, .int .i64 0, .int .i64 0, .int .i64 0, .int .i64 0, .int .i64 0, .int .i64 0, .int .i64 0, .int .i64 0, .int .i64 0, .int .i64 0, .int .i64 0, .int .i64 0, .int .i64 0, .int .i64 0] 3)) := fun _ => by kernel_rfl
  have H0 := hh
  unfold Wd at H0
  obtain ⟨h0, h1⟩ := H0
  have L0 := hl
  unfold Wd at L0
  obtain ⟨l0, l1⟩ := L0
  replace hh := Lib.hid hh
  replace hl := Lib.hid hl
  go_enter Try.func65, Try.ntmps65
  go_wp2
  go_quiet (fail)
  go_wp2
  have hsz : w.heap.size < w.heap.size + 1 := by omega
  go_loopw [4, 5, 6] (fun a b i wr => ∃ (k : Int) (d : Nat → Int), -1 ≤ k ∧ k ≤ 7 ∧ i = .int .i64 k ∧ a = .int .u64 (h / 256 ^ (7 - k).toNat) ∧ b = .int .u64 (l / 256 ^ (7 - k).toNat) ∧
      Hid (∀ j : Nat, k < j → j < 8 → d j = dgt h l j ∧ d (8 + j) = dgt h l (8 + j)) ∧ Hid (Below w.heap.size w wr) ∧ Hid (wr.rowIs (w.heap.size + 1) 3 16 (iV d))) (fun _ _ i _ => (intOf i + 1).toNat)
  case atStart =>
    refine ⟨7, fun _ => 0, by omega, by omega, rfl, by simp, by simp, fun j h1 h2 => by omega, ?_, ?_⟩
    · show Below _ _ _
      (repeat (first | exact Below.refl _ _ | assumption | refine below_drewN ?_ _ | refine bel_grow ?_ _ | refine Below.drew ?_ | refine bel_alloc ?_ _ | refine bel_set ?_ (by first | exact Nat.le_refl _ | (simp; done) | (simp; omega) | omega) _ | refine bel_trans ?_ (by assumption)))
    · show World.rowIs _ _ _ _ (fun _ => .int .i64 0)
      refine rowIs_drewN (rowIs_zero _ ?_ ?_) _
      · simp
      · rfl
  case round =>
    obtain ⟨k, d, hk0, hk1, rfl, rfl, rfl, hd, hb, hr⟩ := hrel
    by_cases hneg : k = -1
    · subst hneg
      go_wp2
      go_ret
      refine ⟨_, rfl, by omega, hr.out.congr (fun j hj => ?_), hb.out⟩
      unfold iV
      rcases Nat.lt_or_ge j 8 with h8 | h8
      · rw [(hd.out j (by omega) h8).1]
      · obtain ⟨m, rfl⟩ : ∃ m, j = 8 + m := ⟨j - 8, by omega⟩
        rw [(hd.out m (by omega) (by omega)).2]
    · obtain ⟨m, rfl⟩ := Int.eq_ofNat_of_zero_le (show 0 ≤ k by omega)
      have e7 : (7 - (m : Int)).toNat = 7 - m := by omega
      rw [e7] at *
      have q1 := div_u hh.out (7 - m)
      have q2 := div_u hl.out (7 - m)
      have f1 := Lib.hid (div_step h (7 - m))
      have f2 := Lib.hid (div_step l (7 - m))
      have g1 := Lib.hid (dgt_hi h l m (by omega))
      have g2 := Lib.hid (dgt_low h l m (by omega))
      generalize h / 256 ^ (7 - m) = a at *
      generalize l / 256 ^ (7 - m) = b at *
      have c1 := hr.out.cell (i := m) (by omega)
      have c2 := hr.out.cell (i := 8 + m) (by omega)
      have c3 := hr.out.frozen m
      have c4 := hr.out.frozen (8 + m)
      clear e7
      go_wp2
      go_roundw
      case rel =>
        have e : (7 - ((m : Int) - 1)).toNat = 7 - m + 1 := by omega
        refine ⟨(m : Int) - 1, fun j => if j = 8 + m then b % 256 else if j = m then a % 256 else d j, by omega, by omega, rfl, by rw [e, f1.out], by rw [e, f2.out], fun j h1 h2 => ?_, ?_, ?_⟩
        · by_cases ej : j = m
          · subst ej
            exact ⟨by dsimp only; rw [if_neg (by omega), if_pos rfl, g1.out], by dsimp only; rw [if_pos rfl, g2.out]⟩
          · have := hd.out j (by omega) h2
            exact ⟨by dsimp only; rw [if_neg (by omega), if_neg ej, this.1], by dsimp only; rw [if_neg (by omega), if_neg (by omega), this.2]⟩
        · exact (hb.out.setCell (by simp) _).setCell (by simp) _
        · refine ((hr.out.set m _).set (8 + m) _).congr (fun j hj => ?_)
          unfold iV
          by_cases e1 : j = 8 + m <;> by_cases e2 : j = m <;> simp [e1, e2]
      case measure => simp [intOf]
end Go.Proofs.Ytncampbmnbhikaa
-- WideL
namespace Go.Proofs.Ytncampbmnbhikaa
set_option linter.unusedVariables false
set_option linter.unusedSimpArgs false
open Go.RowKit


theorem sh_dg (h : Int) (k : Nat) (hk : k < 8) : h / 2 ^ (56 - 8 * k) % 256 = h / 256 ^ (7 - k) % 256 := by
  rw [show (256 : Int) ^ (7 - k) = 2 ^ (56 - 8 * k) from by rw [show (256 : Int) = 2 ^ 8 from rfl, ← Int.pow_mul]; congr 1; omega]

set_option maxHeartbeats 1000000 in
theorem bytes_any (h l : Int) (hh : Wd h) (hl : Wd l) (w : World) : Calls Try.prog 45 #[.agg #[.int .u64 h, .int .u64 l]] w fun r w' =>
      ∃ g, r = .returned (.slice (some ⟨g, 0, none⟩) 16 16) ∧ w.heap.size ≤ g ∧ w'.rowIs g 5 16 (yV (dgt h l)) ∧ Below w.heap.size w w' := by
  have hmk : ∀ w, (Instr.makeSlice 31 (.int .i64 16) (.int .i64 16)).run Try.prog w = .ok (.slice (some ⟨w.heap.size, 0, none⟩) 16 16) (w.alloc (.cells #[.int .u8 0, .int .u8 0, .int .u8 0, .int .u8 0, .int .u8 0, .int .u8 0, .int .u8 0, .int .u8 0, .int .u8 0, .int .u8 0, .int .u8 0, .int .u8 0, .int .u8 0, .int .u8 0, .int .u8 0, .int .u8 0] 5)) := fun _ => by kernel_rfl
  have H0 := hh
  unfold Wd at H0
  obtain ⟨h0, h1⟩ := H0
  have L0 := hl
  unfold Wd at L0
  obtain ⟨l0, l1⟩ := L0
  replace hh := Lib.hid hh
  replace hl := Lib.hid hl
  go_enter Try.func45, Try.ntmps45
  go_wp2
  have hsz : w.heap.size < w.heap.size + 1 := by omega
  go_loopw [6] (fun i wr => ∃ (k : Nat) (d : Nat → Int), k ≤ 8 ∧ i = .int .i64 k ∧
      Hid (∀ j : Nat, j < k → d j = dgt h l j ∧ d (8 + j) = dgt h l (8 + j)) ∧ Hid (Below w.heap.size w wr) ∧ Hid (Blk wr w.heap.size 42 #[.int .u64 h, .int .u64 l]) ∧ Hid (wr.rowIs (w.heap.size + 1) 5 16 (yV d))) (fun i _ => 8 - (intOf i).toNat)
  case atStart =>
    refine ⟨0, fun _ => 0, by omega, rfl, fun j h1 => by omega, ?_, ?_, ?_⟩
    · show Below _ _ _
      (repeat (first | exact Below.refl _ _ | assumption | refine below_drewN ?_ _ | refine bel_grow ?_ _ | refine Below.drew ?_ | refine bel_alloc ?_ _ | refine bel_set ?_ (by first | exact Nat.le_refl _ | (simp; done) | (simp; omega) | omega) _ | refine bel_trans ?_ (by assumption)))
    · show Blk _ _ _ _
      (repeat (first | with_reducible assumption | (with_reducible refine Blk.new' ?_; first | with_reducible rfl | (simp; done)) | with_reducible refine Blk.alloc ?_ _ | with_reducible refine Blk.grow ?_ _ | with_reducible refine Blk.drew ?_ | with_reducible refine Blk.drewN ?_ _ | (with_reducible refine Blk.far ?_ (by first | (dsimp only; omega) | (simp; omega)) _) | (with_reducible apply Blk.two) | (with_reducible refine Blk.set' ?_ _ _ ?_) | (with_reducible rfl) | rfl))
    · show World.rowIs _ _ _ _ (fun _ => .int .u8 0)
      refine rowIs_zero _ ?_ ?_
      · simp
      · rfl
  case round =>
    obtain ⟨k, d, hk, rfl, hd, hb, ho, hr⟩ := hrel
    have o0 := (ho.out).cell 0
    have o1 := (ho.out).cell 1
    have of0 := (ho.out).frozen 0
    have of1 := (ho.out).frozen 1
    have ol := (ho.out).lt
    by_cases hlt : k < 8
    · have c1 := hr.out.cell (i := k) (by omega)
      have c2 := hr.out.cell (i := 8 + k) (by omega)
      have c3 := hr.out.frozen k
      have c4 := hr.out.frozen (8 + k)
      have e1 := Lib.hid (sh_dg h k hlt)
      have e2 := Lib.hid (sh_dg l k hlt)
      have g1 := Lib.hid (dgt_hi h l k hlt)
      have g2 := Lib.hid (dgt_low h l k hlt)
      go_wp2
      go_roundw
      case rel =>
        have t1 := hb.out
        have t2 := ho.out
        refine ⟨k + 1, fun j => if j = 8 + k then l / 256 ^ (7 - k) % 256 else if j = k then h / 256 ^ (7 - k) % 256 else d j, by omega, by go_num, fun j h1 => ?_, ?_, ?_, ?_⟩
        · by_cases ej : j = k
          · subst ej
            exact ⟨by dsimp only; rw [if_neg (by omega), if_pos rfl, g1.out], by dsimp only; rw [if_pos rfl, g2.out]⟩
          · have := hd.out j (by omega)
            exact ⟨by dsimp only; rw [if_neg (by omega), if_neg ej, this.1], by dsimp only; rw [if_neg (by omega), if_neg (by omega), this.2]⟩
        · show Below _ _ _
          (repeat (first | exact Below.refl _ _ | assumption | refine below_drewN ?_ _ | refine bel_grow ?_ _ | refine Below.drew ?_ | refine bel_alloc ?_ _ | refine bel_set ?_ (by first | exact Nat.le_refl _ | (simp; done) | (simp; omega) | omega) _ | refine bel_trans ?_ (by assumption)))
        · show Blk _ _ _ _
          (repeat (first | with_reducible assumption | (with_reducible refine Blk.new' ?_; first | with_reducible rfl | (simp; done)) | with_reducible refine Blk.alloc ?_ _ | with_reducible refine Blk.grow ?_ _ | with_reducible refine Blk.drew ?_ | with_reducible refine Blk.drewN ?_ _ | (with_reducible refine Blk.far ?_ (by first | (dsimp only; omega) | (simp; omega)) _) | (with_reducible apply Blk.two) | (with_reducible refine Blk.set' ?_ _ _ ?_) | (with_reducible rfl) | rfl))
        · rw [e1.out, e2.out]
          refine ((hr.out.set k _).set (8 + k) _).congr (fun j hj => ?_)
          unfold yV
          by_cases e1 : j = 8 + k <;> by_cases e2 : j = k <;> simp [e1, e2]
      case measure => simp [intOf]; omega
    · obtain rfl : k = 8 := by omega
      go_wp2
      go_ret
      refine ⟨_, rfl, by omega, hr.out.congr (fun j hj => ?_), hb.out⟩
      unfold yV
      rcases Nat.lt_or_ge j 8 with h8 | h8
      · rw [(hd.out j h8).1]
      · obtain ⟨m, rfl⟩ : ∃ m, j = 8 + m := ⟨j - 8, by omega⟩
        rw [(hd.out m (by omega)).2]
end Go.Proofs.Ytncampbmnbhikaa
