/-
  The bytes of a number of 128 bits, walked.
-/
import Derived.Test.YtflaeljjalpnkaaWideB
import Derived.Test.YtflaeljjalpnkaaStr
namespace Go.Proofs.Ytflaeljjalpnkaa
set_option linter.unusedVariables false
set_option linter.unusedSimpArgs false
open Go.RowKit


theorem sh_dg (h : Int) (k : Nat) (hk : k < 8) : h / 2 ^ (56 - 8 * k) % 256 = h / 256 ^ (7 - k) % 256 := by
  rw [show (256 : Int) ^ (7 - k) = 2 ^ (56 - 8 * k) from by rw [show (256 : Int) = 2 ^ 8 from rfl, ← Int.pow_mul]; congr 1; omega]

set_option maxHeartbeats 1000000 in
theorem bytes_any (h l : Int) (hh : Wd h) (hl : Wd l) (w : World) : Calls Try.prog 69 #[.agg #[.int .u64 h, .int .u64 l]] w fun r w' =>
      ∃ g, r = .returned (.slice (some ⟨g, 0, none⟩) 16 16) ∧ w.heap.size ≤ g ∧ w'.rowIs g 5 16 (yV (dgt h l)) ∧ Below w.heap.size w w' := by
  have hmk : ∀ w, (Instr.makeSlice 32 (.int .i64 16) (.int .i64 16)).run Try.prog w = .ok (.slice (some ⟨w.heap.size, 0, none⟩) 16 16) (w.alloc (.cells #[.int .u8 0, .int .u8 0, .int .u8 0, .int .u8 0, .int .u8 0, .int .u8 0, .int .u8 0, .int .u8 0, .int .u8 0, .int .u8 0, .int .u8 0, .int .u8 0, .int .u8 0, .int .u8 0, .int .u8 0, .int .u8 0] 5)) := fun _ => by kernel_rfl
  have H0 := hh
  unfold Wd at H0
  obtain ⟨h0, h1⟩ := H0
  have L0 := hl
  unfold Wd at L0
  obtain ⟨l0, l1⟩ := L0
  replace hh := Lib.hid hh
  replace hl := Lib.hid hl
  go_enter Try.func69, Try.ntmps69
  go_wp2
  have hsz : w.heap.size < w.heap.size + 1 := by omega
  go_loopw [6] (fun i wr => ∃ (k : Nat) (d : Nat → Int), k ≤ 8 ∧ i = .int .i64 k ∧
      Hid (∀ j : Nat, j < k → d j = dgt h l j ∧ d (8 + j) = dgt h l (8 + j)) ∧ Hid (Below w.heap.size w wr) ∧ Hid (Blk wr w.heap.size 24 #[.int .u64 h, .int .u64 l]) ∧ Hid (wr.rowIs (w.heap.size + 1) 5 16 (yV d))) (fun i _ => 8 - (intOf i).toNat)
  case atStart =>
    refine ⟨0, fun _ => 0, by omega, rfl, fun j h1 => by omega, ?_, ?_, ?_⟩
    · show Below _ _ _
      (repeat (first | exact Below.refl _ _ | assumption | refine below_drewN ?_ _ | refine bel_grow ?_ _ | refine Below.drew ?_ | refine bel_alloc ?_ _ | refine bel_set ?_ (by first | exact Nat.le_refl _ | (simp; done) | (simp; omega) | omega) _ | refine bel_trans ?_ (by assumption)))
    · show Blk _ _ _ _
      (repeat (first | with_reducible assumption | (with_reducible refine Blk.new' ?_; first | with_reducible rfl | (simp; done)) | with_reducible refine Blk.alloc ?_ _ | with_reducible refine Blk.grow ?_ _ | with_reducible refine Blk.drew ?_ | with_reducible refine Blk.drewN ?_ _ | (with_reducible refine Blk.far ?_ (by first | (dsimp only; omega) | (simp; omega)) _) | (with_reducible apply Blk.two) | (with_reducible refine Blk.set' ?_ _ _ ?_) | (with_reducible rfl) | rfl))
    · show World.rowIs _ _ _ _ (fun _ => .int .u8 0)
      refine rowIs_zero _ ?_ ?_
      · simp
      · rfl
  case round =>
    obtain ⟨k, d, hk, rfl, hd, hb, ho, hr⟩ := hrel
    have o0 := (ho.out).cell 0
    have o1 := (ho.out).cell 1
    have of0 := (ho.out).frozen 0
    have of1 := (ho.out).frozen 1
    have ol := (ho.out).lt
    by_cases hlt : k < 8
    · have c1 := hr.out.cell (i := k) (by omega)
      have c2 := hr.out.cell (i := 8 + k) (by omega)
      have c3 := hr.out.frozen k
      have c4 := hr.out.frozen (8 + k)
      have e1 := Lib.hid (sh_dg h k hlt)
      have e2 := Lib.hid (sh_dg l k hlt)
      have g1 := Lib.hid (dgt_hi h l k hlt)
      have g2 := Lib.hid (dgt_low h l k hlt)
      go_wp2
      go_roundw
      case rel =>
        have t1 := hb.out
        have t2 := ho.out
        refine ⟨k + 1, fun j => if j = 8 + k then l / 256 ^ (7 - k) % 256 else if j = k then h / 256 ^ (7 - k) % 256 else d j, by omega, by go_num, fun j h1 => ?_, ?_, ?_, ?_⟩
        · by_cases ej : j = k
          · subst ej
            exact ⟨by dsimp only; rw [if_neg (by omega), if_pos rfl, g1.out], by dsimp only; rw [if_pos rfl, g2.out]⟩
          · have := hd.out j (by omega)
            exact ⟨by dsimp only; rw [if_neg (by omega), if_neg ej, this.1], by dsimp only; rw [if_neg (by omega), if_neg (by omega), this.2]⟩
        · show Below _ _ _
          (repeat (first | exact Below.refl _ _ | assumption | refine below_drewN ?_ _ | refine bel_grow ?_ _ | refine Below.drew ?_ | refine bel_alloc ?_ _ | refine bel_set ?_ (by first | exact Nat.le_refl _ | (simp; done) | (simp; omega) | omega) _ | refine bel_trans ?_ (by assumption)))
        · show Blk _ _ _ _
          (repeat (first | with_reducible assumption | (with_reducible refine Blk.new' ?_; first | with_reducible rfl | (simp; done)) | with_reducible refine Blk.alloc ?_ _ | with_reducible refine Blk.grow ?_ _ | with_reducible refine Blk.drew ?_ | with_reducible refine Blk.drewN ?_ _ | (with_reducible refine Blk.far ?_ (by first | (dsimp only; omega) | (simp; omega)) _) | (with_reducible apply Blk.two) | (with_reducible refine Blk.set' ?_ _ _ ?_) | (with_reducible rfl) | rfl))
        · rw [e1.out, e2.out]
          refine ((hr.out.set k _).set (8 + k) _).congr (fun j hj => ?_)
          unfold yV
          by_cases e1 : j = 8 + k <;> by_cases e2 : j = k <;> simp [e1, e2]
      case measure => simp [intOf]; omega
    · obtain rfl : k = 8 := by omega
      go_wp2
      go_ret
      refine ⟨_, rfl, by omega, hr.out.congr (fun j hj => ?_), hb.out⟩
      unfold yV
      rcases Nat.lt_or_ge j 8 with h8 | h8
      · rw [(hd.out j h8).1]
      · obtain ⟨m, rfl⟩ : ∃ m, j = 8 + m := ⟨j - 8, by omega⟩
        rw [(hd.out m (by omega)).2]
end Go.Proofs.Ytflaeljjalpnkaa
