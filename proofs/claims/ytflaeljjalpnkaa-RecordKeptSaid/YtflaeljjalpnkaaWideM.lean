/-
  The number of sixteen bytes, walked.
-/
import Derived.Test.YtflaeljjalpnkaaWideL
namespace Go.Proofs.Ytflaeljjalpnkaa
set_option linter.unusedVariables false
set_option linter.unusedSimpArgs false
open Go.RowKit

theorem or_byte {x y : Int} (hx : 0 ≤ x ∧ x < 72057594037927936) (hy : 0 ≤ y ∧ y < 256) : bits .or .u64 (x * 256) y = x * 256 + y := by
  obtain ⟨x, rfl⟩ := Int.eq_ofNat_of_zero_le hx.1
  obtain ⟨y, rfl⟩ := Int.eq_ofNat_of_zero_le hy.1
  have e : ((x : Int) * 256) = ((x * 256 : Nat) : Int) := by omega
  rw [e, u64_or_nat _ _ (by omega) (by omega)]
  have h := Nat.shiftLeft_add_eq_or_of_lt (a := x) (b := y) (i := 8) (by omega)
  rw [Nat.shiftLeft_eq] at h
  rw [show x * 256 ||| y = x * 256 + y from h.symm]
  omega

set_option maxHeartbeats 1000000 in
theorem read_no (A : Option Addr) (n c : Nat) (hn : n ≤ maxLen) (h16 : n ≠ 16) (w : World) : Calls Try.prog 64 #[.slice A n c] w fun r w' =>
      r = .returned (.tuple #[.agg #[.int .u64 0, .int .u64 0], .bool false]) ∧ Below w.heap.size w w' := by
  unfold maxLen at hn
  have h16' : ((n : Int) != 16) = true := by rw [bne_iff_ne]; omega
  go_enter Try.func64, Try.ntmps64
  go_wp2
  refine bodyPost_ret (v := .tuple #[.agg #[.int .u64 0, .int .u64 0], .bool false]) (by simp [results, Try.results64, go_sem]) rfl ⟨rfl, ?_⟩
  (repeat (first | exact Below.refl _ _ | assumption | refine below_drewN ?_ _ | refine bel_grow ?_ _ | refine Below.drew ?_ | refine bel_alloc ?_ _ | refine bel_set ?_ (by first | exact Nat.le_refl _ | (simp; done) | (simp; omega) | omega) _ | refine bel_trans ?_ (by assumption)))

set_option maxHeartbeats 1000000 in
theorem read_yes (A : Option Addr) (c : Nat) (d : Nat → Int) (hd : ∀ i, 0 ≤ d i ∧ d i < 256) (w : World) (hs : SlIs w A 16 (yV d)) : Calls Try.prog 64 #[.slice A 16 c] w fun r w' =>
      r = .returned (.tuple #[.agg #[.int .u64 (num d 0 8), .int .u64 (num d 8 8)], .bool true]) ∧ Below w.heap.size w w' := by
  obtain ⟨b, o, rfl, hbl, hc⟩ := hs (by omega)
  clear hs
  replace hc := Lib.hid hc
  go_enter Try.func64, Try.ntmps64
  go_wp2
  go_loopw [10] (fun i wr => ∃ (k : Nat), k ≤ 8 ∧ i = .int .i64 k ∧ Hid (Below w.heap.size w wr) ∧ Hid (Blk wr w.heap.size 24 #[.int .u64 0, .int .u64 0]) ∧
    Hid (Blk wr (w.heap.size + 1) 24 #[.int .u64 (num d 0 k), .int .u64 (num d 8 k)])) (fun i _ => 8 - (intOf i).toNat)
  case atStart =>
    refine ⟨0, by omega, rfl, ?_, ?_, ?_⟩
    · show Below _ _ _
      (repeat (first | exact Below.refl _ _ | assumption | refine below_drewN ?_ _ | refine bel_grow ?_ _ | refine Below.drew ?_ | refine bel_alloc ?_ _ | refine bel_set ?_ (by first | exact Nat.le_refl _ | (simp; done) | (simp; omega) | omega) _ | refine bel_trans ?_ (by assumption)))
    · show Blk _ _ _ _
      (repeat (first | with_reducible assumption | (with_reducible refine Blk.new' ?_; first | with_reducible rfl | (simp; done)) | with_reducible refine Blk.alloc ?_ _ | with_reducible refine Blk.grow ?_ _ | with_reducible refine Blk.drew ?_ | with_reducible refine Blk.drewN ?_ _ | (with_reducible refine Blk.far ?_ (by first | (dsimp only; omega) | (simp; omega)) _) | (with_reducible apply Blk.two) | (with_reducible refine Blk.set' ?_ _ _ ?_) | (with_reducible rfl) | rfl))
    · show Blk _ _ _ #[.int .u64 0, .int .u64 0]
      (repeat (first | with_reducible assumption | (with_reducible refine Blk.new' ?_; first | with_reducible rfl | (simp; done)) | with_reducible refine Blk.alloc ?_ _ | with_reducible refine Blk.grow ?_ _ | with_reducible refine Blk.drew ?_ | with_reducible refine Blk.drewN ?_ _ | (with_reducible refine Blk.far ?_ (by first | (dsimp only; omega) | (simp; omega)) _) | (with_reducible apply Blk.two) | (with_reducible refine Blk.set' ?_ _ _ ?_) | (with_reducible rfl) | rfl))
  case round =>
    obtain ⟨k, hk, rfl, hb, hr, ho⟩ := hrel
    have r0 := (hr.out).cell 0
    have r1 := (hr.out).cell 1
    have rf0 := (hr.out).frozen 0
    have rf1 := (hr.out).frozen 1
    have rl := (hr.out).lt
    have o0 := (ho.out).cell 0
    have o1 := (ho.out).cell 1
    have of0 := (ho.out).frozen 0
    have of1 := (ho.out).frozen 1
    have ol := (ho.out).lt
    by_cases hlt : k < 8
    · have c0 : wr.cell? ⟨b, o + k, none⟩ = some (.int .u8 (d k)) := keepc hb.out (hc.out k (by omega))
      have c1 : wr.cell? ⟨b, o + (8 + k), none⟩ = some (.int .u8 (d (8 + k))) := keepc hb.out (hc.out (8 + k) (by omega))
      have l1 := num_lt d 0 hd k hlt
      have l2 := num_lt d 8 hd k hlt
      have l3 := hd k
      have l4 := hd (8 + k)
      have bl : b < wr.heap.size := Nat.lt_of_lt_of_le hbl hb.out.size
      have bne : b ≠ w.heap.size + 1 := by omega
      go_wp2
      go_region
      go_wp2
      go_region
      go_wp2
      go_roundw
      case rel =>
        have t1 := hb.out
        have t2 := hr.out
        have t3 := ho.out
        refine ⟨k + 1, by omega, by go_num, ?_, ?_, ?_⟩
        · show Below _ _ _
          (repeat (first | exact Below.refl _ _ | assumption | refine below_drewN ?_ _ | refine bel_grow ?_ _ | refine Below.drew ?_ | refine bel_alloc ?_ _ | refine bel_set ?_ (by first | exact Nat.le_refl _ | (simp; done) | (simp; omega) | omega) _ | refine bel_trans ?_ (by assumption)))
        · show Blk _ _ _ _
          (repeat (first | with_reducible assumption | (with_reducible refine Blk.new' ?_; first | with_reducible rfl | (simp; done)) | with_reducible refine Blk.alloc ?_ _ | with_reducible refine Blk.grow ?_ _ | with_reducible refine Blk.drew ?_ | with_reducible refine Blk.drewN ?_ _ | (with_reducible refine Blk.far ?_ (by first | (dsimp only; omega) | (simp; omega)) _) | (with_reducible apply Blk.two) | (with_reducible refine Blk.set' ?_ _ _ ?_) | (with_reducible rfl) | rfl))
        · rw [or_byte l1 l3, or_byte l2 l4, show num d 0 k * 256 + d k = num d 0 (k + 1) by simp only [num]; rw [Nat.zero_add], show num d 8 k * 256 + d (8 + k) = num d 8 (k + 1) from rfl]
          show Blk _ _ _ _
          (repeat (first | with_reducible assumption | (with_reducible refine Blk.new' ?_; first | with_reducible rfl | (simp; done)) | with_reducible refine Blk.alloc ?_ _ | with_reducible refine Blk.grow ?_ _ | with_reducible refine Blk.drew ?_ | with_reducible refine Blk.drewN ?_ _ | (with_reducible refine Blk.far ?_ (by first | (dsimp only; omega) | (simp; omega)) _) | (with_reducible apply Blk.two) | (with_reducible refine Blk.set' ?_ _ _ ?_) | (with_reducible rfl) | rfl))
      case measure => simp [intOf]; omega
    · obtain rfl : k = 8 := by omega
      have hb2 := hb.out
      go_wp2
      refine bodyPost_ret (v := .tuple #[.agg #[.int .u64 (num d 0 8), .int .u64 (num d 8 8)], .bool true]) (by simp [results, Try.results64, go_sem, r0, r1, rl]) rfl ⟨rfl, ?_⟩
      (repeat (first | exact Below.refl _ _ | assumption | refine below_drewN ?_ _ | refine bel_grow ?_ _ | refine Below.drew ?_ | refine bel_alloc ?_ _ | refine bel_set ?_ (by first | exact Nat.le_refl _ | (simp; done) | (simp; omega) | omega) _ | refine bel_trans ?_ (by assumption)))

theorem reads_no (s : ByteArray) (hn : s.size ≤ maxLen) (h16 : s.size ≠ 16) (w : World) : Calls Try.prog 72 #[.string s] w fun r w' =>
      r = .returned (.tuple #[.agg #[.int .u64 0, .int .u64 0], .bool false]) ∧ Below w.heap.size w w' := by
  unfold maxLen at hn
  have h16' : ((s.size : Int) != 16) = true := by rw [bne_iff_ne]; omega
  go_enter Try.func72, Try.ntmps72
  go_wp2
  refine bodyPost_ret (v := .tuple #[.agg #[.int .u64 0, .int .u64 0], .bool false]) (by simp [results, Try.results72, go_sem]) rfl ⟨rfl, ?_⟩
  (repeat (first | exact Below.refl _ _ | assumption | refine below_drewN ?_ _ | refine bel_grow ?_ _ | refine Below.drew ?_ | refine bel_alloc ?_ _ | refine bel_set ?_ (by first | exact Nat.le_refl _ | (simp; done) | (simp; omega) | omega) _ | refine bel_trans ?_ (by assumption)))

set_option maxHeartbeats 1000000 in
theorem reads_yes (s : ByteArray) (h16 : s.size = 16) (w : World) : Calls Try.prog 72 #[.string s] w fun r w' =>
      r = .returned (.tuple #[.agg #[.int .u64 (num (sB s) 0 8), .int .u64 (num (sB s) 8 8)], .bool true]) ∧ Below w.heap.size w w' := by
  have hmk : ∀ w, (Instr.makeSlice 101 (.int .i64 16) (.int .i64 16)).run Try.prog w = .ok (.slice (some ⟨w.heap.size, 0, none⟩) 16 16) (w.alloc (.cells #[.int .i64 0, .int .i64 0, .int .i64 0, .int .i64 0, .int .i64 0, .int .i64 0, .int .i64 0, .int .i64 0, .int .i64 0, .int .i64 0, .int .i64 0, .int .i64 0, .int .i64 0, .int .i64 0, .int .i64 0, .int .i64 0] 3)) := fun _ => by kernel_rfl
  have h16' : ((s.size : Int) != 16) = false := by rw [bne_eq_false_iff_eq]; omega
  replace h16 := Lib.hid h16
  go_enter Try.func72, Try.ntmps72
  go_wp2
  go_loopw [5] (fun i wr => ∃ (k : Nat) (d : Nat → Int), k ≤ 16 ∧ i = .int .i64 k ∧ Hid (∀ j : Nat, j < k → d j = sB s j) ∧ Hid (Below w.heap.size w wr) ∧ Hid (Blk wr w.heap.size 24 #[.int .u64 0, .int .u64 0]) ∧ Hid (wr.rowIs (w.heap.size + 1) 3 16 (iV d))) (fun i _ => 16 - (intOf i).toNat)
  case atStart =>
    refine ⟨0, fun _ => 0, by omega, rfl, fun j h1 => by omega, ?_, ?_, ?_⟩
    · show Below _ _ _
      (repeat (first | exact Below.refl _ _ | assumption | refine below_drewN ?_ _ | refine bel_grow ?_ _ | refine Below.drew ?_ | refine bel_alloc ?_ _ | refine bel_set ?_ (by first | exact Nat.le_refl _ | (simp; done) | (simp; omega) | omega) _ | refine bel_trans ?_ (by assumption)))
    · show Blk _ _ _ _
      (repeat (first | with_reducible assumption | (with_reducible refine Blk.new' ?_; first | with_reducible rfl | (simp; done)) | with_reducible refine Blk.alloc ?_ _ | with_reducible refine Blk.grow ?_ _ | with_reducible refine Blk.drew ?_ | with_reducible refine Blk.drewN ?_ _ | (with_reducible refine Blk.far ?_ (by first | (dsimp only; omega) | (simp; omega)) _) | (with_reducible apply Blk.two) | (with_reducible refine Blk.set' ?_ _ _ ?_) | (with_reducible rfl) | rfl))
    · show World.rowIs _ _ _ _ (fun _ => .int .i64 0)
      refine rowIs_zero _ ?_ ?_
      · simp
      · rfl
  case round =>
    obtain ⟨k, d, hk, rfl, hd, hb, ho, hr⟩ := hrel
    have o0 := (ho.out).cell 0
    have o1 := (ho.out).cell 1
    have of0 := (ho.out).frozen 0
    have of1 := (ho.out).frozen 1
    have ol := (ho.out).lt
    by_cases hlt : k < 16
    · have c1 := hr.out.cell (i := k) (by omega)
      have c3 := hr.out.frozen k
      have hsz : k < s.size := by rw [h16.out]; omega
      have e1 := Lib.hid (sB_at s hsz)
      go_wp2
      go_roundw
      case rel =>
        have t1 := hb.out
        have t2 := ho.out
        refine ⟨k + 1, fun j => if j = k then sB s k else d j, by omega, by go_num, fun j h1 => ?_, ?_, ?_, ?_⟩
        · by_cases ej : j = k
          · subst ej; dsimp only; rw [if_pos rfl]
          · dsimp only; rw [if_neg ej]; exact hd.out j (by omega)
        · show Below _ _ _
          (repeat (first | exact Below.refl _ _ | assumption | refine below_drewN ?_ _ | refine bel_grow ?_ _ | refine Below.drew ?_ | refine bel_alloc ?_ _ | refine bel_set ?_ (by first | exact Nat.le_refl _ | (simp; done) | (simp; omega) | omega) _ | refine bel_trans ?_ (by assumption)))
        · show Blk _ _ _ _
          (repeat (first | with_reducible assumption | (with_reducible refine Blk.new' ?_; first | with_reducible rfl | (simp; done)) | with_reducible refine Blk.alloc ?_ _ | with_reducible refine Blk.grow ?_ _ | with_reducible refine Blk.drew ?_ | with_reducible refine Blk.drewN ?_ _ | (with_reducible refine Blk.far ?_ (by first | (dsimp only; omega) | (simp; omega)) _) | (with_reducible apply Blk.two) | (with_reducible refine Blk.set' ?_ _ _ ?_) | (with_reducible rfl) | rfl))
        · rw [e1.out]
          refine (hr.out.set k _).congr (fun j hj => ?_)
          unfold iV
          by_cases e2 : j = k <;> simp [e2]
      case measure => simp [intOf]; omega
    · obtain rfl : k = 16 := by omega
      have hb2 := hb.out
      have HN := number_any (sB s) (sB_lo s) (w.heap.size + 1) 0 16 wr (by have := hr.out.lt; omega) (fun i hi => by rw [Nat.zero_add, hr.out.cell hi]; unfold iV; rw [hd.out i hi])
      replace HN := Lib.hid HN
      go_wp2_with fail
      refine (gro HN.out).mono ?_
      rintro e w' ⟨rfl, d1, rfl⟩
      go_wp2_with fail
      refine bodyPost_ret (v := .tuple #[.agg #[.int .u64 (num (sB s) 0 8), .int .u64 (num (sB s) 8 8)], .bool true]) (by simp [results, Try.results72, go_sem, o0, o1, ol]) rfl ⟨rfl, ?_⟩
      (repeat (first | exact Below.refl _ _ | assumption | refine below_drewN ?_ _ | refine bel_grow ?_ _ | refine Below.drew ?_ | refine bel_alloc ?_ _ | refine bel_set ?_ (by first | exact Nat.le_refl _ | (simp; done) | (simp; omega) | omega) _ | refine bel_trans ?_ (by assumption)))
end Go.Proofs.Ytflaeljjalpnkaa
