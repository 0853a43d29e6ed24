/-
  Numbers laid behind bytes: record.put at its instances, walked.
-/
import Derived.Test.YtflaeljjalpnkaaBytesL
namespace Go.Proofs.Ytflaeljjalpnkaa
set_option linter.unusedVariables false
set_option linter.unusedSimpArgs false
open Go.RowKit

/-- a row of the call's own that reads as n bytes d -/
def OwnB (w : World) (base : Nat) (v : Value) (n : Nat) (d : Nat → Int) : Prop := w.ownsRow base 5 1 v n (yL d n)
theorem OwnB.nil (w : World) (base : Nat) (d : Nat → Int) : OwnB w base (.slice none 0 0) 0 d := World.ownsRow_nil w base _ _
theorem OwnB.congr {w : World} {base : Nat} {v : Value} {n : Nat} {d e : Nat → Int} (h : OwnB w base v n d) (hd : ∀ i, i < n → d i = e i) : OwnB w base v n e := by
  unfold OwnB at *; rw [← yL_congr hd]; exact h
theorem OwnB.slis {w : World} {base : Nat} {v : Value} {n : Nat} {d : Nat → Int} (h : OwnB w base v n d) : ∃ A c, v = .slice A n c ∧ SlIs w A n (yV d) := by
  obtain ⟨A, c, h1, h2⟩ := own_slis h (yL_at d n)
  exact ⟨A, c, h1, by simpa using h2⟩
theorem OwnB.cast {w : World} {base : Nat} {v : Value} {n m : Nat} {d e : Nat → Int} (h : OwnB w base v n d) (hn : n = m) (hd : ∀ i, i < n → d i = e i) : OwnB w base v m e := by
  subst hn; exact h.congr hd

/-- what the steps of a row of the call's own leave: all below base stands -/
theorem belb_alloc {b : Nat} {a w : World} (h : Below b a w) (hb : b ≤ w.heap.size) (o : Obj) : Below b a (w.alloc o) := h.alloc hb o
theorem belb_size {b : Nat} {a w : World} (h : Below b a w) (hb : b ≤ a.heap.size) : b ≤ w.heap.size := Nat.le_trans hb h.size
set_option maxRecDepth 8000 in
set_option maxHeartbeats 2000000 in
theorem put64_any (v : Value) (n0 : Nat) (d : Nat → Int) (N : Int) (k base : Nat) (hN : 0 ≤ N ∧ N < 18446744073709551616) (hk : k ≤ 8) (hn : n0 ≤ 1000000) (w : World) (hbase : base ≤ w.heap.size) (ho : OwnB w base v n0 d) :
    Calls Try.prog 50 #[v, .int .u64 N, .int .i64 k] w fun r w' => ∃ v', r = .returned v' ∧ OwnB w' base v' (n0 + k) (cat d n0 (nb k N)) ∧ Below base w w' := by
  obtain ⟨i0, hi0, hz0, hz1, hz2⟩ := info_parts info_u8
  replace hi0 := Lib.hid hi0
  replace hz0 := Lib.hid hz0
  replace hz1 := Lib.hid hz1
  replace hz2 := Lib.hid hz2
  unfold OwnB at *
  replace ho := Lib.hid ho
  go_enter Try.func50, Try.ntmps50
  go_wp2
  go_loopw [0, 7] (fun u i wr => ∃ (z : Int), -1 ≤ z ∧ z < k ∧ i = .int .i64 z ∧ Hid (wr.ownsRow base 5 1 u (n0 + (k - 1 - z).toNat) (yL (cat d n0 (nb k N)) (n0 + (k - 1 - z).toNat))) ∧ Hid (Below base w wr)) (fun _ i _ => (intOf i + 1).toNat)
  case atStart =>
    refine ⟨(k : Int) - 1, by omega, by omega, rfl, ?_, Below.refl _ _⟩
    rw [show ((k : Int) - 1 - (k - 1)).toNat = 0 by omega, Nat.add_zero, yL_congr (fun i hi => cat_lo hi)]
    exact ho
  case round =>
    clear ho
    obtain ⟨z, hz0', hz1', rfl, hown, hb⟩ := hrel
    by_cases hneg : z = -1
    · subst hneg
      go_wp2
      go_ret
      rw [show ((k : Int) - 1 - -1).toNat = k by omega] at hown
      exact ⟨_, rfl, hown.out, hb.out⟩
    · obtain ⟨m, rfl⟩ := Int.eq_ofNat_of_zero_le (show 0 ≤ z by omega)
      have ez : ((k : Int) - 1 - m).toNat = k - 1 - m := by omega
      rw [ez] at hown
      have e1 : N / 2 ^ (8 * m) % 256 = nb k N (k - 1 - m) := by
        unfold nb
        rw [show k - 1 - (k - 1 - m) = m by omega, show (256 : Int) ^ m = 2 ^ (8 * m) from by rw [show (256 : Int) = 2 ^ 8 from rfl, ← Int.pow_mul]]
      have eL : yL (cat d n0 (nb k N)) (n0 + (k - 1 - m) + 1) = yL (cat d n0 (nb k N)) (n0 + (k - 1 - m)) ++ [.int .u8 (nb k N (k - 1 - m))] := by
        show _ ++ [Value.int .u8 (cat d n0 (nb k N) (n0 + (k - 1 - m)))] = _
        rw [cat_hi]
      rw [← e1] at eL
      replace eL := Lib.hid eL
      have hsz := hb.out.size
      clear e1 ez
      go_wp2_with (at_builtin; refine wpList_append_own _ rfl (.tmp 14) (.tmp 20) _ rfl base 5 i0 _ 1 1 Try.underlying32 hi0.out hz0.out hz1.out hz2.out rfl (by omega) u0 (n0 + (k - 1 - m)) (yL (cat d n0 (nb k N)) (n0 + (k - 1 - m))) rfl (hown.out.alloc _) ⟨wr.heap.size, 0, none⟩ 1 1 [.int .u8 (N / 2 ^ (8 * m) % 256)] rfl rfl ?c1 ?c2 ?c3 ?c4 ?c5 ?_; rotate_right; intro v' w1 hown1 hg1 _)
      case c1 => exact news_blk (Blk.new _ _ _)
      case c2 => intro u hu; simp at hu; rcases hu with rfl; rfl
      case c3 => simp only [maxLen]; omega
      case c4 => omega
      case c5 => simp; omega
      go_roundw
      case rel =>
        refine ⟨(m : Int) - 1, by omega, by omega, rfl, ?_, ?_⟩
        · rw [show ((k : Int) - 1 - ((m : Int) - 1)).toNat = k - 1 - m + 1 by omega, ← Nat.add_assoc, eL.out]
          exact hown1
        · refine Below.grown (Below.alloc hb.out (by omega) _) hg1 (by simp; omega) (fun j hj => (hown.out.lt j hj).1)
      case measure => simp [intOf]
set_option maxRecDepth 8000 in
set_option maxHeartbeats 2000000 in
theorem put32_any (v : Value) (n0 : Nat) (d : Nat → Int) (N : Int) (k base : Nat) (hN : 0 ≤ N ∧ N < 4294967296) (hk : k ≤ 4) (hn : n0 ≤ 1000000) (w : World) (hbase : base ≤ w.heap.size) (ho : OwnB w base v n0 d) :
    Calls Try.prog 52 #[v, .int .u32 N, .int .i64 k] w fun r w' => ∃ v', r = .returned v' ∧ OwnB w' base v' (n0 + k) (cat d n0 (nb k N)) ∧ Below base w w' := by
  obtain ⟨i0, hi0, hz0, hz1, hz2⟩ := info_parts info_u8
  replace hi0 := Lib.hid hi0
  replace hz0 := Lib.hid hz0
  replace hz1 := Lib.hid hz1
  replace hz2 := Lib.hid hz2
  unfold OwnB at *
  replace ho := Lib.hid ho
  go_enter Try.func52, Try.ntmps52
  go_wp2
  go_loopw [0, 7] (fun u i wr => ∃ (z : Int), -1 ≤ z ∧ z < k ∧ i = .int .i64 z ∧ Hid (wr.ownsRow base 5 1 u (n0 + (k - 1 - z).toNat) (yL (cat d n0 (nb k N)) (n0 + (k - 1 - z).toNat))) ∧ Hid (Below base w wr)) (fun _ i _ => (intOf i + 1).toNat)
  case atStart =>
    refine ⟨(k : Int) - 1, by omega, by omega, rfl, ?_, Below.refl _ _⟩
    rw [show ((k : Int) - 1 - (k - 1)).toNat = 0 by omega, Nat.add_zero, yL_congr (fun i hi => cat_lo hi)]
    exact ho
  case round =>
    clear ho
    obtain ⟨z, hz0', hz1', rfl, hown, hb⟩ := hrel
    by_cases hneg : z = -1
    · subst hneg
      go_wp2
      go_ret
      rw [show ((k : Int) - 1 - -1).toNat = k by omega] at hown
      exact ⟨_, rfl, hown.out, hb.out⟩
    · obtain ⟨m, rfl⟩ := Int.eq_ofNat_of_zero_le (show 0 ≤ z by omega)
      have ez : ((k : Int) - 1 - m).toNat = k - 1 - m := by omega
      rw [ez] at hown
      have e1 : N / 2 ^ (8 * m) % 256 = nb k N (k - 1 - m) := by
        unfold nb
        rw [show k - 1 - (k - 1 - m) = m by omega, show (256 : Int) ^ m = 2 ^ (8 * m) from by rw [show (256 : Int) = 2 ^ 8 from rfl, ← Int.pow_mul]]
      have eL : yL (cat d n0 (nb k N)) (n0 + (k - 1 - m) + 1) = yL (cat d n0 (nb k N)) (n0 + (k - 1 - m)) ++ [.int .u8 (nb k N (k - 1 - m))] := by
        show _ ++ [Value.int .u8 (cat d n0 (nb k N) (n0 + (k - 1 - m)))] = _
        rw [cat_hi]
      rw [← e1] at eL
      replace eL := Lib.hid eL
      have hsz := hb.out.size
      clear e1 ez
      go_wp2_with (at_builtin; refine wpList_append_own _ rfl (.tmp 14) (.tmp 20) _ rfl base 5 i0 _ 1 1 Try.underlying32 hi0.out hz0.out hz1.out hz2.out rfl (by omega) u0 (n0 + (k - 1 - m)) (yL (cat d n0 (nb k N)) (n0 + (k - 1 - m))) rfl (hown.out.alloc _) ⟨wr.heap.size, 0, none⟩ 1 1 [.int .u8 (N / 2 ^ (8 * m) % 256)] rfl rfl ?c1 ?c2 ?c3 ?c4 ?c5 ?_; rotate_right; intro v' w1 hown1 hg1 _)
      case c1 => exact news_blk (Blk.new _ _ _)
      case c2 => intro u hu; simp at hu; rcases hu with rfl; rfl
      case c3 => simp only [maxLen]; omega
      case c4 => omega
      case c5 => simp; omega
      go_roundw
      case rel =>
        refine ⟨(m : Int) - 1, by omega, by omega, rfl, ?_, ?_⟩
        · rw [show ((k : Int) - 1 - ((m : Int) - 1)).toNat = k - 1 - m + 1 by omega, ← Nat.add_assoc, eL.out]
          exact hown1
        · refine Below.grown (Below.alloc hb.out (by omega) _) hg1 (by simp; omega) (fun j hj => (hown.out.lt j hj).1)
      case measure => simp [intOf]
set_option maxRecDepth 8000 in
set_option maxHeartbeats 2000000 in
theorem put16_any (v : Value) (n0 : Nat) (d : Nat → Int) (N : Int) (k base : Nat) (hN : 0 ≤ N ∧ N < 65536) (hk : k ≤ 2) (hn : n0 ≤ 1000000) (w : World) (hbase : base ≤ w.heap.size) (ho : OwnB w base v n0 d) :
    Calls Try.prog 57 #[v, .int .u16 N, .int .i64 k] w fun r w' => ∃ v', r = .returned v' ∧ OwnB w' base v' (n0 + k) (cat d n0 (nb k N)) ∧ Below base w w' := by
  obtain ⟨i0, hi0, hz0, hz1, hz2⟩ := info_parts info_u8
  replace hi0 := Lib.hid hi0
  replace hz0 := Lib.hid hz0
  replace hz1 := Lib.hid hz1
  replace hz2 := Lib.hid hz2
  unfold OwnB at *
  replace ho := Lib.hid ho
  go_enter Try.func57, Try.ntmps57
  go_wp2
  go_loopw [0, 7] (fun u i wr => ∃ (z : Int), -1 ≤ z ∧ z < k ∧ i = .int .i64 z ∧ Hid (wr.ownsRow base 5 1 u (n0 + (k - 1 - z).toNat) (yL (cat d n0 (nb k N)) (n0 + (k - 1 - z).toNat))) ∧ Hid (Below base w wr)) (fun _ i _ => (intOf i + 1).toNat)
  case atStart =>
    refine ⟨(k : Int) - 1, by omega, by omega, rfl, ?_, Below.refl _ _⟩
    rw [show ((k : Int) - 1 - (k - 1)).toNat = 0 by omega, Nat.add_zero, yL_congr (fun i hi => cat_lo hi)]
    exact ho
  case round =>
    clear ho
    obtain ⟨z, hz0', hz1', rfl, hown, hb⟩ := hrel
    by_cases hneg : z = -1
    · subst hneg
      go_wp2
      go_ret
      rw [show ((k : Int) - 1 - -1).toNat = k by omega] at hown
      exact ⟨_, rfl, hown.out, hb.out⟩
    · obtain ⟨m, rfl⟩ := Int.eq_ofNat_of_zero_le (show 0 ≤ z by omega)
      have ez : ((k : Int) - 1 - m).toNat = k - 1 - m := by omega
      rw [ez] at hown
      have e1 : N / 2 ^ (8 * m) % 256 = nb k N (k - 1 - m) := by
        unfold nb
        rw [show k - 1 - (k - 1 - m) = m by omega, show (256 : Int) ^ m = 2 ^ (8 * m) from by rw [show (256 : Int) = 2 ^ 8 from rfl, ← Int.pow_mul]]
      have eL : yL (cat d n0 (nb k N)) (n0 + (k - 1 - m) + 1) = yL (cat d n0 (nb k N)) (n0 + (k - 1 - m)) ++ [.int .u8 (nb k N (k - 1 - m))] := by
        show _ ++ [Value.int .u8 (cat d n0 (nb k N) (n0 + (k - 1 - m)))] = _
        rw [cat_hi]
      rw [← e1] at eL
      replace eL := Lib.hid eL
      have hsz := hb.out.size
      clear e1 ez
      go_wp2_with (at_builtin; refine wpList_append_own _ rfl (.tmp 14) (.tmp 20) _ rfl base 5 i0 _ 1 1 Try.underlying32 hi0.out hz0.out hz1.out hz2.out rfl (by omega) u0 (n0 + (k - 1 - m)) (yL (cat d n0 (nb k N)) (n0 + (k - 1 - m))) rfl (hown.out.alloc _) ⟨wr.heap.size, 0, none⟩ 1 1 [.int .u8 (N / 2 ^ (8 * m) % 256)] rfl rfl ?c1 ?c2 ?c3 ?c4 ?c5 ?_; rotate_right; intro v' w1 hown1 hg1 _)
      case c1 => exact news_blk (Blk.new _ _ _)
      case c2 => intro u hu; simp at hu; rcases hu with rfl; rfl
      case c3 => simp only [maxLen]; omega
      case c4 => omega
      case c5 => simp; omega
      go_roundw
      case rel =>
        refine ⟨(m : Int) - 1, by omega, by omega, rfl, ?_, ?_⟩
        · rw [show ((k : Int) - 1 - ((m : Int) - 1)).toNat = k - 1 - m + 1 by omega, ← Nat.add_assoc, eL.out]
          exact hown1
        · refine Below.grown (Below.alloc hb.out (by omega) _) hg1 (by simp; omega) (fun j hj => (hown.out.lt j hj).1)
      case measure => simp [intOf]
set_option maxRecDepth 8000 in
set_option maxHeartbeats 2000000 in
theorem putV_any (v : Value) (n0 : Nat) (d : Nat → Int) (N : Int) (k base : Nat) (hN : 0 ≤ N ∧ N < 4294967296) (hk : k ≤ 4) (hn : n0 ≤ 1000000) (w : World) (hbase : base ≤ w.heap.size) (ho : OwnB w base v n0 d) :
    Calls Try.prog 53 #[v, .int .u32 N, .int .i64 k] w fun r w' => ∃ v', r = .returned v' ∧ OwnB w' base v' (n0 + k) (cat d n0 (nb k N)) ∧ Below base w w' := by
  obtain ⟨i0, hi0, hz0, hz1, hz2⟩ := info_parts info_u8
  replace hi0 := Lib.hid hi0
  replace hz0 := Lib.hid hz0
  replace hz1 := Lib.hid hz1
  replace hz2 := Lib.hid hz2
  unfold OwnB at *
  replace ho := Lib.hid ho
  go_enter Try.func53, Try.ntmps53
  go_wp2
  go_loopw [0, 7] (fun u i wr => ∃ (z : Int), -1 ≤ z ∧ z < k ∧ i = .int .i64 z ∧ Hid (wr.ownsRow base 5 1 u (n0 + (k - 1 - z).toNat) (yL (cat d n0 (nb k N)) (n0 + (k - 1 - z).toNat))) ∧ Hid (Below base w wr)) (fun _ i _ => (intOf i + 1).toNat)
  case atStart =>
    refine ⟨(k : Int) - 1, by omega, by omega, rfl, ?_, Below.refl _ _⟩
    rw [show ((k : Int) - 1 - (k - 1)).toNat = 0 by omega, Nat.add_zero, yL_congr (fun i hi => cat_lo hi)]
    exact ho
  case round =>
    clear ho
    obtain ⟨z, hz0', hz1', rfl, hown, hb⟩ := hrel
    by_cases hneg : z = -1
    · subst hneg
      go_wp2
      go_ret
      rw [show ((k : Int) - 1 - -1).toNat = k by omega] at hown
      exact ⟨_, rfl, hown.out, hb.out⟩
    · obtain ⟨m, rfl⟩ := Int.eq_ofNat_of_zero_le (show 0 ≤ z by omega)
      have ez : ((k : Int) - 1 - m).toNat = k - 1 - m := by omega
      rw [ez] at hown
      have e1 : N / 2 ^ (8 * m) % 256 = nb k N (k - 1 - m) := by
        unfold nb
        rw [show k - 1 - (k - 1 - m) = m by omega, show (256 : Int) ^ m = 2 ^ (8 * m) from by rw [show (256 : Int) = 2 ^ 8 from rfl, ← Int.pow_mul]]
      have eL : yL (cat d n0 (nb k N)) (n0 + (k - 1 - m) + 1) = yL (cat d n0 (nb k N)) (n0 + (k - 1 - m)) ++ [.int .u8 (nb k N (k - 1 - m))] := by
        show _ ++ [Value.int .u8 (cat d n0 (nb k N) (n0 + (k - 1 - m)))] = _
        rw [cat_hi]
      rw [← e1] at eL
      replace eL := Lib.hid eL
      have hsz := hb.out.size
      clear e1 ez
      go_wp2_with (at_builtin; refine wpList_append_own _ rfl (.tmp 14) (.tmp 20) _ rfl base 5 i0 _ 1 1 Try.underlying32 hi0.out hz0.out hz1.out hz2.out rfl (by omega) u0 (n0 + (k - 1 - m)) (yL (cat d n0 (nb k N)) (n0 + (k - 1 - m))) rfl (hown.out.alloc _) ⟨wr.heap.size, 0, none⟩ 1 1 [.int .u8 (N / 2 ^ (8 * m) % 256)] rfl rfl ?c1 ?c2 ?c3 ?c4 ?c5 ?_; rotate_right; intro v' w1 hown1 hg1 _)
      case c1 => exact news_blk (Blk.new _ _ _)
      case c2 => intro u hu; simp at hu; rcases hu with rfl; rfl
      case c3 => simp only [maxLen]; omega
      case c4 => omega
      case c5 => simp; omega
      go_roundw
      case rel =>
        refine ⟨(m : Int) - 1, by omega, by omega, rfl, ?_, ?_⟩
        · rw [show ((k : Int) - 1 - ((m : Int) - 1)).toNat = k - 1 - m + 1 by omega, ← Nat.add_assoc, eL.out]
          exact hown1
        · refine Below.grown (Below.alloc hb.out (by omega) _) hg1 (by simp; omega) (fun j hj => (hown.out.lt j hj).1)
      case measure => simp [intOf]
end Go.Proofs.Ytflaeljjalpnkaa
