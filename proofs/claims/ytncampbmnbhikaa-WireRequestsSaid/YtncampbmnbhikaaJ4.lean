/-
  Joined: Less BytesL RecA.
-/
import Derived.Test.YtncampbmnbhikaaJ3
-- Less
namespace Go.Proofs.Ytncampbmnbhikaa
set_option linter.unusedVariables false
set_option linter.unusedSimpArgs false
open Go.RowKit

theorem ba_loop (bs : ByteArray) : ∀ (n i : Nat) (r : List UInt8), bs.size - i = n → ByteArray.toList.loop bs i r = r.reverse ++ bs.data.toList.drop i
  | 0, i, r, h => by
    unfold ByteArray.toList.loop
    rw [if_neg (by omega), List.drop_eq_nil_of_le (by simp; omega)]
    simp
  | n + 1, i, r, h => by
    have hi : i < bs.size := by omega
    unfold ByteArray.toList.loop
    rw [if_pos hi, ba_loop bs n (i + 1) _ (by omega)]
    have hi' : i < bs.data.toList.length := by simpa using hi
    rw [List.drop_eq_getElem_cons hi']
    have e : bs.get! i = bs.data.toList[i] := by
      cases bs with
      | mk a => simp [ByteArray.get!, getElem!_pos, show i < a.size from hi]
    simp [e]
theorem ba_toList (bs : ByteArray) : bs.toList = bs.data.toList := by
  unfold ByteArray.toList
  rw [ba_loop bs _ 0 [] rfl]
  simp
theorem strF_toList (d : Nat → Int) (n : Nat) : (strF d n).toList = (List.range n).map (fun i => UInt8.ofNat (d i).toNat) := by rw [ba_toList, strF_list]

theorem less_shift (d e : Nat → Int) : ∀ n, Op.bytesLess ((List.range (n + 1)).map (fun i => UInt8.ofNat (d i).toNat)) ((List.range (n + 1)).map (fun i => UInt8.ofNat (e i).toNat)) =
    (decide (UInt8.ofNat (d 0).toNat < UInt8.ofNat (e 0).toNat) || ((UInt8.ofNat (d 0).toNat == UInt8.ofNat (e 0).toNat) && Op.bytesLess ((List.range n).map (fun i => UInt8.ofNat (d (i + 1)).toNat)) ((List.range n).map (fun i => UInt8.ofNat (e (i + 1)).toNat)))) := by
  intro n
  rw [List.range_succ_eq_map]
  simp only [List.map_cons, List.map_map, Op.bytesLess]
  rfl
/-- which of two rows of bytes is less -/
def rowLess (d e : Nat → Int) : Nat → Bool
  | 0 => false
  | n + 1 => decide (d 0 < e 0) || (d 0 == e 0 && rowLess (fun i => d (i + 1)) (fun i => e (i + 1)) n)
theorem less_row : ∀ (n : Nat) (d e : Nat → Int), (∀ i, i < n → 0 ≤ d i ∧ d i < 256) → (∀ i, i < n → 0 ≤ e i ∧ e i < 256) →
    Op.bytesLess ((List.range n).map (fun i => UInt8.ofNat (d i).toNat)) ((List.range n).map (fun i => UInt8.ofNat (e i).toNat)) = rowLess d e n
  | 0, _, _, _, _ => rfl
  | n + 1, d, e, hd, he => by
    rw [less_shift, less_row n (fun i => d (i + 1)) (fun i => e (i + 1)) (fun i hi => hd (i + 1) (by omega)) (fun i hi => he (i + 1) (by omega))]
    have h1 := hd 0 (by omega)
    have h2 := he 0 (by omega)
    have a : decide (UInt8.ofNat (d 0).toNat < UInt8.ofNat (e 0).toNat) = decide (d 0 < e 0) := by
      rw [decide_eq_decide, UInt8.lt_iff_toNat_lt]
      simp; omega
    have b : (UInt8.ofNat (d 0).toNat == UInt8.ofNat (e 0).toNat) = (d 0 == e 0) := by
      rw [Bool.eq_iff_iff, beq_iff_eq, beq_iff_eq, ← UInt8.toNat_inj]
      simp; omega
    rw [a, b]
    rfl
theorem strF_less {d e : Nat → Int} {n : Nat} (hd : ∀ i, i < n → 0 ≤ d i ∧ d i < 256) (he : ∀ i, i < n → 0 ≤ e i ∧ e i < 256) : Op.bytesLess (strF d n).toList (strF e n).toList = rowLess d e n := by
  rw [strF_toList, strF_toList, less_row n d e hd he]
theorem rowLess_iff : ∀ (n : Nat) (d e : Nat → Int), rowLess d e n = true ↔ ∃ k, k < n ∧ (∀ j, j < k → d j = e j) ∧ d k < e k
  | 0, d, e => by simp [rowLess]
  | n + 1, d, e => by
    simp only [rowLess, Bool.or_eq_true, decide_eq_true_eq, Bool.and_eq_true, beq_iff_eq]
    rw [rowLess_iff n]
    constructor
    · rintro (h | ⟨h, k, hk, h1, h2⟩)
      · exact ⟨0, by omega, fun j hj => by omega, h⟩
      · refine ⟨k + 1, by omega, fun j hj => ?_, h2⟩
        cases j with
        | zero => exact h
        | succ j => exact h1 j (by omega)
    · rintro ⟨k, hk, h1, h2⟩
      cases k with
      | zero => exact Or.inl h2
      | succ k => exact Or.inr ⟨h1 0 (by omega), k, by omega, fun j hj => h1 (j + 1) (by omega), h2⟩
theorem strF_eq {d e : Nat → Int} {n m : Nat} (hd : ∀ i, i < n → 0 ≤ d i ∧ d i < 256) (he : ∀ i, i < m → 0 ≤ e i ∧ e i < 256) : ((strF d n).toList == (strF e m).toList) = decide (n = m ∧ ∀ i, i < n → d i = e i) := by
  rw [Bool.eq_iff_iff, beq_iff_eq, decide_eq_true_eq, ← strF_inj hd he, ba_toList, ba_toList]
  constructor
  · intro h
    cases hx : strF d n with
    | mk a => cases hy : strF e m with
      | mk b => rw [hx, hy] at h; congr 1; exact Array.toList_inj.1 h
  · intro h; rw [h]
end Go.Proofs.Ytncampbmnbhikaa
-- BytesL
namespace Go.Proofs.Ytncampbmnbhikaa
set_option linter.unusedVariables false
set_option linter.unusedSimpArgs false
open Go.RowKit

theorem info_u8 : (Try.prog.info? 5).map (fun i => (i.zero, i.size, i.bytes)) = some (some (.int .u8 0), 1, 1) := by kernel_rfl
/-- the first k of the bytes d -/
def yL (d : Nat → Int) : Nat → List Value
  | 0 => []
  | k + 1 => yL d k ++ [.int .u8 (d k)]
theorem yL_len (d : Nat → Int) : ∀ k, (yL d k).length = k
  | 0 => rfl
  | k + 1 => by simp [yL, yL_len d k]
theorem yL_at (d : Nat → Int) : ∀ k j u, (yL d k)[j]? = some u → u = yV d j
  | 0, j, u, e => by simp [yL] at e
  | k + 1, j, u, e => by
    simp only [yL] at e
    rcases Nat.lt_or_ge j k with hj | hj
    · rw [List.getElem?_append_left (by rw [yL_len]; exact hj)] at e
      exact yL_at d k j u e
    · rw [List.getElem?_append_right (by rw [yL_len]; exact hj), yL_len] at e
      have h2 : j - k = 0 := by
        rcases Nat.eq_zero_or_pos (j - k) with h2 | h2
        · exact h2
        · rw [List.getElem?_eq_none (by simp; omega)] at e; cases e
      rw [h2] at e
      cases e
      obtain rfl : j = k := by omega
      rfl

theorem yL_congr {d e : Nat → Int} : ∀ {k : Nat}, (∀ i, i < k → d i = e i) → yL d k = yL e k
  | 0, _ => rfl
  | k + 1, h => by simp only [yL]; rw [yL_congr (k := k) (fun i hi => h i (by omega)), h k (by omega)]
/-- n bytes d, and e behind -/
def cat (d : Nat → Int) (n : Nat) (e : Nat → Int) (j : Nat) : Int := if j < n then d j else e (j - n)
theorem cat_zero (d e : Nat → Int) : cat d 0 e = e := by funext j; simp [cat]
theorem cat_lo {d e : Nat → Int} {n : Nat} {i : Nat} (h : i < n) : cat d n e i = d i := by simp [cat, h]
theorem cat_hi {d e : Nat → Int} {n : Nat} (i : Nat) : cat d n e (n + i) = e i := by unfold cat; rw [if_neg (by omega)]; congr 1; omega
theorem cat_cat (d e f : Nat → Int) (n m : Nat) : cat d n (cat e m f) = cat (cat d n e) (n + m) f := by
  funext j
  unfold cat
  by_cases h1 : j < n
  · rw [if_pos h1, if_pos (by omega), if_pos h1]
  · by_cases h2 : j - n < m
    · rw [if_neg h1, if_pos h2, if_pos (by omega), if_neg h1]
    · rw [if_neg h1, if_neg h2, if_neg (by omega)]; congr 1; omega
theorem yL_cat (d e : Nat → Int) (n : Nat) : ∀ m, yL (cat d n e) (n + m) = yL d n ++ yL e m
  | 0 => by
    rw [Nat.add_zero, yL_congr (fun i hi => cat_lo hi)]
    simp [yL]
  | m + 1 => by
    show yL (cat d n e) (n + m) ++ [.int .u8 (cat d n e (n + m))] = yL d n ++ (yL e m ++ [.int .u8 (e m)])
    rw [yL_cat d e n m, cat_hi, List.append_assoc]
theorem yL_one (d : Nat → Int) (n : Nat) (x : Int) : yL d n ++ [.int .u8 x] = yL (cat d n (fun _ => x)) (n + 1) := by rw [yL_cat]; rfl
theorem strF_cat (d e : Nat → Int) (n m : Nat) : strF d n ++ strF e m = strF (cat d n e) (n + m) := by
  have h : (strF d n ++ strF e m).data.toList = (strF (cat d n e) (n + m)).data.toList := by
    rw [ByteArray.data_append, Array.toList_append, strF_list, strF_list, strF_list]
    apply List.ext_getElem?
    intro i
    by_cases h1 : i < n
    · rw [List.getElem?_append_left (by simpa using h1), List.getElem?_map, List.getElem?_map, List.getElem?_range h1, List.getElem?_range (by omega)]
      simp only [Option.map_some]
      rw [cat_lo h1]
    · rw [List.getElem?_append_right (by simpa using h1)]
      simp only [List.length_map, List.length_range]
      by_cases h2 : i < n + m
      · rw [List.getElem?_map, List.getElem?_map, List.getElem?_range (by omega), List.getElem?_range h2]
        simp only [Option.map_some]
        obtain ⟨k, rfl⟩ : ∃ k, i = n + k := ⟨i - n, by omega⟩
        rw [cat_hi, Nat.add_sub_cancel_left]
      · rw [List.getElem?_eq_none (by simp; omega), List.getElem?_eq_none (by simp; omega)]
  cases hx : strF d n ++ strF e m with
  | mk a => cases hy : strF (cat d n e) (n + m) with
    | mk b => rw [hx, hy] at h; congr 1; exact Array.toList_inj.1 h
/-- N as k bytes, the highest first -/
def nb (k : Nat) (N : Int) (j : Nat) : Int := N / 256 ^ (k - 1 - j) % 256
theorem nb_lo (k : Nat) (N : Int) (j : Nat) : 0 ≤ nb k N j ∧ nb k N j < 256 := by unfold nb; omega
theorem cat_ok {d e : Nat → Int} {n : Nat} (hd : ∀ i, 0 ≤ d i ∧ d i < 256) (he : ∀ i, 0 ≤ e i ∧ e i < 256) (i : Nat) : 0 ≤ cat d n e i ∧ cat d n e i < 256 := by
  unfold cat; split
  · exact hd i
  · exact he _
end Go.Proofs.Ytncampbmnbhikaa
-- RecA
namespace Go.Proofs.Ytncampbmnbhikaa
set_option linter.unusedVariables false
set_option linter.unusedSimpArgs false
open Go.RowKit

/-- a row of the call's own that reads as n bytes d -/
def OwnB (w : World) (base : Nat) (v : Value) (n : Nat) (d : Nat → Int) : Prop := w.ownsRow base 5 1 v n (yL d n)
theorem OwnB.nil (w : World) (base : Nat) (d : Nat → Int) : OwnB w base (.slice none 0 0) 0 d := World.ownsRow_nil w base _ _
theorem OwnB.congr {w : World} {base : Nat} {v : Value} {n : Nat} {d e : Nat → Int} (h : OwnB w base v n d) (hd : ∀ i, i < n → d i = e i) : OwnB w base v n e := by
  unfold OwnB at *; rw [← yL_congr hd]; exact h
theorem OwnB.slis {w : World} {base : Nat} {v : Value} {n : Nat} {d : Nat → Int} (h : OwnB w base v n d) : ∃ A c, v = .slice A n c ∧ SlIs w A n (yV d) := by
  obtain ⟨A, c, h1, h2⟩ := own_slis h (yL_at d n)
  exact ⟨A, c, h1, by simpa using h2⟩
theorem OwnB.cast {w : World} {base : Nat} {v : Value} {n m : Nat} {d e : Nat → Int} (h : OwnB w base v n d) (hn : n = m) (hd : ∀ i, i < n → d i = e i) : OwnB w base v m e := by
  subst hn; exact h.congr hd

/-- what the steps of a row of the call's own leave: all below base stands -/
theorem belb_alloc {b : Nat} {a w : World} (h : Below b a w) (hb : b ≤ w.heap.size) (o : Obj) : Below b a (w.alloc o) := h.alloc hb o
theorem belb_size {b : Nat} {a w : World} (h : Below b a w) (hb : b ≤ a.heap.size) : b ≤ w.heap.size := Nat.le_trans hb h.size
set_option maxRecDepth 8000 in
set_option maxHeartbeats 2000000 in
theorem put64_any (v : Value) (n0 : Nat) (d : Nat → Int) (N : Int) (k base : Nat) (hN : 0 ≤ N ∧ N < 18446744073709551616) (hk : k ≤ 8) (hn : n0 ≤ 1000000) (w : World) (hbase : base ≤ w.heap.size) (ho : OwnB w base v n0 d) :
    Calls Try.prog 55 #[v, .int .u64 N, .int .i64 k] w fun r w' => ∃ v', r = .returned v' ∧ OwnB w' base v' (n0 + k) (cat d n0 (nb k N)) ∧ Below base w w' := by
  obtain ⟨i0, hi0, hz0, hz1, hz2⟩ := info_parts info_u8
  replace hi0 := Lib.hid hi0
  replace hz0 := Lib.hid hz0
  replace hz1 := Lib.hid hz1
  replace hz2 := Lib.hid hz2
  unfold OwnB at *
  replace ho := Lib.hid ho
  go_enter Try.func55, Try.ntmps55
  go_wp2
  go_loopw [0, 7] (fun u i wr => ∃ (z : Int), -1 ≤ z ∧ z < k ∧ i = .int .i64 z ∧ Hid (wr.ownsRow base 5 1 u (n0 + (k - 1 - z).toNat) (yL (cat d n0 (nb k N)) (n0 + (k - 1 - z).toNat))) ∧ Hid (Below base w wr)) (fun _ i _ => (intOf i + 1).toNat)
  case atStart =>
    refine ⟨(k : Int) - 1, by omega, by omega, rfl, ?_, Below.refl _ _⟩
    rw [show ((k : Int) - 1 - (k - 1)).toNat = 0 by omega, Nat.add_zero, yL_congr (fun i hi => cat_lo hi)]
    exact ho
  case round =>
    clear ho
    obtain ⟨z, hz0', hz1', rfl, hown, hb⟩ := hrel
    by_cases hneg : z = -1
    · subst hneg
      go_wp2
      go_ret
      rw [show ((k : Int) - 1 - -1).toNat = k by omega] at hown
      exact ⟨_, rfl, hown.out, hb.out⟩
    · obtain ⟨m, rfl⟩ := Int.eq_ofNat_of_zero_le (show 0 ≤ z by omega)
      have ez : ((k : Int) - 1 - m).toNat = k - 1 - m := by omega
      rw [ez] at hown
      have e1 : N / 2 ^ (8 * m) % 256 = nb k N (k - 1 - m) := by
        unfold nb
        rw [show k - 1 - (k - 1 - m) = m by omega, show (256 : Int) ^ m = 2 ^ (8 * m) from by rw [show (256 : Int) = 2 ^ 8 from rfl, ← Int.pow_mul]]
      have eL : yL (cat d n0 (nb k N)) (n0 + (k - 1 - m) + 1) = yL (cat d n0 (nb k N)) (n0 + (k - 1 - m)) ++ [.int .u8 (nb k N (k - 1 - m))] := by
        show _ ++ [Value.int .u8 (cat d n0 (nb k N) (n0 + (k - 1 - m)))] = _
        rw [cat_hi]
      rw [← e1] at eL
      replace eL := Lib.hid eL
      have hsz := hb.out.size
      clear e1 ez
      go_wp2_with (at_builtin; refine wpList_append_own _ rfl (.tmp 14) (.tmp 20) _ rfl base 5 i0 _ 1 1 Try.underlying31 hi0.out hz0.out hz1.out hz2.out rfl (by omega) u0 (n0 + (k - 1 - m)) (yL (cat d n0 (nb k N)) (n0 + (k - 1 - m))) rfl (hown.out.alloc _) ⟨wr.heap.size, 0, none⟩ 1 1 [.int .u8 (N / 2 ^ (8 * m) % 256)] rfl rfl ?c1 ?c2 ?c3 ?c4 ?c5 ?_; rotate_right; intro v' w1 hown1 hg1 _)
      case c1 => exact news_blk (Blk.new _ _ _)
      case c2 => intro u hu; simp at hu; rcases hu with rfl; rfl
      case c3 => simp only [maxLen]; omega
      case c4 => omega
      case c5 => simp; omega
      go_roundw
      case rel =>
        refine ⟨(m : Int) - 1, by omega, by omega, rfl, ?_, ?_⟩
        · rw [show ((k : Int) - 1 - ((m : Int) - 1)).toNat = k - 1 - m + 1 by omega, ← Nat.add_assoc, eL.out]
          exact hown1
        · refine Below.grown (Below.alloc hb.out (by omega) _) hg1 (by simp; omega) (fun j hj => (hown.out.lt j hj).1)
      case measure => simp [intOf]
set_option maxRecDepth 8000 in
set_option maxHeartbeats 2000000 in
theorem put32_any (v : Value) (n0 : Nat) (d : Nat → Int) (N : Int) (k base : Nat) (hN : 0 ≤ N ∧ N < 4294967296) (hk : k ≤ 4) (hn : n0 ≤ 1000000) (w : World) (hbase : base ≤ w.heap.size) (ho : OwnB w base v n0 d) :
    Calls Try.prog 53 #[v, .int .u32 N, .int .i64 k] w fun r w' => ∃ v', r = .returned v' ∧ OwnB w' base v' (n0 + k) (cat d n0 (nb k N)) ∧ Below base w w' := by
  obtain ⟨i0, hi0, hz0, hz1, hz2⟩ := info_parts info_u8
  replace hi0 := Lib.hid hi0
  replace hz0 := Lib.hid hz0
  replace hz1 := Lib.hid hz1
  replace hz2 := Lib.hid hz2
  unfold OwnB at *
  replace ho := Lib.hid ho
  go_enter Try.func53, Try.ntmps53
  go_wp2
  go_loopw [0, 7] (fun u i wr => ∃ (z : Int), -1 ≤ z ∧ z < k ∧ i = .int .i64 z ∧ Hid (wr.ownsRow base 5 1 u (n0 + (k - 1 - z).toNat) (yL (cat d n0 (nb k N)) (n0 + (k - 1 - z).toNat))) ∧ Hid (Below base w wr)) (fun _ i _ => (intOf i + 1).toNat)
  case atStart =>
    refine ⟨(k : Int) - 1, by omega, by omega, rfl, ?_, Below.refl _ _⟩
    rw [show ((k : Int) - 1 - (k - 1)).toNat = 0 by omega, Nat.add_zero, yL_congr (fun i hi => cat_lo hi)]
    exact ho
  case round =>
    clear ho
    obtain ⟨z, hz0', hz1', rfl, hown, hb⟩ := hrel
    by_cases hneg : z = -1
    · subst hneg
      go_wp2
      go_ret
      rw [show ((k : Int) - 1 - -1).toNat = k by omega] at hown
      exact ⟨_, rfl, hown.out, hb.out⟩
    · obtain ⟨m, rfl⟩ := Int.eq_ofNat_of_zero_le (show 0 ≤ z by omega)
      have ez : ((k : Int) - 1 - m).toNat = k - 1 - m := by omega
      rw [ez] at hown
      have e1 : N / 2 ^ (8 * m) % 256 = nb k N (k - 1 - m) := by
        unfold nb
        rw [show k - 1 - (k - 1 - m) = m by omega, show (256 : Int) ^ m = 2 ^ (8 * m) from by rw [show (256 : Int) = 2 ^ 8 from rfl, ← Int.pow_mul]]
      have eL : yL (cat d n0 (nb k N)) (n0 + (k - 1 - m) + 1) = yL (cat d n0 (nb k N)) (n0 + (k - 1 - m)) ++ [.int .u8 (nb k N (k - 1 - m))] := by
        show _ ++ [Value.int .u8 (cat d n0 (nb k N) (n0 + (k - 1 - m)))] = _
        rw [cat_hi]
      rw [← e1] at eL
      replace eL := Lib.hid eL
      have hsz := hb.out.size
      clear e1 ez
      go_wp2_with (at_builtin; refine wpList_append_own _ rfl (.tmp 14) (.tmp 20) _ rfl base 5 i0 _ 1 1 Try.underlying31 hi0.out hz0.out hz1.out hz2.out rfl (by omega) u0 (n0 + (k - 1 - m)) (yL (cat d n0 (nb k N)) (n0 + (k - 1 - m))) rfl (hown.out.alloc _) ⟨wr.heap.size, 0, none⟩ 1 1 [.int .u8 (N / 2 ^ (8 * m) % 256)] rfl rfl ?c1 ?c2 ?c3 ?c4 ?c5 ?_; rotate_right; intro v' w1 hown1 hg1 _)
      case c1 => exact news_blk (Blk.new _ _ _)
      case c2 => intro u hu; simp at hu; rcases hu with rfl; rfl
      case c3 => simp only [maxLen]; omega
      case c4 => omega
      case c5 => simp; omega
      go_roundw
      case rel =>
        refine ⟨(m : Int) - 1, by omega, by omega, rfl, ?_, ?_⟩
        · rw [show ((k : Int) - 1 - ((m : Int) - 1)).toNat = k - 1 - m + 1 by omega, ← Nat.add_assoc, eL.out]
          exact hown1
        · refine Below.grown (Below.alloc hb.out (by omega) _) hg1 (by simp; omega) (fun j hj => (hown.out.lt j hj).1)
      case measure => simp [intOf]
set_option maxRecDepth 8000 in
set_option maxHeartbeats 2000000 in
theorem put16_any (v : Value) (n0 : Nat) (d : Nat → Int) (N : Int) (k base : Nat) (hN : 0 ≤ N ∧ N < 65536) (hk : k ≤ 2) (hn : n0 ≤ 1000000) (w : World) (hbase : base ≤ w.heap.size) (ho : OwnB w base v n0 d) :
    Calls Try.prog 56 #[v, .int .u16 N, .int .i64 k] w fun r w' => ∃ v', r = .returned v' ∧ OwnB w' base v' (n0 + k) (cat d n0 (nb k N)) ∧ Below base w w' := by
  obtain ⟨i0, hi0, hz0, hz1, hz2⟩ := info_parts info_u8
  replace hi0 := Lib.hid hi0
  replace hz0 := Lib.hid hz0
  replace hz1 := Lib.hid hz1
  replace hz2 := Lib.hid hz2
  unfold OwnB at *
  replace ho := Lib.hid ho
  go_enter Try.func56, Try.ntmps56
  go_wp2
  go_loopw [0, 7] (fun u i wr => ∃ (z : Int), -1 ≤ z ∧ z < k ∧ i = .int .i64 z ∧ Hid (wr.ownsRow base 5 1 u (n0 + (k - 1 - z).toNat) (yL (cat d n0 (nb k N)) (n0 + (k - 1 - z).toNat))) ∧ Hid (Below base w wr)) (fun _ i _ => (intOf i + 1).toNat)
  case atStart =>
    refine ⟨(k : Int) - 1, by omega, by omega, rfl, ?_, Below.refl _ _⟩
    rw [show ((k : Int) - 1 - (k - 1)).toNat = 0 by omega, Nat.add_zero, yL_congr (fun i hi => cat_lo hi)]
    exact ho
  case round =>
    clear ho
    obtain ⟨z, hz0', hz1', rfl, hown, hb⟩ := hrel
    by_cases hneg : z = -1
    · subst hneg
      go_wp2
      go_ret
      rw [show ((k : Int) - 1 - -1).toNat = k by omega] at hown
      exact ⟨_, rfl, hown.out, hb.out⟩
    · obtain ⟨m, rfl⟩ := Int.eq_ofNat_of_zero_le (show 0 ≤ z by omega)
      have ez : ((k : Int) - 1 - m).toNat = k - 1 - m := by omega
      rw [ez] at hown
      have e1 : N / 2 ^ (8 * m) % 256 = nb k N (k - 1 - m) := by
        unfold nb
        rw [show k - 1 - (k - 1 - m) = m by omega, show (256 : Int) ^ m = 2 ^ (8 * m) from by rw [show (256 : Int) = 2 ^ 8 from rfl, ← Int.pow_mul]]
      have eL : yL (cat d n0 (nb k N)) (n0 + (k - 1 - m) + 1) = yL (cat d n0 (nb k N)) (n0 + (k - 1 - m)) ++ [.int .u8 (nb k N (k - 1 - m))] := by
        show _ ++ [Value.int .u8 (cat d n0 (nb k N) (n0 + (k - 1 - m)))] = _
        rw [cat_hi]
      rw [← e1] at eL
      replace eL := Lib.hid eL
      have hsz := hb.out.size
      clear e1 ez
      go_wp2_with (at_builtin; refine wpList_append_own _ rfl (.tmp 14) (.tmp 20) _ rfl base 5 i0 _ 1 1 Try.underlying31 hi0.out hz0.out hz1.out hz2.out rfl (by omega) u0 (n0 + (k - 1 - m)) (yL (cat d n0 (nb k N)) (n0 + (k - 1 - m))) rfl (hown.out.alloc _) ⟨wr.heap.size, 0, none⟩ 1 1 [.int .u8 (N / 2 ^ (8 * m) % 256)] rfl rfl ?c1 ?c2 ?c3 ?c4 ?c5 ?_; rotate_right; intro v' w1 hown1 hg1 _)
      case c1 => exact news_blk (Blk.new _ _ _)
      case c2 => intro u hu; simp at hu; rcases hu with rfl; rfl
      case c3 => simp only [maxLen]; omega
      case c4 => omega
      case c5 => simp; omega
      go_roundw
      case rel =>
        refine ⟨(m : Int) - 1, by omega, by omega, rfl, ?_, ?_⟩
        · rw [show ((k : Int) - 1 - ((m : Int) - 1)).toNat = k - 1 - m + 1 by omega, ← Nat.add_assoc, eL.out]
          exact hown1
        · refine Below.grown (Below.alloc hb.out (by omega) _) hg1 (by simp; omega) (fun j hj => (hown.out.lt j hj).1)
      case measure => simp [intOf]
set_option maxRecDepth 8000 in
set_option maxHeartbeats 2000000 in
theorem putV_any (v : Value) (n0 : Nat) (d : Nat → Int) (N : Int) (k base : Nat) (hN : 0 ≤ N ∧ N < 4294967296) (hk : k ≤ 4) (hn : n0 ≤ 1000000) (w : World) (hbase : base ≤ w.heap.size) (ho : OwnB w base v n0 d) :
    Calls Try.prog 52 #[v, .int .u32 N, .int .i64 k] w fun r w' => ∃ v', r = .returned v' ∧ OwnB w' base v' (n0 + k) (cat d n0 (nb k N)) ∧ Below base w w' := by
  obtain ⟨i0, hi0, hz0, hz1, hz2⟩ := info_parts info_u8
  replace hi0 := Lib.hid hi0
  replace hz0 := Lib.hid hz0
  replace hz1 := Lib.hid hz1
  replace hz2 := Lib.hid hz2
  unfold OwnB at *
  replace ho := Lib.hid ho
  go_enter Try.func52, Try.ntmps52
  go_wp2
  go_loopw [0, 7] (fun u i wr => ∃ (z : Int), -1 ≤ z ∧ z < k ∧ i = .int .i64 z ∧ Hid (wr.ownsRow base 5 1 u (n0 + (k - 1 - z).toNat) (yL (cat d n0 (nb k N)) (n0 + (k - 1 - z).toNat))) ∧ Hid (Below base w wr)) (fun _ i _ => (intOf i + 1).toNat)
  case atStart =>
    refine ⟨(k : Int) - 1, by omega, by omega, rfl, ?_, Below.refl _ _⟩
    rw [show ((k : Int) - 1 - (k - 1)).toNat = 0 by omega, Nat.add_zero, yL_congr (fun i hi => cat_lo hi)]
    exact ho
  case round =>
    clear ho
    obtain ⟨z, hz0', hz1', rfl, hown, hb⟩ := hrel
    by_cases hneg : z = -1
    · subst hneg
      go_wp2
      go_ret
      rw [show ((k : Int) - 1 - -1).toNat = k by omega] at hown
      exact ⟨_, rfl, hown.out, hb.out⟩
    · obtain ⟨m, rfl⟩ := Int.eq_ofNat_of_zero_le (show 0 ≤ z by omega)
      have ez : ((k : Int) - 1 - m).toNat = k - 1 - m := by omega
      rw [ez] at hown
      have e1 : N / 2 ^ (8 * m) % 256 = nb k N (k - 1 - m) := by
        unfold nb
        rw [show k - 1 - (k - 1 - m) = m by omega, show (256 : Int) ^ m = 2 ^ (8 * m) from by rw [show (256 : Int) = 2 ^ 8 from rfl, ← Int.pow_mul]]
      have eL : yL (cat d n0 (nb k N)) (n0 + (k - 1 - m) + 1) = yL (cat d n0 (nb k N)) (n0 + (k - 1 - m)) ++ [.int .u8 (nb k N (k - 1 - m))] := by
        show _ ++ [Value.int .u8 (cat d n0 (nb k N) (n0 + (k - 1 - m)))] = _
        rw [cat_hi]
      rw [← e1] at eL
      replace eL := Lib.hid eL
      have hsz := hb.out.size
      clear e1 ez
      go_wp2_with (at_builtin; refine wpList_append_own _ rfl (.tmp 14) (.tmp 20) _ rfl base 5 i0 _ 1 1 Try.underlying31 hi0.out hz0.out hz1.out hz2.out rfl (by omega) u0 (n0 + (k - 1 - m)) (yL (cat d n0 (nb k N)) (n0 + (k - 1 - m))) rfl (hown.out.alloc _) ⟨wr.heap.size, 0, none⟩ 1 1 [.int .u8 (N / 2 ^ (8 * m) % 256)] rfl rfl ?c1 ?c2 ?c3 ?c4 ?c5 ?_; rotate_right; intro v' w1 hown1 hg1 _)
      case c1 => exact news_blk (Blk.new _ _ _)
      case c2 => intro u hu; simp at hu; rcases hu with rfl; rfl
      case c3 => simp only [maxLen]; omega
      case c4 => omega
      case c5 => simp; omega
      go_roundw
      case rel =>
        refine ⟨(m : Int) - 1, by omega, by omega, rfl, ?_, ?_⟩
        · rw [show ((k : Int) - 1 - ((m : Int) - 1)).toNat = k - 1 - m + 1 by omega, ← Nat.add_assoc, eL.out]
          exact hown1
        · refine Below.grown (Below.alloc hb.out (by omega) _) hg1 (by simp; omega) (fun j hj => (hown.out.lt j hj).1)
      case measure => simp [intOf]
end Go.Proofs.Ytncampbmnbhikaa
