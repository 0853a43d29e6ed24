/-
  Joined: WideN KeyA WideM.
-/
import Derived.Test.YtncampbmnbhikaaJ5
import Derived.Test.YtncampbmnbhikaaJ4
import Derived.Test.YtncampbmnbhikaaRecC
-- WideN
namespace Go.Proofs.Ytncampbmnbhikaa
set_option linter.unusedVariables false
set_option linter.unusedSimpArgs false
open Go.RowKit

set_option maxRecDepth 8000 in
set_option maxHeartbeats 2000000 in
theorem refbytes_any (h l : Int) (hh : Wd h) (hl : Wd l) (w : World) : Calls Try.prog 47 #[.agg #[.int .u64 h, .int .u64 l]] w fun r w' =>
      r = .returned (.string (strF (dgt h l) 16)) ∧ Below w.heap.size w w' := by
  obtain ⟨i0, hi0, hz0, hz1, hz2⟩ := info_parts info_u8
  have HD := Lib.hid (fun w => digits_any h l hh hl w)
  clear hh hl
  replace hi0 := Lib.hid hi0
  replace hz0 := Lib.hid hz0
  replace hz1 := Lib.hid hz1
  replace hz2 := Lib.hid hz2
  have hb0 := Below.refl w.heap.size w
  go_enter Try.func47, Try.ntmps47
  replace hb0 := Lib.hid hb0
  go_wp2_with fail
  refine (HD.out _).mono ?_
  rintro e w_1 ⟨gx, rfl, hgx, hrx, hb_1⟩
  have z_1 := hb_1.size
  try simp at z_1
  have t_ := hb0.out
  have hB_1 := bel_eld (w := w) (X := _) (by first | ((repeat (first | with_reducible exact Below.refl _ _ | with_reducible assumption | (with_reducible refine bel_set ?_ (by first | exact Nat.le_refl _ | (simp; done) | (simp; omega) | omega) _) | with_reducible refine bel_grow ?_ _ | with_reducible refine Below.drew ?_ | with_reducible refine below_drewN ?_ _ | with_reducible refine bel_alloc ?_ _ | with_reducible refine bel_trans ?_ (by assumption))); done) | (repeat (first | exact Below.refl _ _ | assumption | refine below_drewN ?_ _ | refine bel_grow ?_ _ | refine Below.drew ?_ | refine bel_alloc ?_ _ | refine bel_set ?_ (by first | exact Nat.le_refl _ | (simp; done) | (simp; omega) | omega) _ | refine bel_trans ?_ (by assumption)))) hb_1
  clear t_
  clear hb0 hb_1
  replace hB_1 := Lib.hid hB_1
  go_wp2_with fail
  have rl := hrx.lt
  have hgx2 : w.heap.size < gx := by simp at hgx; omega
  replace hrx := Lib.hid hrx
  go_loopw [4, 5] (fun v i wr => ∃ (k : Nat), k ≤ 16 ∧ i = .int .i64 k ∧ Hid (wr.ownsRow w_1.heap.size 5 1 v k (yL (dgt h l) k)) ∧ Hid (Below w.heap.size w wr) ∧ Hid (Below w_1.heap.size w_1 wr)) (fun _ i _ => 16 - (intOf i).toNat)
  case atStart =>
    have t1 := hB_1.out
    refine ⟨0, by omega, rfl, ?_, ?_, ?_⟩
    · exact World.ownsRow_lit w_1 #[] 0 (Nat.le_refl _) (by simp [maxLen]) rfl
    · show Below _ _ _
      (repeat (first | exact Below.refl _ _ | assumption | refine below_drewN ?_ _ | refine bel_grow ?_ _ | refine Below.drew ?_ | refine bel_alloc ?_ _ | refine bel_set ?_ (by first | exact Nat.le_refl _ | (simp; done) | (simp; omega) | omega) _ | refine bel_trans ?_ (by assumption)))
    · show Below _ _ _
      (repeat (first | exact Below.refl _ _ | assumption | refine below_drewN ?_ _ | refine bel_grow ?_ _ | refine Below.drew ?_ | refine bel_alloc ?_ _ | refine bel_set ?_ (by first | exact Nat.le_refl _ | (simp; done) | (simp; omega) | omega) _ | refine bel_trans ?_ (by assumption)))
  case round =>
    obtain ⟨k, hk, rfl, hown, hb, hb1⟩ := hrel
    by_cases hlt : k < 16
    · have c1 : wr.cell? ⟨gx, k, none⟩ = some (.int .i64 (dgt h l k)) := rowIs_cellB hrx.out hb1.out (by omega)
      have q1 := dgt_lo h l k
      have eL : yL (dgt h l) (k + 1) = yL (dgt h l) k ++ [.int .u8 (dgt h l k)] := rfl
      replace eL := Lib.hid eL
      generalize dgt h l k = q at *
      go_wp2_with (at_builtin; refine wpList_append_own _ rfl (.tmp 13) (.tmp 19) _ rfl w_1.heap.size 5 i0 _ 1 1 Try.underlying31 hi0.out hz0.out hz1.out hz2.out rfl (by omega) u4 k (yL (dgt h l) k) rfl (hown.out.alloc _) ⟨wr.heap.size, 0, none⟩ 1 1 [.int .u8 q] rfl rfl ?c1 ?c2 ?c3 ?c4 ?c5 ?_; rotate_right; intro v' w1 hown1 hg1 _)
      case c1 => exact news_blk (Blk.new _ _ _)
      case c2 => intro u hu; simp at hu; rcases hu with rfl; rfl
      case c3 => simp only [maxLen]; omega
      case c4 => omega
      case c5 => have := hb1.out.size; simp; omega
      refine ⟨⟨k + 1, by omega, rfl, ?_, ?_, ?_⟩, ?_⟩
      · rw [eL.out]
        exact hown1
      · refine bel_grown (bel_alloc hb.out _) hg1 (fun j hj => ?_)
        have := (hown.out.lt j hj).1
        omega
      · refine bel_grown (bel_alloc hb1.out _) hg1 (fun j hj => (hown.out.lt j hj).1)
      · simp [intOf]; omega
    · obtain rfl : k = 16 := by omega
      obtain ⟨A', c', rfl, hs2⟩ := own_slis hown.out (yL_at (dgt h l) 16)
      have hcv := conv_str (P := Try.prog) (src := 31) (e := 5) (dst := 9) Try.underlying31 Try.underlying5 Try.underlying9 hs2 c'
      clear hs2
      go_wp2
      go_ret
      exact ⟨rfl, hb.out⟩
end Go.Proofs.Ytncampbmnbhikaa
-- KeyA
namespace Go.Proofs.Ytncampbmnbhikaa
set_option linter.unusedVariables false
set_option linter.unusedSimpArgs false
open Go.RowKit

theorem Wd0 : Wd 0 := by unfold Wd; decide



/-- the cells of a slice that begins at off in a row of bytes -/
theorem cells_from {w : World} {g : Nat} {t : TypeId} {d : Nat → Int} {n m off : Nat} (h : w.rowIs g t n (yV d)) (hm : off + m ≤ n) : ∀ j u, (yL (fun i => d (off + i)) m)[j]? = some u → w.cell? ((⟨g, off, none⟩ : Addr).add j) = some u := by
  intro j u hu
  have hj : j < m := by
    rcases Nat.lt_or_ge j m with h1 | h1
    · exact h1
    · rw [List.getElem?_eq_none (by rw [yL_len]; exact h1)] at hu; cases hu
  have e : (⟨g, off, none⟩ : Addr).add j = ⟨g, off + j, none⟩ := by unfold Addr.add; split <;> simp_all
  rw [e, h.cell (by omega), yL_at _ m j u hu]
  rfl
theorem stamp_nb (n : Int) (i : Nat) (hi : i < 8) : dgt 0 n (8 + i) = nb 8 n i := by
  rw [dgt_low 0 n i hi]; unfold nb; rw [show 8 - 1 - i = 7 - i by omega]



end Go.Proofs.Ytncampbmnbhikaa
-- WideM
namespace Go.Proofs.Ytncampbmnbhikaa
set_option linter.unusedVariables false
set_option linter.unusedSimpArgs false
open Go.RowKit

theorem or_byte {x y : Int} (hx : 0 ≤ x ∧ x < 72057594037927936) (hy : 0 ≤ y ∧ y < 256) : bits .or .u64 (x * 256) y = x * 256 + y := by
  obtain ⟨x, rfl⟩ := Int.eq_ofNat_of_zero_le hx.1
  obtain ⟨y, rfl⟩ := Int.eq_ofNat_of_zero_le hy.1
  have e : ((x : Int) * 256) = ((x * 256 : Nat) : Int) := by omega
  rw [e, u64_or_nat _ _ (by omega) (by omega)]
  have h := Nat.shiftLeft_add_eq_or_of_lt (a := x) (b := y) (i := 8) (by omega)
  rw [Nat.shiftLeft_eq] at h
  rw [show x * 256 ||| y = x * 256 + y from h.symm]
  omega

set_option maxHeartbeats 1000000 in
theorem read_no (A : Option Addr) (n c : Nat) (hn : n ≤ maxLen) (h16 : n ≠ 16) (w : World) : Calls Try.prog 67 #[.slice A n c] w fun r w' =>
      r = .returned (.tuple #[.agg #[.int .u64 0, .int .u64 0], .bool false]) ∧ Below w.heap.size w w' := by
  unfold maxLen at hn
  have h16' : ((n : Int) != 16) = true := by rw [bne_iff_ne]; omega
  go_enter Try.func67, Try.ntmps67
  go_wp2
  refine bodyPost_ret (v := .tuple #[.agg #[.int .u64 0, .int .u64 0], .bool false]) (by simp [results, Try.results67, go_sem]) rfl ⟨rfl, ?_⟩
  (repeat (first | exact Below.refl _ _ | assumption | refine below_drewN ?_ _ | refine bel_grow ?_ _ | refine Below.drew ?_ | refine bel_alloc ?_ _ | refine bel_set ?_ (by first | exact Nat.le_refl _ | (simp; done) | (simp; omega) | omega) _ | refine bel_trans ?_ (by assumption)))

set_option maxHeartbeats 1000000 in
theorem read_yes (A : Option Addr) (c : Nat) (d : Nat → Int) (hd : ∀ i, 0 ≤ d i ∧ d i < 256) (w : World) (hs : SlIs w A 16 (yV d)) : Calls Try.prog 67 #[.slice A 16 c] w fun r w' =>
      r = .returned (.tuple #[.agg #[.int .u64 (num d 0 8), .int .u64 (num d 8 8)], .bool true]) ∧ Below w.heap.size w w' := by
  obtain ⟨b, o, rfl, hbl, hc⟩ := hs (by omega)
  clear hs
  replace hc := Lib.hid hc
  go_enter Try.func67, Try.ntmps67
  go_wp2
  go_loopw [10] (fun i wr => ∃ (k : Nat), k ≤ 8 ∧ i = .int .i64 k ∧ Hid (Below w.heap.size w wr) ∧ Hid (Blk wr w.heap.size 42 #[.int .u64 0, .int .u64 0]) ∧
    Hid (Blk wr (w.heap.size + 1) 42 #[.int .u64 (num d 0 k), .int .u64 (num d 8 k)])) (fun i _ => 8 - (intOf i).toNat)
  case atStart =>
    refine ⟨0, by omega, rfl, ?_, ?_, ?_⟩
    · show Below _ _ _
      (repeat (first | exact Below.refl _ _ | assumption | refine below_drewN ?_ _ | refine bel_grow ?_ _ | refine Below.drew ?_ | refine bel_alloc ?_ _ | refine bel_set ?_ (by first | exact Nat.le_refl _ | (simp; done) | (simp; omega) | omega) _ | refine bel_trans ?_ (by assumption)))
    · show Blk _ _ _ _
      (repeat (first | with_reducible assumption | (with_reducible refine Blk.new' ?_; first | with_reducible rfl | (simp; done)) | with_reducible refine Blk.alloc ?_ _ | with_reducible refine Blk.grow ?_ _ | with_reducible refine Blk.drew ?_ | with_reducible refine Blk.drewN ?_ _ | (with_reducible refine Blk.far ?_ (by first | (dsimp only; omega) | (simp; omega)) _) | (with_reducible apply Blk.two) | (with_reducible refine Blk.set' ?_ _ _ ?_) | (with_reducible rfl) | rfl))
    · show Blk _ _ _ #[.int .u64 0, .int .u64 0]
      (repeat (first | with_reducible assumption | (with_reducible refine Blk.new' ?_; first | with_reducible rfl | (simp; done)) | with_reducible refine Blk.alloc ?_ _ | with_reducible refine Blk.grow ?_ _ | with_reducible refine Blk.drew ?_ | with_reducible refine Blk.drewN ?_ _ | (with_reducible refine Blk.far ?_ (by first | (dsimp only; omega) | (simp; omega)) _) | (with_reducible apply Blk.two) | (with_reducible refine Blk.set' ?_ _ _ ?_) | (with_reducible rfl) | rfl))
  case round =>
    obtain ⟨k, hk, rfl, hb, hr, ho⟩ := hrel
    have r0 := (hr.out).cell 0
    have r1 := (hr.out).cell 1
    have rf0 := (hr.out).frozen 0
    have rf1 := (hr.out).frozen 1
    have rl := (hr.out).lt
    have o0 := (ho.out).cell 0
    have o1 := (ho.out).cell 1
    have of0 := (ho.out).frozen 0
    have of1 := (ho.out).frozen 1
    have ol := (ho.out).lt
    by_cases hlt : k < 8
    · have c0 : wr.cell? ⟨b, o + k, none⟩ = some (.int .u8 (d k)) := keepc hb.out (hc.out k (by omega))
      have c1 : wr.cell? ⟨b, o + (8 + k), none⟩ = some (.int .u8 (d (8 + k))) := keepc hb.out (hc.out (8 + k) (by omega))
      have l1 := num_lt d 0 hd k hlt
      have l2 := num_lt d 8 hd k hlt
      have l3 := hd k
      have l4 := hd (8 + k)
      have bl : b < wr.heap.size := Nat.lt_of_lt_of_le hbl hb.out.size
      have bne : b ≠ w.heap.size + 1 := by omega
      go_wp2
      go_region
      go_wp2
      go_region
      go_wp2
      go_roundw
      case rel =>
        have t1 := hb.out
        have t2 := hr.out
        have t3 := ho.out
        refine ⟨k + 1, by omega, by go_num, ?_, ?_, ?_⟩
        · show Below _ _ _
          (repeat (first | exact Below.refl _ _ | assumption | refine below_drewN ?_ _ | refine bel_grow ?_ _ | refine Below.drew ?_ | refine bel_alloc ?_ _ | refine bel_set ?_ (by first | exact Nat.le_refl _ | (simp; done) | (simp; omega) | omega) _ | refine bel_trans ?_ (by assumption)))
        · show Blk _ _ _ _
          (repeat (first | with_reducible assumption | (with_reducible refine Blk.new' ?_; first | with_reducible rfl | (simp; done)) | with_reducible refine Blk.alloc ?_ _ | with_reducible refine Blk.grow ?_ _ | with_reducible refine Blk.drew ?_ | with_reducible refine Blk.drewN ?_ _ | (with_reducible refine Blk.far ?_ (by first | (dsimp only; omega) | (simp; omega)) _) | (with_reducible apply Blk.two) | (with_reducible refine Blk.set' ?_ _ _ ?_) | (with_reducible rfl) | rfl))
        · rw [or_byte l1 l3, or_byte l2 l4, show num d 0 k * 256 + d k = num d 0 (k + 1) by simp only [num]; rw [Nat.zero_add], show num d 8 k * 256 + d (8 + k) = num d 8 (k + 1) from rfl]
          show Blk _ _ _ _
          (repeat (first | with_reducible assumption | (with_reducible refine Blk.new' ?_; first | with_reducible rfl | (simp; done)) | with_reducible refine Blk.alloc ?_ _ | with_reducible refine Blk.grow ?_ _ | with_reducible refine Blk.drew ?_ | with_reducible refine Blk.drewN ?_ _ | (with_reducible refine Blk.far ?_ (by first | (dsimp only; omega) | (simp; omega)) _) | (with_reducible apply Blk.two) | (with_reducible refine Blk.set' ?_ _ _ ?_) | (with_reducible rfl) | rfl))
      case measure => simp [intOf]; omega
    · obtain rfl : k = 8 := by omega
      have hb2 := hb.out
      go_wp2
      refine bodyPost_ret (v := .tuple #[.agg #[.int .u64 (num d 0 8), .int .u64 (num d 8 8)], .bool true]) (by simp [results, Try.results67, go_sem, r0, r1, rl]) rfl ⟨rfl, ?_⟩
      (repeat (first | exact Below.refl _ _ | assumption | refine below_drewN ?_ _ | refine bel_grow ?_ _ | refine Below.drew ?_ | refine bel_alloc ?_ _ | refine bel_set ?_ (by first | exact Nat.le_refl _ | (simp; done) | (simp; omega) | omega) _ | refine bel_trans ?_ (by assumption)))

theorem reads_no (s : ByteArray) (hn : s.size ≤ maxLen) (h16 : s.size ≠ 16) (w : World) : Calls Try.prog 51 #[.string s] w fun r w' =>
      r = .returned (.tuple #[.agg #[.int .u64 0, .int .u64 0], .bool false]) ∧ Below w.heap.size w w' := by
  unfold maxLen at hn
  have h16' : ((s.size : Int) != 16) = true := by rw [bne_iff_ne]; omega
  go_enter Try.func51, Try.ntmps51
  go_wp2
  refine bodyPost_ret (v := .tuple #[.agg #[.int .u64 0, .int .u64 0], .bool false]) (by simp [results, Try.results51, go_sem]) rfl ⟨rfl, ?_⟩
  (repeat (first | exact Below.refl _ _ | assumption | refine below_drewN ?_ _ | refine bel_grow ?_ _ | refine Below.drew ?_ | refine bel_alloc ?_ _ | refine bel_set ?_ (by first | exact Nat.le_refl _ | (simp; done) | (simp; omega) | omega) _ | refine bel_trans ?_ (by assumption)))

set_option maxHeartbeats 1000000 in
theorem reads_yes (s : ByteArray) (h16 : s.size = 16) (w : World) : Calls Try.prog 51 #[.string s] w fun r w' =>
      r = .returned (.tuple #[.agg #[.int .u64 (num (sB s) 0 8), .int .u64 (num (sB s) 8 8)], .bool true]) ∧ Below w.heap.size w w' := by
  have hmk : ∀ w, (Instr.makeSlice 54 (.int .i64 16) (.int .i64 16)).run Try.prog w = .ok (.slice (some ⟨w.heap.size, 0, none⟩) 16 16) (w.alloc (.cells #[.int .i64 0, .int .i64 0, .int .i64 0, .int .i64 0, .int .i64 0, .int .i64 0, .int .i64 0, .int .i64 0, .int .i64 0, .int .i64 0, .int .i64 0, .int .i64 0, .int .i64 0, .int .i64 0, .int .i64 0, .int .i64 0] 3)) := fun _ => by kernel_rfl
  have h16' : ((s.size : Int) != 16) = false := by rw [bne_eq_false_iff_eq]; omega
  replace h16 := Lib.hid h16
  go_enter Try.func51, Try.ntmps51
  go_wp2
  go_loopw [5] (fun i wr => ∃ (k : Nat) (d : Nat → Int), k ≤ 16 ∧ i = .int .i64 k ∧ Hid (∀ j : Nat, j < k → d j = sB s j) ∧ Hid (Below w.heap.size w wr) ∧ Hid (Blk wr w.heap.size 42 #[.int .u64 0, .int .u64 0]) ∧ Hid (wr.rowIs (w.heap.size + 1) 3 16 (iV d))) (fun i _ => 16 - (intOf i).toNat)
  case atStart =>
    refine ⟨0, fun _ => 0, by omega, rfl, fun j h1 => by omega, ?_, ?_, ?_⟩
    · show Below _ _ _
      (repeat (first | exact Below.refl _ _ | assumption | refine below_drewN ?_ _ | refine bel_grow ?_ _ | refine Below.drew ?_ | refine bel_alloc ?_ _ | refine bel_set ?_ (by first | exact Nat.le_refl _ | (simp; done) | (simp; omega) | omega) _ | refine bel_trans ?_ (by assumption)))
    · show Blk _ _ _ _
      (repeat (first | with_reducible assumption | (with_reducible refine Blk.new' ?_; first | with_reducible rfl | (simp; done)) | with_reducible refine Blk.alloc ?_ _ | with_reducible refine Blk.grow ?_ _ | with_reducible refine Blk.drew ?_ | with_reducible refine Blk.drewN ?_ _ | (with_reducible refine Blk.far ?_ (by first | (dsimp only; omega) | (simp; omega)) _) | (with_reducible apply Blk.two) | (with_reducible refine Blk.set' ?_ _ _ ?_) | (with_reducible rfl) | rfl))
    · show World.rowIs _ _ _ _ (fun _ => .int .i64 0)
      refine rowIs_zero _ ?_ ?_
      · simp
      · rfl
  case round =>
    obtain ⟨k, d, hk, rfl, hd, hb, ho, hr⟩ := hrel
    have o0 := (ho.out).cell 0
    have o1 := (ho.out).cell 1
    have of0 := (ho.out).frozen 0
    have of1 := (ho.out).frozen 1
    have ol := (ho.out).lt
    by_cases hlt : k < 16
    · have c1 := hr.out.cell (i := k) (by omega)
      have c3 := hr.out.frozen k
      have hsz : k < s.size := by rw [h16.out]; omega
      have e1 := Lib.hid (sB_at s hsz)
      go_wp2
      go_roundw
      case rel =>
        have t1 := hb.out
        have t2 := ho.out
        refine ⟨k + 1, fun j => if j = k then sB s k else d j, by omega, by go_num, fun j h1 => ?_, ?_, ?_, ?_⟩
        · by_cases ej : j = k
          · subst ej; dsimp only; rw [if_pos rfl]
          · dsimp only; rw [if_neg ej]; exact hd.out j (by omega)
        · show Below _ _ _
          (repeat (first | exact Below.refl _ _ | assumption | refine below_drewN ?_ _ | refine bel_grow ?_ _ | refine Below.drew ?_ | refine bel_alloc ?_ _ | refine bel_set ?_ (by first | exact Nat.le_refl _ | (simp; done) | (simp; omega) | omega) _ | refine bel_trans ?_ (by assumption)))
        · show Blk _ _ _ _
          (repeat (first | with_reducible assumption | (with_reducible refine Blk.new' ?_; first | with_reducible rfl | (simp; done)) | with_reducible refine Blk.alloc ?_ _ | with_reducible refine Blk.grow ?_ _ | with_reducible refine Blk.drew ?_ | with_reducible refine Blk.drewN ?_ _ | (with_reducible refine Blk.far ?_ (by first | (dsimp only; omega) | (simp; omega)) _) | (with_reducible apply Blk.two) | (with_reducible refine Blk.set' ?_ _ _ ?_) | (with_reducible rfl) | rfl))
        · rw [e1.out]
          refine (hr.out.set k _).congr (fun j hj => ?_)
          unfold iV
          by_cases e2 : j = k <;> simp [e2]
      case measure => simp [intOf]; omega
    · obtain rfl : k = 16 := by omega
      have hb2 := hb.out
      have HN := number_any (sB s) (sB_lo s) (w.heap.size + 1) 0 16 wr (by have := hr.out.lt; omega) (fun i hi => by rw [Nat.zero_add, hr.out.cell hi]; unfold iV; rw [hd.out i hi])
      replace HN := Lib.hid HN
      go_wp2_with fail
      refine (gro HN.out).mono ?_
      rintro e w' ⟨rfl, d1, rfl⟩
      go_wp2_with fail
      refine bodyPost_ret (v := .tuple #[.agg #[.int .u64 (num (sB s) 0 8), .int .u64 (num (sB s) 8 8)], .bool true]) (by simp [results, Try.results51, go_sem, o0, o1, ol]) rfl ⟨rfl, ?_⟩
      (repeat (first | exact Below.refl _ _ | assumption | refine below_drewN ?_ _ | refine bel_grow ?_ _ | refine Below.drew ?_ | refine bel_alloc ?_ _ | refine bel_set ?_ (by first | exact Nat.le_refl _ | (simp; done) | (simp; omega) | omega) _ | refine bel_trans ?_ (by assumption)))
end Go.Proofs.Ytncampbmnbhikaa
