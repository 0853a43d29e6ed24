/-
  A number's bytes as a text: the document's, walked.
-/
import Derived.Test.YtflaeljjalpnkaaWideB
import Derived.Test.YtflaeljjalpnkaaBytesL
namespace Go.Proofs.Ytflaeljjalpnkaa
set_option linter.unusedVariables false
set_option linter.unusedSimpArgs false
open Go.RowKit

set_option maxRecDepth 8000 in
set_option maxHeartbeats 2000000 in
theorem refbytes_any (h l : Int) (hh : Wd h) (hl : Wd l) (w : World) : Calls Try.prog 36 #[.agg #[.int .u64 h, .int .u64 l]] w fun r w' =>
      r = .returned (.string (strF (dgt h l) 16)) ∧ Below w.heap.size w w' := by
  obtain ⟨i0, hi0, hz0, hz1, hz2⟩ := info_parts info_u8
  have HD := Lib.hid (fun w => digits_any h l hh hl w)
  clear hh hl
  replace hi0 := Lib.hid hi0
  replace hz0 := Lib.hid hz0
  replace hz1 := Lib.hid hz1
  replace hz2 := Lib.hid hz2
  have hb0 := Below.refl w.heap.size w
  go_enter Try.func36, Try.ntmps36
  replace hb0 := Lib.hid hb0
  go_wp2_with fail
  refine (HD.out _).mono ?_
  rintro e w_1 ⟨gx, rfl, hgx, hrx, hb_1⟩
  have z_1 := hb_1.size
  try simp at z_1
  have t_ := hb0.out
  have hB_1 := bel_eld (w := w) (X := _) (by first | ((repeat (first | with_reducible exact Below.refl _ _ | with_reducible assumption | (with_reducible refine bel_set ?_ (by first | exact Nat.le_refl _ | (simp; done) | (simp; omega) | omega) _) | with_reducible refine bel_grow ?_ _ | with_reducible refine Below.drew ?_ | with_reducible refine below_drewN ?_ _ | with_reducible refine bel_alloc ?_ _ | with_reducible refine bel_trans ?_ (by assumption))); done) | (repeat (first | exact Below.refl _ _ | assumption | refine below_drewN ?_ _ | refine bel_grow ?_ _ | refine Below.drew ?_ | refine bel_alloc ?_ _ | refine bel_set ?_ (by first | exact Nat.le_refl _ | (simp; done) | (simp; omega) | omega) _ | refine bel_trans ?_ (by assumption)))) hb_1
  clear t_
  clear hb0 hb_1
  replace hB_1 := Lib.hid hB_1
  go_wp2_with fail
  have rl := hrx.lt
  have hgx2 : w.heap.size < gx := by simp at hgx; omega
  replace hrx := Lib.hid hrx
  go_loopw [4, 5] (fun v i wr => ∃ (k : Nat), k ≤ 16 ∧ i = .int .i64 k ∧ Hid (wr.ownsRow w_1.heap.size 5 1 v k (yL (dgt h l) k)) ∧ Hid (Below w.heap.size w wr) ∧ Hid (Below w_1.heap.size w_1 wr)) (fun _ i _ => 16 - (intOf i).toNat)
  case atStart =>
    have t1 := hB_1.out
    refine ⟨0, by omega, rfl, ?_, ?_, ?_⟩
    · exact World.ownsRow_lit w_1 #[] 0 (Nat.le_refl _) (by simp [maxLen]) rfl
    · show Below _ _ _
      (repeat (first | exact Below.refl _ _ | assumption | refine below_drewN ?_ _ | refine bel_grow ?_ _ | refine Below.drew ?_ | refine bel_alloc ?_ _ | refine bel_set ?_ (by first | exact Nat.le_refl _ | (simp; done) | (simp; omega) | omega) _ | refine bel_trans ?_ (by assumption)))
    · show Below _ _ _
      (repeat (first | exact Below.refl _ _ | assumption | refine below_drewN ?_ _ | refine bel_grow ?_ _ | refine Below.drew ?_ | refine bel_alloc ?_ _ | refine bel_set ?_ (by first | exact Nat.le_refl _ | (simp; done) | (simp; omega) | omega) _ | refine bel_trans ?_ (by assumption)))
  case round =>
    obtain ⟨k, hk, rfl, hown, hb, hb1⟩ := hrel
    by_cases hlt : k < 16
    · have c1 : wr.cell? ⟨gx, k, none⟩ = some (.int .i64 (dgt h l k)) := rowIs_cellB hrx.out hb1.out (by omega)
      have q1 := dgt_lo h l k
      have eL : yL (dgt h l) (k + 1) = yL (dgt h l) k ++ [.int .u8 (dgt h l k)] := rfl
      replace eL := Lib.hid eL
      generalize dgt h l k = q at *
      go_wp2_with (at_builtin; refine wpList_append_own _ rfl (.tmp 13) (.tmp 19) _ rfl w_1.heap.size 5 i0 _ 1 1 Try.underlying32 hi0.out hz0.out hz1.out hz2.out rfl (by omega) u4 k (yL (dgt h l) k) rfl (hown.out.alloc _) ⟨wr.heap.size, 0, none⟩ 1 1 [.int .u8 q] rfl rfl ?c1 ?c2 ?c3 ?c4 ?c5 ?_; rotate_right; intro v' w1 hown1 hg1 _)
      case c1 => exact news_blk (Blk.new _ _ _)
      case c2 => intro u hu; simp at hu; rcases hu with rfl; rfl
      case c3 => simp only [maxLen]; omega
      case c4 => omega
      case c5 => have := hb1.out.size; simp; omega
      refine ⟨⟨k + 1, by omega, rfl, ?_, ?_, ?_⟩, ?_⟩
      · rw [eL.out]
        exact hown1
      · refine bel_grown (bel_alloc hb.out _) hg1 (fun j hj => ?_)
        have := (hown.out.lt j hj).1
        omega
      · refine bel_grown (bel_alloc hb1.out _) hg1 (fun j hj => (hown.out.lt j hj).1)
      · simp [intOf]; omega
    · obtain rfl : k = 16 := by omega
      obtain ⟨A', c', rfl, hs2⟩ := own_slis hown.out (yL_at (dgt h l) 16)
      have hcv := conv_str (P := Try.prog) (src := 32) (e := 5) (dst := 9) Try.underlying32 Try.underlying5 Try.underlying9 hs2 c'
      clear hs2
      go_wp2
      go_ret
      exact ⟨rfl, hb.out⟩
end Go.Proofs.Ytflaeljjalpnkaa
