/-
  The document's GetReply, walked: a count.
-/
import Derived.Test.YtncampbmnbhikaaJ19
import Derived.Test.YtncampbmnbhikaaJ15
import Derived.Test.YtncampbmnbhikaaRefD
namespace Go.Proofs.Ytncampbmnbhikaa
set_option linter.unusedVariables false
set_option linter.unusedSimpArgs false
open Go.RowKit

section
attribute [local go_sem] loadV_ptr storeV_ptr
attribute [local go_sem ↓] load_WP store_WP
set_option maxRecDepth 8000 in
set_option maxHeartbeats 4000000 in
theorem refGetReply_k7 (n : Nat) (e : Nat → Int) (he : ∀ i, 0 ≤ e i ∧ e i < 256) (hn : n ≤ 100000) (w : World) (h6 : n = 6) (h0 : e 0 = 0) (h1 : e 1 = 7) :
    Calls Try.prog 12 #[.string (strF e n)] w fun r w' => r = .returned (.tuple #[.agg #[.int .i64 0, .int .i64 7, .slice none 0 0, .slice none 0 0, .slice none 0 0, .slice none 0 0, .int .u32 (num e 2 4)], .bool true]) ∧ Below w.heap.size w w' := by
  subst h6
  have es : (strF e 6).size = 6 := strF_size e 6
  have z0 : 0 < (strF e 6).size := by rw [es]; omega
  have z1 : 1 < (strF e 6).size := by rw [es]; omega
  have g0 : (((strF e 6)[0]'z0).toNat : Int) = 0 := (strF_at z0 (he 0)).trans h0
  have g1 : (((strF e 6)[1]'z1).toNat : Int) = 7 := (strF_at z1 (he 1)).trans h1
  have hx1 : (strF e 6).extract 2 6 = strF (shf e 2) 4 := by rw [strF_ext (by omega) (by omega)]
  have HG := Lib.hid (fun W => rnumber_any (shf e 2) (shf_lo he 2) 4 (by omega) W)
  have hnm := Lib.hid (show num (shf e 2) 0 4 = num e 2 4 by rw [num_shf])
  generalize num e 2 4 = v at *
  clear h0 h1 he
  go_enter Try.func12, Try.ntmps12
  go_upto_region 10 with fail
  refine abs_wp (fun X => Below w.heap.size w X ∧ Blk X w.heap.size 28 #[.int .i64 0, .int .i64 0, .slice none 0 0, .slice none 0 0, .slice none 0 0, .slice none 0 0, .int .u32 0] ∧ Blk X (w.heap.size + 1) 28 #[.int .i64 0, .int .i64 7, .slice none 0 0, .slice none 0 0, .slice none 0 0, .slice none 0 0, .int .u32 0]) ⟨by (repeat (first | exact Below.refl _ _ | assumption | refine below_drewN ?_ _ | refine bel_grow ?_ _ | refine Below.drew ?_ | refine bel_alloc ?_ _ | refine bel_set ?_ (by first | exact Nat.le_refl _ | (simp; done) | (simp; omega) | omega) _ | refine bel_trans ?_ (by assumption))), (Blk.new _ _ _).kept (bel_alloc (bel_alloc (Below.refl _ _) _) _), (Blk.newE (l := [.int .i64 0, .int .i64 7, .slice none 0 0, .slice none 0 0, .slice none 0 0, .slice none 0 0, .int .u32 0]) (by simp) rfl).kept (bel_alloc (Below.refl _ _) _)⟩ ?_
  rintro X ⟨hb1, g_r, g_t⟩
  have hgX : Hid (w.heap.size + 1 < X.heap.size) := Lib.hid g_t.lt
  clear g0 g1 z0 z1
  replace hb1 := Lib.hid hb1
  replace g_r := Lib.hid g_r
  replace g_t := Lib.hid g_t
  go_wp2_with fail
  go_loopw [7] (fun at_ wr => ∃ (m : Nat) (c : Int), m ≤ 1 ∧ at_ = .int .i64 (2 + m * 4 : Nat) ∧ Hid (m = 1 → c = v) ∧ Hid (Blk wr (w.heap.size + 1) 28 #[.int .i64 0, .int .i64 7, .slice none 0 0, .slice none 0 0, .slice none 0 0, .slice none 0 0, .int .u32 c]) ∧ Hid (Blk wr w.heap.size 28 #[.int .i64 0, .int .i64 0, .slice none 0 0, .slice none 0 0, .slice none 0 0, .slice none 0 0, .int .u32 0]) ∧ Hid (Below w.heap.size w wr)) (fun at_ _ => 6 - (intOf at_).toNat)
  case atStart => exact ⟨0, 0, by omega, rfl, Lib.hid (fun h => absurd h (by omega)), g_t.out, g_r.out, hb1.out⟩
  case round =>
    clear g_r g_t hb1
    obtain ⟨m, c, hm, rfl, hcv, hT, hR, hbw⟩ := hrel
    have hTl := hT.out.lt
    rcases (by omega : m = 0 ∨ m = 1) with rfl | rfl
    · have x0 := (hT.out).cell 0
      have x1 := (hT.out).cell 1
      have x2 := (hT.out).cell 2
      have x3 := (hT.out).cell 3
      have x4 := (hT.out).cell 4
      have x5 := (hT.out).cell 5
      have x6 := (hT.out).cell 6
      have xf0 := (hT.out).frozen 0
      have xf1 := (hT.out).frozen 1
      have xf2 := (hT.out).frozen 2
      have xf3 := (hT.out).frozen 3
      have xf4 := (hT.out).frozen 4
      have xf5 := (hT.out).frozen 5
      have xf6 := (hT.out).frozen 6
      have xl := (hT.out).lt
      go_wp2_with fail
      refine (HG.out _).mono ?_
      rintro e2 w2 ⟨rfl, hb2⟩
      rw [hnm.out]
      have hT2 := Lib.hid (hT.out.kept hb2)
      have hR2 := Lib.hid (hR.out.kept hb2)
      have hbw2 := Lib.hid (bel_eld hbw.out hb2)
      clear hb2 x0 x1 x2 x3 x4 x5 x6 xf0 xf1 xf2 xf3 xf4 xf5 xf6 xl hTl
      have y0 := (hT2.out).cell 0
      have y1 := (hT2.out).cell 1
      have y2 := (hT2.out).cell 2
      have y3 := (hT2.out).cell 3
      have y4 := (hT2.out).cell 4
      have y5 := (hT2.out).cell 5
      have y6 := (hT2.out).cell 6
      have yf0 := (hT2.out).frozen 0
      have yf1 := (hT2.out).frozen 1
      have yf2 := (hT2.out).frozen 2
      have yf3 := (hT2.out).frozen 3
      have yf4 := (hT2.out).frozen 4
      have yf5 := (hT2.out).frozen 5
      have yf6 := (hT2.out).frozen 6
      have yl := (hT2.out).lt
      go_wp2_with fail
      go_roundw
      case rel => exact ⟨1, v, by omega, rfl, Lib.hid (fun _ => rfl), Blk.set' hT2.out 6 _ rfl, Blk.far hR2.out (by dsimp only; omega) _, bel_set hbw2.out (by dsimp only; omega) _⟩
      case measure => simp [intOf]
    · obtain rfl := hcv.out rfl
      have r_t := rowAt_blk hT.out
      have r_r := rowAt_blk hR.out
      have x0 := (hT.out).cell 0
      have x1 := (hT.out).cell 1
      have x2 := (hT.out).cell 2
      have x3 := (hT.out).cell 3
      have x4 := (hT.out).cell 4
      have x5 := (hT.out).cell 5
      have x6 := (hT.out).cell 6
      have xf0 := (hT.out).frozen 0
      have xf1 := (hT.out).frozen 1
      have xf2 := (hT.out).frozen 2
      have xf3 := (hT.out).frozen 3
      have xf4 := (hT.out).frozen 4
      have xf5 := (hT.out).frozen 5
      have xf6 := (hT.out).frozen 6
      have xl := (hT.out).lt
      have r_l := hR.out.lt
      go_wp2_with fail
      refine abs_post (fun Y_ => Below w.heap.size w Y_ ∧ Blk Y_ w.heap.size 28 #[.int .i64 0, .int .i64 7, .slice none 0 0, .slice none 0 0, .slice none 0 0, .slice none 0 0, .int .u32 c]) ⟨bel_setRow hbw.out (Nat.le_refl _) _, hR.out.setRow rfl⟩ ?_
      rintro Y_ ⟨bZ_, gP_⟩
      have HLV := loadVar_blk (ty := 28) Try.underlying28 rfl (by kernel_rfl) gP_ rfl
      refine bodyPost_ret (v := .tuple #[.agg #[.int .i64 0, .int .i64 7, .slice none 0 0, .slice none 0 0, .slice none 0 0, .slice none 0 0, .int .u32 c], .bool true]) (results_ct Try.results12 rfl HLV) rfl ⟨rfl, bZ_⟩
end
end Go.Proofs.Ytncampbmnbhikaa
