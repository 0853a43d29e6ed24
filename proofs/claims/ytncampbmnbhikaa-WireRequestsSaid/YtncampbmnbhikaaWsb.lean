/-
  The document's GetReply, walked, where what is behind the head are whole things.
-/
import Derived.Test.YtncampbmnbhikaaJ19
import Derived.Test.YtncampbmnbhikaaJ15
import Derived.Test.YtncampbmnbhikaaRefD
namespace Go.Proofs.Ytncampbmnbhikaa
set_option linter.unusedVariables false
set_option linter.unusedSimpArgs false
open Go.RowKit

theorem rgetA_ok (e : Nat → Int) (he : ∀ i, 0 ≤ e i ∧ e i < 256) (w : World) : Calls Try.prog 40 #[.string (strF e 104)] w fun r w' => r = .returned (.tuple #[.agg #[.int .u64 (rdA e 0), .int .u64 (rdA e 1), .int .u64 (rdA e 2), .int .u64 (rdA e 3), .int .u64 (rdA e 4), .int .u64 (rdA e 5), .int .u64 (rdA e 6), .int .u64 (rdA e 7), .int .u64 (rdA e 8), .int .u64 (rdA e 9), .int .u64 (rdA e 10), .int .u32 (rdA e 11), .int .u16 (rdA e 12), .int .u16 (rdA e 13), .int .u64 (rdA e 14)], .bool true]) ∧ Below w.heap.size w w' := refGetAccount_yes e he w
theorem rgetT_ok (e : Nat → Int) (he : ∀ i, 0 ≤ e i ∧ e i < 256) (w : World) : Calls Try.prog 41 #[.string (strF e 108)] w fun r w' => r = .returned (.tuple #[.agg #[.int .u64 (rdT e 0), .int .u64 (rdT e 1), .int .u64 (rdT e 2), .int .u64 (rdT e 3), .int .u64 (rdT e 4), .int .u64 (rdT e 5), .int .u64 (rdT e 6), .int .u64 (rdT e 7), .int .u64 (rdT e 8), .int .u64 (rdT e 9), .int .u64 (rdT e 10), .int .u32 (rdT e 11), .int .u32 (rdT e 12), .int .u16 (rdT e 13), .int .u16 (rdT e 14), .int .u64 (rdT e 15)], .bool true]) ∧ Below w.heap.size w w' := refGetTransfer_yes e he w
section
attribute [local go_sem] loadV_ptr storeV_ptr
attribute [local go_sem ↓] load_WP store_WP
attribute [local go_sem ↓] load_WA store_WA
set_option maxRecDepth 8000 in
set_option maxHeartbeats 4000000 in
theorem refGetReply_k3 (q : Nat) (n : Nat) (e : Nat → Int) (he : ∀ i, 0 ≤ e i ∧ e i < 256) (hn : n ≤ 100000) (w : World) (hq : n = 2 + q * 104) (h0 : e 0 = 0) (h1 : e 1 = 3) :
    Calls Try.prog 12 #[.string (strF e n)] w fun r w' => ∃ A' c', r = .returned (.tuple #[.agg #[.int .i64 0, .int .i64 3, .slice none 0 0, .slice A' q c', .slice none 0 0, .slice none 0 0, .int .u32 0], .bool true]) ∧ (q ≤ c' ∧ c' ≤ maxLen) ∧ SsIs w' A' q 15 (fun i => clA (rdA (shf e (2 + i * 104)))) ∧ Below w.heap.size w w' := by
  have es : (strF e n).size = n := strF_size e n
  have z0 : 0 < (strF e n).size := by rw [es]; omega
  have z1 : 1 < (strF e n).size := by rw [es]; omega
  have g0 : (((strF e n)[0]'z0).toNat : Int) = 0 := (strF_at z0 (he 0)).trans h0
  have g1 : (((strF e n)[1]'z1).toNat : Int) = 3 := (strF_at z1 (he 1)).trans h1
  have HG := Lib.hid rgetA_ok
  have k1 : ((n : Int) == 1) = false := beq_eq_false_iff_ne.2 (by omega)
  have k2 : decide ((n : Int) < 2) = false := decide_eq_false (by omega)
  have k5 : (((n : Int) - 2) % 104 != 0) = false := by rw [bne_eq_false_iff_eq]; omega
  obtain ⟨fR, hfR⟩ : ∃ fR : Nat → List Value, fR = fun i => clA (rdA (shf e (2 + i * 104))) := ⟨_, rfl⟩
  replace hfR := Lib.hid hfR
  replace he := Lib.hid he
  replace hq := Lib.hid hq
  clear h0 h1
  go_enter Try.func12, Try.ntmps12
  go_upto_region 10 with fail
  refine abs_wp (fun X => Below w.heap.size w X ∧ Blk X w.heap.size 28 #[.int .i64 0, .int .i64 0, .slice none 0 0, .slice none 0 0, .slice none 0 0, .slice none 0 0, .int .u32 0] ∧ Blk X (w.heap.size + 1) 28 #[.int .i64 0, .int .i64 3, .slice none 0 0, .slice none 0 0, .slice none 0 0, .slice none 0 0, .int .u32 0]) ⟨by (repeat (first | exact Below.refl _ _ | assumption | refine below_drewN ?_ _ | refine bel_grow ?_ _ | refine Below.drew ?_ | refine bel_alloc ?_ _ | refine bel_set ?_ (by first | exact Nat.le_refl _ | (simp; done) | (simp; omega) | omega) _ | refine bel_trans ?_ (by assumption))), (Blk.new _ _ _).kept (bel_alloc (bel_alloc (Below.refl _ _) _) _), (Blk.newE (l := [.int .i64 0, .int .i64 3, .slice none 0 0, .slice none 0 0, .slice none 0 0, .slice none 0 0, .int .u32 0]) (by simp) rfl).kept (bel_alloc (Below.refl _ _) _)⟩ ?_
  rintro X ⟨hb1, g_r, g_t⟩
  have hgX : Hid (w.heap.size + 1 < X.heap.size) := Lib.hid g_t.lt
  clear g0 g1 z0 z1 k1 k2 k5
  replace hb1 := Lib.hid hb1
  replace g_r := Lib.hid g_r
  replace g_t := Lib.hid g_t
  go_wp2_with fail
  go_loopw [7] (fun at_ wr => ∃ (m P : Nat) (a : Value), m ≤ q ∧ at_ = .int .i64 P ∧ Hid (P = 2 + m * 104) ∧ Hid (OwnS wr X.heap.size 63 15 a m fR) ∧ Hid (Blk wr (w.heap.size + 1) 28 #[.int .i64 0, .int .i64 3, .slice none 0 0, a, .slice none 0 0, .slice none 0 0, .int .u32 0]) ∧ Hid (Blk wr w.heap.size 28 #[.int .i64 0, .int .i64 0, .slice none 0 0, .slice none 0 0, .slice none 0 0, .slice none 0 0, .int .u32 0]) ∧ Hid (Below w.heap.size w wr) ∧ Hid (X.heap.size ≤ wr.heap.size)) (fun at_ _ => n - (intOf at_).toNat)
  case atStart => exact ⟨0, 2, .slice none 0 0, by omega, rfl, Lib.hid (by simp), OwnS.nil _ _ _ _ _, g_t.out, g_r.out, hb1.out, Nat.le_refl _⟩
  case round =>
    clear g_r g_t hb1
    obtain ⟨m, P, a, hm, rfl, hP, hO, hT, hR, hbw, hZ⟩ := hrel
    by_cases hlt : m < q
    · have hPl : P + 104 ≤ n := by
        have e1 := hP.out
        have e2 := hq.out
        omega
      have hx1 : (strF e n).extract P (P + 104) = strF (shf e P) 104 := by rw [strF_ext (by omega) (by omega), Nat.add_sub_cancel_left]
      have W1 : IntKind.i64.wrap ((P : Int) + 104) = (P : Int) + 104 ∧ 0 ≤ (P : Int) + 104 ∧ (P : Int) + 104 ≤ (n : Int) ∧ (P : Int) ≤ (P : Int) + 104 ∧ ((P : Int) + 104).toNat = P + 104 := by rw [IntKind.wrap_i64]; omega
      have hxC : fR m = clA (rdA (shf e P)) := by rw [hfR.out, hP.out]
      have HG1 := Lib.hid (fun W => HG.out (shf e P) (shf_lo he.out P) W)
      obtain ⟨u1, u2, u3, u4, u5⟩ := W1
      replace hxC := Lib.hid hxC
      have hTl := hT.out.lt
      have x0 := (hT.out).cell 0
      have x1 := (hT.out).cell 1
      have x2 := (hT.out).cell 2
      have x3 := (hT.out).cell 3
      have x4 := (hT.out).cell 4
      have x5 := (hT.out).cell 5
      have x6 := (hT.out).cell 6
      have xf0 := (hT.out).frozen 0
      have xf1 := (hT.out).frozen 1
      have xf2 := (hT.out).frozen 2
      have xf3 := (hT.out).frozen 3
      have xf4 := (hT.out).frozen 4
      have xf5 := (hT.out).frozen 5
      have xf6 := (hT.out).frozen 6
      have xl := (hT.out).lt
      go_wp2_with fail
      refine (HG1.out _).mono ?_
      rintro e2 w2 ⟨rfl, hb2⟩
      have hsz := hb2.size
      have ho2 := Lib.hid (OwnS.kept hO.out hb2)
      have hT2 := Lib.hid (hT.out.kept hb2)
      have hR2 := Lib.hid (hR.out.kept hb2)
      have hbw2 := Lib.hid (bel_eld hbw.out hb2)
      have hZ2 := Lib.hid (Nat.le_trans hZ.out hsz)
      clear hb2 x0 x1 x2 x3 x4 x5 x6 xf0 xf1 xf2 xf3 xf4 xf5 xf6 xl hTl
      have y0 := (hT2.out).cell 0
      have y1 := (hT2.out).cell 1
      have y2 := (hT2.out).cell 2
      have y3 := (hT2.out).cell 3
      have y4 := (hT2.out).cell 4
      have y5 := (hT2.out).cell 5
      have y6 := (hT2.out).cell 6
      have yf0 := (hT2.out).frozen 0
      have yf1 := (hT2.out).frozen 1
      have yf2 := (hT2.out).frozen 2
      have yf3 := (hT2.out).frozen 3
      have yf4 := (hT2.out).frozen 4
      have yf5 := (hT2.out).frozen 5
      have yf6 := (hT2.out).frozen 6
      have yl := (hT2.out).lt
      go_wp2_with (at_builtin; refine wpList_appS rfl (.tmp 116) (.tmp 118) (t0 := 63) Try.underlying23 info_WA rfl (by omega) (by omega) rfl rfl rfl (ho2.out.kept (bel_alloc (bel_alloc (Below.refl _ _) _) _)) (by rw [hxC.out]; rfl) (by rw [hxC.out]; exact Blk.newE (by simp) rfl) (by rw [hxC.out]; exact one_clA _) (by have := hq.out; omega) (by have := hZ2.out; simp; omega) ?_; intro v5 w5 ho5 hb5; obtain ⟨A8, c8, rfl, _, _, _⟩ := OwnS.ssis ho5 (by intro i; rw [hfR.out]; rfl); have kn1 := ((hT2.out.alloc _).alloc _).lowb hb5 hgX.out; have z1 : w5.cell? ⟨w.heap.size + 1, 1, none⟩ = some (.int .i64 3) := kn1.cell 1; have zi : w5.cell? ⟨w.heap.size + 1, 3, none⟩ = some a := kn1.cell 3; have zf := kn1.frozen 3; have zf1 := kn1.frozen 1; have zl := kn1.lt; replace kn1 := Lib.hid kn1; replace hb5 := Lib.hid hb5; replace ho5 := Lib.hid ho5)
      go_roundw
      case rel => exact ⟨m + 1, P + 104, .slice A8 (m + 1) c8, by omega, by go_num, Lib.hid (by have e := hP.out; omega), ho5.out.asFrom ((AsFrom.refl _ _).set (p := ⟨w.heap.size + 1, 3, none⟩) hgX.out _), Blk.set' kn1.out 3 _ rfl, Blk.far ((((hR2.out.alloc _).alloc _).lowb hb5.out (by have := hgX.out; omega))) (by dsimp only; omega) _, bel_set ((bel_alloc (bel_alloc hbw2.out _) _).trans (hb5.out.mono (by have := hgX.out; omega))) (by dsimp only; omega) _, (by
          have t1 := hZ2.out
          have t2 := hb5.out.size
          show _ ≤ _
          simp at t1 t2 ⊢
          omega)⟩
      case measure => simp [intOf]; omega
    · obtain rfl : m = q := by omega
      obtain rfl : P = n := by
        have e1 := hP.out
        have e2 := hq.out
        omega
      obtain ⟨A2, c2, rfl, hq1, hq2, _⟩ := OwnS.ssis hO.out (by intro i; rw [hfR.out]; rfl)
      replace hq2 := Lib.hid hq2
      have r_t := rowAt_blk hT.out
      have r_r := rowAt_blk hR.out
      have x0 := (hT.out).cell 0
      have x1 := (hT.out).cell 1
      have x2 := (hT.out).cell 2
      have x3 := (hT.out).cell 3
      have x4 := (hT.out).cell 4
      have x5 := (hT.out).cell 5
      have x6 := (hT.out).cell 6
      have xf0 := (hT.out).frozen 0
      have xf1 := (hT.out).frozen 1
      have xf2 := (hT.out).frozen 2
      have xf3 := (hT.out).frozen 3
      have xf4 := (hT.out).frozen 4
      have xf5 := (hT.out).frozen 5
      have xf6 := (hT.out).frozen 6
      have xl := (hT.out).lt
      have r_l := hR.out.lt
      go_wp2_with fail
      refine abs_post (fun Y_ => Below w.heap.size w Y_ ∧ Blk Y_ w.heap.size 28 #[.int .i64 0, .int .i64 3, .slice none 0 0, .slice A2 m c2, .slice none 0 0, .slice none 0 0, .int .u32 0] ∧ AsFrom X.heap.size wr Y_) ⟨bel_setRow hbw.out (Nat.le_refl _) _, hR.out.setRow rfl, (AsFrom.refl _ _).row (by have := hgX.out; omega) _⟩ ?_
      rintro Y_ ⟨bZ_, gP_, aF_⟩
      have HLV := loadVar_blk (ty := 28) Try.underlying28 rfl (by kernel_rfl) gP_ rfl
      obtain ⟨A3, c3, e3, _, _, hs3⟩ := (hO.out.asFrom aF_).ssis (by intro i; rw [hfR.out]; rfl)
      cases e3
      rw [hfR.out] at hs3
      refine bodyPost_ret (v := .tuple #[.agg #[.int .i64 0, .int .i64 3, .slice none 0 0, .slice A2 m c2, .slice none 0 0, .slice none 0 0, .int .u32 0], .bool true]) (results_ct Try.results12 rfl HLV) rfl ⟨_, _, rfl, ⟨hq1, hq2.out⟩, hs3, bZ_⟩
end
section
attribute [local go_sem] loadV_ptr storeV_ptr
attribute [local go_sem ↓] load_WP store_WP
attribute [local go_sem ↓] load_WT store_WT
set_option maxRecDepth 8000 in
set_option maxHeartbeats 4000000 in
theorem refGetReply_k4 (q : Nat) (n : Nat) (e : Nat → Int) (he : ∀ i, 0 ≤ e i ∧ e i < 256) (hn : n ≤ 100000) (w : World) (hq : n = 2 + q * 108) (h0 : e 0 = 0) (h1 : e 1 = 4) :
    Calls Try.prog 12 #[.string (strF e n)] w fun r w' => ∃ A' c', r = .returned (.tuple #[.agg #[.int .i64 0, .int .i64 4, .slice none 0 0, .slice none 0 0, .slice A' q c', .slice none 0 0, .int .u32 0], .bool true]) ∧ (q ≤ c' ∧ c' ≤ maxLen) ∧ SsIs w' A' q 16 (fun i => clT (rdT (shf e (2 + i * 108)))) ∧ Below w.heap.size w w' := by
  have es : (strF e n).size = n := strF_size e n
  have z0 : 0 < (strF e n).size := by rw [es]; omega
  have z1 : 1 < (strF e n).size := by rw [es]; omega
  have g0 : (((strF e n)[0]'z0).toNat : Int) = 0 := (strF_at z0 (he 0)).trans h0
  have g1 : (((strF e n)[1]'z1).toNat : Int) = 4 := (strF_at z1 (he 1)).trans h1
  have HG := Lib.hid rgetT_ok
  have k1 : ((n : Int) == 1) = false := beq_eq_false_iff_ne.2 (by omega)
  have k2 : decide ((n : Int) < 2) = false := decide_eq_false (by omega)
  have k5 : (((n : Int) - 2) % 108 != 0) = false := by rw [bne_eq_false_iff_eq]; omega
  obtain ⟨fR, hfR⟩ : ∃ fR : Nat → List Value, fR = fun i => clT (rdT (shf e (2 + i * 108))) := ⟨_, rfl⟩
  replace hfR := Lib.hid hfR
  replace he := Lib.hid he
  replace hq := Lib.hid hq
  clear h0 h1
  go_enter Try.func12, Try.ntmps12
  go_upto_region 10 with fail
  refine abs_wp (fun X => Below w.heap.size w X ∧ Blk X w.heap.size 28 #[.int .i64 0, .int .i64 0, .slice none 0 0, .slice none 0 0, .slice none 0 0, .slice none 0 0, .int .u32 0] ∧ Blk X (w.heap.size + 1) 28 #[.int .i64 0, .int .i64 4, .slice none 0 0, .slice none 0 0, .slice none 0 0, .slice none 0 0, .int .u32 0]) ⟨by (repeat (first | exact Below.refl _ _ | assumption | refine below_drewN ?_ _ | refine bel_grow ?_ _ | refine Below.drew ?_ | refine bel_alloc ?_ _ | refine bel_set ?_ (by first | exact Nat.le_refl _ | (simp; done) | (simp; omega) | omega) _ | refine bel_trans ?_ (by assumption))), (Blk.new _ _ _).kept (bel_alloc (bel_alloc (Below.refl _ _) _) _), (Blk.newE (l := [.int .i64 0, .int .i64 4, .slice none 0 0, .slice none 0 0, .slice none 0 0, .slice none 0 0, .int .u32 0]) (by simp) rfl).kept (bel_alloc (Below.refl _ _) _)⟩ ?_
  rintro X ⟨hb1, g_r, g_t⟩
  have hgX : Hid (w.heap.size + 1 < X.heap.size) := Lib.hid g_t.lt
  clear g0 g1 z0 z1 k1 k2 k5
  replace hb1 := Lib.hid hb1
  replace g_r := Lib.hid g_r
  replace g_t := Lib.hid g_t
  go_wp2_with fail
  go_loopw [7] (fun at_ wr => ∃ (m P : Nat) (a : Value), m ≤ q ∧ at_ = .int .i64 P ∧ Hid (P = 2 + m * 108) ∧ Hid (OwnS wr X.heap.size 67 16 a m fR) ∧ Hid (Blk wr (w.heap.size + 1) 28 #[.int .i64 0, .int .i64 4, .slice none 0 0, .slice none 0 0, a, .slice none 0 0, .int .u32 0]) ∧ Hid (Blk wr w.heap.size 28 #[.int .i64 0, .int .i64 0, .slice none 0 0, .slice none 0 0, .slice none 0 0, .slice none 0 0, .int .u32 0]) ∧ Hid (Below w.heap.size w wr) ∧ Hid (X.heap.size ≤ wr.heap.size)) (fun at_ _ => n - (intOf at_).toNat)
  case atStart => exact ⟨0, 2, .slice none 0 0, by omega, rfl, Lib.hid (by simp), OwnS.nil _ _ _ _ _, g_t.out, g_r.out, hb1.out, Nat.le_refl _⟩
  case round =>
    clear g_r g_t hb1
    obtain ⟨m, P, a, hm, rfl, hP, hO, hT, hR, hbw, hZ⟩ := hrel
    by_cases hlt : m < q
    · have hPl : P + 108 ≤ n := by
        have e1 := hP.out
        have e2 := hq.out
        omega
      have hx1 : (strF e n).extract P (P + 108) = strF (shf e P) 108 := by rw [strF_ext (by omega) (by omega), Nat.add_sub_cancel_left]
      have W1 : IntKind.i64.wrap ((P : Int) + 108) = (P : Int) + 108 ∧ 0 ≤ (P : Int) + 108 ∧ (P : Int) + 108 ≤ (n : Int) ∧ (P : Int) ≤ (P : Int) + 108 ∧ ((P : Int) + 108).toNat = P + 108 := by rw [IntKind.wrap_i64]; omega
      have hxC : fR m = clT (rdT (shf e P)) := by rw [hfR.out, hP.out]
      have HG1 := Lib.hid (fun W => HG.out (shf e P) (shf_lo he.out P) W)
      obtain ⟨u1, u2, u3, u4, u5⟩ := W1
      replace hxC := Lib.hid hxC
      have hTl := hT.out.lt
      have x0 := (hT.out).cell 0
      have x1 := (hT.out).cell 1
      have x2 := (hT.out).cell 2
      have x3 := (hT.out).cell 3
      have x4 := (hT.out).cell 4
      have x5 := (hT.out).cell 5
      have x6 := (hT.out).cell 6
      have xf0 := (hT.out).frozen 0
      have xf1 := (hT.out).frozen 1
      have xf2 := (hT.out).frozen 2
      have xf3 := (hT.out).frozen 3
      have xf4 := (hT.out).frozen 4
      have xf5 := (hT.out).frozen 5
      have xf6 := (hT.out).frozen 6
      have xl := (hT.out).lt
      go_wp2_with fail
      refine (HG1.out _).mono ?_
      rintro e2 w2 ⟨rfl, hb2⟩
      have hsz := hb2.size
      have ho2 := Lib.hid (OwnS.kept hO.out hb2)
      have hT2 := Lib.hid (hT.out.kept hb2)
      have hR2 := Lib.hid (hR.out.kept hb2)
      have hbw2 := Lib.hid (bel_eld hbw.out hb2)
      have hZ2 := Lib.hid (Nat.le_trans hZ.out hsz)
      clear hb2 x0 x1 x2 x3 x4 x5 x6 xf0 xf1 xf2 xf3 xf4 xf5 xf6 xl hTl
      have y0 := (hT2.out).cell 0
      have y1 := (hT2.out).cell 1
      have y2 := (hT2.out).cell 2
      have y3 := (hT2.out).cell 3
      have y4 := (hT2.out).cell 4
      have y5 := (hT2.out).cell 5
      have y6 := (hT2.out).cell 6
      have yf0 := (hT2.out).frozen 0
      have yf1 := (hT2.out).frozen 1
      have yf2 := (hT2.out).frozen 2
      have yf3 := (hT2.out).frozen 3
      have yf4 := (hT2.out).frozen 4
      have yf5 := (hT2.out).frozen 5
      have yf6 := (hT2.out).frozen 6
      have yl := (hT2.out).lt
      go_wp2_with (at_builtin; refine wpList_appS rfl (.tmp 135) (.tmp 137) (t0 := 67) Try.underlying24 info_WT rfl (by omega) (by omega) rfl rfl rfl (ho2.out.kept (bel_alloc (bel_alloc (Below.refl _ _) _) _)) (by rw [hxC.out]; rfl) (by rw [hxC.out]; exact Blk.newE (by simp) rfl) (by rw [hxC.out]; exact one_clT _) (by have := hq.out; omega) (by have := hZ2.out; simp; omega) ?_; intro v5 w5 ho5 hb5; obtain ⟨A8, c8, rfl, _, _, _⟩ := OwnS.ssis ho5 (by intro i; rw [hfR.out]; rfl); have kn1 := ((hT2.out.alloc _).alloc _).lowb hb5 hgX.out; have z1 : w5.cell? ⟨w.heap.size + 1, 1, none⟩ = some (.int .i64 4) := kn1.cell 1; have zi : w5.cell? ⟨w.heap.size + 1, 4, none⟩ = some a := kn1.cell 4; have zf := kn1.frozen 4; have zf1 := kn1.frozen 1; have zl := kn1.lt; replace kn1 := Lib.hid kn1; replace hb5 := Lib.hid hb5; replace ho5 := Lib.hid ho5)
      go_roundw
      case rel => exact ⟨m + 1, P + 108, .slice A8 (m + 1) c8, by omega, by go_num, Lib.hid (by have e := hP.out; omega), ho5.out.asFrom ((AsFrom.refl _ _).set (p := ⟨w.heap.size + 1, 4, none⟩) hgX.out _), Blk.set' kn1.out 4 _ rfl, Blk.far ((((hR2.out.alloc _).alloc _).lowb hb5.out (by have := hgX.out; omega))) (by dsimp only; omega) _, bel_set ((bel_alloc (bel_alloc hbw2.out _) _).trans (hb5.out.mono (by have := hgX.out; omega))) (by dsimp only; omega) _, (by
          have t1 := hZ2.out
          have t2 := hb5.out.size
          show _ ≤ _
          simp at t1 t2 ⊢
          omega)⟩
      case measure => simp [intOf]; omega
    · obtain rfl : m = q := by omega
      obtain rfl : P = n := by
        have e1 := hP.out
        have e2 := hq.out
        omega
      obtain ⟨A2, c2, rfl, hq1, hq2, _⟩ := OwnS.ssis hO.out (by intro i; rw [hfR.out]; rfl)
      replace hq2 := Lib.hid hq2
      have r_t := rowAt_blk hT.out
      have r_r := rowAt_blk hR.out
      have x0 := (hT.out).cell 0
      have x1 := (hT.out).cell 1
      have x2 := (hT.out).cell 2
      have x3 := (hT.out).cell 3
      have x4 := (hT.out).cell 4
      have x5 := (hT.out).cell 5
      have x6 := (hT.out).cell 6
      have xf0 := (hT.out).frozen 0
      have xf1 := (hT.out).frozen 1
      have xf2 := (hT.out).frozen 2
      have xf3 := (hT.out).frozen 3
      have xf4 := (hT.out).frozen 4
      have xf5 := (hT.out).frozen 5
      have xf6 := (hT.out).frozen 6
      have xl := (hT.out).lt
      have r_l := hR.out.lt
      go_wp2_with fail
      refine abs_post (fun Y_ => Below w.heap.size w Y_ ∧ Blk Y_ w.heap.size 28 #[.int .i64 0, .int .i64 4, .slice none 0 0, .slice none 0 0, .slice A2 m c2, .slice none 0 0, .int .u32 0] ∧ AsFrom X.heap.size wr Y_) ⟨bel_setRow hbw.out (Nat.le_refl _) _, hR.out.setRow rfl, (AsFrom.refl _ _).row (by have := hgX.out; omega) _⟩ ?_
      rintro Y_ ⟨bZ_, gP_, aF_⟩
      have HLV := loadVar_blk (ty := 28) Try.underlying28 rfl (by kernel_rfl) gP_ rfl
      obtain ⟨A3, c3, e3, _, _, hs3⟩ := (hO.out.asFrom aF_).ssis (by intro i; rw [hfR.out]; rfl)
      cases e3
      rw [hfR.out] at hs3
      refine bodyPost_ret (v := .tuple #[.agg #[.int .i64 0, .int .i64 4, .slice none 0 0, .slice none 0 0, .slice A2 m c2, .slice none 0 0, .int .u32 0], .bool true]) (results_ct Try.results12 rfl HLV) rfl ⟨_, _, rfl, ⟨hq1, hq2.out⟩, hs3, bZ_⟩
end
end Go.Proofs.Ytncampbmnbhikaa
