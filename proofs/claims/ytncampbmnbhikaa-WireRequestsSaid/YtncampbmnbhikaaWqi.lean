/-
  The document's GetRequest, walked, where what is behind the head are whole things, and not too many.
-/
import Derived.Test.YtncampbmnbhikaaWqg
import Derived.Test.YtncampbmnbhikaaWsa
import Derived.Test.YtncampbmnbhikaaWsb
namespace Go.Proofs.Ytncampbmnbhikaa
set_option linter.unusedVariables false
set_option linter.unusedSimpArgs false
open Go.RowKit

section
attribute [local go_sem] loadV_ptr storeV_ptr
attribute [local go_sem ↓] load_WQ store_WQ
attribute [local go_sem ↓] load_WA store_WA
set_option maxRecDepth 8000 in
set_option maxHeartbeats 4000000 in
theorem refGetReq_k1 (q n : Nat) (e : Nat → Int) (he : ∀ i, 0 ≤ e i ∧ e i < 256) (w : World) (hq : n = 1 + q * 104) (hq30 : q ≤ 30) (h0 : e 0 = 1) :
    Calls Try.prog 16 #[.string (strF e n)] w fun r w' => ∃ A' c', r = .returned (.tuple #[.agg #[.int .i64 1, .slice A' q c', .slice none 0 0, .slice none 0 0, .int .u64 0, .int .u64 0, .int .u64 0, .int .u64 0, .int .u32 0, .int .u32 0], .int .i64 0]) ∧ SsIs w' A' q 15 (fun i => clA (rdA (shf (shf e 1) (i * 104)))) ∧ Below w.heap.size w w' := by
  have es : (strF e n).size = n := strF_size e n
  have z0 : 0 < (strF e n).size := by rw [es]; omega
  have g0 : (((strF e n)[0]'z0).toNat : Int) = 1 := (strF_at z0 (he 0)).trans h0
  have hx0 : (strF e n).extract 1 n = strF (shf e 1) (n - 1) := strF_ext (by omega) (by omega)
  have he1 := shf_lo he 1
  generalize hf : shf e 1 = f at *
  obtain ⟨l, hl⟩ : ∃ l, l = n - 1 := ⟨_, rfl⟩
  have hl1 : n = l + 1 := by omega
  rw [← hl] at hx0
  have es1 : (strF f l).size = l := strF_size f l
  have HG := Lib.hid rgetA_ok
  have k1 : ((n : Int) == 0) = false := beq_eq_false_iff_ne.2 (by omega)
  have k1c : (((l : Int) + 1) == 0) = false := beq_eq_false_iff_ne.2 (by omega)
  have k2 : ((l : Int) % 104 != 0) = false := by rw [bne_eq_false_iff_eq]; omega
  have k2b : ((l % 104 : Nat) : Int) = 0 := by omega
  have k3 : decide ((l : Int) > 30 * 104) = false := decide_eq_false (by omega)
  have k3b : decide ((l : Int) > 3120) = false := decide_eq_false (by omega)
  have k6 : (1 : Int) ≤ (n : Int) := by omega
  have hlq : l = q * 104 := by omega
  obtain ⟨fR, hfR⟩ : ∃ fR : Nat → List Value, fR = fun i => clA (rdA (shf f (i * 104))) := ⟨_, rfl⟩
  replace hfR := Lib.hid hfR
  replace he1 := Lib.hid he1
  replace hlq := Lib.hid hlq
  subst hl1
  clear h0 he hq hf hl
  go_enter Try.func16, Try.ntmps16
  go_upto_region 26 with fail
  refine abs_wp (fun X => Below w.heap.size w X ∧ Blk X w.heap.size 46 #[.int .i64 0, .slice none 0 0, .slice none 0 0, .slice none 0 0, .int .u64 0, .int .u64 0, .int .u64 0, .int .u64 0, .int .u32 0, .int .u32 0] ∧ Blk X (w.heap.size + 1) 46 #[.int .i64 1, .slice none 0 0, .slice none 0 0, .slice none 0 0, .int .u64 0, .int .u64 0, .int .u64 0, .int .u64 0, .int .u32 0, .int .u32 0]) ⟨by (repeat (first | exact Below.refl _ _ | assumption | refine below_drewN ?_ _ | refine bel_grow ?_ _ | refine Below.drew ?_ | refine bel_alloc ?_ _ | refine bel_set ?_ (by first | exact Nat.le_refl _ | (simp; done) | (simp; omega) | omega) _ | refine bel_trans ?_ (by assumption))), (Blk.new _ _ _).kept (bel_alloc (Below.refl _ _) _), Blk.newE (l := [.int .i64 1, .slice none 0 0, .slice none 0 0, .slice none 0 0, .int .u64 0, .int .u64 0, .int .u64 0, .int .u64 0, .int .u32 0, .int .u32 0]) (by simp) rfl⟩ ?_
  rintro X ⟨hb1, g_r, g_t⟩
  have hgX : Hid (w.heap.size + 1 < X.heap.size) := Lib.hid g_t.lt
  clear g0 z0 k1 k1c k2 k2b k3 k3b k6
  replace hb1 := Lib.hid hb1
  replace g_r := Lib.hid g_r
  replace g_t := Lib.hid g_t
  go_wp2_with fail
  go_loopw [10] (fun at_ wr => ∃ (m P : Nat) (a : Value), m ≤ q ∧ at_ = .int .i64 P ∧ Hid (P = m * 104) ∧ Hid (OwnS wr X.heap.size 63 15 a m fR) ∧ Hid (Blk wr (w.heap.size + 1) 46 #[.int .i64 1, a, .slice none 0 0, .slice none 0 0, .int .u64 0, .int .u64 0, .int .u64 0, .int .u64 0, .int .u32 0, .int .u32 0]) ∧ Hid (Blk wr w.heap.size 46 #[.int .i64 0, .slice none 0 0, .slice none 0 0, .slice none 0 0, .int .u64 0, .int .u64 0, .int .u64 0, .int .u64 0, .int .u32 0, .int .u32 0]) ∧ Hid (Below w.heap.size w wr) ∧ Hid (X.heap.size ≤ wr.heap.size)) (fun at_ _ => l - (intOf at_).toNat)
  case atStart => exact ⟨0, 0, .slice none 0 0, by omega, rfl, Lib.hid (by simp), OwnS.nil _ _ _ _ _, g_t.out, g_r.out, hb1.out, Nat.le_refl _⟩
  case round =>
    clear g_r g_t hb1
    obtain ⟨m, P, a, hm, rfl, hP, hO, hT, hR, hbw, hZ⟩ := hrel
    by_cases hlt : m < q
    · have hPl : P + 104 ≤ l := by
        have e1 := hP.out
        have e2 := hlq.out
        omega
      have hx1 : (strF f l).extract P (P + 104) = strF (shf f P) 104 := by rw [strF_ext (by omega) (by omega), Nat.add_sub_cancel_left]
      have hl2 : l ≤ 4000 := by have := hlq.out; omega
      have W1 : IntKind.i64.wrap ((P : Int) + 104) = (P : Int) + 104 ∧ 0 ≤ (P : Int) + 104 ∧ (P : Int) + 104 ≤ (l : Int) ∧ (P : Int) ≤ (P : Int) + 104 ∧ ((P : Int) + 104).toNat = P + 104 := by rw [IntKind.wrap_i64]; omega
      have hxC : fR m = clA (rdA (shf f P)) := by rw [hfR.out, hP.out]
      have HG1 := Lib.hid (fun W => HG.out (shf f P) (shf_lo he1.out P) W)
      obtain ⟨u1, u2, u3, u4, u5⟩ := W1
      replace hxC := Lib.hid hxC
      have hTl := hT.out.lt
      have x0 := (hT.out).cell 0
      have x1 := (hT.out).cell 1
      have x2 := (hT.out).cell 2
      have x3 := (hT.out).cell 3
      have x4 := (hT.out).cell 4
      have x5 := (hT.out).cell 5
      have x6 := (hT.out).cell 6
      have x7 := (hT.out).cell 7
      have x8 := (hT.out).cell 8
      have x9 := (hT.out).cell 9
      have xf0 := (hT.out).frozen 0
      have xf1 := (hT.out).frozen 1
      have xf2 := (hT.out).frozen 2
      have xf3 := (hT.out).frozen 3
      have xf4 := (hT.out).frozen 4
      have xf5 := (hT.out).frozen 5
      have xf6 := (hT.out).frozen 6
      have xf7 := (hT.out).frozen 7
      have xf8 := (hT.out).frozen 8
      have xf9 := (hT.out).frozen 9
      have xl := (hT.out).lt
      go_wp2_with fail
      refine (HG1.out _).mono ?_
      rintro e2 w2 ⟨rfl, hb2⟩
      have hsz := hb2.size
      have ho2 := Lib.hid (OwnS.kept hO.out hb2)
      have hT2 := Lib.hid (hT.out.kept hb2)
      have hR2 := Lib.hid (hR.out.kept hb2)
      have hbw2 := Lib.hid (bel_eld hbw.out hb2)
      have hZ2 := Lib.hid (Nat.le_trans hZ.out hsz)
      clear hb2 x0 x1 x2 x3 x4 x5 x6 x7 x8 x9 xf0 xf1 xf2 xf3 xf4 xf5 xf6 xf7 xf8 xf9 xl hTl
      have y0 := (hT2.out).cell 0
      have y1 := (hT2.out).cell 1
      have y2 := (hT2.out).cell 2
      have y3 := (hT2.out).cell 3
      have y4 := (hT2.out).cell 4
      have y5 := (hT2.out).cell 5
      have y6 := (hT2.out).cell 6
      have y7 := (hT2.out).cell 7
      have y8 := (hT2.out).cell 8
      have y9 := (hT2.out).cell 9
      have yf0 := (hT2.out).frozen 0
      have yf1 := (hT2.out).frozen 1
      have yf2 := (hT2.out).frozen 2
      have yf3 := (hT2.out).frozen 3
      have yf4 := (hT2.out).frozen 4
      have yf5 := (hT2.out).frozen 5
      have yf6 := (hT2.out).frozen 6
      have yf7 := (hT2.out).frozen 7
      have yf8 := (hT2.out).frozen 8
      have yf9 := (hT2.out).frozen 9
      have yl := (hT2.out).lt
      go_wp2_with (at_builtin; refine wpList_appS rfl (.tmp 103) (.tmp 105) (t0 := 63) Try.underlying23 info_WA rfl (by omega) (by omega) rfl rfl rfl (ho2.out.kept (bel_alloc (bel_alloc (Below.refl _ _) _) _)) (by rw [hxC.out]; rfl) (by rw [hxC.out]; exact Blk.newE (by simp) rfl) (by rw [hxC.out]; exact one_clA _) (by omega) (by have := hZ2.out; simp; omega) ?_; intro v5 w5 ho5 hb5; obtain ⟨A8, c8, rfl, _, _, _⟩ := OwnS.ssis ho5 (by intro i; rw [hfR.out]; rfl); have kn1 := ((hT2.out.alloc _).alloc _).lowb hb5 hgX.out; have z1 : w5.cell? ⟨w.heap.size + 1, 0, none⟩ = some (.int .i64 1) := kn1.cell 0; have zi : w5.cell? ⟨w.heap.size + 1, 1, none⟩ = some a := kn1.cell 1; have zf := kn1.frozen 1; have zf1 := kn1.frozen 0; have zl := kn1.lt; replace kn1 := Lib.hid kn1; replace hb5 := Lib.hid hb5; replace ho5 := Lib.hid ho5)
      go_roundw
      case rel => exact ⟨m + 1, P + 104, .slice A8 (m + 1) c8, by omega, by go_num, Lib.hid (by have e := hP.out; omega), ho5.out.asFrom ((AsFrom.refl _ _).set (p := ⟨w.heap.size + 1, 1, none⟩) hgX.out _), Blk.set' kn1.out 1 _ rfl, Blk.far ((((hR2.out.alloc _).alloc _).lowb hb5.out (by have := hgX.out; omega))) (by dsimp only; omega) _, bel_set ((bel_alloc (bel_alloc hbw2.out _) _).trans (hb5.out.mono (by have := hgX.out; omega))) (by dsimp only; omega) _, (by
          have t1 := hZ2.out
          have t2 := hb5.out.size
          show _ ≤ _
          simp at t1 t2 ⊢
          omega)⟩
      case measure => simp [intOf]; omega
    · obtain rfl : m = q := by omega
      obtain rfl : P = l := by
        have e1 := hP.out
        have e2 := hlq.out
        omega
      obtain ⟨A2, c2, rfl, hq1, hq2, _⟩ := OwnS.ssis hO.out (by intro i; rw [hfR.out]; rfl)
      replace hq2 := Lib.hid hq2
      have r_t := rowAt_blk hT.out
      have r_r := rowAt_blk hR.out
      have x0 := (hT.out).cell 0
      have x1 := (hT.out).cell 1
      have x2 := (hT.out).cell 2
      have x3 := (hT.out).cell 3
      have x4 := (hT.out).cell 4
      have x5 := (hT.out).cell 5
      have x6 := (hT.out).cell 6
      have x7 := (hT.out).cell 7
      have x8 := (hT.out).cell 8
      have x9 := (hT.out).cell 9
      have xf0 := (hT.out).frozen 0
      have xf1 := (hT.out).frozen 1
      have xf2 := (hT.out).frozen 2
      have xf3 := (hT.out).frozen 3
      have xf4 := (hT.out).frozen 4
      have xf5 := (hT.out).frozen 5
      have xf6 := (hT.out).frozen 6
      have xf7 := (hT.out).frozen 7
      have xf8 := (hT.out).frozen 8
      have xf9 := (hT.out).frozen 9
      have xl := (hT.out).lt
      have r_l := hR.out.lt
      go_wp2_with fail
      refine abs_post (fun Y_ => Below w.heap.size w Y_ ∧ Blk Y_ w.heap.size 46 #[.int .i64 1, .slice A2 m c2, .slice none 0 0, .slice none 0 0, .int .u64 0, .int .u64 0, .int .u64 0, .int .u64 0, .int .u32 0, .int .u32 0] ∧ AsFrom X.heap.size wr Y_) ⟨bel_setRow hbw.out (Nat.le_refl _) _, hR.out.setRow rfl, (AsFrom.refl _ _).row (by have := hgX.out; omega) _⟩ ?_
      rintro Y_ ⟨bZ_, gP_, aF_⟩
      have HLV := loadVar_blk (ty := 46) Try.underlying46 rfl (by kernel_rfl) gP_ rfl
      obtain ⟨A3, c3, e3, _, _, hs3⟩ := (hO.out.asFrom aF_).ssis (by intro i; rw [hfR.out]; rfl)
      cases e3
      rw [hfR.out] at hs3
      exact bodyPost_ret (v := .tuple #[.agg #[.int .i64 1, .slice A2 m c2, .slice none 0 0, .slice none 0 0, .int .u64 0, .int .u64 0, .int .u64 0, .int .u64 0, .int .u32 0, .int .u32 0], .int .i64 0]) (results_ct Try.results16 rfl HLV) rfl ⟨_, _, rfl, hs3, bZ_⟩
end
section
attribute [local go_sem] loadV_ptr storeV_ptr
attribute [local go_sem ↓] load_WQ store_WQ
attribute [local go_sem ↓] load_WT store_WT
set_option maxRecDepth 8000 in
set_option maxHeartbeats 4000000 in
theorem refGetReq_k2 (q n : Nat) (e : Nat → Int) (he : ∀ i, 0 ≤ e i ∧ e i < 256) (w : World) (hq : n = 1 + q * 108) (hq30 : q ≤ 30) (h0 : e 0 = 2) :
    Calls Try.prog 16 #[.string (strF e n)] w fun r w' => ∃ A' c', r = .returned (.tuple #[.agg #[.int .i64 2, .slice none 0 0, .slice A' q c', .slice none 0 0, .int .u64 0, .int .u64 0, .int .u64 0, .int .u64 0, .int .u32 0, .int .u32 0], .int .i64 0]) ∧ SsIs w' A' q 16 (fun i => clT (rdT (shf (shf e 1) (i * 108)))) ∧ Below w.heap.size w w' := by
  have es : (strF e n).size = n := strF_size e n
  have z0 : 0 < (strF e n).size := by rw [es]; omega
  have g0 : (((strF e n)[0]'z0).toNat : Int) = 2 := (strF_at z0 (he 0)).trans h0
  have hx0 : (strF e n).extract 1 n = strF (shf e 1) (n - 1) := strF_ext (by omega) (by omega)
  have he1 := shf_lo he 1
  generalize hf : shf e 1 = f at *
  obtain ⟨l, hl⟩ : ∃ l, l = n - 1 := ⟨_, rfl⟩
  have hl1 : n = l + 1 := by omega
  rw [← hl] at hx0
  have es1 : (strF f l).size = l := strF_size f l
  have HG := Lib.hid rgetT_ok
  have k1 : ((n : Int) == 0) = false := beq_eq_false_iff_ne.2 (by omega)
  have k1c : (((l : Int) + 1) == 0) = false := beq_eq_false_iff_ne.2 (by omega)
  have k2 : ((l : Int) % 108 != 0) = false := by rw [bne_eq_false_iff_eq]; omega
  have k2b : ((l % 108 : Nat) : Int) = 0 := by omega
  have k3 : decide ((l : Int) > 30 * 108) = false := decide_eq_false (by omega)
  have k3b : decide ((l : Int) > 3240) = false := decide_eq_false (by omega)
  have k6 : (1 : Int) ≤ (n : Int) := by omega
  have hlq : l = q * 108 := by omega
  obtain ⟨fR, hfR⟩ : ∃ fR : Nat → List Value, fR = fun i => clT (rdT (shf f (i * 108))) := ⟨_, rfl⟩
  replace hfR := Lib.hid hfR
  replace he1 := Lib.hid he1
  replace hlq := Lib.hid hlq
  subst hl1
  clear h0 he hq hf hl
  go_enter Try.func16, Try.ntmps16
  go_upto_region 26 with fail
  refine abs_wp (fun X => Below w.heap.size w X ∧ Blk X w.heap.size 46 #[.int .i64 0, .slice none 0 0, .slice none 0 0, .slice none 0 0, .int .u64 0, .int .u64 0, .int .u64 0, .int .u64 0, .int .u32 0, .int .u32 0] ∧ Blk X (w.heap.size + 1) 46 #[.int .i64 2, .slice none 0 0, .slice none 0 0, .slice none 0 0, .int .u64 0, .int .u64 0, .int .u64 0, .int .u64 0, .int .u32 0, .int .u32 0]) ⟨by (repeat (first | exact Below.refl _ _ | assumption | refine below_drewN ?_ _ | refine bel_grow ?_ _ | refine Below.drew ?_ | refine bel_alloc ?_ _ | refine bel_set ?_ (by first | exact Nat.le_refl _ | (simp; done) | (simp; omega) | omega) _ | refine bel_trans ?_ (by assumption))), (Blk.new _ _ _).kept (bel_alloc (Below.refl _ _) _), Blk.newE (l := [.int .i64 2, .slice none 0 0, .slice none 0 0, .slice none 0 0, .int .u64 0, .int .u64 0, .int .u64 0, .int .u64 0, .int .u32 0, .int .u32 0]) (by simp) rfl⟩ ?_
  rintro X ⟨hb1, g_r, g_t⟩
  have hgX : Hid (w.heap.size + 1 < X.heap.size) := Lib.hid g_t.lt
  clear g0 z0 k1 k1c k2 k2b k3 k3b k6
  replace hb1 := Lib.hid hb1
  replace g_r := Lib.hid g_r
  replace g_t := Lib.hid g_t
  go_wp2_with fail
  go_loopw [10] (fun at_ wr => ∃ (m P : Nat) (a : Value), m ≤ q ∧ at_ = .int .i64 P ∧ Hid (P = m * 108) ∧ Hid (OwnS wr X.heap.size 67 16 a m fR) ∧ Hid (Blk wr (w.heap.size + 1) 46 #[.int .i64 2, .slice none 0 0, a, .slice none 0 0, .int .u64 0, .int .u64 0, .int .u64 0, .int .u64 0, .int .u32 0, .int .u32 0]) ∧ Hid (Blk wr w.heap.size 46 #[.int .i64 0, .slice none 0 0, .slice none 0 0, .slice none 0 0, .int .u64 0, .int .u64 0, .int .u64 0, .int .u64 0, .int .u32 0, .int .u32 0]) ∧ Hid (Below w.heap.size w wr) ∧ Hid (X.heap.size ≤ wr.heap.size)) (fun at_ _ => l - (intOf at_).toNat)
  case atStart => exact ⟨0, 0, .slice none 0 0, by omega, rfl, Lib.hid (by simp), OwnS.nil _ _ _ _ _, g_t.out, g_r.out, hb1.out, Nat.le_refl _⟩
  case round =>
    clear g_r g_t hb1
    obtain ⟨m, P, a, hm, rfl, hP, hO, hT, hR, hbw, hZ⟩ := hrel
    by_cases hlt : m < q
    · have hPl : P + 108 ≤ l := by
        have e1 := hP.out
        have e2 := hlq.out
        omega
      have hx1 : (strF f l).extract P (P + 108) = strF (shf f P) 108 := by rw [strF_ext (by omega) (by omega), Nat.add_sub_cancel_left]
      have hl2 : l ≤ 4000 := by have := hlq.out; omega
      have W1 : IntKind.i64.wrap ((P : Int) + 108) = (P : Int) + 108 ∧ 0 ≤ (P : Int) + 108 ∧ (P : Int) + 108 ≤ (l : Int) ∧ (P : Int) ≤ (P : Int) + 108 ∧ ((P : Int) + 108).toNat = P + 108 := by rw [IntKind.wrap_i64]; omega
      have hxC : fR m = clT (rdT (shf f P)) := by rw [hfR.out, hP.out]
      have HG1 := Lib.hid (fun W => HG.out (shf f P) (shf_lo he1.out P) W)
      obtain ⟨u1, u2, u3, u4, u5⟩ := W1
      replace hxC := Lib.hid hxC
      have hTl := hT.out.lt
      have x0 := (hT.out).cell 0
      have x1 := (hT.out).cell 1
      have x2 := (hT.out).cell 2
      have x3 := (hT.out).cell 3
      have x4 := (hT.out).cell 4
      have x5 := (hT.out).cell 5
      have x6 := (hT.out).cell 6
      have x7 := (hT.out).cell 7
      have x8 := (hT.out).cell 8
      have x9 := (hT.out).cell 9
      have xf0 := (hT.out).frozen 0
      have xf1 := (hT.out).frozen 1
      have xf2 := (hT.out).frozen 2
      have xf3 := (hT.out).frozen 3
      have xf4 := (hT.out).frozen 4
      have xf5 := (hT.out).frozen 5
      have xf6 := (hT.out).frozen 6
      have xf7 := (hT.out).frozen 7
      have xf8 := (hT.out).frozen 8
      have xf9 := (hT.out).frozen 9
      have xl := (hT.out).lt
      go_wp2_with fail
      refine (HG1.out _).mono ?_
      rintro e2 w2 ⟨rfl, hb2⟩
      have hsz := hb2.size
      have ho2 := Lib.hid (OwnS.kept hO.out hb2)
      have hT2 := Lib.hid (hT.out.kept hb2)
      have hR2 := Lib.hid (hR.out.kept hb2)
      have hbw2 := Lib.hid (bel_eld hbw.out hb2)
      have hZ2 := Lib.hid (Nat.le_trans hZ.out hsz)
      clear hb2 x0 x1 x2 x3 x4 x5 x6 x7 x8 x9 xf0 xf1 xf2 xf3 xf4 xf5 xf6 xf7 xf8 xf9 xl hTl
      have y0 := (hT2.out).cell 0
      have y1 := (hT2.out).cell 1
      have y2 := (hT2.out).cell 2
      have y3 := (hT2.out).cell 3
      have y4 := (hT2.out).cell 4
      have y5 := (hT2.out).cell 5
      have y6 := (hT2.out).cell 6
      have y7 := (hT2.out).cell 7
      have y8 := (hT2.out).cell 8
      have y9 := (hT2.out).cell 9
      have yf0 := (hT2.out).frozen 0
      have yf1 := (hT2.out).frozen 1
      have yf2 := (hT2.out).frozen 2
      have yf3 := (hT2.out).frozen 3
      have yf4 := (hT2.out).frozen 4
      have yf5 := (hT2.out).frozen 5
      have yf6 := (hT2.out).frozen 6
      have yf7 := (hT2.out).frozen 7
      have yf8 := (hT2.out).frozen 8
      have yf9 := (hT2.out).frozen 9
      have yl := (hT2.out).lt
      go_wp2_with (at_builtin; refine wpList_appS rfl (.tmp 116) (.tmp 118) (t0 := 67) Try.underlying24 info_WT rfl (by omega) (by omega) rfl rfl rfl (ho2.out.kept (bel_alloc (bel_alloc (Below.refl _ _) _) _)) (by rw [hxC.out]; rfl) (by rw [hxC.out]; exact Blk.newE (by simp) rfl) (by rw [hxC.out]; exact one_clT _) (by omega) (by have := hZ2.out; simp; omega) ?_; intro v5 w5 ho5 hb5; obtain ⟨A8, c8, rfl, _, _, _⟩ := OwnS.ssis ho5 (by intro i; rw [hfR.out]; rfl); have kn1 := ((hT2.out.alloc _).alloc _).lowb hb5 hgX.out; have z1 : w5.cell? ⟨w.heap.size + 1, 0, none⟩ = some (.int .i64 2) := kn1.cell 0; have zi : w5.cell? ⟨w.heap.size + 1, 2, none⟩ = some a := kn1.cell 2; have zf := kn1.frozen 2; have zf1 := kn1.frozen 0; have zl := kn1.lt; replace kn1 := Lib.hid kn1; replace hb5 := Lib.hid hb5; replace ho5 := Lib.hid ho5)
      go_roundw
      case rel => exact ⟨m + 1, P + 108, .slice A8 (m + 1) c8, by omega, by go_num, Lib.hid (by have e := hP.out; omega), ho5.out.asFrom ((AsFrom.refl _ _).set (p := ⟨w.heap.size + 1, 2, none⟩) hgX.out _), Blk.set' kn1.out 2 _ rfl, Blk.far ((((hR2.out.alloc _).alloc _).lowb hb5.out (by have := hgX.out; omega))) (by dsimp only; omega) _, bel_set ((bel_alloc (bel_alloc hbw2.out _) _).trans (hb5.out.mono (by have := hgX.out; omega))) (by dsimp only; omega) _, (by
          have t1 := hZ2.out
          have t2 := hb5.out.size
          show _ ≤ _
          simp at t1 t2 ⊢
          omega)⟩
      case measure => simp [intOf]; omega
    · obtain rfl : m = q := by omega
      obtain rfl : P = l := by
        have e1 := hP.out
        have e2 := hlq.out
        omega
      obtain ⟨A2, c2, rfl, hq1, hq2, _⟩ := OwnS.ssis hO.out (by intro i; rw [hfR.out]; rfl)
      replace hq2 := Lib.hid hq2
      have r_t := rowAt_blk hT.out
      have r_r := rowAt_blk hR.out
      have x0 := (hT.out).cell 0
      have x1 := (hT.out).cell 1
      have x2 := (hT.out).cell 2
      have x3 := (hT.out).cell 3
      have x4 := (hT.out).cell 4
      have x5 := (hT.out).cell 5
      have x6 := (hT.out).cell 6
      have x7 := (hT.out).cell 7
      have x8 := (hT.out).cell 8
      have x9 := (hT.out).cell 9
      have xf0 := (hT.out).frozen 0
      have xf1 := (hT.out).frozen 1
      have xf2 := (hT.out).frozen 2
      have xf3 := (hT.out).frozen 3
      have xf4 := (hT.out).frozen 4
      have xf5 := (hT.out).frozen 5
      have xf6 := (hT.out).frozen 6
      have xf7 := (hT.out).frozen 7
      have xf8 := (hT.out).frozen 8
      have xf9 := (hT.out).frozen 9
      have xl := (hT.out).lt
      have r_l := hR.out.lt
      go_wp2_with fail
      refine abs_post (fun Y_ => Below w.heap.size w Y_ ∧ Blk Y_ w.heap.size 46 #[.int .i64 2, .slice none 0 0, .slice A2 m c2, .slice none 0 0, .int .u64 0, .int .u64 0, .int .u64 0, .int .u64 0, .int .u32 0, .int .u32 0] ∧ AsFrom X.heap.size wr Y_) ⟨bel_setRow hbw.out (Nat.le_refl _) _, hR.out.setRow rfl, (AsFrom.refl _ _).row (by have := hgX.out; omega) _⟩ ?_
      rintro Y_ ⟨bZ_, gP_, aF_⟩
      have HLV := loadVar_blk (ty := 46) Try.underlying46 rfl (by kernel_rfl) gP_ rfl
      obtain ⟨A3, c3, e3, _, _, hs3⟩ := (hO.out.asFrom aF_).ssis (by intro i; rw [hfR.out]; rfl)
      cases e3
      rw [hfR.out] at hs3
      exact bodyPost_ret (v := .tuple #[.agg #[.int .i64 2, .slice none 0 0, .slice A2 m c2, .slice none 0 0, .int .u64 0, .int .u64 0, .int .u64 0, .int .u64 0, .int .u32 0, .int .u32 0], .int .i64 0]) (results_ct Try.results16 rfl HLV) rfl ⟨_, _, rfl, hs3, bZ_⟩
end
end Go.Proofs.Ytncampbmnbhikaa
