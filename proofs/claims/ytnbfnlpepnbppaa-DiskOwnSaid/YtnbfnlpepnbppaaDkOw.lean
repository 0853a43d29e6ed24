/-
  DiskOwn, walked.
-/
import Derived.Test.YtnbfnlpepnbppaaJ2
namespace Go.Proofs.Ytnbfnlpepnbppaa
set_option linter.unusedVariables false
set_option linter.unusedSimpArgs false
open Go.RowKit Go.Shelf
attribute [local irreducible] bytesL

section
attribute [local go_sem ↓] load_R store_R
set_option maxRecDepth 8000 in
set_option maxHeartbeats 16000000 in
theorem diskOwn_of (hfix : ∀ W, Calls Try.prog 8 #[] W fun r w' => r = .returned (.bool true) ∧ Below W.heap.size W w')
    (A : Option Addr) (n c : Nat) (o : Nat → OpV) (hn : n ≤ c) (hc : c ≤ maxLen) (by_ : Int) (w : World) (hO : OpsIs w A n o) :
    Calls Try.prog 3 #[.slice A n c, .int .u8 by_] w fun r w' => r = .returned (.bool true) ∧ Below w.heap.size w w' := by
  replace hO := Lib.hid hO
  replace hfix := Lib.hid hfix
  unfold maxLen at hc
  go_enter Try.func3, Try.ntmps3
  by_cases h20 : 20 < n
  · go_wp2_with fail
    refine (hfix.out w).mono ?_
    rintro e1 w1 ⟨rfl, hb1⟩
    go_wp2_with fail
    go_ret
    exact ⟨rfl, hb1⟩
  · have q1 : n ≤ 20 := by omega
    clear h20
    have cN := Lib.hid (new_ok 8 (by omega) (by omega) w)
    go_wp2_with fail
    refine cN.out.mono ?_
    rintro e1 w1 ⟨B, rfl, hD1, hb1⟩
    have cM := Lib.hid (rnew_ex 8 (by omega) (by omega) w1)
    replace hD1 := Lib.hid hD1
    replace hb1 := Lib.hid hb1
    clear cN
    go_wp2_with fail
    refine cM.out.mono ?_
    rintro e2 w2 ⟨As, cs, Aw, cw, rfl, hR2, hb2, hs2, hw2⟩
    have hP2 : PR w2 w.heap.size B (fun k => w.heap.size ≤ k ∧ k < w1.heap.size) (.slice As 8 cs) (.slice Aw 0 cw) (DS.new 8) := ⟨hD1.out.kept hb2, fun k h => h.1, hR2, fun b h => by have := hs2 b h; have := hb1.out.size; exact ⟨by omega, fun x => by have := x.2; omega⟩, fun b h => by have := hw2 b h; have := hb1.out.size; exact ⟨by omega, fun x => by have := x.2; omega⟩⟩
    have hB2 := bel_eld hb1.out hb2
    have hP3 := hP2.kept (bel_alloc (Below.refl _ _) (.cells #[.slice As 8 cs, .slice Aw 0 cw, .int .i64 (-1), .bool false, .int .i64 0] 31))
    have hJ0 : Hid (OJ w (w2.alloc (.cells #[.slice As 8 cs, .slice Aw 0 cw, .int .i64 (-1), .bool false, .int .i64 0] 31)) B w2.heap.size (fun k => w.heap.size ≤ k ∧ k < w1.heap.size) (.slice As 8 cs) (.slice Aw 0 cw) (DS.new 8)) := Lib.hid ⟨hP3, Blk.new _ _ _, fun x => by have := hb2.size; have := x.2; omega, fun b x => by have := hR2.safe.ltB b x; omega, fun b x => by have := hR2.waits.ltB b x; omega, bel_alloc hB2 _, hB2.size⟩
    have hst : storeV Try.prog 31 5 (w2.alloc (.cells #[.slice none 0 0, .slice none 0 0, .int .i64 0, .bool false, .int .i64 0] 31)) (.pointer (some ⟨w2.heap.size, 0, none⟩)) (.agg #[.slice As 8 cs, .slice Aw 0 cw, .int .i64 (-1), .bool false, .int .i64 0]) = .ok () ((w2.alloc (.cells #[.slice none 0 0, .slice none 0 0, .int .i64 0, .bool false, .int .i64 0] 31)).setRow w2.heap.size #[.slice As 8 cs, .slice Aw 0 cw, .int .i64 (-1), .bool false, .int .i64 0]) := (RB.st (show RB _ _ (.slice none 0 0) (.slice none 0 0) (.int .i64 0) (.bool false) (.int .i64 0) from Blk.new _ _ _) rfl rfl rfl rfl rfl).1
    clear hD1 hb1 cM hR2 hb2 hs2 hw2 hP2 hB2 hP3
    go_upto_region 5 with fail
    obtain ⟨bx, hbx⟩ : ∃ bx, bx = w2.heap.size := ⟨_, rfl⟩
    rw [← hbx] at hJ0 ⊢
    refine abs_wp (fun X => OJ w X B bx (fun k => w.heap.size ≤ k ∧ k < w1.heap.size) (.slice As 8 cs) (.slice Aw 0 cw) (DS.new 8)) hJ0.out ?_
    clear hJ0 hst hbx
    rintro X0 hJ0
    replace hJ0 := Lib.hid hJ0
    go_wp2_with fail
    go_loopw [36] (fun i wr => ∃ (t : Nat) (G : Nat → Prop) (sv wv : Value) (d : DS), t ≤ n ∧ i = .int .i64 t ∧ Hid (SJ d 8 t) ∧ Hid (OJ w wr B bx G sv wv d)) (fun i _ => n - (intOf i).toNat)
    case atStart => exact ⟨0, _, _, _, _, by omega, rfl, Lib.hid (SJ.new 8), hJ0⟩
    case round =>
      clear hJ0
      obtain ⟨t, G, sv, wv, d, ht, rfl, hJ, hI⟩ := hrel
      obtain ⟨As, cs, Aw, cw, rfl, rfl⟩ := hI.out.p.rf.form
      rw [hJ.out.n] at hI
      by_cases hlt : t < n
      · obtain ⟨bo, po, rfl, hol, x0, x1, x2, x3, x4, x5⟩ := ops_at (hO.out.kept hI.out.bl) hlt
        have hok := (hO.out.2 t hlt)
        obtain ⟨r5, r6⟩ := hok.mr
        clear hok
        generalize (o t).d = od at *
        generalize (o t).at_ = oa at *
        generalize (o t).y = oy at *
        generalize (o t).mr = om at *
        generalize (o t).lg = ol at *
        generalize (o t).A = oA at *
        generalize (o t).n = oN at *
        generalize (o t).c = oC at *
        go_upto_region 10 with fail
        refine abs_wp (fun X => Below wr.heap.size wr X ∧ Blk X wr.heap.size 38 #[.int .u8 od, .int .i64 oa, .int .u8 oy, .int .u16 om, .int .i8 ol, .slice oA oN oC]) ⟨bel_alloc (Below.refl _ _) _, Blk.new _ _ _⟩ ?_
        rintro X ⟨hbX, gX⟩
        have y1 : X.cell? ⟨wr.heap.size, 1, none⟩ = some (.int .i64 oa) := gX.cell 1
        have y2 : X.cell? ⟨wr.heap.size, 2, none⟩ = some (.int .u8 oy) := gX.cell 2
        have y3 : X.cell? ⟨wr.heap.size, 3, none⟩ = some (.int .u16 om) := gX.cell 3
        have yl := gX.lt
        have hsX := hbX.size
        have hIX := Lib.hid (hI.out.kept hbX)
        have hgX := Lib.hid gX
        have cU := Lib.hid (full_any oy om ⟨r5, r6⟩ X)
        have hbo := Lib.hid (show ∀ k, G k → k < wr.heap.size from hI.out.p.dk.lt)
        have hboS := Lib.hid (show ∀ k, (Value.slice As 8 cs).ownBlock = some k → k < wr.heap.size from hI.out.p.rf.safe.ltB)
        have hboW := Lib.hid (show ∀ k, (Value.slice Aw d.m cw).ownBlock = some k → k < wr.heap.size from hI.out.p.rf.waits.ltB)
        have hbxl := hI.out.b.lt
        clear hbX gX hI x0 x1 x2 x3 x4 x5
        go_wp2_with fail
        refine cU.out.mono ?_
        rintro e3 w3 ⟨g3, rfl, hR3, hg3, hb3⟩
        have hs3 := hb3.size
        have hl3 := hR3.lt
        have hI3 := Lib.hid (hIX.out.kept hb3)
        have g1 := Lib.hid (hgX.out.kept hb3)
        have z1 : w3.cell? ⟨wr.heap.size, 1, none⟩ = some (.int .i64 oa) := g1.out.cell 1
        have cW := Lib.hid (write_any B G d oa (some ⟨g3, 0, none⟩) 512 512 (fullD oy om) (Nat.le_refl _) (by simp [maxLen]) (by rw [hJ.out.n]; omega) (by have := hJ.out.m; omega) (by have := hJ.out.k; omega) (by rw [hJ.out.f]; omega) w3 hI3.out.p.dk hR3.slis)
        replace hR3 := Lib.hid hR3
        clear cU hb3 hIX hgX y1 y2 y3 yl
        go_wp2_with fail
        refine cW.out.mono ?_
        rintro e4 w4 ⟨rfl, hD4⟩
        have hT4 : Tch G w3 w4 := by obtain ⟨_, _, _, _, k4⟩ := hD4; exact k4
        have hs4 := hT4.size
        have hR4 := Lib.hid (hR3.out.tch hT4 (fun x => by have := hbo.out _ x; omega))
        have g4 := Lib.hid (g1.out.tch hT4 (fun x => by have := hbo.out _ x; omega))
        have z4 : w4.cell? ⟨wr.heap.size, 1, none⟩ = some (.int .i64 oa) := g4.out.cell 1
        have hrf4 := Lib.hid (hI3.out.p.rf.tch hT4 (fun b x => (hI3.out.p.sg b x).2) (fun b x => (hI3.out.p.wg b x).2))
        have hbx4 := Lib.hid (hI3.out.b.tch hT4 hI3.out.bg)
        have l4 := hbx4.out.ld
        have kc : (convert 39 9 (.slice (some ⟨g3, 0, none⟩) 512 512)).run Try.prog w4 = .ok (.string (strF (fullD oy om) 512)) w4 := convB hR4.out.slis 512
        have cQ := Lib.hid (rwrite_ex As Aw 8 d.m cs cw d oa 512 (fullD oy om) (by rw [hJ.out.n]; omega) (by have := hJ.out.m; omega) (by have := hJ.out.k; omega) ⟨by rw [hJ.out.f]; omega, by rw [hJ.out.f]; omega⟩ w4 hrf4.out)
        obtain ⟨hJ2, _, _⟩ := hJ.out.write oa 512 (fullD oy om)
        replace hJ2 := Lib.hid hJ2
        replace hD4 := Lib.hid hD4
        generalize d.werr oa 512 = er4 at *
        generalize d.write oa 512 (fullD oy om) = d2 at *
        generalize strF (fullD oy om) 512 = S4 at *
        clear cW hT4 hR3 g1 z1 hrf4
        go_wp2_with fail
        refine cQ.out.mono ?_
        rintro e5 w5 ⟨A5, c5, rfl, hR5, hb5, hw5⟩
        have hs5 := hb5.size
        obtain ⟨st5, hx5, t5⟩ := (hbx4.out.kept hb5).st (a' := .slice As 8 cs) (b' := .slice A5 d2.m c5) (c' := .int .i64 d2.f) (d' := .bool d2.dn) (e' := .int .i64 d2.k) rfl rfl rfl rfl rfl
        obtain ⟨G', hI6, hap, hT6⟩ := hI3.out.step hD4.out hR5 hb5 (fun b => Or.inl) hw5 t5 hx5
        have hg3a := hap g3 (by have := hI3.out.lb; have := hI3.out.bl.size; have := hI3.out.p.gl; omega) hl3 (fun x => by have := hbo.out _ x; omega) (fun b x e => by have := hboS.out _ x; omega) (fun b x e => by have := hboW.out _ x; omega)
        have hR6 := (hR4.out.kept hb5).tch t5 (by omega)
        have g6 := (g4.out.kept hb5).tch t5 (by omega)
        have hs6 := t5.size
        clear cQ hR5 hb5 hw5 t5 hx5 hap hT6 hI3 hD4 hR4 g4 hbx4 z4 kc l4
        go_upto_region 13 with fail
        refine abs_wp (fun Y => OJ w Y B bx G' (.slice As 8 cs) (.slice A5 d2.m c5) d2 ∧ RowB Y g3 (fullD oy om) ∧ Blk Y wr.heap.size 38 #[.int .u8 od, .int .i64 oa, .int .u8 oy, .int .u16 om, .int .i8 ol, .slice oA oN oC] ∧ w3.heap.size ≤ Y.heap.size) ⟨hI6, hR6, g6, by omega⟩ ?_
        clear hI6 hR6 g6 st5 hs6 hs5 hs4
        rintro Y ⟨hIY, hRY, gY, hsY⟩
        have u1 : Y.cell? ⟨wr.heap.size, 1, none⟩ = some (.int .i64 oa) := gY.cell 1
        have cR := Lib.hid (read_any B G' d2 oa (by rw [hJ2.out.n]; omega) (by have := hJ2.out.m; omega) Y hIY.p.dk)
        have hGY := Lib.hid (show ∀ k, G' k → k < Y.heap.size from hIY.p.dk.lt)
        have hSY := Lib.hid (show ∀ b, (Value.slice As 8 cs).ownBlock = some b → b < Y.heap.size from hIY.p.rf.safe.ltB)
        have hWY := Lib.hid (show ∀ b, (Value.slice A5 d2.m c5).ownBlock = some b → b < Y.heap.size from hIY.p.rf.waits.ltB)
        have hXY := Lib.hid (show bx < Y.heap.size ∧ w.heap.size ≤ Y.heap.size from ⟨hIY.b.lt, hIY.bl.size⟩)
        have hg3c := Lib.hid (show g3 < Y.heap.size by omega)
        have hg3d := Lib.hid (show ¬ bx = g3 by omega)
        have hg3b := Lib.hid (show w.heap.size ≤ g3 from by have := hIY.bl.size; have := hIY.lb; omega)
        replace hIY := Lib.hid hIY
        replace hRY := Lib.hid hRY
        replace hg3a := Lib.hid hg3a
        clear gY
        go_wp2_with fail
        refine cR.out.mono ?_
        rintro e7 w7 ⟨v7, rfl, hv7, ho7, hb7⟩
        have hf7 : ∃ A7 n7 c7, v7 = .slice A7 n7 c7 ∧ n7 ≤ 512 ∧ (0 < n7 → ∃ g7, A7 = some ⟨g7, 0, none⟩ ∧ Y.heap.size ≤ g7 ∧ U8B w7 g7 n7) := by
          by_cases h0 : d2.rerr oa = 0
          · obtain ⟨g7, c7, e, h1, h2⟩ := owB_u8 (ho7 h0) (by omega)
            exact ⟨_, 512, c7, e, Nat.le_refl _, fun _ => ⟨g7, rfl, h1, h2⟩⟩
          · exact ⟨none, 0, 0, hv7 h0, by omega, fun h => absurd h (Nat.lt_irrefl 0)⟩
        obtain ⟨A7, n7, c7, rfl, hn7, hu7⟩ := hf7
        have hI7 := Lib.hid (hIY.out.kept hb7)
        have hU7 := Lib.hid ((hRY.out.kept hb7).u8)
        have hs7 := hb7.size
        replace hu7 := Lib.hid hu7
        generalize d2.rerr oa = er7 at *
        clear cR hv7 ho7 hIY hRY hb7 u1
        go_wp2_with fail
        go_loopw [68] (fun i wz => ∃ (j : Nat), j ≤ 512 ∧ i = .int .i64 j ∧ Hid (U8B wz g3 512) ∧ Hid (Tch (fun k => k = g3) w7 wz)) (fun i _ => 512 - (intOf i).toNat)
        case atStart => exact ⟨0, by omega, rfl, hU7, Lib.hid (Tch.refl _ _)⟩
        case round =>
          clear hU7
          obtain ⟨j, hj, rfl, hU, hT⟩ := hrel
          by_cases hj5 : j < 512
          · obtain ⟨x, cx⟩ := hU.out.cell hj5
            have fx := hU.out.frozen j
            have lx := hU.out.lt
            go_wp2_with fail
            go_roundw
            case rel => exact ⟨j + 1, by omega, by go_num, Lib.hid (hU.out.set j _), Lib.hid (hT.out.set (p := ⟨g3, j, none⟩) (fun _ => rfl) _)⟩
            case measure => simp [intOf]; omega
          · obtain rfl : j = 512 := by omega
            have hI8 := Lib.hid (hI7.out.tch hT.out (fun k x => by have : k = g3 := x; have := hg3b.out; omega) (fun k x y => hg3a.out.1 (y ▸ x)) hg3a.out.2.1 hg3a.out.2.2 hg3d.out)
            have hu8 := Lib.hid (fun (h : 0 < n7) => by
              obtain ⟨g7, e, h1, h2⟩ := hu7.out h
              exact (⟨g7, e, h1, h2.tch hT.out (fun x => by have : g7 = g3 := x; have := hg3c.out; omega)⟩ : ∃ g7, A7 = some ⟨g7, 0, none⟩ ∧ Y.heap.size ≤ g7 ∧ U8B wr g7 n7))
            clear hI7 hu7 hU hT hg3a hg3b hg3c hg3d
            go_wp2_with fail
            go_loopw [81] (fun i wz => ∃ (j : Nat), j ≤ n7 ∧ i = .int .i64 j ∧ Hid (0 < n7 → ∃ g7, A7 = some ⟨g7, 0, none⟩ ∧ Y.heap.size ≤ g7 ∧ U8B wz g7 n7) ∧ Hid (Tch (fun k => Y.heap.size ≤ k) wr wz)) (fun i _ => n7 - (intOf i).toNat)
            case atStart => exact ⟨0, by omega, rfl, hu8, Lib.hid (Tch.refl _ _)⟩
            case round =>
              clear hu8
              obtain ⟨j, hj, rfl, hU, hT⟩ := hrel
              by_cases hj5 : j < n7
              · obtain ⟨g7, rfl, hg7, hu⟩ := hU.out (by omega)
                obtain ⟨x, cx⟩ := hu.cell hj5
                have fx := hu.frozen j
                have lx := hu.lt
                replace hu := Lib.hid hu
                clear hU
                go_wp2_with fail
                go_roundw
                case rel => exact ⟨j + 1, by omega, by go_num, Lib.hid (fun _ => ⟨g7, rfl, hg7, hu.out.set j _⟩), Lib.hid (hT.out.set (p := ⟨g7, j, none⟩) (fun _ => hg7) _)⟩
                case measure => simp [intOf]; omega
              · obtain rfl : j = n7 := by omega
                have hI9 := Lib.hid (hI8.out.tch hT.out (fun k x => Nat.le_trans hXY.out.2 x) (fun k x y => absurd y (Nat.not_le.2 (hGY.out k x))) (fun b x y => absurd y (Nat.not_le.2 (hSY.out b x))) (fun b x y => absurd y (Nat.not_le.2 (hWY.out b x))) (fun y => absurd y (Nat.not_le.2 hXY.out.1)))
                clear hI8 hU hT
                go_wp2_with fail
                go_roundw
                case rel => exact ⟨t + 1, G', _, _, d2, by omega, by go_num, hJ2, hI9⟩
                case measure => simp [intOf]; omega
      · obtain rfl : n = t := by omega
        go_wp2_with fail
        refine (hfix.out wr).mono ?_
        rintro e8 w8 ⟨rfl, hb8⟩
        have hI8 := hI.out.kept hb8
        have l8 := hI8.b.ld
        have cS := Lib.hid (same_any B G (.slice As 8 cs) (.slice Aw d.m cw) d (by rw [hJ.out.n]; omega) (by have := hJ.out.m; omega) w8 hI8.p.x hI8.p.rf)
        unfold rfv at cS
        have hB8 := Lib.hid hI8.bl
        clear hI hI8 hb8
        go_wp2_with fail
        refine cS.out.mono ?_
        rintro e9 w9 ⟨rfl, hb9⟩
        go_wp2_with fail
        go_ret
        exact ⟨rfl, bel_eld hB8.out hb9⟩
end
end Go.Proofs.Ytnbfnlpepnbppaa
