/-
  DiskPlays, walked.
-/
import Derived.Test.YtnbfnlpepnbppaaJ6
import Derived.Test.YtnbfnlpepnbppaaDkP
namespace Go.Proofs.Ytnbfnlpepnbppaa
set_option linter.unusedVariables false
set_option linter.unusedSimpArgs false
open Go.RowKit Go.Shelf
attribute [local irreducible] bytesL

section
attribute [local go_sem ↓] load_R store_R
set_option maxRecDepth 8000 in
set_option maxHeartbeats 8000000 in
theorem diskPlays_of (hfix : ∀ W, Calls Try.prog 8 #[] W fun r w' => r = .returned (.bool true) ∧ Below W.heap.size W w')
    (z : Int) (A : Option Addr) (n c : Nat) (o : Nat → OpV) (hn : n ≤ c) (hc : c ≤ maxLen) (w : World) (hO : OpsIs w A n o) :
    Calls Try.prog 5 #[.int .i64 z, .slice A n c] w fun r w' => r = .returned (.bool true) ∧ Below w.heap.size w w' := by
  replace hO := Lib.hid hO
  replace hfix := Lib.hid hfix
  unfold maxLen at hc
  by_cases hg : 60 < n ∨ (50 < z ∧ z ≤ 4096)
  · have hf1 := Lib.hid (fun W => hfix.out W)
    rcases (by omega : 60 < n ∨ (¬ 60 < n ∧ 50 < z ∧ z ≤ 4096)) with q1 | ⟨q1, q2, q3⟩
    all_goals (
      clear hg
      go_enter Try.func5, Try.ntmps5
      go_wp2_with fail
      refine (hf1.out w).mono ?_
      rintro e1 w1 ⟨rfl, hb1⟩
      go_wp2_with fail
      go_ret
      exact ⟨rfl, hb1⟩)
  · have hn60 : ¬ 60 < n := by omega
    by_cases hbad : z < 8 ∨ 4096 < z
    · have cN := Lib.hid (new_bad z hbad w)
      have cM := Lib.hid (rnew_none z hbad w)
      have hz : (¬ 50 < z) ∨ (50 < z ∧ ¬ z ≤ 4096) := by omega
      clear hg hbad
      rcases hz with hz | ⟨hz, hz2⟩
      all_goals (
        go_enter Try.func5, Try.ntmps5
        go_wp2_with fail
        refine cN.out.mono ?_
        rintro e1 w1 ⟨rfl, rfl⟩
        go_wp2_with fail
        refine cM.out.mono ?_
        rintro e2 w2 ⟨rfl, hb2⟩
        have st2 := (RB.st (a' := .slice none 0 0) (b' := .slice none 0 0) (c' := .int .i64 0) (d' := .bool false) (e' := .int .i64 0) (show RB (w2.alloc (.cells #[.slice none 0 0, .slice none 0 0, .int .i64 0, .bool false, .int .i64 0] 31)) w2.heap.size (.slice none 0 0) (.slice none 0 0) (.int .i64 0) (.bool false) (.int .i64 0) from Blk.new _ _ _) rfl rfl rfl rfl rfl).1
        have hb3 := Lib.hid (bel_alloc hb2 (.cells #[.slice none 0 0, .slice none 0 0, .int .i64 0, .bool false, .int .i64 0] 31))
        clear hb2
        go_wp2_with fail
        refine (hfix.out _).mono ?_
        rintro e4 w4 ⟨rfl, hb4⟩
        go_wp2_with fail
        go_ret
        exact ⟨rfl, bel_eld hb3.out hb4⟩)
    · obtain ⟨N, rfl⟩ : ∃ N : Nat, z = N := ⟨z.toNat, by omega⟩
      have hN8 : 8 ≤ N := by omega
      have hN50 : N ≤ 50 := by omega
      have h50 : ¬ 50 < (N : Int) := by omega
      clear hg hbad
      have cN := Lib.hid (new_ok N (by omega) (by omega) w)
      go_enter Try.func5, Try.ntmps5
      go_wp2_with fail
      refine cN.out.mono ?_
      rintro e1 w1 ⟨B, rfl, hD1, hb1⟩
      have cM := Lib.hid (rnew_ex N (by omega) (by omega) w1)
      replace hD1 := Lib.hid hD1
      replace hb1 := Lib.hid hb1
      clear cN
      go_wp2_with fail
      refine cM.out.mono ?_
      rintro e2 w2 ⟨As, cs, Aw, cw, rfl, hR2, hb2, hs2, hw2⟩
      have hP2 : PR w2 w.heap.size B (fun k => w.heap.size ≤ k ∧ k < w1.heap.size) (.slice As N cs) (.slice Aw 0 cw) (DS.new N) := ⟨hD1.out.kept hb2, fun k h => h.1, hR2, fun b h => by have := hs2 b h; have := hb1.out.size; exact ⟨by omega, fun x => by have := x.2; omega⟩, fun b h => by have := hw2 b h; have := hb1.out.size; exact ⟨by omega, fun x => by have := x.2; omega⟩⟩
      have hB2 := bel_eld hb1.out hb2
      have hP3 := hP2.kept (bel_alloc (Below.refl _ _) (.cells #[.slice As N cs, .slice Aw 0 cw, .int .i64 (-1), .bool false, .int .i64 0] 31))
      have hJ0 : Hid (OJ w (w2.alloc (.cells #[.slice As N cs, .slice Aw 0 cw, .int .i64 (-1), .bool false, .int .i64 0] 31)) B w2.heap.size (fun k => w.heap.size ≤ k ∧ k < w1.heap.size) (.slice As N cs) (.slice Aw 0 cw) (DS.new N)) := Lib.hid ⟨hP3, Blk.new _ _ _, fun x => by have := hb2.size; have := x.2; omega, fun b x => by have := hR2.safe.ltB b x; omega, fun b x => by have := hR2.waits.ltB b x; omega, bel_alloc hB2 _, hB2.size⟩
      have hst : storeV Try.prog 31 5 (w2.alloc (.cells #[.slice none 0 0, .slice none 0 0, .int .i64 0, .bool false, .int .i64 0] 31)) (.pointer (some ⟨w2.heap.size, 0, none⟩)) (.agg #[.slice As N cs, .slice Aw 0 cw, .int .i64 (-1), .bool false, .int .i64 0]) = .ok () ((w2.alloc (.cells #[.slice none 0 0, .slice none 0 0, .int .i64 0, .bool false, .int .i64 0] 31)).setRow w2.heap.size #[.slice As N cs, .slice Aw 0 cw, .int .i64 (-1), .bool false, .int .i64 0]) := (RB.st (show RB _ _ (.slice none 0 0) (.slice none 0 0) (.int .i64 0) (.bool false) (.int .i64 0) from Blk.new _ _ _) rfl rfl rfl rfl rfl).1
      clear hD1 hb1 cM hR2 hb2 hs2 hw2 hP2 hB2 hP3
      go_upto_region 5 with fail
      obtain ⟨bx, hbx⟩ : ∃ bx, bx = w2.heap.size := ⟨_, rfl⟩
      rw [← hbx] at hJ0 ⊢
      refine abs_wp (fun X => OJ w X B bx (fun k => w.heap.size ≤ k ∧ k < w1.heap.size) (.slice As N cs) (.slice Aw 0 cw) (DS.new N)) hJ0.out ?_
      clear hJ0 hst hbx
      rintro X0 hJ0
      replace hJ0 := Lib.hid hJ0
      go_wp2_with fail
      go_loopw [50] (fun i wr => ∃ (t : Nat) (G : Nat → Prop) (sv wv : Value) (d : DS), t ≤ n ∧ i = .int .i64 t ∧ Hid (DJ d N t) ∧ Hid (OJ w wr B bx G sv wv d)) (fun i _ => n - (intOf i).toNat)
      case atStart => exact ⟨0, _, _, _, _, by omega, rfl, Lib.hid (DJ.new N), hJ0⟩
      case round =>
        clear hJ0
        obtain ⟨t, G, sv, wv, d, ht, rfl, hJ, hI⟩ := hrel
        obtain ⟨As, cs, Aw, cw, rfl, rfl⟩ := hI.out.p.rf.form
        have l0 := hI.out.b.ld
        by_cases hlt : t < n
        · obtain ⟨bo, po, rfl, hol, x0, x1, x2, x3, x4, x5⟩ := ops_at (hO.out.kept hI.out.bl) hlt
          have hfar := Lib.hid (loss_lo hO.out hlt)
          have hok := Lib.hid ((hO.out.2 t hlt).kept hI.out.bl)
          have hJ2 := Lib.hid (hJ.out.step (o := o t) (hO.out.2 t hlt).at2.2)
          have hbY0 : Below wr.heap.size wr (wr.alloc (.cells #[.int .u8 (o t).d, .int .i64 (o t).at_, .int .u8 (o t).y, .int .u16 (o t).mr, .int .i8 (o t).lg, .slice (o t).A (o t).n (o t).c] 38)) := bel_alloc (Below.refl _ _) _
          have cS := Lib.hid (fun (W : World) (hW : Below wr.heap.size wr W) => step_any w.heap.size B G (.slice As d.n cs) (.slice Aw d.m cw) d (o t) N t (by omega) (by omega) (by omega) W (Nat.le_trans hI.out.bl.size hW.size) hJ.out (hI.out.p.kept hW) (hok.out.kept hW) hfar.out)
          unfold rfv opV at cS
          have hI2 := Lib.hid (fun (wY w2 w3 w4 : World) (sv' wv' : Value) (d' : DS) => hI.out.stepTo (wY := wY) (w2 := w2) (w3 := w3) (w4 := w4) (sv' := sv') (wv' := wv') (d' := d'))
          have gb := Lib.hid (fun (W : World) (h : Below wr.heap.size wr W) => hI.out.b.kept h)
          generalize d.stepOp (o t) = d2 at *
          generalize (o t).d = od at *
          generalize (o t).at_ = oa at *
          generalize (o t).y = oy at *
          generalize (o t).mr = om at *
          generalize (o t).lg = ol at *
          generalize (o t).A = oA at *
          generalize (o t).n = oN at *
          generalize (o t).c = oC at *
          go_upto_region 12 with fail
          refine abs_wp (fun Y => Below wr.heap.size wr Y ∧ Blk Y wr.heap.size 38 #[.int .u8 od, .int .i64 oa, .int .u8 oy, .int .u16 om, .int .i8 ol, .slice oA oN oC]) ⟨hbY0, Blk.new _ _ _⟩ ?_
          rintro Y ⟨hbY, gY⟩
          have y0 : Y.cell? ⟨wr.heap.size, 0, none⟩ = some (.int .u8 od) := gY.cell 0
          have y1 : Y.cell? ⟨wr.heap.size, 1, none⟩ = some (.int .i64 oa) := gY.cell 1
          have y2 : Y.cell? ⟨wr.heap.size, 2, none⟩ = some (.int .u8 oy) := gY.cell 2
          have y3 : Y.cell? ⟨wr.heap.size, 3, none⟩ = some (.int .u16 om) := gY.cell 3
          have y4 : Y.cell? ⟨wr.heap.size, 4, none⟩ = some (.int .i8 ol) := gY.cell 4
          have y5 : Y.cell? ⟨wr.heap.size, 5, none⟩ = some (.slice oA oN oC) := gY.cell 5
          have lY := (gb.out Y hbY).ld
          have cS1 := Lib.hid (cS.out Y hbY)
          replace hbY := Lib.hid hbY
          clear gY cS x0 x1 x2 x3 x4 x5 l0 hbY0
          go_wp2_with fail
          refine cS1.out.mono ?_
          rintro e2 w2 ⟨A1, c1, A2, c2, rfl, hSt⟩
          have st2 := (RB.st (a' := .slice A1 d2.n c1) (b' := .slice A2 d2.m c2) (c' := .int .i64 d2.f) (d' := .bool d2.dn) (e' := .int .i64 d2.k) (show RB (w2.alloc (.cells #[.slice none 0 0, .slice none 0 0, .int .i64 0, .bool false, .int .i64 0] 31)) w2.heap.size (.slice none 0 0) (.slice none 0 0) (.int .i64 0) (.bool false) (.int .i64 0) from Blk.new _ _ _) rfl rfl rfl rfl rfl).1
          have hbY1 : Below w2.heap.size w2 (w2.alloc (.cells #[.slice A1 d2.n c1, .slice A2 d2.m c2, .int .i64 d2.f, .bool d2.dn, .int .i64 d2.k] 31)) := bel_alloc (Below.refl _ _) _
          have gb2 : ∃ a0 a1 a2 a3 a4, RB w2 bx a0 a1 a2 a3 a4 := by
            obtain ⟨G', _, _, _, _, k5⟩ := hSt
            exact ⟨_, _, _, _, _, ((gb.out Y hbY.out)).tch k5 (hI.out.bg)⟩
          obtain ⟨a0, a1, a2, a3, a4, gb2⟩ := gb2
          replace hSt := Lib.hid hSt
          replace gb2 := Lib.hid gb2
          clear cS1 y0 y1 y2 y3 y4 y5 lY
          go_upto_region 13 with fail
          refine abs_wp (fun Z => Below w2.heap.size w2 Z ∧ RB Z w2.heap.size (.slice A1 d2.n c1) (.slice A2 d2.m c2) (.int .i64 d2.f) (.bool d2.dn) (.int .i64 d2.k)) ⟨hbY1, Blk.new _ _ _⟩ ?_
          rintro Z ⟨hbZ, gZ⟩
          have lZ := gZ.ld
          obtain ⟨stZ, fZ, tZ⟩ := (gb2.out.kept hbZ).st (a' := .slice A1 d2.n c1) (b' := .slice A2 d2.m c2) (c' := .int .i64 d2.f) (d' := .bool d2.dn) (e' := .int .i64 d2.k) rfl rfl rfl rfl rfl
          obtain ⟨G', hI3, _⟩ := hI2.out Y w2 Z _ _ _ _ hbY.out hSt.out hbZ tZ fZ
          replace hI3 := Lib.hid hI3
          clear hI2 hSt gb2 gb hI gZ fZ tZ hbZ hbY hbY1 st2
          go_wp2_with fail
          go_roundw
          case rel => exact ⟨t + 1, G', _, _, d2, by omega, by go_num, hJ2, hI3⟩
          case measure => simp [intOf]; omega
        · obtain rfl : n = t := by omega
          clear l0
          go_wp2_with fail
          refine (hfix.out wr).mono ?_
          rintro e8 w8 ⟨rfl, hb8⟩
          have hI8 := hI.out.kept hb8
          have l8 := hI8.b.ld
          have cS := Lib.hid (same_any B G (.slice As d.n cs) (.slice Aw d.m cw) d (by rw [hJ.out.n]; omega) (by have := hJ.out.m; omega) w8 hI8.p.x hI8.p.rf)
          unfold rfv at cS
          have hB8 := Lib.hid hI8.bl
          clear hI hI8 hb8
          go_wp2_with fail
          refine cS.out.mono ?_
          rintro e9 w9 ⟨rfl, hb9⟩
          go_wp2_with fail
          go_ret
          exact ⟨rfl, bel_eld hB8.out hb9⟩
end
end Go.Proofs.Ytnbfnlpepnbppaa
