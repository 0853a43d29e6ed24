/-
  DiskCopies, walked.
-/
import Derived.Test.YtnbfnlpepnbppaaJ6
import Derived.Test.YtnbfnlpepnbppaaDkP
namespace Go.Proofs.Ytnbfnlpepnbppaa
set_option linter.unusedVariables false
set_option linter.unusedSimpArgs false
open Go.RowKit Go.Shelf
attribute [local irreducible] bytesL

/-- two disks with the document's, apart -/
structure TJ (w wr : World) (B1 x1 : Nat) (G1 : Nat → Prop) (s1 v1 : Value) (d1 : DS) (B2 x2 : Nat) (G2 : Nat → Prop) (s2 v2 : Value) (d2 : DS) : Prop where
  a : OJ w wr B1 x1 G1 s1 v1 d1
  b : OJ w wr B2 x2 G2 s2 v2 d2
  g12 : ∀ k, G1 k → ¬ G2 k
  gx : ¬ G1 x2
  xg : ¬ G2 x1
  xx : x1 ≠ x2
  gs : ∀ b, s2.ownBlock = some b → ¬ G1 b
  gv : ∀ b, v2.ownBlock = some b → ¬ G1 b
  sg : ∀ b, s1.ownBlock = some b → ¬ G2 b
  vg : ∀ b, v1.ownBlock = some b → ¬ G2 b
  xs : ∀ b, s2.ownBlock = some b → b ≠ x1
  xv : ∀ b, v2.ownBlock = some b → b ≠ x1
  sx : ∀ b, s1.ownBlock = some b → b ≠ x2
  vx : ∀ b, v1.ownBlock = some b → b ≠ x2
section
variable {w wr w4 : World} {B1 x1 B2 x2 : Nat} {G1 G2 G' : Nat → Prop} {s1 v1 s2 v2 s' v' : Value} {d1 d2 d' : DS}
theorem TJ.swap (h : TJ w wr B1 x1 G1 s1 v1 d1 B2 x2 G2 s2 v2 d2) : TJ w wr B2 x2 G2 s2 v2 d2 B1 x1 G1 s1 v1 d1 :=
  ⟨h.b, h.a, fun k x y => h.g12 k y x, h.xg, h.gx, fun e => h.xx e.symm, h.sg, h.vg, h.gs, h.gv, h.sx, h.vx, h.xs, h.xv⟩
theorem TJ.step (h : TJ w wr B1 x1 G1 s1 v1 d1 B2 x2 G2 s2 v2 d2) (hn : OJ w w4 B1 x1 G' s' v' d') (z2 : ∀ k, G' k → G1 k ∨ wr.heap.size ≤ k) (z3 : ∀ b, s'.ownBlock = some b → s1.ownBlock = some b ∨ wr.heap.size ≤ b) (z4 : ∀ b, v'.ownBlock = some b → v1.ownBlock = some b ∨ wr.heap.size ≤ b) (hT : Tch (fun k => G1 k ∨ k = x1) wr w4) : TJ w w4 B1 x1 G' s' v' d' B2 x2 G2 s2 v2 d2 := by
  have l1 := h.b.p.dk.lt
  have l2 := h.b.p.rf.safe.ltB
  have l3 := h.b.p.rf.waits.ltB
  have l4 := h.b.b.lt
  refine ⟨hn, h.b.tch hT (fun k x => ?_) (fun k x y => ?_) (fun b x y => ?_) (fun b x y => ?_) (fun y => ?_), fun k x y => ?_, fun x => ?_, h.xg, h.xx, fun b x y => ?_, fun b x y => ?_, fun b x y => ?_, fun b x y => ?_, h.xs, h.xv, fun b x => ?_, fun b x => ?_⟩
  · rcases x with x | x
    · exact h.a.p.gl k x
    · have := h.a.lb; omega
  · rcases y with y | y
    · exact h.g12 k y x
    · exact h.xg (y ▸ x)
  · rcases y with y | y
    · exact h.gs b x y
    · exact h.xs b x y
  · rcases y with y | y
    · exact h.gv b x y
    · exact h.xv b x y
  · rcases y with y | y
    · exact h.gx y
    · exact h.xx y.symm
  · rcases z2 k x with q | q
    · exact h.g12 k q y
    · have := l1 k y; omega
  · rcases z2 _ x with q | q
    · exact h.gx q
    · omega
  · rcases z2 _ y with q | q
    · exact h.gs b x q
    · have := l2 b x; omega
  · rcases z2 _ y with q | q
    · exact h.gv b x q
    · have := l3 b x; omega
  · rcases z3 _ x with q | q
    · exact h.sg b q y
    · have := l1 b y; omega
  · rcases z4 _ x with q | q
    · exact h.vg b q y
    · have := l1 b y; omega
  · rcases z3 _ x with q | q
    · exact h.sx b q
    · omega
  · rcases z4 _ x with q | q
    · exact h.vx b q
    · omega
end
theorem tj_copy {w wr w2 W' : World} {B bx B' gx lo2 : Nat} {G : Nat → Prop} {sv wv : Value} {d : DS} (hI : OJ w wr B bx G sv wv d) (hC : DkIs w2 B' (fun k => lo2 ≤ k ∧ k < w2.heap.size) d) (hlo : wr.heap.size ≤ lo2) (hb : Below wr.heap.size wr w2) (ht : Tch (fun k => k = gx) w2 W') (hg : wr.heap.size ≤ gx) (hgn : ¬ (lo2 ≤ gx ∧ gx < w2.heap.size)) (hx : RB W' gx sv wv (.int .i64 d.f) (.bool d.dn) (.int .i64 d.k)) :
    TJ w W' B bx G sv wv d B' gx (fun k => lo2 ≤ k ∧ k < w2.heap.size) sv wv d := by
  have l1 := hI.p.dk.lt
  have l2 := hI.p.rf.safe.ltB
  have l3 := hI.p.rf.waits.ltB
  have l4 := hI.b.lt
  have hT : Tch (fun k => k = gx) wr W' := (tch_of hb _).trans ht
  have l5 := hI.bl.size
  refine ⟨hI.tch hT (fun k x => ?_) (fun k x y => ?_) (fun b x y => ?_) (fun b x y => ?_) (fun y => ?_), ⟨⟨hC.tch ht (fun k x y => hgn (y ▸ x)), fun k x => ?_, hI.p.rf.tch hT (fun b x y => ?_) (fun b x y => ?_), fun b x => ⟨(hI.p.sg b x).1, fun y => ?_⟩, fun b x => ⟨(hI.p.wg b x).1, fun y => ?_⟩⟩, hx, hgn, fun b x => ?_, fun b x => ?_, hI.bl.trans (hT.below l5 (fun k q1 q2 => ?_)), ?_⟩, fun k x y => ?_, fun x => ?_, fun x => ?_, ?_, fun b x y => ?_, fun b x y => ?_, fun b x y => ?_, fun b x y => ?_, fun b x => ?_, fun b x => ?_, fun b x => ?_, fun b x => ?_⟩
  · omega
  · have := l1 k x; omega
  · have := l2 b x; omega
  · have := l3 b x; omega
  · omega
  · omega
  · have := l2 b x; omega
  · have := l3 b x; omega
  · have := l2 b x; have := y.1; omega
  · have := l3 b x; have := y.1; omega
  · have := l2 b x; omega
  · have := l3 b x; omega
  · omega
  · omega
  · have := l1 k x; have := y.1; omega
  · have := l1 _ x; omega
  · have := x.1; omega
  · omega
  · exact (hI.p.sg b x).2 y
  · exact (hI.p.wg b x).2 y
  · have := l2 b x; have := y.1; omega
  · have := l3 b x; have := y.1; omega
  · exact hI.sb b x
  · exact hI.wb b x
  · have := l2 b x; omega
  · have := l3 b x; omega
section
attribute [local go_sem ↓] load_R store_R
set_option maxRecDepth 8000 in
set_option maxHeartbeats 16000000 in
theorem diskCopies_of (hfix : ∀ W, Calls Try.prog 8 #[] W fun r w' => r = .returned (.bool true) ∧ Below W.heap.size W w')
    (A : Option Addr) (n c : Nat) (o : Nat → OpV) (hn : n ≤ c) (hc : c ≤ maxLen) (A2 : Option Addr) (n2 c2 : Nat) (o2 : Nat → OpV) (hn2 : n2 ≤ c2) (hc2 : c2 ≤ maxLen) (A3 : Option Addr) (n3 c3 : Nat) (o3 : Nat → OpV) (hn3 : n3 ≤ c3) (hc3 : c3 ≤ maxLen) (w : World) (hO : OpsIs w A n o) (hO2 : OpsIs w A2 n2 o2) (hO3 : OpsIs w A3 n3 o3) :
    Calls Try.prog 7 #[.slice A n c, .slice A2 n2 c2, .slice A3 n3 c3] w fun r w' => r = .returned (.bool true) ∧ Below w.heap.size w w' := by
  replace hO := Lib.hid hO
  replace hO2 := Lib.hid hO2
  replace hO3 := Lib.hid hO3
  replace hfix := Lib.hid hfix
  unfold maxLen at hc hc2 hc3
  go_enter Try.func7, Try.ntmps7
  by_cases hg : 40 < n ∨ 40 < n2 ∨ 40 < n3
  · have hf1 := Lib.hid (fun W => hfix.out W)
    rcases (by omega : 40 < n ∨ (¬ 40 < n ∧ 40 < n2) ∨ (¬ 40 < n ∧ ¬ 40 < n2 ∧ 40 < n3)) with q1 | ⟨q1, q2⟩ | ⟨q1, q2, q3⟩
    all_goals (
      clear hg
      go_wp2_with fail
      refine (hf1.out w).mono ?_
      rintro e1 w1 ⟨rfl, hb1⟩
      go_wp2_with fail
      go_ret
      exact ⟨rfl, hb1⟩)
  · obtain ⟨q1, q2, q3⟩ : n ≤ 40 ∧ n2 ≤ 40 ∧ n3 ≤ 40 := by omega
    clear hg
    have cN := Lib.hid (new_ok 9 (by omega) (by omega) w)
    go_wp2_with fail
    refine cN.out.mono ?_
    rintro e1 w1 ⟨B, rfl, hD1, hb1⟩
    have cM := Lib.hid (rnew_ex 9 (by omega) (by omega) w1)
    replace hD1 := Lib.hid hD1
    replace hb1 := Lib.hid hb1
    clear cN
    go_wp2_with fail
    refine cM.out.mono ?_
    rintro e2 w2 ⟨As, cs, Aw, cw, rfl, hR2, hb2, hs2, hw2⟩
    have hP2 : PR w2 w.heap.size B (fun k => w.heap.size ≤ k ∧ k < w1.heap.size) (.slice As 9 cs) (.slice Aw 0 cw) (DS.new 9) := ⟨hD1.out.kept hb2, fun k h => h.1, hR2, fun b h => by have := hs2 b h; have := hb1.out.size; exact ⟨by omega, fun x => by have := x.2; omega⟩, fun b h => by have := hw2 b h; have := hb1.out.size; exact ⟨by omega, fun x => by have := x.2; omega⟩⟩
    have hB2 := bel_eld hb1.out hb2
    have hP3 := hP2.kept (bel_alloc (Below.refl _ _) (.cells #[.slice As 9 cs, .slice Aw 0 cw, .int .i64 (-1), .bool false, .int .i64 0] 31))
    have hJ0 : Hid (OJ w (w2.alloc (.cells #[.slice As 9 cs, .slice Aw 0 cw, .int .i64 (-1), .bool false, .int .i64 0] 31)) B w2.heap.size (fun k => w.heap.size ≤ k ∧ k < w1.heap.size) (.slice As 9 cs) (.slice Aw 0 cw) (DS.new 9)) := Lib.hid ⟨hP3, Blk.new _ _ _, fun x => by have := hb2.size; have := x.2; omega, fun b x => by have := hR2.safe.ltB b x; omega, fun b x => by have := hR2.waits.ltB b x; omega, bel_alloc hB2 _, hB2.size⟩
    have hst : storeV Try.prog 31 5 (w2.alloc (.cells #[.slice none 0 0, .slice none 0 0, .int .i64 0, .bool false, .int .i64 0] 31)) (.pointer (some ⟨w2.heap.size, 0, none⟩)) (.agg #[.slice As 9 cs, .slice Aw 0 cw, .int .i64 (-1), .bool false, .int .i64 0]) = .ok () ((w2.alloc (.cells #[.slice none 0 0, .slice none 0 0, .int .i64 0, .bool false, .int .i64 0] 31)).setRow w2.heap.size #[.slice As 9 cs, .slice Aw 0 cw, .int .i64 (-1), .bool false, .int .i64 0]) := (RB.st (show RB _ _ (.slice none 0 0) (.slice none 0 0) (.int .i64 0) (.bool false) (.int .i64 0) from Blk.new _ _ _) rfl rfl rfl rfl rfl).1
    clear hD1 hb1 cM hR2 hb2 hs2 hw2 hP2 hB2 hP3
    go_upto_region 5 with fail
    obtain ⟨bx, hbx⟩ : ∃ bx, bx = w2.heap.size := ⟨_, rfl⟩
    rw [← hbx] at hJ0 ⊢
    refine abs_wp (fun X => OJ w X B bx (fun k => w.heap.size ≤ k ∧ k < w1.heap.size) (.slice As 9 cs) (.slice Aw 0 cw) (DS.new 9)) hJ0.out ?_
    clear hJ0 hst hbx
    rintro X0 hJ0
    replace hJ0 := Lib.hid hJ0
    go_wp2_with fail
    go_loopw [49] (fun i wr => ∃ (t : Nat) (G : Nat → Prop) (sv wv : Value) (d : DS), t ≤ n ∧ i = .int .i64 t ∧ Hid (DJ d 9 (0 + t)) ∧ Hid (OJ w wr B bx G sv wv d)) (fun i _ => n - (intOf i).toNat)
    case atStart => exact ⟨0, _, _, _, _, by omega, rfl, Lib.hid (DJ.new 9), hJ0⟩
    case round =>
      clear hJ0
      obtain ⟨t, G, sv, wv, d, ht, rfl, hJ, hI⟩ := hrel
      obtain ⟨As, cs, Aw, cw, rfl, rfl⟩ := hI.out.p.rf.form
      have l0 := hI.out.b.ld
      by_cases hlt : t < n
      · obtain ⟨bo, po, rfl, hol, x0, x1, x2, x3, x4, x5⟩ := ops_at (hO.out.kept hI.out.bl) hlt
        have hfar := Lib.hid (loss_lo hO.out hlt)
        have hok := Lib.hid ((hO.out.2 t hlt).kept hI.out.bl)
        have hJ2 := Lib.hid (hJ.out.step (o := o t) (hO.out.2 t hlt).at2.2)
        have hbY0 : Below wr.heap.size wr (wr.alloc (.cells #[.int .u8 (o t).d, .int .i64 (o t).at_, .int .u8 (o t).y, .int .u16 (o t).mr, .int .i8 (o t).lg, .slice (o t).A (o t).n (o t).c] 38)) := bel_alloc (Below.refl _ _) _
        have cS := Lib.hid (fun (W : World) (hW : Below wr.heap.size wr W) => step_any w.heap.size B G (.slice As d.n cs) (.slice Aw d.m cw) d (o t) 9 (0 + t) (by omega) (by omega) (by omega) W (Nat.le_trans hI.out.bl.size hW.size) hJ.out (hI.out.p.kept hW) (hok.out.kept hW) hfar.out)
        unfold rfv opV at cS
        have hI2 := Lib.hid (fun (wY w2 w3 w4 : World) (sv' wv' : Value) (d' : DS) => hI.out.stepTo (wY := wY) (w2 := w2) (w3 := w3) (w4 := w4) (sv' := sv') (wv' := wv') (d' := d'))
        have gb := Lib.hid (fun (W : World) (h : Below wr.heap.size wr W) => hI.out.b.kept h)
        have hbg := Lib.hid hI.out.bg
        generalize d.stepOp (o t) = d2 at *
        generalize (o t).d = od at *
        generalize (o t).at_ = oa at *
        generalize (o t).y = oy at *
        generalize (o t).mr = om at *
        generalize (o t).lg = ol at *
        generalize (o t).A = oA at *
        generalize (o t).n = oN at *
        generalize (o t).c = oC at *
        go_upto_region 10 with fail
        refine abs_wp (fun Y => Below wr.heap.size wr Y ∧ Blk Y wr.heap.size 38 #[.int .u8 od, .int .i64 oa, .int .u8 oy, .int .u16 om, .int .i8 ol, .slice oA oN oC]) ⟨hbY0, Blk.new _ _ _⟩ ?_
        rintro Y ⟨hbY, gY⟩
        have y0 : Y.cell? ⟨wr.heap.size, 0, none⟩ = some (.int .u8 od) := gY.cell 0
        have y1 : Y.cell? ⟨wr.heap.size, 1, none⟩ = some (.int .i64 oa) := gY.cell 1
        have y2 : Y.cell? ⟨wr.heap.size, 2, none⟩ = some (.int .u8 oy) := gY.cell 2
        have y3 : Y.cell? ⟨wr.heap.size, 3, none⟩ = some (.int .u16 om) := gY.cell 3
        have y4 : Y.cell? ⟨wr.heap.size, 4, none⟩ = some (.int .i8 ol) := gY.cell 4
        have y5 : Y.cell? ⟨wr.heap.size, 5, none⟩ = some (.slice oA oN oC) := gY.cell 5
        have lY := (gb.out Y hbY).ld
        have cS1 := Lib.hid (cS.out Y hbY)
        replace hbY := Lib.hid hbY
        clear gY cS x0 x1 x2 x3 x4 x5 l0 hbY0
        go_wp2_with fail
        refine cS1.out.mono ?_
        rintro e2 w2 ⟨A1, c1, AA, cc, rfl, hSt⟩
        have gb2 : ∃ a0 a1 a2 a3 a4, RB w2 bx a0 a1 a2 a3 a4 := by
          obtain ⟨G', _, _, _, _, k5⟩ := hSt
          exact ⟨_, _, _, _, _, ((gb.out Y hbY.out)).tch k5 (hbg.out)⟩
        obtain ⟨a0, a1, a2, a3, a4, gb2⟩ := gb2
        obtain ⟨stZ, fZ, tZ⟩ := gb2.st (a' := .slice A1 d2.n c1) (b' := .slice AA d2.m cc) (c' := .int .i64 d2.f) (d' := .bool d2.dn) (e' := .int .i64 d2.k) rfl rfl rfl rfl rfl
        obtain ⟨G', hI3, z2, z3, z4, z5⟩ := hI2.out Y w2 w2 _ _ _ _ hbY.out hSt (Below.refl _ _) tZ fZ
        have hI4 := Lib.hid (hI3)
        clear hI2 hSt gb2 gb hI fZ tZ hbY cS1 y0 y1 y2 y3 y4 y5 lY hI3 z2 z3 z4 z5
        go_wp2_with fail
        go_roundw
        case rel => exact ⟨t + 1, G', _, _, d2, by omega, by go_num, hJ2, hI4⟩
        case measure => simp [intOf]; omega
      · obtain rfl : n = t := by omega
        replace hI := Lib.hid hI.out
        have cC := Lib.hid (fun (W : World) (hW : Below wr.heap.size wr W) => copy_any B G d (by rw [hJ.out.n]; omega) (by have := hJ.out.m; omega) W (hI.out.p.dk.kept hW))
        have gb := Lib.hid (fun (W : World) (h : Below wr.heap.size wr W) => hI.out.b.kept h)
        have l1 := (gb.out _ (Below.drew (Below.refl _ _))).ld
        have l2 := (gb.out _ (Below.drew (bel_alloc (Below.refl _ _) (.cells #[.slice none 0 0, .slice none 0 0, .int .i64 0, .bool false, .int .i64 0] 31)))).ld
        clear l0
        go_upto_region 12 with fail
        go_cut [13, 14] (fun p q wx => ∃ B' gx G', p = .pointer (some ⟨B', 0, none⟩) ∧ q = .pointer (some ⟨gx, 0, none⟩) ∧ TJ w wx B bx G (.slice As d.n cs) (.slice Aw d.m cw) d B' gx G' (.slice As d.n cs) (.slice Aw d.m cw) d)
        case first =>
          go_region_with (
            go_at_call 23
            refine (cC.out _ (by (repeat (first | exact Below.refl _ _ | assumption | refine below_drewN ?_ _ | refine bel_grow ?_ _ | refine Below.drew ?_ | refine bel_alloc ?_ _ | refine bel_set ?_ (by first | exact Nat.le_refl _ | (simp; done) | (simp; omega) | omega) _ | refine bel_trans ?_ (by assumption))))).mono ?_
            rintro e6 w6 ⟨B', rfl, hC, hb6⟩
            have hb6c : Below wr.heap.size wr w6 := bel_eld (w := wr) (by (repeat (first | exact Below.refl _ _ | assumption | refine below_drewN ?_ _ | refine bel_grow ?_ _ | refine Below.drew ?_ | refine bel_alloc ?_ _ | refine bel_set ?_ (by first | exact Nat.le_refl _ | (simp; done) | (simp; omega) | omega) _ | refine bel_trans ?_ (by assumption)))) hb6
            have m1 := (gb.out _ hb6c).ld
            have m2 := (gb.out _ (bel_alloc hb6c (.cells #[.slice none 0 0, .slice none 0 0, .int .i64 0, .bool false, .int .i64 0] 31))).ld
            have hz6 := hb6c.size
            have hz7 := hb6.size
            first
            | (have x6 : RB w6 wr.heap.size (.slice none 0 0) (.slice none 0 0) (.int .i64 0) (.bool false) (.int .i64 0) := (by first | exact RB.kept (w := (wr.alloc (.cells #[.slice none 0 0, .slice none 0 0, .int .i64 0, .bool false, .int .i64 0] 31)).drew) (Blk.new wr _ _) hb6 | exact RB.kept (w := wr.drew.alloc (.cells #[.slice none 0 0, .slice none 0 0, .int .i64 0, .bool false, .int .i64 0] 31)) (Blk.new wr.drew _ _) hb6)
               obtain ⟨st6, f6, t6⟩ := x6.st (a' := .slice As d.n cs) (b' := .slice Aw d.m cw) (c' := .int .i64 d.f) (d' := .bool d.dn) (e' := .int .i64 d.k) rfl rfl rfl rfl rfl
               have hfin := Lib.hid (tj_copy hI.out hC (by first | exact Nat.le_refl _ | (simp [drew_hsz]; done) | (simp [drew_hsz]; omega)) hb6c t6 (Nat.le_refl _) (by first | exact Nat.le_refl _ | (simp [drew_hsz]; done) | (simp [drew_hsz]; omega)) f6)
               clear x6 f6 t6)
            | (have st6 := (RB.st (w := w6.alloc (.cells #[.slice none 0 0, .slice none 0 0, .int .i64 0, .bool false, .int .i64 0] 31)) (g := w6.heap.size) (Blk.new _ _ _) (a' := .slice As d.n cs) (b' := .slice Aw d.m cw) (c' := .int .i64 d.f) (d' := .bool d.dn) (e' := .int .i64 d.k) rfl rfl rfl rfl rfl).1
               have hfin := Lib.hid (tj_copy (W' := w6.alloc (.cells #[.slice As d.n cs, .slice Aw d.m cw, .int .i64 d.f, .bool d.dn, .int .i64 d.k] 31)) hI.out hC (by first | exact Nat.le_refl _ | (simp [drew_hsz]; done) | (simp [drew_hsz]; omega)) hb6c (tch_of (bel_alloc (Below.refl _ _) _) _) hz6 (by omega) (Blk.new _ _ _)))
            clear hC hb6 hb6c)
          all_goals
            go_wp2_with fail
            go_meet
            exact ⟨_, _, _, rfl, rfl, hfin.out⟩
        case rest =>
          obtain ⟨B', gx, G', rfl, rfl, hT⟩ := hcut
          obtain ⟨dY, sY, vY, hT2, hJY⟩ : ∃ dY sY vY, TJ w wc B bx G (.slice As d.n cs) (.slice Aw d.m cw) d B' gx G' sY vY dY ∧ DJ dY 9 n := ⟨_, _, _, hT, by have := hJ.out; rwa [Nat.zero_add] at this⟩
          have hJ0 := Lib.hid hT2
          replace hJY := Lib.hid hJY
          have hJd : Hid (DJ d 9 (n + 0)) := Lib.hid (by have := hJ.out; rwa [Nat.zero_add] at this)
          obtain ⟨GY, hGY⟩ : ∃ x, x = G' := ⟨_, rfl⟩
          subst hGY
          clear hI cC gb l1 l2 hT hT2 hJ
          go_wp2_with fail
          go_loopw [68] (fun i wr => ∃ (t : Nat) (G : Nat → Prop) (sv wv : Value) (d : DS), t ≤ n2 ∧ i = .int .i64 t ∧ Hid (DJ d 9 (n + t)) ∧ Hid (TJ w wr B bx G sv wv d B' gx GY sY vY dY)) (fun i _ => n2 - (intOf i).toNat)
          case atStart => exact ⟨0, G, _, _, d, by omega, rfl, hJd, hJ0⟩
          case round =>
            clear hJ0
            obtain ⟨t, G, sv, wv, d, ht, rfl, hJ, hI⟩ := hrel
            obtain ⟨As, cs, Aw, cw, rfl, rfl⟩ := hI.out.a.p.rf.form
            have l0 := hI.out.a.b.ld
            by_cases hlt : t < n2
            · obtain ⟨bo, po, rfl, hol, x0, x1, x2, x3, x4, x5⟩ := ops_at (hO2.out.kept hI.out.a.bl) hlt
              have hfar := Lib.hid (loss_lo hO2.out hlt)
              have hok := Lib.hid ((hO2.out.2 t hlt).kept hI.out.a.bl)
              have hJ2 := Lib.hid (hJ.out.step (o := o2 t) (hO2.out.2 t hlt).at2.2)
              have hbY0 : Below wr.heap.size wr (wr.alloc (.cells #[.int .u8 (o2 t).d, .int .i64 (o2 t).at_, .int .u8 (o2 t).y, .int .u16 (o2 t).mr, .int .i8 (o2 t).lg, .slice (o2 t).A (o2 t).n (o2 t).c] 38)) := bel_alloc (Below.refl _ _) _
              have cS := Lib.hid (fun (W : World) (hW : Below wr.heap.size wr W) => step_any w.heap.size B G (.slice As d.n cs) (.slice Aw d.m cw) d (o2 t) 9 (n + t) (by omega) (by omega) (by omega) W (Nat.le_trans hI.out.a.bl.size hW.size) hJ.out (hI.out.a.p.kept hW) (hok.out.kept hW) hfar.out)
              unfold rfv opV at cS
              have hI2 := Lib.hid (fun (wY w2 w3 w4 : World) (sv' wv' : Value) (d' : DS) => hI.out.a.stepTo (wY := wY) (w2 := w2) (w3 := w3) (w4 := w4) (sv' := sv') (wv' := wv') (d' := d'))
              have gb := Lib.hid (fun (W : World) (h : Below wr.heap.size wr W) => hI.out.a.b.kept h)
              have hbg := Lib.hid hI.out.a.bg
              generalize d.stepOp (o2 t) = d2 at *
              generalize (o2 t).d = od at *
              generalize (o2 t).at_ = oa at *
              generalize (o2 t).y = oy at *
              generalize (o2 t).mr = om at *
              generalize (o2 t).lg = ol at *
              generalize (o2 t).A = oA at *
              generalize (o2 t).n = oN at *
              generalize (o2 t).c = oC at *
              go_upto_region 18 with fail
              refine abs_wp (fun Y => Below wr.heap.size wr Y ∧ Blk Y wr.heap.size 38 #[.int .u8 od, .int .i64 oa, .int .u8 oy, .int .u16 om, .int .i8 ol, .slice oA oN oC]) ⟨hbY0, Blk.new _ _ _⟩ ?_
              rintro Y ⟨hbY, gY⟩
              have y0 : Y.cell? ⟨wr.heap.size, 0, none⟩ = some (.int .u8 od) := gY.cell 0
              have y1 : Y.cell? ⟨wr.heap.size, 1, none⟩ = some (.int .i64 oa) := gY.cell 1
              have y2 : Y.cell? ⟨wr.heap.size, 2, none⟩ = some (.int .u8 oy) := gY.cell 2
              have y3 : Y.cell? ⟨wr.heap.size, 3, none⟩ = some (.int .u16 om) := gY.cell 3
              have y4 : Y.cell? ⟨wr.heap.size, 4, none⟩ = some (.int .i8 ol) := gY.cell 4
              have y5 : Y.cell? ⟨wr.heap.size, 5, none⟩ = some (.slice oA oN oC) := gY.cell 5
              have lY := (gb.out Y hbY).ld
              have cS1 := Lib.hid (cS.out Y hbY)
              replace hbY := Lib.hid hbY
              clear gY cS x0 x1 x2 x3 x4 x5 l0 hbY0
              go_wp2_with fail
              refine cS1.out.mono ?_
              rintro e2 w2 ⟨A1, c1, AA, cc, rfl, hSt⟩
              have gb2 : ∃ a0 a1 a2 a3 a4, RB w2 bx a0 a1 a2 a3 a4 := by
                obtain ⟨G', _, _, _, _, k5⟩ := hSt
                exact ⟨_, _, _, _, _, ((gb.out Y hbY.out)).tch k5 (hbg.out)⟩
              obtain ⟨a0, a1, a2, a3, a4, gb2⟩ := gb2
              obtain ⟨stZ, fZ, tZ⟩ := gb2.st (a' := .slice A1 d2.n c1) (b' := .slice AA d2.m cc) (c' := .int .i64 d2.f) (d' := .bool d2.dn) (e' := .int .i64 d2.k) rfl rfl rfl rfl rfl
              obtain ⟨G', hI3, z2, z3, z4, z5⟩ := hI2.out Y w2 w2 _ _ _ _ hbY.out hSt (Below.refl _ _) tZ fZ
              have hI4 := Lib.hid (hI.out.step hI3 z2 z3 z4 z5)
              clear hI2 hSt gb2 gb hI fZ tZ hbY cS1 y0 y1 y2 y3 y4 y5 lY hI3 z2 z3 z4 z5
              go_wp2_with fail
              go_roundw
              case rel => exact ⟨t + 1, G', _, _, d2, by omega, by go_num, hJ2, hI4⟩
              case measure => simp [intOf]; omega
            · obtain rfl : n2 = t := by omega
              obtain ⟨dX, sX, vX, hT2, hJX⟩ : ∃ dX sX vX, TJ w wr B bx G sX vX dX B' gx GY sY vY dY ∧ DJ dX 9 (n + n2) := ⟨_, _, _, hI.out, hJ.out⟩
              have hJ0 := Lib.hid hT2
              replace hJX := Lib.hid hJX
              have hJd : Hid (DJ dY 9 (n + 0)) := hJY
              obtain ⟨GX, hGX⟩ : ∃ x, x = G := ⟨_, rfl⟩
              subst hGX
              clear hI hT2 hJ l0
              go_wp2_with fail
              go_loopw [82] (fun i wr => ∃ (t : Nat) (G : Nat → Prop) (sv wv : Value) (d : DS), t ≤ n3 ∧ i = .int .i64 t ∧ Hid (DJ d 9 (n + t)) ∧ Hid (TJ w wr B bx GX sX vX dX B' gx G sv wv d)) (fun i _ => n3 - (intOf i).toNat)
              case atStart => exact ⟨0, GY, _, _, dY, by omega, rfl, hJd, hJ0⟩
              case round =>
                clear hJ0
                obtain ⟨t, G, sv, wv, d, ht, rfl, hJ, hI⟩ := hrel
                obtain ⟨As, cs, Aw, cw, rfl, rfl⟩ := hI.out.b.p.rf.form
                have l0 := hI.out.b.b.ld
                by_cases hlt : t < n3
                · obtain ⟨bo, po, rfl, hol, x0, x1, x2, x3, x4, x5⟩ := ops_at (hO3.out.kept hI.out.b.bl) hlt
                  have hfar := Lib.hid (loss_lo hO3.out hlt)
                  have hok := Lib.hid ((hO3.out.2 t hlt).kept hI.out.b.bl)
                  have hJ2 := Lib.hid (hJ.out.step (o := o3 t) (hO3.out.2 t hlt).at2.2)
                  have hbY0 : Below wr.heap.size wr (wr.alloc (.cells #[.int .u8 (o3 t).d, .int .i64 (o3 t).at_, .int .u8 (o3 t).y, .int .u16 (o3 t).mr, .int .i8 (o3 t).lg, .slice (o3 t).A (o3 t).n (o3 t).c] 38)) := bel_alloc (Below.refl _ _) _
                  have cS := Lib.hid (fun (W : World) (hW : Below wr.heap.size wr W) => step_any w.heap.size B' G (.slice As d.n cs) (.slice Aw d.m cw) d (o3 t) 9 (n + t) (by omega) (by omega) (by omega) W (Nat.le_trans hI.out.b.bl.size hW.size) hJ.out (hI.out.b.p.kept hW) (hok.out.kept hW) hfar.out)
                  unfold rfv opV at cS
                  have hI2 := Lib.hid (fun (wY w2 w3 w4 : World) (sv' wv' : Value) (d' : DS) => hI.out.b.stepTo (wY := wY) (w2 := w2) (w3 := w3) (w4 := w4) (sv' := sv') (wv' := wv') (d' := d'))
                  have gb := Lib.hid (fun (W : World) (h : Below wr.heap.size wr W) => hI.out.b.b.kept h)
                  have hbg := Lib.hid hI.out.b.bg
                  generalize d.stepOp (o3 t) = d2 at *
                  generalize (o3 t).d = od at *
                  generalize (o3 t).at_ = oa at *
                  generalize (o3 t).y = oy at *
                  generalize (o3 t).mr = om at *
                  generalize (o3 t).lg = ol at *
                  generalize (o3 t).A = oA at *
                  generalize (o3 t).n = oN at *
                  generalize (o3 t).c = oC at *
                  go_upto_region 23 with fail
                  refine abs_wp (fun Y => Below wr.heap.size wr Y ∧ Blk Y wr.heap.size 38 #[.int .u8 od, .int .i64 oa, .int .u8 oy, .int .u16 om, .int .i8 ol, .slice oA oN oC]) ⟨hbY0, Blk.new _ _ _⟩ ?_
                  rintro Y ⟨hbY, gY⟩
                  have y0 : Y.cell? ⟨wr.heap.size, 0, none⟩ = some (.int .u8 od) := gY.cell 0
                  have y1 : Y.cell? ⟨wr.heap.size, 1, none⟩ = some (.int .i64 oa) := gY.cell 1
                  have y2 : Y.cell? ⟨wr.heap.size, 2, none⟩ = some (.int .u8 oy) := gY.cell 2
                  have y3 : Y.cell? ⟨wr.heap.size, 3, none⟩ = some (.int .u16 om) := gY.cell 3
                  have y4 : Y.cell? ⟨wr.heap.size, 4, none⟩ = some (.int .i8 ol) := gY.cell 4
                  have y5 : Y.cell? ⟨wr.heap.size, 5, none⟩ = some (.slice oA oN oC) := gY.cell 5
                  have lY := (gb.out Y hbY).ld
                  have cS1 := Lib.hid (cS.out Y hbY)
                  replace hbY := Lib.hid hbY
                  clear gY cS x0 x1 x2 x3 x4 x5 l0 hbY0
                  go_wp2_with fail
                  refine cS1.out.mono ?_
                  rintro e2 w2 ⟨A1, c1, AA, cc, rfl, hSt⟩
                  have gb2 : ∃ a0 a1 a2 a3 a4, RB w2 gx a0 a1 a2 a3 a4 := by
                    obtain ⟨G', _, _, _, _, k5⟩ := hSt
                    exact ⟨_, _, _, _, _, ((gb.out Y hbY.out)).tch k5 (hbg.out)⟩
                  obtain ⟨a0, a1, a2, a3, a4, gb2⟩ := gb2
                  obtain ⟨stZ, fZ, tZ⟩ := gb2.st (a' := .slice A1 d2.n c1) (b' := .slice AA d2.m cc) (c' := .int .i64 d2.f) (d' := .bool d2.dn) (e' := .int .i64 d2.k) rfl rfl rfl rfl rfl
                  obtain ⟨G', hI3, z2, z3, z4, z5⟩ := hI2.out Y w2 w2 _ _ _ _ hbY.out hSt (Below.refl _ _) tZ fZ
                  have hI4 := Lib.hid ((hI.out.swap.step hI3 z2 z3 z4 z5).swap)
                  clear hI2 hSt gb2 gb hI fZ tZ hbY cS1 y0 y1 y2 y3 y4 y5 lY hI3 z2 z3 z4 z5
                  go_wp2_with fail
                  go_roundw
                  case rel => exact ⟨t + 1, G', _, _, d2, by omega, by go_num, hJ2, hI4⟩
                  case measure => simp [intOf]; omega
                · obtain rfl : n3 = t := by omega
                  obtain ⟨aX, bX, cX, eX, rfl, rfl⟩ := hI.out.a.p.rf.form
                  clear l0
                  go_wp2_with fail
                  refine (hfix.out wr).mono ?_
                  rintro e8 w8 ⟨rfl, hb8⟩
                  have K1 : ∀ W, Below wr.heap.size wr W → loadV Try.prog 31 5 W (.pointer (some ⟨bx, 0, none⟩)) = .ok (.agg #[.slice aX dX.n bX, .slice cX dX.m eX, .int .i64 dX.f, .bool dX.dn, .int .i64 dX.k]) W := fun W hW => (hI.out.a.b.kept hW).ld
                  have K2 : ∀ W, Below wr.heap.size wr W → loadV Try.prog 31 5 W (.pointer (some ⟨gx, 0, none⟩)) = .ok (.agg #[.slice As d.n cs, .slice Aw d.m cw, .int .i64 d.f, .bool d.dn, .int .i64 d.k]) W := fun W hW => (hI.out.b.b.kept hW).ld
                  have S1 := Lib.hid (fun (W : World) (hW : Below wr.heap.size wr W) => same_any B GX (.slice aX dX.n bX) (.slice cX dX.m eX) dX (by rw [hJX.out.n]; omega) (by have := hJX.out.m; omega) W (hI.out.a.p.x.kept hW) (hI.out.a.p.rf.kept hW))
                  have S2 := Lib.hid (fun (W : World) (hW : Below wr.heap.size wr W) => same_any B' G (.slice As d.n cs) (.slice Aw d.m cw) d (by rw [hJ.out.n]; omega) (by have := hJ.out.m; omega) W (hI.out.b.p.x.kept hW) (hI.out.b.p.rf.kept hW))
                  have S3 := Lib.hid (fun (W : World) (hW : Below wr.heap.size wr W) => alike_any B GX (.slice aX dX.n bX) (.slice cX dX.m eX) dX W (hI.out.a.p.x.kept hW) (hI.out.a.p.rf.kept hW))
                  have S4 := Lib.hid (fun (W : World) (hW : Below wr.heap.size wr W) => alike_any B' G (.slice As d.n cs) (.slice Aw d.m cw) d W (hI.out.b.p.x.kept hW) (hI.out.b.p.rf.kept hW))
                  unfold rfv at S1 S2 S3 S4
                  have hB := Lib.hid hI.out.a.bl
                  replace K1 := Lib.hid K1
                  replace K2 := Lib.hid K2
                  clear hI hJ hJX hJY hJd
                  have k8 := K1.out _ hb8
                  go_wp2_with fail
                  refine (S1.out _ hb8).mono ?_
                  rintro e9 w9 ⟨rfl, hb9'⟩
                  have hb9 := bel_eld hb8 hb9'
                  have k9 := K2.out _ hb9
                  clear hb9' k8
                  go_wp2_with fail
                  refine (S2.out _ hb9).mono ?_
                  rintro e10 w10 ⟨rfl, hb10'⟩
                  have hb10 := bel_eld hb9 hb10'
                  have k10 := K1.out _ hb10
                  clear hb10' k9
                  go_wp2_with fail
                  refine (S3.out _ hb10).mono ?_
                  rintro e11 w11 ⟨rfl, hb11'⟩
                  have hb11 := bel_eld hb10 hb11'
                  have k11 := K2.out _ hb11
                  clear hb11' k10
                  go_wp2_with fail
                  refine (S4.out _ hb11).mono ?_
                  rintro e12 w12 ⟨rfl, hb12'⟩
                  have hb12 := bel_eld hb11 hb12'
                  clear hb12' k11
                  go_wp2_with fail
                  go_ret
                  exact ⟨rfl, bel_eld hB.out hb12⟩
end
end Go.Proofs.Ytnbfnlpepnbppaa
