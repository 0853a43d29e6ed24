/-
  Joined: DkPc DkPd DkPe DkPf.
-/
import Derived.Test.YtnbfnlpepnbppaaJ4
-- DkPc
namespace Go.Proofs.Ytnbfnlpepnbppaa
set_option linter.unusedVariables false
set_option linter.unusedSimpArgs false
open Go.RowKit Go.Shelf
attribute [local irreducible] bytesL

section
attribute [local go_sem ↓] load_R store_R
set_option maxRecDepth 8000 in
set_option maxHeartbeats 8000000 in
theorem step1_any (lo B : Nat) (G : Nat → Prop) (sv wv : Value) (d : DS) (o : OpV) (N t : Nat) (hN0 : 0 < N) (hN : N ≤ 4096) (ht : t ≤ 1000) (hq : o.d.tmod 5 = 1) (w : World) (hlo : lo ≤ w.heap.size) (hJ : DJ d N t) (hp : PR w lo B G sv wv d) (ho : o.Ok w) (hfar : ∀ a, o.A = some a → 0 < o.n → a.block < lo) :
    Calls Try.prog 20 #[.pointer (some ⟨B, 0, none⟩), rfv sv wv d, opV o] w fun r w' => ∃ A1 c1 A2 c2, r = .returned (.tuple #[.agg #[.slice A1 (d.stepOp o).n c1, .slice A2 (d.stepOp o).m c2, .int .i64 (d.stepOp o).f, .bool (d.stepOp o).dn, .int .i64 (d.stepOp o).k], .bool true]) ∧ StepTo w w' lo B G sv wv (d.stepOp o) (.slice A1 (d.stepOp o).n c1) (.slice A2 (d.stepOp o).m c2) := by
  obtain ⟨As, cs, Aw, cw, rfl, rfl⟩ := hp.rf.form
  have e2 : d.stepOp o = d := by unfold DS.stepOp; rw [if_neg (by omega), if_pos hq]
  rw [e2]
  clear e2
  have hn : d.n ≤ 4096 := by rw [hJ.n]; exact hN
  have hn0 : 0 < d.n := by rw [hJ.n]; exact hN0
  have hm : d.m ≤ 100000 := by have := hJ.m; omega
  have hk : d.k ≤ 100000 := by have := hJ.k; omega
  have hP : ∀ i, i < d.m → d.P i < d.n := fun i hi => by rw [hJ.n]; exact hJ.P i hi
  have hf : -10 < d.f ∧ d.f < 9223372036854775808 := ⟨by have := hJ.f1; omega, hJ.f2⟩
  clear hJ
  unfold rfv
  replace hp := Lib.hid hp
  replace hlo := Lib.hid hlo
  replace hfar := Lib.hid hfar
  replace ho := Lib.hid ho
  replace hn0 := Lib.hid hn0
  replace hn := Lib.hid hn
  replace hm := Lib.hid hm
  replace hk := Lib.hid hk
  replace hP := Lib.hid hP
  replace hf := Lib.hid hf
  have cS := Lib.hid (fun W h => read_any B G d o.at_ hn.out hm.out W h)
  have cQ := Lib.hid (fun W h => rread_any (.slice As d.n cs) (.slice Aw d.m cw) d o.at_ hn.out hm.out W h)
  clear hn0 hP hf hk
  unfold opV
  generalize o.d = od at *
  generalize o.at_ = oa at *
  generalize o.y = oy at *
  generalize o.mr = om at *
  generalize o.lg = ol at *
  generalize o.A = oA at *
  generalize o.n = oN at *
  generalize o.c = oC at *
  go_enter Try.func20, Try.ntmps20
  go_upto_region 1 with fail
  refine abs_wp (fun X => Below w.heap.size w X ∧ RB X w.heap.size (.slice As d.n cs) (.slice Aw d.m cw) (.int .i64 d.f) (.bool d.dn) (.int .i64 d.k) ∧ Blk X (w.heap.size + 1) 38 #[.int .u8 od, .int .i64 oa, .int .u8 oy, .int .u16 om, .int .i8 ol, .slice oA oN oC] ∧ RB X (w.heap.size + 1 + 1) (.slice none 0 0) (.slice none 0 0) (.int .i64 0) (.bool false) (.int .i64 0) ∧ X.heap.size = w.heap.size + 3) ⟨by (repeat (first | exact Below.refl _ _ | assumption | refine below_drewN ?_ _ | refine bel_grow ?_ _ | refine Below.drew ?_ | refine bel_alloc ?_ _ | refine bel_set ?_ (by first | exact Nat.le_refl _ | (simp; done) | (simp; omega) | omega) _ | refine bel_trans ?_ (by assumption))), ((Blk.new _ _ _).alloc _).alloc _, (Blk.new' (by simp)).alloc _, Blk.new' (by simp), by simp⟩ ?_
  rintro X ⟨hbX, gX, oX, rX, hszX⟩
  obtain ⟨g, hg⟩ : ∃ g, g = w.heap.size := ⟨_, rfl⟩
  rw [← hg] at gX oX rX
  rw [← hg]
  have hgh := Lib.hid hg
  clear hg
  have y0 : X.cell? ⟨g + 1, 0, none⟩ = some (.int .u8 od) := oX.cell 0
  have y1 : X.cell? ⟨g + 1, 1, none⟩ = some (.int .i64 oa) := oX.cell 1
  have y5 : X.cell? ⟨g + 1, 5, none⟩ = some (.slice oA oN oC) := oX.cell 5
  have hGl := Lib.hid (show ∀ k, G k → k < g from fun k hk => by have := hp.out.dk.lt k hk; have := hgh.out; omega)
  have hsX := Lib.hid hszX
  clear hszX
  have cS1 := Lib.hid (cS.out X (hp.out.dk.kept hbX))
  clear cS
  obtain ⟨er, her⟩ : ∃ x, x = d.rerr oa := ⟨_, rfl⟩
  replace her := Lib.hid her
  replace oX := Lib.hid oX
  replace rX := Lib.hid rX
  have hD1 := Lib.hid (hp.out.dk.kept hbX)
  replace hbX := Lib.hid hbX
  replace gX := Lib.hid gX
  go_wp2_with fail
  refine cS1.out.mono ?_
  rintro e1 w1 ⟨v1, rfl, hv1, ho1, hb1⟩
  have hf1 : ∃ A4 c4 n4, v1 = .slice A4 n4 c4 ∧ Hid (∀ W, Below w1.heap.size w1 W → (convert 39 9 (.slice A4 n4 c4)).run Try.prog W = .ok (.string (d.rstr oa)) W) := by
    by_cases h0 : d.rerr oa = 0
    · obtain ⟨A4, c4, e, _, _, s4⟩ := owB_slis (ho1 h0)
      refine ⟨A4, c4, 512, e, Lib.hid (fun W hW => ?_)⟩
      have := convB (slis_below s4 hW) c4
      unfold DS.rstr
      rw [if_pos h0]
      exact this
    · refine ⟨none, 0, 0, hv1 h0, Lib.hid (fun W hW => ?_)⟩
      unfold DS.rstr
      rw [if_neg h0]
      exact convNil W 0
  obtain ⟨A4, c4, n4, rfl, hcv⟩ := hf1
  have hs1 := hb1.size
  have g1 := gX.out.kept hb1
  have r1 := Lib.hid (rX.out.kept hb1)
  have l1 := g1.ld
  have v1' : w1.cell? ⟨g + 1, 1, none⟩ = some (.int .i64 oa) := (oX.out.kept hb1).cell 1
  have cQ1 := Lib.hid (cQ.out w1 ((hp.out.rf.kept hbX.out).kept hb1))
  have hN1 := Lib.hid (show DkNx X w1 B G d from ⟨G, hD1.out.kept hb1, fun _ => id, fun _ => Or.inl, tch_of hb1 _⟩)
  have hD2 := Lib.hid (hD1.out.kept hb1)
  have hR2 := Lib.hid ((hp.out.rf.kept hbX.out).kept hb1)
  replace g1 := Lib.hid g1
  unfold rfv at cQ1
  clear cS1 cQ gX rX oX hb1 hD1 hv1 ho1 y0 y1 y5
  go_wp2_with fail
  refine cQ1.out.mono ?_
  rintro e2 w2 ⟨rfl, hb2⟩
  have g2 := g1.out.kept hb2
  have rY := Lib.hid (r1.out.kept hb2)
  have hend := Lib.hid (fun (W6 : World) (h6 : Tch (fun k => g ≤ k ∧ k < g + 3) w2 W6) => stepTo_of (w3 := X) (w4 := w1) (w5 := w2) hp.out hlo.out hbX.out (by have := hsX.out; omega) hN1.out (hR2.out.kept hb2) hb2 (fun b => Or.inl) (fun b => Or.inl) (h6.mono (fun k _ x => by have := hgh.out; omega)))
  have cK := Lib.hid (fun (W : World) (hW : Below w2.heap.size w2 W) => alike_any B G (.slice As d.n cs) (.slice Aw d.m cw) d W (⟨_, (hD2.out.kept hb2).kept hW, fun _ => id⟩) ((hR2.out.kept hb2).kept hW))
  unfold rfv at cK
  have lY := (g2.kept (Below.drew (Below.refl _ _))).ld
  have xY := Lib.hid g2
  have kc := hcv.out w2.drew (Below.drew hb2)
  generalize d.rstr oa = S at *
  generalize d.rerr oa = er at *
  clear hN1 hD2 hR2 hb2 hGl hsX hbX hp g2 g1 r1 l1 v1' cQ1 hcv her
  go_upto_region 9 with fail
  go_region_with (go_at_call 24; refine (cK.out _ (by (repeat (first | exact Below.refl _ _ | assumption | refine below_drewN ?_ _ | refine bel_grow ?_ _ | refine Below.drew ?_ | refine bel_alloc ?_ _ | refine bel_set ?_ (by first | exact Nat.le_refl _ | (simp; done) | (simp; omega) | omega) _ | refine bel_trans ?_ (by assumption))))).mono ?_; rintro e6 w6 ⟨rfl, hb6⟩; have hb6' := bel_eld (w := w2) (by (repeat (first | exact Below.refl _ _ | assumption | refine below_drewN ?_ _ | refine bel_grow ?_ _ | refine Below.drew ?_ | refine bel_alloc ?_ _ | refine bel_set ?_ (by first | exact Nat.le_refl _ | (simp; done) | (simp; omega) | omega) _ | refine bel_trans ?_ (by assumption)))) hb6; obtain ⟨st6, rF, tF⟩ := (rY.out.kept hb6').st (a' := .slice As d.n cs) (b' := .slice Aw d.m cw) (c' := .int .i64 d.f) (d' := .bool d.dn) (e' := .int .i64 d.k) rfl rfl rfl rfl rfl; have q0 := rF.c0; have q1 := rF.c1; have q2 := rF.c2; have q3 := rF.c3; have q4 := rF.c4; have lF := (xY.out.kept hb6').ld; have hfin := Lib.hid (hend.out _ (((tch_of hb6' _).mono (S' := fun k => g ≤ k ∧ k < g + 3) (fun _ _ => id)).trans (tF.mono (fun k _ x => by omega)))); clear rF tF hb6 hb6')
  all_goals (
    go_wp2_with fail
    exact bodyPost_ret (v := .tuple #[.agg #[.slice As d.n cs, .slice Aw d.m cw, .int .i64 d.f, .bool d.dn, .int .i64 d.k], .bool true]) (by simp [results, Try.results20, go_sem, q0, q1, q2, q3, q4]) rfl ⟨_, _, _, _, rfl, hfin.out⟩)
end
end Go.Proofs.Ytnbfnlpepnbppaa
-- DkPd
namespace Go.Proofs.Ytnbfnlpepnbppaa
set_option linter.unusedVariables false
set_option linter.unusedSimpArgs false
open Go.RowKit Go.Shelf
attribute [local irreducible] bytesL

section
attribute [local go_sem ↓] load_R store_R
set_option maxRecDepth 8000 in
set_option maxHeartbeats 8000000 in
theorem step2_any (lo B : Nat) (G : Nat → Prop) (sv wv : Value) (d : DS) (o : OpV) (N t : Nat) (hN0 : 0 < N) (hN : N ≤ 4096) (ht : t ≤ 1000) (hq : o.d.tmod 5 = 2) (w : World) (hlo : lo ≤ w.heap.size) (hJ : DJ d N t) (hp : PR w lo B G sv wv d) (ho : o.Ok w) (hfar : ∀ a, o.A = some a → 0 < o.n → a.block < lo) :
    Calls Try.prog 20 #[.pointer (some ⟨B, 0, none⟩), rfv sv wv d, opV o] w fun r w' => ∃ A1 c1 A2 c2, r = .returned (.tuple #[.agg #[.slice A1 (d.stepOp o).n c1, .slice A2 (d.stepOp o).m c2, .int .i64 (d.stepOp o).f, .bool (d.stepOp o).dn, .int .i64 (d.stepOp o).k], .bool true]) ∧ StepTo w w' lo B G sv wv (d.stepOp o) (.slice A1 (d.stepOp o).n c1) (.slice A2 (d.stepOp o).m c2) := by
  obtain ⟨As, cs, Aw, cw, rfl, rfl⟩ := hp.rf.form
  have e2 : d.stepOp o = d.sync := by unfold DS.stepOp; rw [if_neg (by omega), if_neg (by omega), if_pos hq]
  rw [e2]
  clear e2
  have hn : d.n ≤ 4096 := by rw [hJ.n]; exact hN
  have hn0 : 0 < d.n := by rw [hJ.n]; exact hN0
  have hm : d.m ≤ 100000 := by have := hJ.m; omega
  have hk : d.k ≤ 100000 := by have := hJ.k; omega
  have hP : ∀ i, i < d.m → d.P i < d.n := fun i hi => by rw [hJ.n]; exact hJ.P i hi
  have hf : -10 < d.f ∧ d.f < 9223372036854775808 := ⟨by have := hJ.f1; omega, hJ.f2⟩
  clear hJ
  unfold rfv
  replace hp := Lib.hid hp
  replace hlo := Lib.hid hlo
  replace hfar := Lib.hid hfar
  replace ho := Lib.hid ho
  replace hn0 := Lib.hid hn0
  replace hn := Lib.hid hn
  replace hm := Lib.hid hm
  replace hk := Lib.hid hk
  replace hP := Lib.hid hP
  replace hf := Lib.hid hf
  have cS := fun W h => sync_any B G d hn0.out hn.out hm.out hP.out hf.out.2 W h
  have cQ := fun W h => rsync_ex As Aw d.n d.m cs cw d hn0.out hn.out hm.out hP.out hf.out W h
  obtain ⟨se, hse⟩ : ∃ x, x = d.serr := ⟨_, rfl⟩
  obtain ⟨d2, hd2⟩ : ∃ x, x = d.sync := ⟨_, rfl⟩
  rw [← hse, ← hd2] at cQ
  simp only [← hse, ← hd2] at cS
  rw [← hd2]
  replace cS := Lib.hid cS
  replace cQ := Lib.hid cQ
  clear hse hd2 hn0 hn hm hP hf hk
  unfold opV
  generalize o.d = od at *
  generalize o.at_ = oa at *
  generalize o.y = oy at *
  generalize o.mr = om at *
  generalize o.lg = ol at *
  generalize o.A = oA at *
  generalize o.n = oN at *
  generalize o.c = oC at *
  go_enter Try.func20, Try.ntmps20
  go_upto_region 1 with fail
  refine abs_wp (fun X => Below w.heap.size w X ∧ RB X w.heap.size (.slice As d.n cs) (.slice Aw d.m cw) (.int .i64 d.f) (.bool d.dn) (.int .i64 d.k) ∧ Blk X (w.heap.size + 1) 38 #[.int .u8 od, .int .i64 oa, .int .u8 oy, .int .u16 om, .int .i8 ol, .slice oA oN oC] ∧ RB X (w.heap.size + 1 + 1) (.slice none 0 0) (.slice none 0 0) (.int .i64 0) (.bool false) (.int .i64 0) ∧ X.heap.size = w.heap.size + 3) ⟨by (repeat (first | exact Below.refl _ _ | assumption | refine below_drewN ?_ _ | refine bel_grow ?_ _ | refine Below.drew ?_ | refine bel_alloc ?_ _ | refine bel_set ?_ (by first | exact Nat.le_refl _ | (simp; done) | (simp; omega) | omega) _ | refine bel_trans ?_ (by assumption))), ((Blk.new _ _ _).alloc _).alloc _, (Blk.new' (by simp)).alloc _, Blk.new' (by simp), by simp⟩ ?_
  rintro X ⟨hbX, gX, oX, rX, hszX⟩
  obtain ⟨g, hg⟩ : ∃ g, g = w.heap.size := ⟨_, rfl⟩
  rw [← hg] at gX oX rX
  rw [← hg]
  have hgh := Lib.hid hg
  clear hg
  have y0 : X.cell? ⟨g + 1, 0, none⟩ = some (.int .u8 od) := oX.cell 0
  have y1 : X.cell? ⟨g + 1, 1, none⟩ = some (.int .i64 oa) := oX.cell 1
  have y5 : X.cell? ⟨g + 1, 5, none⟩ = some (.slice oA oN oC) := oX.cell 5
  have hGl := Lib.hid (show ∀ k, G k → k < g from fun k hk => by have := hp.out.dk.lt k hk; have := hgh.out; omega)
  have hsX := Lib.hid hszX
  clear hszX
  have cS1 := Lib.hid (cS.out X (hp.out.dk.kept hbX))
  clear cS
  replace gX := Lib.hid gX
  replace oX := Lib.hid oX
  replace rX := Lib.hid rX
  replace hbX := Lib.hid hbX
  go_wp2_with fail
  refine cS1.out.mono ?_
  rintro e1 w1 ⟨rfl, hD1, hT1⟩
  have hs1 := hT1.size
  have g1 := gX.out.tch hT1 (fun x => by have := hGl.out _ x; omega)
  have r1 := rX.out.tch hT1 (fun x => by have := hGl.out _ x; omega)
  have hR1 := (hp.out.rf.kept hbX.out).tch hT1 (fun b x => (hp.out.sg b x).2) (fun b x => (hp.out.wg b x).2)
  have l1 := g1.ld
  have cQ1 := Lib.hid (cQ.out w1 hR1)
  have hN1 := Lib.hid (show DkNx X w1 B G d2 from ⟨G, hD1, fun _ => id, fun _ => Or.inl, hT1⟩)
  replace g1 := Lib.hid g1
  replace r1 := Lib.hid r1
  replace hD1 := Lib.hid hD1
  clear cS1 cQ hR1 hT1 gX rX oX
  go_wp2_with fail
  refine cQ1.out.mono ?_
  rintro e2 w2 ⟨A1, c1, A2, c2, rfl, hR2, hb2, hs2, hw2⟩
  have z2 := hb2.size
  have st2 := (RB.st (a' := .slice A1 d2.n c1) (b' := .slice A2 d2.m c2) (c' := .int .i64 d2.f) (d' := .bool d2.dn) (e' := .int .i64 d2.k) (show RB (w2.alloc (.cells #[.slice none 0 0, .slice none 0 0, .int .i64 0, .bool false, .int .i64 0] 31)) w2.heap.size (.slice none 0 0) (.slice none 0 0) (.int .i64 0) (.bool false) (.int .i64 0) from Blk.new _ _ _) rfl rfl rfl rfl rfl).1
  have hbY0 := Lib.hid (show Below w2.heap.size w2 (w2.alloc (.cells #[.slice A1 d2.n c1, .slice A2 d2.m c2, .int .i64 d2.f, .bool d2.dn, .int .i64 d2.k] 31)) from bel_alloc (Below.refl _ _) _)
  have g2 := Lib.hid (g1.out.kept hb2)
  have r2 := Lib.hid (r1.out.kept hb2)
  have hD2 := Lib.hid (hD1.out.kept hb2)
  replace hb2 := Lib.hid hb2
  replace hR2 := Lib.hid hR2
  clear cQ1 l1 g1 r1 hD1
  go_upto_region 13 with fail
  refine abs_wp (fun Y => Below w2.heap.size w2 Y ∧ RB Y w2.heap.size (.slice A1 d2.n c1) (.slice A2 d2.m c2) (.int .i64 d2.f) (.bool d2.dn) (.int .i64 d2.k)) ⟨hbY0.out, Blk.new _ _ _⟩ ?_
  rintro Y ⟨hbY, xY⟩
  clear hbY0 st2 z2
  have hend := Lib.hid (fun (W6 : World) (h6 : Tch (fun k => g ≤ k ∧ k < g + 3) Y W6) => stepTo_of (w3 := X) (w4 := w1) (w5 := Y) hp.out hlo.out hbX.out (by have := hsX.out; omega) hN1.out (hR2.out.kept hbY) (hb2.out.trans (hbY.mono hb2.out.size)) hs2 hw2 (h6.mono (fun k _ x => by have := hgh.out; omega)))
  have cK := Lib.hid (fun (W : World) (hW : Below Y.heap.size Y W) => alike_any B G (.slice A1 d2.n c1) (.slice A2 d2.m c2) d2 W (⟨_, (hD2.out.kept hbY).kept hW, fun _ => id⟩) ((hR2.out.kept hbY).kept hW))
  unfold rfv at cK
  have rY := Lib.hid (r2.out.kept hbY)
  have lY := (xY.kept (Below.drew (Below.refl _ _))).ld
  replace xY := Lib.hid xY
  clear hN1 hs2 hw2 g2 r2 hD2 hb2 hR2 hbY hGl hsX hbX hp
  go_region_with (go_at_call 24; refine (cK.out _ (by (repeat (first | exact Below.refl _ _ | assumption | refine below_drewN ?_ _ | refine bel_grow ?_ _ | refine Below.drew ?_ | refine bel_alloc ?_ _ | refine bel_set ?_ (by first | exact Nat.le_refl _ | (simp; done) | (simp; omega) | omega) _ | refine bel_trans ?_ (by assumption))))).mono ?_; rintro e6 w6 ⟨rfl, hb6⟩; have hb6' := bel_eld (w := Y) (by (repeat (first | exact Below.refl _ _ | assumption | refine below_drewN ?_ _ | refine bel_grow ?_ _ | refine Below.drew ?_ | refine bel_alloc ?_ _ | refine bel_set ?_ (by first | exact Nat.le_refl _ | (simp; done) | (simp; omega) | omega) _ | refine bel_trans ?_ (by assumption)))) hb6; obtain ⟨st6, rF, tF⟩ := (rY.out.kept hb6').st (a' := .slice A1 d2.n c1) (b' := .slice A2 d2.m c2) (c' := .int .i64 d2.f) (d' := .bool d2.dn) (e' := .int .i64 d2.k) rfl rfl rfl rfl rfl; have q0 := rF.c0; have q1 := rF.c1; have q2 := rF.c2; have q3 := rF.c3; have q4 := rF.c4; have lF := (xY.out.kept hb6').ld; have hfin := Lib.hid (hend.out _ (((tch_of hb6' _).mono (S' := fun k => g ≤ k ∧ k < g + 3) (fun _ _ => id)).trans (tF.mono (fun k _ x => by omega)))); clear rF tF hb6 hb6')
  all_goals (
    go_wp2_with fail
    exact bodyPost_ret (v := .tuple #[.agg #[.slice A1 d2.n c1, .slice A2 d2.m c2, .int .i64 d2.f, .bool d2.dn, .int .i64 d2.k], .bool true]) (by simp [results, Try.results20, go_sem, q0, q1, q2, q3, q4]) rfl ⟨_, _, _, _, rfl, hfin.out⟩)
end
end Go.Proofs.Ytnbfnlpepnbppaa
-- DkPe
namespace Go.Proofs.Ytnbfnlpepnbppaa
set_option linter.unusedVariables false
set_option linter.unusedSimpArgs false
open Go.RowKit Go.Shelf
attribute [local irreducible] bytesL

section
attribute [local go_sem ↓] load_R store_R
set_option maxRecDepth 8000 in
set_option maxHeartbeats 8000000 in
theorem step3_any (lo B : Nat) (G : Nat → Prop) (sv wv : Value) (d : DS) (o : OpV) (N t : Nat) (hN0 : 0 < N) (hN : N ≤ 4096) (ht : t ≤ 1000) (hq : o.d.tmod 5 = 3) (w : World) (hlo : lo ≤ w.heap.size) (hJ : DJ d N t) (hp : PR w lo B G sv wv d) (ho : o.Ok w) (hfar : ∀ a, o.A = some a → 0 < o.n → a.block < lo) :
    Calls Try.prog 20 #[.pointer (some ⟨B, 0, none⟩), rfv sv wv d, opV o] w fun r w' => ∃ A1 c1 A2 c2, r = .returned (.tuple #[.agg #[.slice A1 (d.stepOp o).n c1, .slice A2 (d.stepOp o).m c2, .int .i64 (d.stepOp o).f, .bool (d.stepOp o).dn, .int .i64 (d.stepOp o).k], .bool true]) ∧ StepTo w w' lo B G sv wv (d.stepOp o) (.slice A1 (d.stepOp o).n c1) (.slice A2 (d.stepOp o).m c2) := by
  obtain ⟨As, cs, Aw, cw, rfl, rfl⟩ := hp.rf.form
  have e2 : d.stepOp o = d.fuse o.at_ := by unfold DS.stepOp; rw [if_neg (by omega), if_neg (by omega), if_neg (by omega), if_pos hq]
  rw [e2]
  clear e2
  have hn : d.n ≤ 4096 := by rw [hJ.n]; exact hN
  have hn0 : 0 < d.n := by rw [hJ.n]; exact hN0
  have hm : d.m ≤ 100000 := by have := hJ.m; omega
  have hk : d.k ≤ 100000 := by have := hJ.k; omega
  have hP : ∀ i, i < d.m → d.P i < d.n := fun i hi => by rw [hJ.n]; exact hJ.P i hi
  have hf : -10 < d.f ∧ d.f < 9223372036854775808 := ⟨by have := hJ.f1; omega, hJ.f2⟩
  clear hJ
  unfold rfv
  replace hp := Lib.hid hp
  replace hlo := Lib.hid hlo
  replace hfar := Lib.hid hfar
  replace ho := Lib.hid ho
  replace hn0 := Lib.hid hn0
  replace hn := Lib.hid hn
  replace hm := Lib.hid hm
  replace hk := Lib.hid hk
  replace hP := Lib.hid hP
  replace hf := Lib.hid hf
  have cS := fun W h => fuse_any B G d o.at_ W h
  have cQ := fun W h => rfuse_ex As Aw d.n d.m cs cw d o.at_ W h
  obtain ⟨d2, hd2⟩ : ∃ x, x = d.fuse o.at_ := ⟨_, rfl⟩
  rw [← hd2] at cQ
  simp only [← hd2] at cS
  rw [← hd2]
  replace cS := Lib.hid cS
  replace cQ := Lib.hid cQ
  clear hd2 hn0 hn hm hP hf hk
  unfold opV
  generalize o.d = od at *
  generalize o.at_ = oa at *
  generalize o.y = oy at *
  generalize o.mr = om at *
  generalize o.lg = ol at *
  generalize o.A = oA at *
  generalize o.n = oN at *
  generalize o.c = oC at *
  go_enter Try.func20, Try.ntmps20
  go_upto_region 1 with fail
  refine abs_wp (fun X => Below w.heap.size w X ∧ RB X w.heap.size (.slice As d.n cs) (.slice Aw d.m cw) (.int .i64 d.f) (.bool d.dn) (.int .i64 d.k) ∧ Blk X (w.heap.size + 1) 38 #[.int .u8 od, .int .i64 oa, .int .u8 oy, .int .u16 om, .int .i8 ol, .slice oA oN oC] ∧ RB X (w.heap.size + 1 + 1) (.slice none 0 0) (.slice none 0 0) (.int .i64 0) (.bool false) (.int .i64 0) ∧ X.heap.size = w.heap.size + 3) ⟨by (repeat (first | exact Below.refl _ _ | assumption | refine below_drewN ?_ _ | refine bel_grow ?_ _ | refine Below.drew ?_ | refine bel_alloc ?_ _ | refine bel_set ?_ (by first | exact Nat.le_refl _ | (simp; done) | (simp; omega) | omega) _ | refine bel_trans ?_ (by assumption))), ((Blk.new _ _ _).alloc _).alloc _, (Blk.new' (by simp)).alloc _, Blk.new' (by simp), by simp⟩ ?_
  rintro X ⟨hbX, gX, oX, rX, hszX⟩
  obtain ⟨g, hg⟩ : ∃ g, g = w.heap.size := ⟨_, rfl⟩
  rw [← hg] at gX oX rX
  rw [← hg]
  have hgh := Lib.hid hg
  clear hg
  have y0 : X.cell? ⟨g + 1, 0, none⟩ = some (.int .u8 od) := oX.cell 0
  have y1 : X.cell? ⟨g + 1, 1, none⟩ = some (.int .i64 oa) := oX.cell 1
  have y5 : X.cell? ⟨g + 1, 5, none⟩ = some (.slice oA oN oC) := oX.cell 5
  have hGl := Lib.hid (show ∀ k, G k → k < g from fun k hk => by have := hp.out.dk.lt k hk; have := hgh.out; omega)
  have hsX := Lib.hid hszX
  clear hszX
  replace gX := Lib.hid gX
  replace oX := Lib.hid oX
  replace rX := Lib.hid rX
  have hGB := hp.out.dk.gB
  have cS1 := Lib.hid ((cS.out X (hp.out.dk.kept hbX)).mono (fun r w' ⟨a, b, c⟩ => (⟨a, b, c.mono (fun k _ x => by rw [x]; exact hGB)⟩ : _ ∧ _ ∧ Tch G X w')))
  clear hGB
  replace hbX := Lib.hid hbX
  clear cS
  go_wp2_with fail
  refine cS1.out.mono ?_
  rintro e1 w1 ⟨rfl, hD1, hT1⟩
  have hs1 := hT1.size
  have g1 := gX.out.tch hT1 (fun x => by have := hGl.out _ x; omega)
  have o1 := oX.out.tch hT1 (fun x => by have := hGl.out _ x; omega)
  have r1 := rX.out.tch hT1 (fun x => by have := hGl.out _ x; omega)
  have hR1 := (hp.out.rf.kept hbX.out).tch hT1 (fun b x => (hp.out.sg b x).2) (fun b x => (hp.out.wg b x).2)
  have l1 := g1.ld
  have v1 : w1.cell? ⟨g + 1, 1, none⟩ = some (.int .i64 oa) := o1.cell 1
  have v5 : w1.cell? ⟨g + 1, 5, none⟩ = some (.slice oA oN oC) := o1.cell 5
  have cQ1 := Lib.hid (cQ.out w1 hR1)
  have hN1 := Lib.hid (show DkNx X w1 B G d2 from ⟨G, hD1, fun _ => id, fun _ => Or.inl, hT1⟩)
  replace g1 := Lib.hid g1
  replace r1 := Lib.hid r1
  replace hD1 := Lib.hid hD1
  clear cS1 cQ hR1 hT1 gX rX oX o1 y0 y1 y5
  go_wp2_with fail
  refine cQ1.out.mono ?_
  rintro e2 w2 ⟨A1, c1, A2, c2, rfl, hR2, hb2, hs2, hw2⟩
  have z2 := hb2.size
  obtain ⟨st2, x2, t2⟩ := (g1.out.kept hb2).st (a' := .slice A1 d2.n c1) (b' := .slice A2 d2.m c2) (c' := .int .i64 d2.f) (d' := .bool d2.dn) (e' := .int .i64 d2.k) rfl rfl rfl rfl rfl
  have hY0 := Lib.hid (And.intro t2 (And.intro x2 ((r1.out.kept hb2).tch t2 (show ¬ (g + 1 + 1 = g) by omega))))
  have hD2 := Lib.hid (hD1.out.kept hb2)
  replace hb2 := Lib.hid hb2
  replace hR2 := Lib.hid hR2
  clear cQ1 l1 g1 r1 hD1 v1 v5 x2 t2
  go_upto_region 17 with fail
  refine abs_wp (fun Y => Tch (fun k => k = g) w2 Y ∧ RB Y g (.slice A1 d2.n c1) (.slice A2 d2.m c2) (.int .i64 d2.f) (.bool d2.dn) (.int .i64 d2.k) ∧ RB Y (g + 1 + 1) (.slice none 0 0) (.slice none 0 0) (.int .i64 0) (.bool false) (.int .i64 0)) hY0.out ?_
  rintro Y ⟨tY, xY, rY⟩
  clear hY0 st2 z2
  have hend := Lib.hid (fun (W6 : World) (h6 : Tch (fun k => g ≤ k ∧ k < g + 3) Y W6) => stepTo_of (w3 := X) (w4 := w1) (w5 := w2) hp.out hlo.out hbX.out (by have := hsX.out; omega) hN1.out hR2.out hb2.out hs2 hw2 (((tY.mono (S' := fun k => g ≤ k ∧ k < g + 3) (fun k _ x => by omega)).trans h6).mono (fun k _ x => by have := hgh.out; omega)))
  have hDY := hD2.out.tch tY (fun k hk x => by have := hGl.out k hk; omega)
  have hRY := hR2.out.tch tY (fun b x y => by
      have h9 := hp.out.rf.safe.ltB
      have h8 := hgh.out
      have h7 := hsX.out
      rcases hs2 b x with z | z
      · have := h9 b z; omega
      · omega) (fun b x y => by
      have h9 := hp.out.rf.waits.ltB
      have h8 := hgh.out
      have h7 := hsX.out
      rcases hw2 b x with z | z
      · have := h9 b z; omega
      · omega)
  have cK := Lib.hid (fun (W : World) (hW : Below Y.heap.size Y W) => alike_any B G (.slice A1 d2.n c1) (.slice A2 d2.m c2) d2 W (⟨_, hDY.kept hW, fun _ => id⟩) (hRY.kept hW))
  unfold rfv at cK
  have lY := (xY.kept (Below.drew (Below.refl _ _))).ld
  replace xY := Lib.hid xY
  replace rY := Lib.hid rY
  clear hN1 hs2 hw2 hD2 hb2 hR2 tY hGl hsX hbX hp hDY hRY
  go_region_with (go_at_call 24; refine (cK.out _ (by (repeat (first | exact Below.refl _ _ | assumption | refine below_drewN ?_ _ | refine bel_grow ?_ _ | refine Below.drew ?_ | refine bel_alloc ?_ _ | refine bel_set ?_ (by first | exact Nat.le_refl _ | (simp; done) | (simp; omega) | omega) _ | refine bel_trans ?_ (by assumption))))).mono ?_; rintro e6 w6 ⟨rfl, hb6⟩; have hb6' := bel_eld (w := Y) (by (repeat (first | exact Below.refl _ _ | assumption | refine below_drewN ?_ _ | refine bel_grow ?_ _ | refine Below.drew ?_ | refine bel_alloc ?_ _ | refine bel_set ?_ (by first | exact Nat.le_refl _ | (simp; done) | (simp; omega) | omega) _ | refine bel_trans ?_ (by assumption)))) hb6; obtain ⟨st6, rF, tF⟩ := (rY.out.kept hb6').st (a' := .slice A1 d2.n c1) (b' := .slice A2 d2.m c2) (c' := .int .i64 d2.f) (d' := .bool d2.dn) (e' := .int .i64 d2.k) rfl rfl rfl rfl rfl; have q0 := rF.c0; have q1 := rF.c1; have q2 := rF.c2; have q3 := rF.c3; have q4 := rF.c4; have lF := (xY.out.kept hb6').ld; have hfin := Lib.hid (hend.out _ (((tch_of hb6' _).mono (S' := fun k => g ≤ k ∧ k < g + 3) (fun _ _ => id)).trans (tF.mono (fun k _ x => by omega)))); clear rF tF hb6 hb6')
  all_goals (
    go_wp2_with fail
    exact bodyPost_ret (v := .tuple #[.agg #[.slice A1 d2.n c1, .slice A2 d2.m c2, .int .i64 d2.f, .bool d2.dn, .int .i64 d2.k], .bool true]) (by simp [results, Try.results20, go_sem, q0, q1, q2, q3, q4]) rfl ⟨_, _, _, _, rfl, hfin.out⟩)
end
end Go.Proofs.Ytnbfnlpepnbppaa
-- DkPf
namespace Go.Proofs.Ytnbfnlpepnbppaa
set_option linter.unusedVariables false
set_option linter.unusedSimpArgs false
open Go.RowKit Go.Shelf
attribute [local irreducible] bytesL

section
attribute [local go_sem ↓] load_R store_R
set_option maxRecDepth 8000 in
set_option maxHeartbeats 8000000 in
theorem step4_any (lo B : Nat) (G : Nat → Prop) (sv wv : Value) (d : DS) (o : OpV) (N t : Nat) (hN0 : 0 < N) (hN : N ≤ 4096) (ht : t ≤ 1000) (hq : o.d.tmod 5 ≠ 0 ∧ o.d.tmod 5 ≠ 1 ∧ o.d.tmod 5 ≠ 2 ∧ o.d.tmod 5 ≠ 3) (w : World) (hlo : lo ≤ w.heap.size) (hJ : DJ d N t) (hp : PR w lo B G sv wv d) (ho : o.Ok w) (hfar : ∀ a, o.A = some a → 0 < o.n → a.block < lo) :
    Calls Try.prog 20 #[.pointer (some ⟨B, 0, none⟩), rfv sv wv d, opV o] w fun r w' => ∃ A1 c1 A2 c2, r = .returned (.tuple #[.agg #[.slice A1 (d.stepOp o).n c1, .slice A2 (d.stepOp o).m c2, .int .i64 (d.stepOp o).f, .bool (d.stepOp o).dn, .int .i64 (d.stepOp o).k], .bool true]) ∧ StepTo w w' lo B G sv wv (d.stepOp o) (.slice A1 (d.stepOp o).n c1) (.slice A2 (d.stepOp o).m c2) := by
  obtain ⟨As, cs, Aw, cw, rfl, rfl⟩ := hp.rf.form
  have e2 : d.stepOp o = d.crash o.lf o.lt o.n := by unfold DS.stepOp; rw [if_neg hq.1, if_neg hq.2.1, if_neg hq.2.2.1, if_neg hq.2.2.2]
  rw [e2]
  clear e2
  obtain ⟨hq0, hq1, hq2, hq3⟩ := hq
  obtain ⟨q, hqq⟩ : ∃ q, o.d.tmod 5 = q := ⟨_, rfl⟩
  rw [hqq] at hq0 hq1 hq2 hq3
  have hn : d.n ≤ 4096 := by rw [hJ.n]; exact hN
  have hn0 : 0 < d.n := by rw [hJ.n]; exact hN0
  have hm : d.m ≤ 100000 := by have := hJ.m; omega
  have hk : d.k ≤ 100000 := by have := hJ.k; omega
  have hP : ∀ i, i < d.m → d.P i < d.n := fun i hi => by rw [hJ.n]; exact hJ.P i hi
  have hf : -10 < d.f ∧ d.f < 9223372036854775808 := ⟨by have := hJ.f1; omega, hJ.f2⟩
  clear hJ
  unfold rfv
  replace hp := Lib.hid hp
  replace hlo := Lib.hid hlo
  replace hfar := Lib.hid hfar
  replace ho := Lib.hid ho
  replace hn0 := Lib.hid hn0
  replace hn := Lib.hid hn
  replace hm := Lib.hid hm
  replace hk := Lib.hid hk
  replace hP := Lib.hid hP
  replace hf := Lib.hid hf
  have hGL : ∀ k, G k → lo ≤ k := hp.out.gl
  have cS := fun (W : World) h (hb : Below w.heap.size w W) => crash_any B G d o.A o.n o.c o.lf o.lt ho.out.le ho.out.max hn0.out hn.out hm.out hP.out W h (ho.out.ls.below hb) (fun a h1 h2 h3 x => by have := hfar.out a h1 h2; have := hGL _ x; omega)
  have cQ := fun (W : World) h hs => rcrash_ex As Aw d.n d.m cs cw d o.A o.n o.c o.lf o.lt ho.out.le ho.out.max hn0.out hn.out hm.out hP.out W h hs
  have hls := Lib.hid ho.out.ls
  clear hGL
  obtain ⟨d2, hd2⟩ : ∃ x, x = d.crash o.lf o.lt o.n := ⟨_, rfl⟩
  rw [← hd2] at cQ
  simp only [← hd2] at cS
  rw [← hd2]
  replace cS := Lib.hid cS
  replace cQ := Lib.hid cQ
  clear hd2 hn0 hn hm hP hf hk
  unfold opV
  generalize o.d = od at *
  generalize o.at_ = oa at *
  generalize o.y = oy at *
  generalize o.mr = om at *
  generalize o.lg = ol at *
  generalize o.A = oA at *
  generalize o.n = oN at *
  generalize o.c = oC at *
  go_enter Try.func20, Try.ntmps20
  go_upto_region 1 with fail
  refine abs_wp (fun X => Below w.heap.size w X ∧ RB X w.heap.size (.slice As d.n cs) (.slice Aw d.m cw) (.int .i64 d.f) (.bool d.dn) (.int .i64 d.k) ∧ Blk X (w.heap.size + 1) 38 #[.int .u8 od, .int .i64 oa, .int .u8 oy, .int .u16 om, .int .i8 ol, .slice oA oN oC] ∧ RB X (w.heap.size + 1 + 1) (.slice none 0 0) (.slice none 0 0) (.int .i64 0) (.bool false) (.int .i64 0) ∧ X.heap.size = w.heap.size + 3) ⟨by (repeat (first | exact Below.refl _ _ | assumption | refine below_drewN ?_ _ | refine bel_grow ?_ _ | refine Below.drew ?_ | refine bel_alloc ?_ _ | refine bel_set ?_ (by first | exact Nat.le_refl _ | (simp; done) | (simp; omega) | omega) _ | refine bel_trans ?_ (by assumption))), ((Blk.new _ _ _).alloc _).alloc _, (Blk.new' (by simp)).alloc _, Blk.new' (by simp), by simp⟩ ?_
  rintro X ⟨hbX, gX, oX, rX, hszX⟩
  obtain ⟨g, hg⟩ : ∃ g, g = w.heap.size := ⟨_, rfl⟩
  rw [← hg] at gX oX rX
  rw [← hg]
  have hgh := Lib.hid hg
  clear hg
  have y0 : X.cell? ⟨g + 1, 0, none⟩ = some (.int .u8 od) := oX.cell 0
  have y1 : X.cell? ⟨g + 1, 1, none⟩ = some (.int .i64 oa) := oX.cell 1
  have y5 : X.cell? ⟨g + 1, 5, none⟩ = some (.slice oA oN oC) := oX.cell 5
  have hGl := Lib.hid (show ∀ k, G k → k < g from fun k hk => by have := hp.out.dk.lt k hk; have := hgh.out; omega)
  have hsX := Lib.hid hszX
  clear hszX
  replace gX := Lib.hid gX
  replace oX := Lib.hid oX
  replace rX := Lib.hid rX
  have cS1 := Lib.hid (cS.out X (hp.out.dk.kept hbX) hbX)
  replace hbX := Lib.hid hbX
  clear cS
  go_wp2_with fail
  refine cS1.out.mono ?_
  rintro e1 w1 ⟨rfl, hD1, hT1⟩
  have hs1 := hT1.size
  have g1 := gX.out.tch hT1 (fun x => by have := hGl.out _ x; omega)
  have o1 := oX.out.tch hT1 (fun x => by have := hGl.out _ x; omega)
  have r1 := rX.out.tch hT1 (fun x => by have := hGl.out _ x; omega)
  have hR1 := (hp.out.rf.kept hbX.out).tch hT1 (fun b x => (hp.out.sg b x).2) (fun b x => (hp.out.wg b x).2)
  have l1 := g1.ld
  have v1 : w1.cell? ⟨g + 1, 1, none⟩ = some (.int .i64 oa) := o1.cell 1
  have v5 : w1.cell? ⟨g + 1, 5, none⟩ = some (.slice oA oN oC) := o1.cell 5
  have cQ1 := Lib.hid (cQ.out w1 hR1 (ss_tch (hls.out.below hbX.out) hT1 (fun a e1 e2 x => by have := hfar.out a e1 e2; have := hp.out.gl _ x; omega)))
  have hN1 := Lib.hid (show DkNx X w1 B G d2 from ⟨G, hD1, fun _ => id, fun _ => Or.inl, hT1⟩)
  replace g1 := Lib.hid g1
  replace r1 := Lib.hid r1
  replace hD1 := Lib.hid hD1
  clear cS1 cQ hR1 hT1 gX rX oX o1 y0 y1 y5
  go_wp2_with fail
  refine cQ1.out.mono ?_
  rintro e2 w2 ⟨A1, c1, A2, c2, rfl, hR2, hb2, hs2, hw2⟩
  have z2 := hb2.size
  obtain ⟨st2, x2, t2⟩ := (g1.out.kept hb2).st (a' := .slice A1 d2.n c1) (b' := .slice A2 d2.m c2) (c' := .int .i64 d2.f) (d' := .bool d2.dn) (e' := .int .i64 d2.k) rfl rfl rfl rfl rfl
  have hY0 := Lib.hid (And.intro t2 (And.intro x2 ((r1.out.kept hb2).tch t2 (show ¬ (g + 1 + 1 = g) by omega))))
  have hD2 := Lib.hid (hD1.out.kept hb2)
  replace hb2 := Lib.hid hb2
  replace hR2 := Lib.hid hR2
  clear cQ1 l1 g1 r1 hD1 v1 v5 x2 t2
  go_upto_region 20 with fail
  refine abs_wp (fun Y => Tch (fun k => k = g) w2 Y ∧ RB Y g (.slice A1 d2.n c1) (.slice A2 d2.m c2) (.int .i64 d2.f) (.bool d2.dn) (.int .i64 d2.k) ∧ RB Y (g + 1 + 1) (.slice none 0 0) (.slice none 0 0) (.int .i64 0) (.bool false) (.int .i64 0)) hY0.out ?_
  rintro Y ⟨tY, xY, rY⟩
  clear hY0 st2 z2
  have hend := Lib.hid (fun (W6 : World) (h6 : Tch (fun k => g ≤ k ∧ k < g + 3) Y W6) => stepTo_of (w3 := X) (w4 := w1) (w5 := w2) hp.out hlo.out hbX.out (by have := hsX.out; omega) hN1.out hR2.out hb2.out hs2 hw2 (((tY.mono (S' := fun k => g ≤ k ∧ k < g + 3) (fun k _ x => by omega)).trans h6).mono (fun k _ x => by have := hgh.out; omega)))
  have hDY := hD2.out.tch tY (fun k hk x => by have := hGl.out k hk; omega)
  have hRY := hR2.out.tch tY (fun b x y => by
      have h9 := hp.out.rf.safe.ltB
      have h8 := hgh.out
      have h7 := hsX.out
      rcases hs2 b x with z | z
      · have := h9 b z; omega
      · omega) (fun b x y => by
      have h9 := hp.out.rf.waits.ltB
      have h8 := hgh.out
      have h7 := hsX.out
      rcases hw2 b x with z | z
      · have := h9 b z; omega
      · omega)
  have cK := Lib.hid (fun (W : World) (hW : Below Y.heap.size Y W) => alike_any B G (.slice A1 d2.n c1) (.slice A2 d2.m c2) d2 W (⟨_, hDY.kept hW, fun _ => id⟩) (hRY.kept hW))
  unfold rfv at cK
  have lY := (xY.kept (Below.drew (Below.refl _ _))).ld
  replace xY := Lib.hid xY
  replace rY := Lib.hid rY
  clear hN1 hs2 hw2 hD2 hb2 hR2 tY hGl hsX hbX hp hDY hRY
  go_region_with (go_at_call 24; refine (cK.out _ (by (repeat (first | exact Below.refl _ _ | assumption | refine below_drewN ?_ _ | refine bel_grow ?_ _ | refine Below.drew ?_ | refine bel_alloc ?_ _ | refine bel_set ?_ (by first | exact Nat.le_refl _ | (simp; done) | (simp; omega) | omega) _ | refine bel_trans ?_ (by assumption))))).mono ?_; rintro e6 w6 ⟨rfl, hb6⟩; have hb6' := bel_eld (w := Y) (by (repeat (first | exact Below.refl _ _ | assumption | refine below_drewN ?_ _ | refine bel_grow ?_ _ | refine Below.drew ?_ | refine bel_alloc ?_ _ | refine bel_set ?_ (by first | exact Nat.le_refl _ | (simp; done) | (simp; omega) | omega) _ | refine bel_trans ?_ (by assumption)))) hb6; obtain ⟨st6, rF, tF⟩ := (rY.out.kept hb6').st (a' := .slice A1 d2.n c1) (b' := .slice A2 d2.m c2) (c' := .int .i64 d2.f) (d' := .bool d2.dn) (e' := .int .i64 d2.k) rfl rfl rfl rfl rfl; have q0 := rF.c0; have q1 := rF.c1; have q2 := rF.c2; have q3 := rF.c3; have q4 := rF.c4; have lF := (xY.out.kept hb6').ld; have hfin := Lib.hid (hend.out _ (((tch_of hb6' _).mono (S' := fun k => g ≤ k ∧ k < g + 3) (fun _ _ => id)).trans (tF.mono (fun k _ x => by omega)))); clear rF tF hb6 hb6')
  all_goals (
    go_wp2_with fail
    exact bodyPost_ret (v := .tuple #[.agg #[.slice A1 d2.n c1, .slice A2 d2.m c2, .int .i64 d2.f, .bool d2.dn, .int .i64 d2.k], .bool true]) (by simp [results, Try.results20, go_sem, q0, q1, q2, q3, q4]) rfl ⟨_, _, _, _, rfl, hfin.out⟩)
end
end Go.Proofs.Ytnbfnlpepnbppaa
