/-
  Joined: DkPb DkPg.
-/
import Derived.Test.YtnbfnlpepnbppaaJ4
import Derived.Test.YtnbfnlpepnbppaaJ5
-- DkPb
namespace Go.Proofs.Ytnbfnlpepnbppaa
set_option linter.unusedVariables false
set_option linter.unusedSimpArgs false
open Go.RowKit Go.Shelf
attribute [local irreducible] bytesL

section
attribute [local go_sem ↓] load_R store_R
set_option maxRecDepth 8000 in
set_option maxHeartbeats 8000000 in
theorem step0_any (lo B : Nat) (G : Nat → Prop) (sv wv : Value) (d : DS) (o : OpV) (N t : Nat) (hN0 : 0 < N) (hN : N ≤ 4096) (ht : t ≤ 1000) (hq : o.d.tmod 5 = 0) (w : World) (hlo : lo ≤ w.heap.size) (hJ : DJ d N t) (hp : PR w lo B G sv wv d) (ho : o.Ok w) (hfar : ∀ a, o.A = some a → 0 < o.n → a.block < lo) :
    Calls Try.prog 20 #[.pointer (some ⟨B, 0, none⟩), rfv sv wv d, opV o] w fun r w' => ∃ A1 c1 A2 c2, r = .returned (.tuple #[.agg #[.slice A1 (d.stepOp o).n c1, .slice A2 (d.stepOp o).m c2, .int .i64 (d.stepOp o).f, .bool (d.stepOp o).dn, .int .i64 (d.stepOp o).k], .bool true]) ∧ StepTo w w' lo B G sv wv (d.stepOp o) (.slice A1 (d.stepOp o).n c1) (.slice A2 (d.stepOp o).m c2) := by
  obtain ⟨As, cs, Aw, cw, rfl, rfl⟩ := hp.rf.form
  have e2 : d.stepOp o = d.write o.at_ o.len o.by_ := by unfold DS.stepOp; rw [if_pos hq]
  rw [e2]
  clear e2
  have hn : d.n ≤ 4096 := by rw [hJ.n]; exact hN
  have hn0 : 0 < d.n := by rw [hJ.n]; exact hN0
  have hm : d.m ≤ 100000 := by have := hJ.m; omega
  have hk : d.k ≤ 100000 := by have := hJ.k; omega
  have hP : ∀ i, i < d.m → d.P i < d.n := fun i hi => by rw [hJ.n]; exact hJ.P i hi
  have hf : -10 < d.f ∧ d.f < 9223372036854775808 := ⟨by have := hJ.f1; omega, hJ.f2⟩
  clear hJ
  unfold rfv
  replace hp := Lib.hid hp
  replace hlo := Lib.hid hlo
  replace hfar := Lib.hid hfar
  replace ho := Lib.hid ho
  replace hn0 := Lib.hid hn0
  replace hn := Lib.hid hn
  replace hm := Lib.hid hm
  replace hk := Lib.hid hk
  replace hP := Lib.hid hP
  replace hf := Lib.hid hf
  have cB := fun W => bytes_any o ho.out.mr ho.out.lg W
  have cS := fun A3 c3 (h1 : o.len ≤ c3) h2 W h hs => write_any B G d o.at_ A3 o.len c3 o.by_ h1 h2 hn.out hm.out hk.out hf.out.2 W h hs
  have cQ := fun W h => rwrite_ex As Aw d.n d.m cs cw d o.at_ o.len o.by_ hn.out hm.out hk.out hf.out W h
  have e1 : (d.write o.at_ o.len o.by_).n = d.n := by
    unfold DS.write
    split
    · exact (d.put o.at_.toNat o.by_).act_fields.1
    · rfl
  obtain ⟨se, hse⟩ : ∃ x, x = d.werr o.at_ o.len := ⟨_, rfl⟩
  obtain ⟨d2, hd2⟩ : ∃ x, x = d.write o.at_ o.len o.by_ := ⟨_, rfl⟩
  rw [← hse, ← hd2] at cQ
  simp only [← hse, ← hd2] at cS
  rw [← hd2] at e1 ⊢
  generalize o.len = ll at *
  generalize o.by_ = bb at *
  unfold opV at cB
  clear hse hd2 hn0 hn hm hP hf hk
  replace cS := Lib.hid cS
  replace cQ := Lib.hid cQ
  replace cB := Lib.hid cB
  replace e1 := Lib.hid e1
  unfold opV
  generalize o.d = od at *
  generalize o.at_ = oa at *
  generalize o.y = oy at *
  generalize o.mr = om at *
  generalize o.lg = ol at *
  generalize o.A = oA at *
  generalize o.n = oN at *
  generalize o.c = oC at *
  go_enter Try.func20, Try.ntmps20
  go_upto_region 1 with fail
  refine abs_wp (fun X => Below w.heap.size w X ∧ RB X w.heap.size (.slice As d.n cs) (.slice Aw d.m cw) (.int .i64 d.f) (.bool d.dn) (.int .i64 d.k) ∧ Blk X (w.heap.size + 1) 38 #[.int .u8 od, .int .i64 oa, .int .u8 oy, .int .u16 om, .int .i8 ol, .slice oA oN oC] ∧ RB X (w.heap.size + 1 + 1) (.slice none 0 0) (.slice none 0 0) (.int .i64 0) (.bool false) (.int .i64 0) ∧ X.heap.size = w.heap.size + 3) ⟨by (repeat (first | exact Below.refl _ _ | assumption | refine below_drewN ?_ _ | refine bel_grow ?_ _ | refine Below.drew ?_ | refine bel_alloc ?_ _ | refine bel_set ?_ (by first | exact Nat.le_refl _ | (simp; done) | (simp; omega) | omega) _ | refine bel_trans ?_ (by assumption))), ((Blk.new _ _ _).alloc _).alloc _, (Blk.new' (by simp)).alloc _, Blk.new' (by simp), by simp⟩ ?_
  rintro X ⟨hbX, gX, oX, rX, hszX⟩
  obtain ⟨g, hg⟩ : ∃ g, g = w.heap.size := ⟨_, rfl⟩
  rw [← hg] at gX oX rX
  rw [← hg]
  have hgh := Lib.hid hg
  clear hg
  have y0 : X.cell? ⟨g + 1, 0, none⟩ = some (.int .u8 od) := oX.cell 0
  have y1 : X.cell? ⟨g + 1, 1, none⟩ = some (.int .i64 oa) := oX.cell 1
  have y5 : X.cell? ⟨g + 1, 5, none⟩ = some (.slice oA oN oC) := oX.cell 5
  have hGl := Lib.hid (show ∀ k, G k → k < g from fun k hk => by have := hp.out.dk.lt k hk; have := hgh.out; omega)
  have hsX := Lib.hid hszX
  clear hszX
  have hX3 : w.heap.size + 3 ≤ X.heap.size := by have := hsX.out; omega
  have hD0 := Lib.hid (hp.out.dk.kept hbX)
  have hR0 := Lib.hid (hp.out.rf.kept hbX)
  have y2 : X.cell? ⟨g + 1, 2, none⟩ = some (.int .u8 oy) := oX.cell 2
  have y3 : X.cell? ⟨g + 1, 3, none⟩ = some (.int .u16 om) := oX.cell 3
  have y4 : X.cell? ⟨g + 1, 4, none⟩ = some (.int .i8 ol) := oX.cell 4
  have yl : g + 1 < X.heap.size := oX.lt
  replace gX := Lib.hid gX
  replace oX := Lib.hid oX
  replace rX := Lib.hid rX
  replace hbX := Lib.hid hbX
  go_upto_region 3 with fail
  go_cut [8] (fun s wx => s = .int .i64 se ∧ DkNx X wx B G d2 ∧ RB wx g (.slice As d.n cs) (.slice Aw d.m cw) (.int .i64 d.f) (.bool d.dn) (.int .i64 d.k) ∧ Blk wx (g + 1) 38 #[.int .u8 od, .int .i64 oa, .int .u8 oy, .int .u16 om, .int .i8 ol, .slice oA oN oC] ∧ RB wx (g + 1 + 1) (.slice none 0 0) (.slice none 0 0) (.int .i64 0) (.bool false) (.int .i64 0) ∧ RfAt wx (.slice As d.n cs) (.slice Aw d.m cw) d)
  case first =>
    go_region_with (
      first
      | (go_at_call 21
         refine (cB.out _).mono ?_
         rintro e3 w3 ⟨A3, c3, rfl, hs3, hc31, hc32, hb3⟩
         have hb3' : Below X.heap.size X w3 := bel_eld (Below.drew (Below.refl _ _)) hb3
         have z1 : w3.cell? ⟨g + 1, 1, none⟩ = some (.int .i64 oa) := (oX.out.kept hb3').cell 1
         have zl : g + 1 < w3.heap.size := (oX.out.kept hb3').lt
         have hsz3 := hb3'.size
         replace hs3 := Lib.hid hs3
         replace hb3' := Lib.hid hb3'
         clear hb3)
      | (go_at_call 12
         refine (cS.out A3 c3 hc31 hc32 _ (hD0.out.kept hb3'.out) hs3.out).mono ?_
         rintro e4 w4 ⟨rfl, hD4⟩
         have ht4 : Tch G X w4 := (by obtain ⟨_, _, _, _, h4⟩ := hD4.pre hb3'.out; exact h4)
         replace hD4 := Lib.hid (hD4.pre hb3'.out)
         replace ht4 := Lib.hid ht4))
    all_goals
      go_wp2_with fail
      go_meet
      exact ⟨rfl, hD4.out, gX.out.tch ht4.out (fun x => by have := hGl.out _ x; omega), oX.out.tch ht4.out (fun x => by have := hGl.out _ x; omega), rX.out.tch ht4.out (fun x => by have := hGl.out _ x; omega), hR0.out.tch ht4.out (fun b x => (hp.out.sg b x).2) (fun b x => (hp.out.wg b x).2)⟩
  case rest =>
    obtain ⟨rfl, hN1, g1, o1, r1, hR1⟩ := hcut
    obtain ⟨w1, hw1⟩ : ∃ x, x = wc := ⟨_, rfl⟩
    subst hw1
    have hs1 : X.heap.size ≤ w1.heap.size := by obtain ⟨_, _, _, _, h4⟩ := hN1; exact h4.size
    have cQ1 := Lib.hid (fun (W : World) (hW : Below w1.heap.size w1 W) => cQ.out W (hR1.kept hW))
    have y1 : w1.cell? ⟨g + 1, 1, none⟩ = some (.int .i64 oa) := o1.cell 1
    have l1 := g1.ld
    replace hN1 := Lib.hid hN1
    replace g1 := Lib.hid g1
    replace o1 := Lib.hid o1
    replace r1 := Lib.hid r1
    clear cQ hR1 y0 y5 y2 y3 y4 yl gX oX rX hD0 hR0
    have hAsl := Lib.hid (show ∀ b, (Value.slice As d.n cs).ownBlock = some b → b < w1.heap.size from fun b x => by have := hp.out.rf.safe.ltB b x; have := hsX.out; omega)
    have hAwl := Lib.hid (show ∀ b, (Value.slice Aw d.m cw).ownBlock = some b → b < w1.heap.size from fun b x => by have := hp.out.rf.waits.ltB b x; have := hsX.out; omega)
    generalize hnn : d.n = nn at *
    replace hnn := Lib.hid hnn
    go_upto_region 4 with fail
    go_cut [9, 10] (fun p s wx => ∃ gx A2 c2, p = .pointer (some ⟨gx, 0, none⟩) ∧ s = .int .i64 se ∧ Below w1.heap.size w1 wx ∧ RfAt wx (.slice As nn cs) (.slice A2 d2.m c2) d2 ∧ RB wx gx (.slice As nn cs) (.slice A2 d2.m c2) (.int .i64 d2.f) (.bool d2.dn) (.int .i64 d2.k) ∧ (∀ b, (Value.slice A2 d2.m c2).ownBlock = some b → (Value.slice Aw d.m cw).ownBlock = some b ∨ w1.heap.size ≤ b))
    case first =>
      clear cS hgh y1
      have HSS := Lib.hid (fun w' (B : Below w1.heap.size w1 w') => (show Below w1.heap.size w1 w' ∧ loadV Try.prog 31 5 w' (.pointer (some ⟨g, 0, none⟩)) = .ok (.agg #[.slice As nn cs, .slice Aw d.m cw, .int .i64 d.f, .bool d.dn, .int .i64 d.k]) w' ∧ w'.cell? ⟨g + 1, 0, none⟩ = some (.int .u8 od) ∧ w'.cell? ⟨g + 1, 1, none⟩ = some (.int .i64 oa) ∧ w'.cell? ⟨g + 1, 2, none⟩ = some (.int .u8 oy) ∧ w'.cell? ⟨g + 1, 3, none⟩ = some (.int .u16 om) ∧ w'.cell? ⟨g + 1, 4, none⟩ = some (.int .i8 ol) ∧ w'.cell? ⟨g + 1, 5, none⟩ = some (.slice oA oN oC) from ⟨B, (g1.out.kept B).ld, (o1.out.kept B).cell 0, (o1.out.kept B).cell 1, (o1.out.kept B).cell 2, (o1.out.kept B).cell 3, (o1.out.kept B).cell 4, (o1.out.kept B).cell 5⟩))
      clear y1 l1
      go_region_held (fun w' => Below w1.heap.size w1 w' ∧ loadV Try.prog 31 5 w' (.pointer (some ⟨g, 0, none⟩)) = .ok (.agg #[.slice As nn cs, .slice Aw d.m cw, .int .i64 d.f, .bool d.dn, .int .i64 d.k]) w' ∧ w'.cell? ⟨g + 1, 0, none⟩ = some (.int .u8 od) ∧ w'.cell? ⟨g + 1, 1, none⟩ = some (.int .i64 oa) ∧ w'.cell? ⟨g + 1, 2, none⟩ = some (.int .u8 oy) ∧ w'.cell? ⟨g + 1, 3, none⟩ = some (.int .u16 om) ∧ w'.cell? ⟨g + 1, 4, none⟩ = some (.int .i8 ol) ∧ w'.cell? ⟨g + 1, 5, none⟩ = some (.slice oA oN oC))
        (first | ((try go_split_ands); refine HSS.out _ ?_; (repeat (first | with_reducible exact Below.refl _ _ | with_reducible assumption | (with_reducible refine bel_set ?_ (by first | exact Nat.le_refl _ | (simp; done) | (simp; omega) | omega) _) | with_reducible refine bel_grow ?_ _ | with_reducible refine Below.drew ?_ | with_reducible refine bel_alloc ?_ _ | (with_reducible refine below_setRow ?_ (by first | omega | (simp; omega)) _) | with_reducible refine bel_eld ?_ (by assumption)))))
        (
        first
        | (go_at_call 21
           refine (cB.out _).mono ?_
           rintro e5 w5 ⟨A5, c5, rfl, hs5, hc51, hc52, hb5⟩
           have hb5' : Below w1.heap.size w1 w5 := bel_eld (w := w1) (by (repeat (first | exact Below.refl _ _ | assumption | refine below_drewN ?_ _ | refine bel_grow ?_ _ | refine Below.drew ?_ | refine bel_alloc ?_ _ | refine bel_set ?_ (by first | exact Nat.le_refl _ | (simp; done) | (simp; omega) | omega) _ | refine bel_trans ?_ (by assumption)))) hb5
           try (have ea : RB w5 w1.heap.size (.slice none 0 0) (.slice none 0 0) (.int .i64 0) (.bool false) (.int .i64 0) := (by first | exact RB.kept (w := (w1.alloc (.cells #[.slice none 0 0, .slice none 0 0, .int .i64 0, .bool false, .int .i64 0] 31)).drew) (Blk.new w1 _ _) hb5 | exact RB.kept (w := w1.drew.alloc (.cells #[.slice none 0 0, .slice none 0 0, .int .i64 0, .bool false, .int .i64 0] 31)) (Blk.new w1.drew _ _) hb5))
           have hsz5 := hb5'.size
           have kc := convB hs5 c5
           have kca := convB (slis_below hs5 (bel_alloc (Below.refl _ _) (.cells #[.slice none 0 0, .slice none 0 0, .int .i64 0, .bool false, .int .i64 0] 31))) c5
           clear hs5 hb5)
        | (go_at_call 13
           refine (cQ1.out _ (by (repeat (first | exact Below.refl _ _ | assumption | refine below_drewN ?_ _ | refine bel_grow ?_ _ | refine Below.drew ?_ | refine bel_alloc ?_ _ | refine bel_set ?_ (by first | exact Nat.le_refl _ | (simp; done) | (simp; omega) | omega) _ | refine bel_trans ?_ (by assumption))))).mono ?_
           rintro e6 w6 ⟨A2, c2, rfl, hR6, hb6, hw6⟩
           have hs6 := hb6.size
           have hb6c : Below w1.heap.size w1 w6 := bel_eld (w := w1) (by (repeat (first | exact Below.refl _ _ | assumption | refine below_drewN ?_ _ | refine bel_grow ?_ _ | refine Below.drew ?_ | refine bel_alloc ?_ _ | refine bel_set ?_ (by first | exact Nat.le_refl _ | (simp; done) | (simp; omega) | omega) _ | refine bel_trans ?_ (by assumption)))) hb6
           first
           | (obtain ⟨st6, f6, t6⟩ := (RB.kept ea hb6).st (a' := .slice As nn cs) (b' := .slice A2 d2.m c2) (c' := .int .i64 d2.f) (d' := .bool d2.dn) (e' := .int .i64 d2.k) rfl rfl rfl rfl rfl
              have hfin := Lib.hid (w_fin1 hb6c hR6 t6 f6 (Nat.le_refl _) ea.lt hAsl.out hAwl.out hw6)
              clear f6 t6)
           | (obtain ⟨st6, f6, t6⟩ := (RB.kept (g := w5.heap.size) (w := w5.alloc (.cells #[.slice none 0 0, .slice none 0 0, .int .i64 0, .bool false, .int .i64 0] 31)) (Blk.new w5 _ _) hb6).st (a' := .slice As nn cs) (b' := .slice A2 d2.m c2) (c' := .int .i64 d2.f) (d' := .bool d2.dn) (e' := .int .i64 d2.k) rfl rfl rfl rfl rfl
              have hfin := Lib.hid (w_fin1 hb6c hR6 t6 f6 hb5'.size (cs6 := (w5.alloc (.cells #[.slice none 0 0, .slice none 0 0, .int .i64 0, .bool false, .int .i64 0] 31)).heap.size) (by simp) hAsl.out hAwl.out hw6)
              clear f6 t6)
           | (have st6 := (RB.st (w := w6.alloc (.cells #[.slice none 0 0, .slice none 0 0, .int .i64 0, .bool false, .int .i64 0] 31)) (g := w6.heap.size) (Blk.new _ _ _) (a' := .slice As nn cs) (b' := .slice A2 d2.m c2) (c' := .int .i64 d2.f) (d' := .bool d2.dn) (e' := .int .i64 d2.k) rfl rfl rfl rfl rfl).1
              have hfin := Lib.hid (show Below w1.heap.size w1 (w6.alloc (.cells #[.slice As nn cs, .slice A2 d2.m c2, .int .i64 d2.f, .bool d2.dn, .int .i64 d2.k] 31)) ∧ RfAt (w6.alloc (.cells #[.slice As nn cs, .slice A2 d2.m c2, .int .i64 d2.f, .bool d2.dn, .int .i64 d2.k] 31)) (.slice As nn cs) (.slice A2 d2.m c2) d2 ∧ RB (w6.alloc (.cells #[.slice As nn cs, .slice A2 d2.m c2, .int .i64 d2.f, .bool d2.dn, .int .i64 d2.k] 31)) w6.heap.size (.slice As nn cs) (.slice A2 d2.m c2) (.int .i64 d2.f) (.bool d2.dn) (.int .i64 d2.k) ∧ ∀ b, (Value.slice A2 d2.m c2).ownBlock = some b → (Value.slice Aw d.m cw).ownBlock = some b ∨ w1.heap.size ≤ b from ⟨bel_alloc hb6c _, hR6.kept (bel_alloc (Below.refl _ _) _), Blk.new _ _ _, fun b x => (hw6 b x).imp_right (fun z => Nat.le_trans hb5'.size z)⟩))
           clear hR6 hb6 hw6))
      all_goals
        go_wp2_with fail
        go_meet
        exact ⟨_, A2, c2, rfl, rfl, hfin.out.1, hfin.out.2.1, hfin.out.2.2.1, hfin.out.2.2.2⟩
    case rest =>
      obtain ⟨gx, A2, c2, rfl, rfl, hbY, hR5, xY, hw5⟩ := hcut
      obtain ⟨G', hD', hDG⟩ : ∃ G', DkIs w1 B G' d2 ∧ True := by
        obtain ⟨G', h1, _⟩ := hN1.out
        exact ⟨G', h1, trivial⟩
      have hend := Lib.hid (fun (W6 : World) (h6 : Tch (fun k => g ≤ k ∧ k < g + 3) wc W6) => stepTo_of (w3 := X) (w4 := w1) (w5 := wc) hp.out hlo.out hbX.out (by have := hsX.out; omega) hN1.out hR5 hbY (fun b => Or.inl) hw5 (h6.mono (fun k _ x => by have := hgh.out; omega)))
      have cK := Lib.hid (fun (W : World) (hW : Below wc.heap.size wc W) => alike_any B G' (.slice As nn cs) (.slice A2 d2.m c2) d2 W (⟨_, (hD'.kept hbY).kept hW, fun _ => id⟩) (hR5.kept hW))
      unfold rfv at cK
      have rY := Lib.hid (r1.out.kept hbY)
      have lY := (xY.kept (Below.drew (Below.refl _ _))).ld
      replace xY := Lib.hid xY
      clear hN1 hw5 hR5 hbY hGl hsX hbX hp hD' hDG o1 r1 g1 cQ1 hAsl hAwl cS cB y1 l1
      go_upto_region 5 with fail
      go_region_with (go_at_call 24; refine (cK.out _ (by (repeat (first | exact Below.refl _ _ | assumption | refine below_drewN ?_ _ | refine bel_grow ?_ _ | refine Below.drew ?_ | refine bel_alloc ?_ _ | refine bel_set ?_ (by first | exact Nat.le_refl _ | (simp; done) | (simp; omega) | omega) _ | refine bel_trans ?_ (by assumption))))).mono ?_; rintro e6 w6 ⟨rfl, hb6⟩; have hb6' := bel_eld (w := wc) (by (repeat (first | exact Below.refl _ _ | assumption | refine below_drewN ?_ _ | refine bel_grow ?_ _ | refine Below.drew ?_ | refine bel_alloc ?_ _ | refine bel_set ?_ (by first | exact Nat.le_refl _ | (simp; done) | (simp; omega) | omega) _ | refine bel_trans ?_ (by assumption)))) hb6; obtain ⟨st6, rF, tF⟩ := (rY.out.kept hb6').st (a' := .slice As nn cs) (b' := .slice A2 d2.m c2) (c' := .int .i64 d2.f) (d' := .bool d2.dn) (e' := .int .i64 d2.k) rfl rfl rfl rfl rfl; have q0 := rF.c0; have q1 := rF.c1; have q2 := rF.c2; have q3 := rF.c3; have q4 := rF.c4; have lF := (xY.out.kept hb6').ld; have hfin := Lib.hid (hend.out _ (((tch_of hb6' _).mono (S' := fun k => g ≤ k ∧ k < g + 3) (fun _ _ => id)).trans (tF.mono (fun k _ x => by omega)))); clear rF tF hb6 hb6')
      all_goals (
        go_wp2_with fail
        exact bodyPost_ret (v := .tuple #[.agg #[.slice As nn cs, .slice A2 d2.m c2, .int .i64 d2.f, .bool d2.dn, .int .i64 d2.k], .bool true]) (by simp [results, Try.results20, go_sem, q0, q1, q2, q3, q4]) rfl ⟨As, cs, A2, c2, by rw [e1.out], by rw [e1.out, hnn.out]; exact hfin.out⟩)
end
end Go.Proofs.Ytnbfnlpepnbppaa
-- DkPg
namespace Go.Proofs.Ytnbfnlpepnbppaa
set_option linter.unusedVariables false
set_option linter.unusedSimpArgs false
open Go.RowKit Go.Shelf
attribute [local irreducible] bytesL

theorem step_any (lo B : Nat) (G : Nat → Prop) (sv wv : Value) (d : DS) (o : OpV) (N t : Nat) (hN0 : 0 < N) (hN : N ≤ 4096) (ht : t ≤ 1000) (w : World) (hlo : lo ≤ w.heap.size) (hJ : DJ d N t) (hp : PR w lo B G sv wv d) (ho : o.Ok w) (hfar : ∀ a, o.A = some a → 0 < o.n → a.block < lo) :
    Calls Try.prog 20 #[.pointer (some ⟨B, 0, none⟩), rfv sv wv d, opV o] w fun r w' => ∃ A1 c1 A2 c2, r = .returned (.tuple #[.agg #[.slice A1 (d.stepOp o).n c1, .slice A2 (d.stepOp o).m c2, .int .i64 (d.stepOp o).f, .bool (d.stepOp o).dn, .int .i64 (d.stepOp o).k], .bool true]) ∧ StepTo w w' lo B G sv wv (d.stepOp o) (.slice A1 (d.stepOp o).n c1) (.slice A2 (d.stepOp o).m c2) := by
  by_cases h0 : o.d.tmod 5 = 0
  · exact step0_any lo B G sv wv d o N t hN0 hN ht h0 w hlo hJ hp ho hfar
  · by_cases h1 : o.d.tmod 5 = 1
    · exact step1_any lo B G sv wv d o N t hN0 hN ht h1 w hlo hJ hp ho hfar
    · by_cases h2 : o.d.tmod 5 = 2
      · exact step2_any lo B G sv wv d o N t hN0 hN ht h2 w hlo hJ hp ho hfar
      · by_cases h3 : o.d.tmod 5 = 3
        · exact step3_any lo B G sv wv d o N t hN0 hN ht h3 w hlo hJ hp ho hfar
        · exact step4_any lo B G sv wv d o N t hN0 hN ht ⟨h0, h1, h2, h3⟩ w hlo hJ hp ho hfar
theorem OJ.stepTo {w wr wY w2 w3 w4 : World} {B bx : Nat} {G : Nat → Prop} {sv wv sv' wv' : Value} {d d' : DS} (h : OJ w wr B bx G sv wv d) (hY : Below wr.heap.size wr wY) (hs : StepTo wY w2 w.heap.size B G sv wv d' sv' wv') (hb : Below w2.heap.size w2 w3) (ht : Tch (fun k => k = bx) w3 w4) (hx : RB w4 bx sv' wv' (.int .i64 d'.f) (.bool d'.dn) (.int .i64 d'.k)) :
    ∃ G', OJ w w4 B bx G' sv' wv' d' ∧ (∀ k, G' k → G k ∨ wr.heap.size ≤ k) ∧ (∀ b, sv'.ownBlock = some b → sv.ownBlock = some b ∨ wr.heap.size ≤ b) ∧ (∀ b, wv'.ownBlock = some b → wv.ownBlock = some b ∨ wr.heap.size ≤ b) ∧ Tch (fun k => G k ∨ k = bx) wr w4 := by
  obtain ⟨G', k1, k2, k3, k4, k5⟩ := hs
  have hsY := hY.size
  have hlx := h.b.lt
  have z2 : ∀ k, G' k → G k ∨ wr.heap.size ≤ k := fun k x => (k2 k x).imp_right (fun y => by omega)
  have z3 : ∀ b, sv'.ownBlock = some b → sv.ownBlock = some b ∨ wr.heap.size ≤ b := fun b x => (k3 b x).imp_right (fun y => by omega)
  have z4 : ∀ b, wv'.ownBlock = some b → wv.ownBlock = some b ∨ wr.heap.size ≤ b := fun b x => (k4 b x).imp_right (fun y => by omega)
  have g1 : ¬ G' bx := fun x => by
    rcases z2 bx x with y | y
    · exact h.bg y
    · omega
  have g2 : ∀ b, sv'.ownBlock = some b → b ≠ bx := fun b x => by
    rcases z3 b x with y | y
    · exact h.sb b y
    · omega
  have g3 : ∀ b, wv'.ownBlock = some b → b ≠ bx := fun b x => by
    rcases z4 b x with y | y
    · exact h.wb b y
    · omega
  have hT : Tch (fun k => G k ∨ k = bx) wr w4 := ((((tch_of hY (fun k => G k)).trans2 k5 (fun _ _ x => x)).bel hb).mono (fun k _ x => Or.inl x)).trans2 ht (fun k _ x => Or.inr x)
  refine ⟨G', ⟨(k1.kept hb).tch ht (fun k x y => g1 (y ▸ x)) g2 g3, hx, g1, g2, g3, h.bl.trans (hT.below h.bl.size (fun k q1 q2 => ?_)), h.lb⟩, z2, z3, z4, hT⟩
  rcases q2 with y | y
  · exact absurd (h.p.gl k y) (Nat.not_le.2 q1)
  · have := h.lb; omega
theorem rnew_none (z : Int) (hz : z < 8 ∨ 4096 < z) (w : World) : Calls Try.prog 10 #[.int .i64 z] w fun r w' => r = .returned (.tuple #[.agg #[.slice none 0 0, .slice none 0 0, .int .i64 0, .bool false, .int .i64 0], .int .i64 1]) ∧ Below w.heap.size w w' := by
  by_cases h8 : z < 8
  · clear hz
    go_enter Try.func10, Try.ntmps10
    go_wp2_with fail
    exact bodyPost_ret (v := .tuple #[.agg #[.slice none 0 0, .slice none 0 0, .int .i64 0, .bool false, .int .i64 0], .int .i64 1]) (by simp [results, Try.results10, go_sem]) rfl ⟨rfl, by (repeat (first | exact Below.refl _ _ | assumption | refine below_drewN ?_ _ | refine bel_grow ?_ _ | refine Below.drew ?_ | refine bel_alloc ?_ _ | refine bel_set ?_ (by first | exact Nat.le_refl _ | (simp; done) | (simp; omega) | omega) _ | refine bel_trans ?_ (by assumption)))⟩
  · have h9 : 4096 < z := by omega
    clear hz
    go_enter Try.func10, Try.ntmps10
    go_wp2_with fail
    exact bodyPost_ret (v := .tuple #[.agg #[.slice none 0 0, .slice none 0 0, .int .i64 0, .bool false, .int .i64 0], .int .i64 1]) (by simp [results, Try.results10, go_sem]) rfl ⟨rfl, by (repeat (first | exact Below.refl _ _ | assumption | refine below_drewN ?_ _ | refine bel_grow ?_ _ | refine Below.drew ?_ | refine bel_alloc ?_ _ | refine bel_set ?_ (by first | exact Nat.le_refl _ | (simp; done) | (simp; omega) | omega) _ | refine bel_trans ?_ (by assumption)))⟩
/-- where the losses of an operation lie -/
theorem loss_lo {w : World} {A : Option Addr} {n : Nat} {o : Nat → OpV} (h : OpsIs w A n o) {t : Nat} (ht : t < n) : ∀ a, (o t).A = some a → 0 < (o t).n → a.block < w.heap.size := fun a e h0 => by
  obtain ⟨b, p, e2, hl, _⟩ := (h.2 t ht).ls h0
  rw [e] at e2
  cases e2
  exact hl
end Go.Proofs.Ytnbfnlpepnbppaa
