/-
  DiskSafe, walked.
-/
import Derived.Test.YtnbfnlpepnbppaaDkP
import Derived.Test.YtnbfnlpepnbppaaDkT
namespace Go.Proofs.Ytnbfnlpepnbppaa
set_option linter.unusedVariables false
set_option linter.unusedSimpArgs false
open Go.RowKit Go.Shelf
attribute [local irreducible] bytesL

set_option maxRecDepth 8000 in
set_option maxHeartbeats 16000000 in
theorem diskSafe_of (hfix : ∀ W, Calls Try.prog 8 #[] W fun r w' => r = .returned (.bool true) ∧ Below W.heap.size W w')
    (A : Option Addr) (n c : Nat) (o : Nat → OpV) (hn : n ≤ c) (hc : c ≤ maxLen) (A2 : Option Addr) (n2 c2 : Nat) (o2 : Nat → OpV) (hn2 : n2 ≤ c2) (hc2 : c2 ≤ maxLen) (AL : Option Addr) (nl cl : Nat) (lf lt : Nat → Int) (hnl : nl ≤ cl) (hcl : cl ≤ maxLen) (w : World) (hO : OpsIs w A n o) (hO2 : OpsIs w A2 n2 o2) (hL : SsIs w AL nl 2 (fun i => [.int .i64 (lf i), .int .i64 (lt i)])) :
    Calls Try.prog 6 #[.slice A n c, .slice A2 n2 c2, .slice AL nl cl] w fun r w' => r = .returned (.bool true) ∧ Below w.heap.size w w' := by
  replace hO := Lib.hid hO
  replace hO2 := Lib.hid hO2
  replace hL := Lib.hid hL
  replace hfix := Lib.hid hfix
  have hcl' := Lib.hid hcl
  unfold maxLen at hc hc2 hcl
  go_enter Try.func6, Try.ntmps6
  by_cases hg : 40 < n ∨ 40 < n2 ∨ 100 < nl
  · have hf1 := Lib.hid (fun W => hfix.out W)
    rcases (by omega : 40 < n ∨ (¬ 40 < n ∧ 40 < n2) ∨ (¬ 40 < n ∧ ¬ 40 < n2 ∧ 100 < nl)) with q1 | ⟨q1, q2⟩ | ⟨q1, q2, q3⟩
    all_goals (
      clear hg
      go_wp2_with fail
      refine (hf1.out w).mono ?_
      rintro e1 w1 ⟨rfl, hb1⟩
      go_wp2_with fail
      go_ret
      exact ⟨rfl, hb1⟩)
  · obtain ⟨q1, q2, q3⟩ : n ≤ 40 ∧ n2 ≤ 40 ∧ nl ≤ 100 := by omega
    clear hg
    have cN := Lib.hid (newX 10 (by omega) (by omega) w)
    go_wp2_with fail
    refine cN.out.mono ?_
    rintro e1 w1 ⟨B, rfl, hD1, hb1⟩
    replace hD1 := Lib.hid hD1
    replace hb1 := Lib.hid hb1
    clear cN
    go_wp2_with fail
    go_loopw [46] (fun i wr => ∃ (t : Nat) (d : DS), t ≤ n ∧ i = .int .i64 t ∧ Hid (SJ d 10 t) ∧ Hid (DkX wr B (fun k => w.heap.size ≤ k) d) ∧ Hid (Below w.heap.size w wr)) (fun i _ => n - (intOf i).toNat)
    case atStart => exact ⟨0, _, by omega, rfl, Lib.hid (SJ.new 10), hD1, hb1⟩
    case round =>
      clear hD1 hb1
      obtain ⟨t, d, ht, rfl, hJ, hD, hb⟩ := hrel
      by_cases hlt : t < n
      · obtain ⟨bo, po, rfl, hol, x0, x1, x2, x3, x4, x5⟩ := ops_at (hO.out.kept hb.out) hlt
        have hok := (hO.out.2 t hlt)
        have cB := Lib.hid (fun W => bytes_any (o t) hok.mr hok.lg W)
        obtain ⟨ll, hll⟩ : ∃ ll, ll = (o t).len := ⟨_, rfl⟩
        obtain ⟨bb, hbb⟩ : ∃ bb, bb = (o t).by_ := ⟨_, rfl⟩
        unfold opV at cB
        rw [← hll, ← hbb] at cB
        obtain ⟨r1, r2⟩ := hok.d
        clear hok hll hbb
        generalize (o t).d = od at *
        generalize (o t).at_ = oa at *
        generalize (o t).y = oy at *
        generalize (o t).mr = om at *
        generalize (o t).lg = ol at *
        generalize (o t).A = oA at *
        generalize (o t).n = oN at *
        generalize (o t).c = oC at *
        go_upto_region 9 with fail
        refine abs_wp (fun X => Below wr.heap.size wr X ∧ Blk X wr.heap.size 38 #[.int .u8 od, .int .i64 oa, .int .u8 oy, .int .u16 om, .int .i8 ol, .slice oA oN oC]) ⟨bel_alloc (Below.refl _ _) _, Blk.new _ _ _⟩ ?_
        rintro X ⟨hbX, gX⟩
        have hgX := Lib.hid gX
        have hDX := Lib.hid (hD.out.kept hbX)
        have hsX := hbX.size
        have hBX := Lib.hid (bel_eld hb.out hbX)
        clear hbX gX hb x0 x1 x2 x3 x4 x5
        have y0 : X.cell? ⟨wr.heap.size, 0, none⟩ = some (.int .u8 od) := hgX.out.cell 0
        have y1 : X.cell? ⟨wr.heap.size, 1, none⟩ = some (.int .i64 oa) := hgX.out.cell 1
        have y2 : X.cell? ⟨wr.heap.size, 2, none⟩ = some (.int .u8 oy) := hgX.out.cell 2
        have y3 : X.cell? ⟨wr.heap.size, 3, none⟩ = some (.int .u16 om) := hgX.out.cell 3
        have y4 : X.cell? ⟨wr.heap.size, 4, none⟩ = some (.int .i8 ol) := hgX.out.cell 4
        have y5 : X.cell? ⟨wr.heap.size, 5, none⟩ = some (.slice oA oN oC) := hgX.out.cell 5
        have yl : wr.heap.size < X.heap.size := hgX.out.lt
        obtain ⟨q, hq⟩ : ∃ q, od.tmod 5 = q := ⟨_, rfl⟩
        by_cases hq0 : q = 0
        · subst hq0
          obtain ⟨hJ2, _, _⟩ := hJ.out.write oa ll bb
          have cW := Lib.hid (fun (W : World) (A3 : Option Addr) (c3 : Nat) (hb : Below X.heap.size X W) (h1 : ll ≤ c3) (h2 : c3 ≤ maxLen) (h3 : SlIs W A3 ll (fun j => .int .u8 (bb j))) => writeX (d := d) oa A3 ll c3 bb h1 h2 (by rw [hJ.out.n]; omega) (by have := hJ.out.m; omega) (by have := hJ.out.k; omega) (by rw [hJ.out.f]; omega) W (hDX.out.kept hb) (fun k hk => Nat.le_trans hBX.out.size (Nat.le_trans hb.size hk)) h3)
          replace hJ2 := Lib.hid hJ2
          go_upto_region 10 with fail
          go_region_with (
            first
            | (go_at_call 21
               refine (cB.out _).mono ?_
               rintro e3 w3 ⟨A3, c3, rfl, hs3, hc31, hc32, hb3⟩
               have hb3' : Below X.heap.size X w3 := bel_eld (Below.drew (Below.refl _ _)) hb3
               have z1 : w3.cell? ⟨wr.heap.size, 1, none⟩ = some (.int .i64 oa) := (hgX.out.kept hb3').cell 1
               have zl : wr.heap.size < w3.heap.size := (hgX.out.kept hb3').lt
               have hB3 := Lib.hid (bel_eld hBX.out hb3')
               have hsz3 := hb3'.size
               replace hs3 := Lib.hid hs3
               replace hb3' := Lib.hid hb3'
               clear hb3)
            | (go_at_call 12
               refine (cW.out _ A3 c3 hb3'.out hc31 hc32 hs3.out).mono ?_
               rintro e4 w4 ⟨rfl, hD4, ht4⟩
               have hs4 := ht4.size
               replace hD4 := Lib.hid hD4
               replace ht4 := Lib.hid ht4))
          all_goals (
            go_wp2_with fail
            go_roundw
            case rel => exact ⟨t + 1, _, by omega, by go_num, hJ2, hD4, Lib.hid (hB3.out.trans (ht4.out.below (Nat.le_trans hBX.out.size hsz3) (fun k h1 h2 => absurd h2 (Nat.not_le.2 h1))))⟩
            case measure => simp [intOf]; omega)
        · go_wp2_with fail
          go_roundw
          case rel => exact ⟨t + 1, d, by omega, by go_num, Lib.hid (hJ.out.up (by omega)), hDX, hBX⟩
          case measure => simp [intOf]; omega

      · obtain rfl : n = t := by omega
        obtain ⟨hJ1, hse, hm1⟩ := hJ.out.sync
        have cS := Lib.hid (syncX (d := d) (by rw [hJ.out.n]; omega) (by rw [hJ.out.n]; omega) (by have := hJ.out.m; omega) (fun i hi => by rw [hJ.out.n]; exact hJ.out.P i hi) (by rw [hJ.out.f]; omega) wr hD.out)
        rw [hse] at cS
        generalize d.sync = d1 at *
        replace hJ1 := Lib.hid hJ1
        clear hJ hD hse
        go_wp2_with fail
        refine cS.out.mono ?_
        rintro e2 w2 ⟨rfl, hD2, ht2⟩
        have hb2 := Lib.hid (hb.out.trans (ht2.below hb.out.size (fun k h1 h2 => absurd h2 (Nat.not_le.2 h1))))
        have cT := Lib.hid (by have := waitsX w2 hD2; rw [hm1] at this; exact this)
        have cC := Lib.hid (copyX (d := d1) (by rw [hJ1.out.n]; omega) (by have := hJ1.out.m; omega) w2 hD2)
        clear cS ht2 hb
        go_wp2_with fail
        refine cT.out.mono ?_
        rintro e3 w3 ⟨rfl, rfl⟩
        go_wp2_with fail
        refine cC.out.mono ?_
        rintro e4 w4 ⟨B', rfl, hC4, hD4, hb4⟩
        clear cT cC hD4
        go_upto_region 16 with fail
        refine abs_wp (fun X => Below w4.heap.size w4 X ∧ Blk X w4.heap.size 57 (boolsL (fun _ => false)).toArray) ⟨bel_alloc (Below.refl _ _) _, Blk.new _ _ _⟩ ?_
        rintro X0 ⟨hbX, gX⟩
        have hs2 := hb2.out.size
        have hs4 := hb4.size
        have hsx := gX.lt
        obtain ⟨m0, hm0⟩ : ∃ m0, m0 = w3.heap.size := ⟨_, rfl⟩
        obtain ⟨g, hgd⟩ : ∃ g, g = w4.heap.size := ⟨_, rfl⟩
        obtain ⟨m1, hm1'⟩ : ∃ m1, m1 = X0.heap.size := ⟨_, rfl⟩
        have hDs := Lib.hid (((hD2.cut (Y := fun k => w.heap.size ≤ k ∧ (k < m0 ∨ m1 ≤ k)) (fun k h1 h2 => ⟨h1, Or.inl (by omega)⟩)).kept hb4).kept hbX)
        have hCs := Lib.hid ((hC4.cut (Y := fun k => m0 ≤ k ∧ k < g) (fun k h1 h2 => ⟨by have := h1.1; omega, by have := h1.2; omega⟩)).kept hbX)
        have hdis : Hid (∀ k, (m0 ≤ k ∧ k < g) → ¬ (w.heap.size ≤ k ∧ (k < m0 ∨ m1 ≤ k))) := Lib.hid (fun k h1 h2 => by omega)
        have hgn : Hid (¬ (w.heap.size ≤ g ∧ (g < m0 ∨ m1 ≤ g))) := Lib.hid (by omega)
        have hgg : g ≤ g := Nat.le_refl g
        rw [← hgd] at gX
        have hg0 := Lib.hid gX
        have hwg : w.heap.size ≤ g := by omega
        have hgm : g < m1 := by omega
        have hb0 := Lib.hid (bel_eld (bel_eld hb2.out hb4) hbX)
        have hm1s : m1 ≤ X0.heap.size := by omega
        rw [← hgd]
        clear hD2 hC4 hb4 hbX gX hb2 hs2 hs4 hsx hm0 hgd hm1'
        go_wp2_with fail
        go_loopw [73] (fun i wr => ∃ (t : Nat) (d : DS) (T : Nat → Bool), t ≤ n2 ∧ i = .int .i64 t ∧ Hid (SJ d 10 (n + t)) ∧ Hid (DkX wr B (fun k => w.heap.size ≤ k ∧ (k < m0 ∨ m1 ≤ k)) d) ∧ Hid (DkX wr B' (fun k => m0 ≤ k ∧ k < g) d1) ∧ Hid (Blk wr g 57 (boolsL T).toArray) ∧ Hid (∀ i, i < d.m → T (d.P i) = true) ∧ Hid (d.S = d1.S) ∧ Hid (Below w.heap.size w wr) ∧ m1 ≤ wr.heap.size) (fun i _ => n2 - (intOf i).toNat)
        case atStart => exact ⟨0, _, _, by omega, rfl, hJ1, hDs, hCs, hg0, Lib.hid (fun i hi => by omega), Lib.hid rfl, hb0, hm1s⟩
        case round =>
          clear hDs hCs hg0 hb0 hm1s
          obtain ⟨t, d, T, ht, rfl, hJ, hD, hC, hg, hT, hS, hb, hsg⟩ := hrel
          by_cases hlt : t < n2
          · obtain ⟨bo, po, rfl, hol, x0, x1, x2, x3, x4, x5⟩ := ops_at (hO2.out.kept hb.out) hlt
            have hok := (hO2.out.2 t hlt)
            have cB := Lib.hid (fun W => bytes_any (o2 t) hok.mr hok.lg W)
            obtain ⟨ll, hll⟩ : ∃ ll, ll = (o2 t).len := ⟨_, rfl⟩
            obtain ⟨bb, hbb⟩ : ∃ bb, bb = (o2 t).by_ := ⟨_, rfl⟩
            unfold opV at cB
            rw [← hll, ← hbb] at cB
            obtain ⟨r1, r2⟩ := hok.d
            clear hok hll hbb
            generalize (o2 t).d = od at *
            generalize (o2 t).at_ = oa at *
            generalize (o2 t).y = oy at *
            generalize (o2 t).mr = om at *
            generalize (o2 t).lg = ol at *
            generalize (o2 t).A = oA at *
            generalize (o2 t).n = oN at *
            generalize (o2 t).c = oC at *
            go_upto_region 19 with fail
            refine abs_wp (fun X => Below wr.heap.size wr X ∧ Blk X wr.heap.size 38 #[.int .u8 od, .int .i64 oa, .int .u8 oy, .int .u16 om, .int .i8 ol, .slice oA oN oC]) ⟨bel_alloc (Below.refl _ _) _, Blk.new _ _ _⟩ ?_
            rintro X ⟨hbX, gX⟩
            have hgX := Lib.hid gX
            have hDX := Lib.hid (hD.out.kept hbX)
            have hCX := Lib.hid (hC.out.kept hbX)
            have hTX := Lib.hid (hg.out.kept hbX)
            have hsX := hbX.size
            have hBX := Lib.hid (bel_eld hb.out hbX)
            clear hbX gX hb x0 x1 x2 x3 x4 x5
            have y0 : X.cell? ⟨wr.heap.size, 0, none⟩ = some (.int .u8 od) := hgX.out.cell 0
            have y1 : X.cell? ⟨wr.heap.size, 1, none⟩ = some (.int .i64 oa) := hgX.out.cell 1
            have y2 : X.cell? ⟨wr.heap.size, 2, none⟩ = some (.int .u8 oy) := hgX.out.cell 2
            have y3 : X.cell? ⟨wr.heap.size, 3, none⟩ = some (.int .u16 om) := hgX.out.cell 3
            have y4 : X.cell? ⟨wr.heap.size, 4, none⟩ = some (.int .i8 ol) := hgX.out.cell 4
            have y5 : X.cell? ⟨wr.heap.size, 5, none⟩ = some (.slice oA oN oC) := hgX.out.cell 5
            have yl : wr.heap.size < X.heap.size := hgX.out.lt
            clear hD hC hg
            obtain ⟨q, hq⟩ : ∃ q, od.tmod 5 = q := ⟨_, rfl⟩
            by_cases hq0 : q = 0
            · subst hq0
              by_cases hin : 0 ≤ oa ∧ oa < 10
              · obtain ⟨i1, i2⟩ := hin
                obtain ⟨a, rfl⟩ : ∃ a : Nat, oa = a := ⟨oa.toNat, by omega⟩
                have cT : X.cell? ⟨g, a, none⟩ = some (.bool (T a)) := by rw [Blk.cell hTX.out a, List.getElem?_toArray, boolsL_at T (by omega)]
                have fT : X.frozen? ⟨g, a, none⟩ = false := Blk.frozen hTX.out a
                have hlg : g < X.heap.size := hTX.out.lt
                have hne : g ≠ wr.heap.size := by omega
                go_upto_region 21 with fail
                refine abs_wp (fun Y => Tch (fun k => k = g) X Y ∧ Blk Y g 57 (boolsL (updT T a)).toArray) ⟨(Tch.refl (fun k => k = g) X).set (p := ⟨g, a, none⟩) (fun _ => rfl) _, Blk.set' hTX.out a _ (boolsL_set T a)⟩ ?_
                rintro Y ⟨htY, hTY⟩
                have hsY := htY.size
                replace hgX := Lib.hid (hgX.out.tch htY (fun x => hne x.symm))
                replace hDX := Lib.hid (hDX.out.tch htY (fun k h1 h2 => hgn.out (h2 ▸ h1)))
                replace hCX := Lib.hid (hCX.out.tch htY (fun k h1 h2 => by subst h2; exact absurd h1.2 (Nat.not_lt.2 hgg)))
                replace hBX := Lib.hid (hBX.out.trans (htY.below (B := w.heap.size) hBX.out.size (fun k h1 h2 => by omega)))
                replace hTX := Lib.hid hTY
                replace hsX := Nat.le_trans hsX hsY
                clear y0 y1 y2 y3 y4 y5 yl cT fT htY hTY hlg
                have y0 : Y.cell? ⟨wr.heap.size, 0, none⟩ = some (.int .u8 od) := hgX.out.cell 0
                have y1 : Y.cell? ⟨wr.heap.size, 1, none⟩ = some (.int .i64 (a : Int)) := hgX.out.cell 1
                have y2 : Y.cell? ⟨wr.heap.size, 2, none⟩ = some (.int .u8 oy) := hgX.out.cell 2
                have y3 : Y.cell? ⟨wr.heap.size, 3, none⟩ = some (.int .u16 om) := hgX.out.cell 3
                have y4 : Y.cell? ⟨wr.heap.size, 4, none⟩ = some (.int .i8 ol) := hgX.out.cell 4
                have y5 : Y.cell? ⟨wr.heap.size, 5, none⟩ = some (.slice oA oN oC) := hgX.out.cell 5
                have yl : wr.heap.size < Y.heap.size := hgX.out.lt
                obtain ⟨hJ2, hS2, hT2⟩ := hJ.out.write (a : Int) ll bb
                have hT3 := Lib.hid (hT2 (updT T a) (fun i hi => by unfold updT; split; rfl; exact hT.out i hi) (fun b h1 h2 h3 => by unfold updT; rw [if_pos (by omega)]))
                replace hS2 := Lib.hid (hS2.trans hS.out)
                have cW := Lib.hid (fun (W : World) (A3 : Option Addr) (c3 : Nat) (hb : Below Y.heap.size Y W) (h1 : ll ≤ c3) (h2 : c3 ≤ maxLen) (h3 : SlIs W A3 ll (fun j => .int .u8 (bb j))) => writeX (d := d) (a : Int) A3 ll c3 bb h1 h2 (by rw [hJ.out.n]; omega) (by have := hJ.out.m; omega) (by have := hJ.out.k; omega) (by rw [hJ.out.f]; omega) W (hDX.out.kept hb) (fun k hk => ⟨Nat.le_trans hBX.out.size (Nat.le_trans hb.size hk), Or.inr (Nat.le_trans hsg (Nat.le_trans hsX (Nat.le_trans hb.size hk)))⟩) h3)
                replace hJ2 := Lib.hid hJ2
                clear hT2
                go_upto_region 22 with fail
                go_region_with (
                  first
                  | (go_at_call 21
                     refine (cB.out _).mono ?_
                     rintro e3 w3 ⟨A3, c3, rfl, hs3, hc31, hc32, hb3⟩
                     have hb3' : Below Y.heap.size Y w3 := bel_eld (Below.drew (Below.refl _ _)) hb3
                     have z1 : w3.cell? ⟨wr.heap.size, 1, none⟩ = some (.int .i64 (a : Int)) := (hgX.out.kept hb3').cell 1
                     have zl : wr.heap.size < w3.heap.size := (hgX.out.kept hb3').lt
                     have hB3 := Lib.hid (bel_eld hBX.out hb3')
                     have hsz3 := hb3'.size
                     replace hs3 := Lib.hid hs3
                     replace hb3' := Lib.hid hb3'
                     clear hb3)
                  | (go_at_call 12
                     refine (cW.out _ A3 c3 hb3'.out hc31 hc32 hs3.out).mono ?_
                     rintro e4 w4 ⟨rfl, hD4, ht4⟩
                     have hs4 := ht4.size
                     replace hD4 := Lib.hid hD4
                     replace ht4 := Lib.hid ht4))
                all_goals (
                  have hCf := Lib.hid ((hCX.out.kept hb3'.out).tch ht4.out (fun k h1 h2 => hdis.out k h1 h2))
                  have hgf := Lib.hid ((hTX.out.kept hb3'.out).tch ht4.out hgn.out)
                  go_wp2_with fail
                  go_roundw
                  case rel => exact ⟨t + 1, _, _, by omega, by go_num, Lib.hid (hJ2.out.up (by omega)), hD4, hCf, hgf, hT3, hS2, Lib.hid (hB3.out.trans (ht4.out.below (Nat.le_trans hBX.out.size hsz3) (fun k h1 h2 => absurd h2.1 (Nat.not_le.2 h1)))), by omega⟩
                  case measure => simp [intOf]; omega)
              · have hin2 : oa < 0 ∨ (0 ≤ oa ∧ 10 ≤ oa) := by omega
                clear hin
                rcases hin2 with hin | ⟨hin, hin2⟩
                · obtain ⟨hJ2, hS2, hT2⟩ := hJ.out.write oa ll bb
                  have hT3 := Lib.hid (hT2 T hT.out (fun b h1 h2 h3 => by omega))
                  replace hS2 := Lib.hid (hS2.trans hS.out)
                  have cW := Lib.hid (fun (W : World) (A3 : Option Addr) (c3 : Nat) (hb : Below X.heap.size X W) (h1 : ll ≤ c3) (h2 : c3 ≤ maxLen) (h3 : SlIs W A3 ll (fun j => .int .u8 (bb j))) => writeX (d := d) oa A3 ll c3 bb h1 h2 (by rw [hJ.out.n]; omega) (by have := hJ.out.m; omega) (by have := hJ.out.k; omega) (by rw [hJ.out.f]; omega) W (hDX.out.kept hb) (fun k hk => ⟨Nat.le_trans hBX.out.size (Nat.le_trans hb.size hk), Or.inr (Nat.le_trans hsg (Nat.le_trans hsX (Nat.le_trans hb.size hk)))⟩) h3)
                  replace hJ2 := Lib.hid hJ2
                  clear hT2
                  go_upto_region 22 with fail
                  go_region_with (
                    first
                    | (go_at_call 21
                       refine (cB.out _).mono ?_
                       rintro e3 w3 ⟨A3, c3, rfl, hs3, hc31, hc32, hb3⟩
                       have hb3' : Below X.heap.size X w3 := bel_eld (Below.drew (Below.refl _ _)) hb3
                       have z1 : w3.cell? ⟨wr.heap.size, 1, none⟩ = some (.int .i64 oa) := (hgX.out.kept hb3').cell 1
                       have zl : wr.heap.size < w3.heap.size := (hgX.out.kept hb3').lt
                       have hB3 := Lib.hid (bel_eld hBX.out hb3')
                       have hsz3 := hb3'.size
                       replace hs3 := Lib.hid hs3
                       replace hb3' := Lib.hid hb3'
                       clear hb3)
                    | (go_at_call 12
                       refine (cW.out _ A3 c3 hb3'.out hc31 hc32 hs3.out).mono ?_
                       rintro e4 w4 ⟨rfl, hD4, ht4⟩
                       have hs4 := ht4.size
                       replace hD4 := Lib.hid hD4
                       replace ht4 := Lib.hid ht4))
                  all_goals (
                    have hCf := Lib.hid ((hCX.out.kept hb3'.out).tch ht4.out (fun k h1 h2 => hdis.out k h1 h2))
                    have hgf := Lib.hid ((hTX.out.kept hb3'.out).tch ht4.out hgn.out)
                    go_wp2_with fail
                    go_roundw
                    case rel => exact ⟨t + 1, _, _, by omega, by go_num, Lib.hid (hJ2.out.up (by omega)), hD4, hCf, hgf, hT3, hS2, Lib.hid (hB3.out.trans (ht4.out.below (Nat.le_trans hBX.out.size hsz3) (fun k h1 h2 => absurd h2.1 (Nat.not_le.2 h1)))), by omega⟩
                    case measure => simp [intOf]; omega)
                · obtain ⟨hJ2, hS2, hT2⟩ := hJ.out.write oa ll bb
                  have hT3 := Lib.hid (hT2 T hT.out (fun b h1 h2 h3 => by omega))
                  replace hS2 := Lib.hid (hS2.trans hS.out)
                  have cW := Lib.hid (fun (W : World) (A3 : Option Addr) (c3 : Nat) (hb : Below X.heap.size X W) (h1 : ll ≤ c3) (h2 : c3 ≤ maxLen) (h3 : SlIs W A3 ll (fun j => .int .u8 (bb j))) => writeX (d := d) oa A3 ll c3 bb h1 h2 (by rw [hJ.out.n]; omega) (by have := hJ.out.m; omega) (by have := hJ.out.k; omega) (by rw [hJ.out.f]; omega) W (hDX.out.kept hb) (fun k hk => ⟨Nat.le_trans hBX.out.size (Nat.le_trans hb.size hk), Or.inr (Nat.le_trans hsg (Nat.le_trans hsX (Nat.le_trans hb.size hk)))⟩) h3)
                  replace hJ2 := Lib.hid hJ2
                  clear hT2
                  go_upto_region 22 with fail
                  go_region_with (
                    first
                    | (go_at_call 21
                       refine (cB.out _).mono ?_
                       rintro e3 w3 ⟨A3, c3, rfl, hs3, hc31, hc32, hb3⟩
                       have hb3' : Below X.heap.size X w3 := bel_eld (Below.drew (Below.refl _ _)) hb3
                       have z1 : w3.cell? ⟨wr.heap.size, 1, none⟩ = some (.int .i64 oa) := (hgX.out.kept hb3').cell 1
                       have zl : wr.heap.size < w3.heap.size := (hgX.out.kept hb3').lt
                       have hB3 := Lib.hid (bel_eld hBX.out hb3')
                       have hsz3 := hb3'.size
                       replace hs3 := Lib.hid hs3
                       replace hb3' := Lib.hid hb3'
                       clear hb3)
                    | (go_at_call 12
                       refine (cW.out _ A3 c3 hb3'.out hc31 hc32 hs3.out).mono ?_
                       rintro e4 w4 ⟨rfl, hD4, ht4⟩
                       have hs4 := ht4.size
                       replace hD4 := Lib.hid hD4
                       replace ht4 := Lib.hid ht4))
                  all_goals (
                    have hCf := Lib.hid ((hCX.out.kept hb3'.out).tch ht4.out (fun k h1 h2 => hdis.out k h1 h2))
                    have hgf := Lib.hid ((hTX.out.kept hb3'.out).tch ht4.out hgn.out)
                    go_wp2_with fail
                    go_roundw
                    case rel => exact ⟨t + 1, _, _, by omega, by go_num, Lib.hid (hJ2.out.up (by omega)), hD4, hCf, hgf, hT3, hS2, Lib.hid (hB3.out.trans (ht4.out.below (Nat.le_trans hBX.out.size hsz3) (fun k h1 h2 => absurd h2.1 (Nat.not_le.2 h1)))), by omega⟩
                    case measure => simp [intOf]; omega)
            · go_wp2_with fail
              go_roundw
              case rel => exact ⟨t + 1, d, T, by omega, by go_num, Lib.hid (hJ.out.up (by omega)), hDX, hCX, hTX, hT, hS, hBX, by omega⟩
              case measure => simp [intOf]; omega

          · obtain rfl : n2 = t := by omega
            have cK := Lib.hid (crashX (d := d) AL nl cl lf lt hnl hcl'.out (by rw [hJ.out.n]; omega) (by rw [hJ.out.n]; omega) (by have := hJ.out.m; omega) (fun i hi => by rw [hJ.out.n]; exact hJ.out.P i hi) wr hD.out (hL.out.below hb.out) (fun a e h0 hlt h2 => by
              obtain ⟨b, p, e2, hbl, _⟩ := hL.out h0
              rw [e2] at e
              cases e
              exact absurd h2.1 (Nat.not_le.2 hbl)))
            have hcur : Hid (∀ b, b < 10 → T b = false → (d.crash lf lt nl).cur b = d1.cur b) := Lib.hid (fun b hb hTb => by
              rw [crash_cur (fun i hi e => by have := hT.out i hi; rw [e, hTb] at this; cases this), cur_zero hm1, hS.out])
            have hJ3 := Lib.hid (hJ.out.crash lf lt nl)
            have hm3 : (d.crash lf lt nl).m = 0 := rfl
            generalize d.crash lf lt nl = d3 at *
            clear hT hS hJ
            go_wp2_with fail
            refine cK.out.mono ?_
            rintro e5 w5 ⟨rfl, hD5, ht5⟩
            have hs5 := ht5.size
            have hC5 := Lib.hid (hC.out.tch ht5 (fun k h1 h2 => hdis.out k h1 h2))
            have hg5 := Lib.hid (hg.out.tch ht5 hgn.out)
            have hb5 := Lib.hid (hb.out.trans (ht5.below hb.out.size (fun k h1 h2 => absurd h2.1 (Nat.not_le.2 h1))))
            replace hD5 := Lib.hid hD5
            clear cK ht5 hD hC hg hb
            go_wp2_with fail
            go_loopw [108] (fun i wr => ∃ (j : Nat), j ≤ 10 ∧ i = .int .i64 j ∧ Hid (DkX wr B (fun k => w.heap.size ≤ k ∧ (k < m0 ∨ m1 ≤ k)) d3) ∧ Hid (DkX wr B' (fun k => m0 ≤ k ∧ k < g) d1) ∧ Hid (Blk wr g 57 (boolsL T).toArray) ∧ Hid (Below w.heap.size w wr)) (fun i _ => 10 - (intOf i).toNat)
            case atStart => exact ⟨0, by omega, rfl, hD5, hC5, hg5, hb5⟩
            case round =>
              clear hD5 hC5 hg5 hb5 hs5 hsg
              obtain ⟨j, hj, rfl, hD, hC, hg, hb⟩ := hrel
              by_cases hj10 : j < 10
              · have cR := Lib.hid (readX (d := d3) (j : Int) (by rw [hJ3.out.n]; omega) (by omega) wr hD.out)
                rw [hJ3.out.rerr (by omega) (by omega)] at cR
                rw [Int.toNat_natCast] at cR
                go_wp2_with fail
                refine cR.out.mono ?_
                rintro e6 w6 ⟨v6, rfl, _, ho6, hD6, hb6⟩
                obtain ⟨A6, c6, rfl, _, _, sl6⟩ := owB_slis (ho6 trivial)
                have cR2 := Lib.hid (readX (d := d1) (j : Int) (by rw [hJ1.out.n]; omega) (by omega) w6 (hC.out.kept hb6))
                rw [hJ1.out.rerr (by omega) (by omega)] at cR2
                rw [Int.toNat_natCast] at cR2
                replace sl6 := Lib.hid sl6
                have hB6 := Lib.hid (bel_eld hb.out hb6)
                have hg6 := Lib.hid (hg.out.kept hb6)
                replace hD6 := Lib.hid hD6
                clear cR ho6 hD hC hg hb hb6
                go_wp2_with fail
                refine cR2.out.mono ?_
                rintro e7 w7 ⟨v7, rfl, _, ho7, hC7, hb7⟩
                obtain ⟨A7, c7, rfl, _, _, sl7⟩ := owB_slis (ho7 trivial)
                have k6 : (convert 39 9 (.slice A6 512 c6)).run Try.prog w7 = .ok (.string (strF (d3.cur j) 512)) w7 := convB (slis_below sl6.out hb7) c6
                have k7 : (convert 39 9 (.slice A7 512 c7)).run Try.prog w7 = .ok (.string (strF (d1.cur j) 512)) w7 := convB sl7 c7
                have hB7 := Lib.hid (bel_eld hB6.out hb7)
                have hg7 := Lib.hid (hg6.out.kept hb7)
                have hD7 := Lib.hid (hD6.out.kept hb7)
                replace hC7 := Lib.hid hC7
                have cg : w7.cell? ⟨g, j, none⟩ = some (.bool (T j)) := by rw [Blk.cell hg7.out j, List.getElem?_toArray, boolsL_at T (by omega)]
                clear cR2 ho7 sl6 sl7 hB6 hg6 hD6 hb7
                cases hTj : T j with
                | true =>
                  rw [hTj] at cg
                  clear k6 k7
                  go_wp2_with fail
                  go_roundw
                  case rel => exact ⟨j + 1, by omega, by go_num, hD7, hC7, hg7, hB7⟩
                  case measure => simp [intOf]; omega
                | false =>
                  rw [hTj] at cg
                  rw [hcur.out j (by omega) hTj] at k6
                  generalize strF (d1.cur j) 512 = S at *
                  go_wp2_with fail
                  go_roundw
                  case rel => exact ⟨j + 1, by omega, by go_num, hD7, hC7, hg7, hB7⟩
                  case measure => simp [intOf]; omega
              · obtain rfl : j = 10 := by omega
                go_wp2_with fail
                refine (hfix.out wr).mono ?_
                rintro e8 w8 ⟨rfl, hb8⟩
                have cD := Lib.hid (downX w8 (hD.out.kept hb8))
                have cT := Lib.hid (waitsX w8 (hD.out.kept hb8))
                rw [hJ3.out.dn] at cD
                have cT2 : Hid (Calls Try.prog 22 #[.pointer (some ⟨B, 0, none⟩)] w8 fun r w' => r = .returned (.int .i64 0) ∧ w' = w8) := Lib.hid (by have := cT.out; rw [hm3] at this; exact this)
                have hB8 := Lib.hid (bel_eld hb.out hb8)
                clear cT hD hC hg hb hb8
                go_wp2_with fail
                refine cD.out.mono ?_
                rintro e9 w9 ⟨rfl, rfl⟩
                go_wp2_with fail
                refine cT2.out.mono ?_
                rintro e10 w10 ⟨rfl, rfl⟩
                go_wp2_with fail
                go_ret
                exact ⟨rfl, hB8.out⟩
end Go.Proofs.Ytnbfnlpepnbppaa
