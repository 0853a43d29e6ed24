/-
  DiskFalls, walked (given fixed).
-/
import Derived.Test.YtnbfnlpepnbppaaDkO
namespace Go.Proofs.Ytnbfnlpepnbppaa
set_option linter.unusedVariables false
set_option linter.unusedSimpArgs false
open Go.RowKit Go.Shelf
attribute [local irreducible] bytesL

/-- what is known of a disk of eight blocks behind t acts, its fuse being left -/
structure FJ (d : DS) (left : Int) (t : Nat) : Prop where
  n : d.n = 8
  dn : d.dn = decide (left < 0)
  f : d.dn = false → d.f = left
  fm : d.f < 1000
  m : d.m ≤ t
  k : d.k ≤ t
  P : ∀ i, i < d.m → d.P i < 8
theorem FJ.write {d : DS} {left : Int} {t : Nat} {a : Int} {e : Nat → Int} (h : FJ d left t) (ha : 0 ≤ a ∧ a < 8) : FJ (d.write a 512 e) (left - 1) (t + 1) ∧ d.werr a 512 = if 0 ≤ left - 1 then 0 else 7 := by
  have hn := h.n
  cases hd : d.dn with
  | true =>
    have hl : left < 0 := of_decide_eq_true (h.dn.symm.trans hd)
    have hw : d.write a 512 e = d := by unfold DS.write; rw [if_neg (by unfold DS.wok; rw [hd]; simp)]
    rw [hw]
    refine ⟨⟨h.n, by rw [hd]; exact (decide_eq_true (by omega)).symm, fun x => Bool.noConfusion (hd.symm.trans x), h.fm, by have := h.m; omega, by have := h.k; omega, h.P⟩, ?_⟩
    unfold DS.werr
    rw [if_pos hd, if_neg (by omega)]
  | false =>
    have hl : ¬ left < 0 := of_decide_eq_false (h.dn.symm.trans hd)
    have hf := h.f hd
    have hw : d.write a 512 e = (d.put a.toNat e).act := by unfold DS.write; rw [if_pos (show d.wok a 512 from ⟨hd, ha.1, by rw [hn]; omega, rfl⟩)]
    have he : d.werr a 512 = if d.f = 0 then 7 else 0 := by unfold DS.werr; rw [if_neg (by rw [hd]; simp), if_neg (by rw [hn]; omega), if_neg (by omega)]
    have hP : ∀ i, i < (d.put a.toNat e).m → (d.put a.toNat e).P i < 8 := fun i hi => by
      show updN d.P d.m a.toNat i < 8
      unfold updN
      split
      · omega
      · have : i < d.m + 1 := hi
        exact h.P i (by omega)
    rw [hw, he]
    unfold DS.act
    have hfp : (d.put a.toNat e).f = d.f := rfl
    rw [hfp]
    by_cases h0 : d.f = 0
    · rw [if_pos h0, if_pos h0, if_neg (by omega)]
      exact ⟨⟨hn, (decide_eq_true (by omega)).symm, (fun x => nomatch x), h.fm, by have := h.m; show d.m + 1 ≤ t + 1; omega, by have := h.k; show d.k + 1 ≤ t + 1; omega, hP⟩, rfl⟩
    · rw [if_neg h0, if_neg h0, if_pos (by omega), if_pos (by omega)]
      exact ⟨⟨hn, by show d.dn = _; rw [hd]; exact (decide_eq_false (by omega)).symm, fun _ => by show d.f - 1 = _; omega, by show d.f - 1 < 1000; have := h.fm; omega, by have := h.m; show d.m + 1 ≤ t + 1; omega, by have := h.k; show d.k + 1 ≤ t + 1; omega, hP⟩, rfl⟩
theorem FJ.sync {d : DS} {left : Int} {t : Nat} (h : FJ d left t) : FJ d.sync (left - 1) (t + 1) ∧ d.serr = if 0 ≤ left - 1 then 0 else 7 := by
  have hn := h.n
  have hm := h.m
  have hk := h.k
  cases hd : d.dn with
  | true =>
    have hl : left < 0 := of_decide_eq_true (h.dn.symm.trans hd)
    have hw : d.sync = d := by unfold DS.sync; rw [if_pos hd]
    rw [hw]
    refine ⟨⟨h.n, by rw [hd]; exact (decide_eq_true (by omega)).symm, fun x => Bool.noConfusion (hd.symm.trans x), h.fm, by omega, by omega, h.P⟩, ?_⟩
    unfold DS.serr
    rw [if_pos (Or.inl hd), if_neg (by omega)]
  | false =>
    have hl : ¬ left < 0 := of_decide_eq_false (h.dn.symm.trans hd)
    have hf := h.f hd
    unfold DS.sync DS.serr
    rw [if_neg (by rw [hd]; simp)]
    by_cases h0 : d.f = 0
    · rw [if_pos h0, if_pos (Or.inr h0), if_neg (by omega)]
      unfold DS.act
      rw [if_pos h0]
      exact ⟨⟨hn, (decide_eq_true (by omega)).symm, (fun x => nomatch x), h.fm, by show d.m ≤ t + 1; omega, by show d.k ≤ t + 1; omega, h.P⟩, rfl⟩
    · rw [if_neg h0, if_neg (by rw [hd]; simp; exact h0), if_pos (by omega)]
      unfold DS.act
      rw [if_neg h0, if_pos (by omega)]
      exact ⟨⟨hn, by show d.dn = _; rw [hd]; exact (decide_eq_false (by omega)).symm, fun _ => by show d.f - 1 = _; omega, by show d.f - 1 < 1000; have := h.fm; omega, Nat.zero_le _, by show d.k ≤ t + 1; omega, fun i hi => absurd hi (Nat.not_lt_zero i)⟩, rfl⟩
theorem ops_at {W : World} {A : Option Addr} {n i : Nat} {o : Nat → OpV} (h : OpsIs W A n o) (hi : i < n) : ∃ b p, A = some ⟨b, p, none⟩ ∧ b < W.heap.size ∧ W.cell? ⟨b, p + i * 6, none⟩ = some (.int .u8 (o i).d) ∧ W.cell? ⟨b, p + i * 6 + 1, none⟩ = some (.int .i64 (o i).at_) ∧ W.cell? ⟨b, p + i * 6 + 2, none⟩ = some (.int .u8 (o i).y) ∧ W.cell? ⟨b, p + i * 6 + 3, none⟩ = some (.int .u16 (o i).mr) ∧ W.cell? ⟨b, p + i * 6 + 4, none⟩ = some (.int .i8 (o i).lg) ∧ W.cell? ⟨b, p + i * 6 + 5, none⟩ = some (.slice (o i).A (o i).n (o i).c) := by
  obtain ⟨b, p, e, hl, hc⟩ := h.1 (by omega)
  have q := hc i hi
  exact ⟨b, p, e, hl, by simpa [ocl] using q 0 _ rfl, by simpa [ocl] using q 1 _ rfl, by simpa [ocl] using q 2 _ rfl, by simpa [ocl] using q 3 _ rfl, by simpa [ocl] using q 4 _ rfl, by simpa [ocl] using q 5 _ rfl⟩
set_option maxRecDepth 8000 in
set_option maxHeartbeats 8000000 in
theorem diskFalls_of (hfix : ∀ W, Calls Try.prog 8 #[] W fun r w' => r = .returned (.bool true) ∧ Below W.heap.size W w') (A : Option Addr) (n c : Nat) (o : Nat → OpV) (hn : n ≤ c) (hc : c ≤ maxLen) (z : Int) (hz1 : 0 ≤ z) (hz2 : z < 256) (w : World) (hO : OpsIs w A n o) :
    Calls Try.prog 4 #[.slice A n c, .int .u8 z] w fun r w' => r = .returned (.bool true) ∧ Below w.heap.size w w' := by
  replace hO := Lib.hid hO
  replace hfix := Lib.hid hfix
  unfold maxLen at hc
  go_enter Try.func4, Try.ntmps4
  by_cases h60p : 60 < n
  · go_wp2_with fail
    refine (hfix.out w).mono ?_
    rintro e1 w1 ⟨rfl, hb1⟩
    go_wp2_with fail
    go_ret
    exact ⟨rfl, hb1⟩
  · have cN := Lib.hid (newL 8 (by omega) (by omega) w)
    go_wp2_with fail
    refine cN.out.mono ?_
    rintro e1 w1 ⟨B, rfl, hD1, hb1⟩
    have hs1 := hb1.size
    have cF := Lib.hid (fuseL z w1 hD1)
    clear hD1 cN
    go_wp2_with fail
    refine cF.out.mono ?_
    rintro e2 w2 ⟨rfl, hD2, ht2⟩
    have hb2 := Lib.hid (hb1.trans (ht2.below hs1 (fun k h1 h2 => by omega)))
    have hs2 := ht2.size
    have hJ0 : Hid (FJ ((DS.new 8).fuse z) z 0) := Lib.hid ⟨rfl, by show false = _; exact (decide_eq_false (by omega)).symm, fun _ => by show max z (-1) = z; omega, by show max z (-1) < 1000; omega, Nat.le_refl _, Nat.le_refl _, fun i hi => absurd hi (Nat.not_lt_zero i)⟩
    clear ht2 cF hb1
    replace hD2 := Lib.hid hD2
    go_wp2_with fail
    go_loopw [7, 39] (fun v i wr => ∃ (t hi : Nat) (left : Int) (d : DS), t ≤ n ∧ i = .int .i64 t ∧ v = .int .i64 left ∧ left = z - t ∧ Hid (FJ d left t) ∧ Hid (DkL wr B w.heap.size hi d) ∧ w.heap.size ≤ hi ∧ hi ≤ wr.heap.size ∧ Hid (Below w.heap.size w wr)) (fun _ i _ => n - (intOf i).toNat)
    case atStart => exact ⟨0, _, z, _, by omega, rfl, rfl, by omega, hJ0, hD2, hs1, hs2, hb2⟩
    case round =>
      clear hJ0 hD2 hb2
      obtain ⟨t, hi, left, d, ht, rfl, rfl, hleft, hJ, hD, hlo, hhi, hb⟩ := hrel
      have hlb1 : -61 ≤ left := by omega
      have hlb2 : left ≤ 255 := by omega
      replace hleft := Lib.hid hleft
      by_cases hlt : t < n
      · obtain ⟨bo, po, rfl, hol, x0, x1, x2, x3, x4, x5⟩ := ops_at (hO.out.kept hb.out) hlt
        have hok := (hO.out.2 t hlt)
        obtain ⟨r1, r2⟩ := hok.d
        obtain ⟨r3, r4⟩ := hok.y
        obtain ⟨r5, r6⟩ := hok.mr
        clear hok
        generalize (o t).d = od at *
        generalize (o t).at_ = oa at *
        generalize (o t).y = oy at *
        generalize (o t).mr = om at *
        generalize (o t).lg = ol at *
        generalize (o t).A = oA at *
        generalize (o t).n = oN at *
        generalize (o t).c = oC at *
        go_upto_region 11 with fail
        refine abs_wp (fun X => Below wr.heap.size wr X ∧ Blk X wr.heap.size 38 #[.int .u8 od, .int .i64 oa, .int .u8 oy, .int .u16 om, .int .i8 ol, .slice oA oN oC]) ⟨bel_alloc (Below.refl _ _) _, Blk.new _ _ _⟩ ?_
        rintro X ⟨hbX, gX⟩
        have y0 := gX.cell 0
        have y1 := gX.cell 1
        have y2 := gX.cell 2
        have y3 := gX.cell 3
        have yl := gX.lt
        have hsX := hbX.size
        have hDX := Lib.hid (hD.out.kept hbX)
        have hBX := Lib.hid (bel_eld hb.out hbX)
        clear hbX gX hD hb x0 x1 x2 x3 x4 x5
        have ha : 0 ≤ wrap64 ((IntKind.u64.wrap oa).tmod 8) ∧ wrap64 ((IntKind.u64.wrap oa).tmod 8) < 8 := by
          rw [IntKind.wrap_u64, Int.tmod_eq_emod_of_nonneg (by omega)]
          unfold wrap64
          omega
        go_upto_region 12 with fail
        generalize wrap64 ((IntKind.u64.wrap oa).tmod 8) = a at *
        by_cases hev : od.tmod 2 = 0
        · have cU := Lib.hid (full_any oy om ⟨r5, r6⟩ X)
          go_wp2_with fail
          refine cU.out.mono ?_
          rintro e3 w3 ⟨g3, rfl, hR3, hg3, hb3⟩
          have hs3 := hb3.size
          obtain ⟨hJ2, hwe⟩ := hJ.out.write (a := a) (e := fullD oy om) ha
          have cW := Lib.hid (writeL (d := d) a (some ⟨g3, 0, none⟩) 512 512 (fullD oy om) (Nat.le_refl _) (by simp [maxLen]) (by rw [hJ.out.n]; omega) (by have := hJ.out.m; omega) (by have := hJ.out.k; omega) (by have := hJ.out.fm; omega) w3 (hDX.out.kept hb3) (by omega) hlo hR3.slis)
          have hB3 := Lib.hid (bel_eld hBX.out hb3)
          rw [hwe] at cW
          generalize d.write a 512 (fullD oy om) = d2 at *
          replace hJ2 := Lib.hid hJ2
          clear cU hR3 hb3 hDX hBX hwe
          go_wp2_with fail
          refine cW.out.mono ?_
          rintro e4 w4 ⟨rfl, hD4, ht4⟩
          have hs4 := ht4.size
          have hB4 := Lib.hid (hB3.out.trans (ht4.below (by omega) (fun k h1 h2 => by omega)))
          have cD := Lib.hid (downL w4 hD4)
          rw [hJ2.out.dn] at cD
          replace hD4 := Lib.hid hD4
          clear cW ht4 hB3
          by_cases hle : 0 ≤ left - 1
          · have k1 : decide (left - 1 < 0) = false := decide_eq_false (by omega)
            rw [k1] at cD
            rw [if_pos hle]
            go_wp2_with fail
            refine cD.out.mono ?_
            rintro e5 w5 ⟨rfl, rfl⟩
            go_wp2_with fail
            go_roundw
            case rel => exact ⟨t + 1, _, left - 1, d2, by omega, by go_num, rfl, by have := hleft.out; omega, hJ2, hD4, by omega, Nat.le_refl _, hB4⟩
            case measure => simp [intOf]; omega
          · have k1 : decide (left - 1 < 0) = true := decide_eq_true (by omega)
            rw [k1] at cD
            rw [if_neg hle]
            go_wp2_with fail
            refine cD.out.mono ?_
            rintro e5 w5 ⟨rfl, rfl⟩
            go_wp2_with fail
            go_roundw
            case rel => exact ⟨t + 1, _, left - 1, d2, by omega, by go_num, rfl, by have := hleft.out; omega, hJ2, hD4, by omega, Nat.le_refl _, hB4⟩
            case measure => simp [intOf]; omega
        · have hod : od.tmod 2 = 1 := by
            rw [Int.tmod_eq_emod_of_nonneg r1] at hev ⊢
            omega
          clear hev
          obtain ⟨hJ2, hwe⟩ := hJ.out.sync
          have cW := Lib.hid (syncL (d := d) (by rw [hJ.out.n]; omega) (by rw [hJ.out.n]; omega) (by have := hJ.out.m; omega) (fun i hi => by rw [hJ.out.n]; exact hJ.out.P i hi) (by have := hJ.out.fm; omega) X hDX.out)
          rw [hwe] at cW
          generalize d.sync = d2 at *
          replace hJ2 := Lib.hid hJ2
          clear hDX hwe
          go_wp2_with fail
          refine cW.out.mono ?_
          rintro e4 w4 ⟨rfl, hD4, ht4⟩
          have hs4 := ht4.size
          have hB4 := Lib.hid (hBX.out.trans (ht4.below (by omega) (fun k h1 h2 => by omega)))
          have cD := Lib.hid (downL w4 hD4)
          rw [hJ2.out.dn] at cD
          replace hD4 := Lib.hid hD4
          clear cW ht4 hBX
          by_cases hle : 0 ≤ left - 1
          · have k1 : decide (left - 1 < 0) = false := decide_eq_false (by omega)
            rw [k1] at cD
            rw [if_pos hle]
            go_wp2_with fail
            refine cD.out.mono ?_
            rintro e5 w5 ⟨rfl, rfl⟩
            go_wp2_with fail
            go_roundw
            case rel => exact ⟨t + 1, _, left - 1, d2, by omega, by go_num, rfl, by have := hleft.out; omega, hJ2, hD4, by omega, by omega, hB4⟩
            case measure => simp [intOf]; omega
          · have k1 : decide (left - 1 < 0) = true := decide_eq_true (by omega)
            rw [k1] at cD
            rw [if_neg hle]
            go_wp2_with fail
            refine cD.out.mono ?_
            rintro e5 w5 ⟨rfl, rfl⟩
            go_wp2_with fail
            go_roundw
            case rel => exact ⟨t + 1, _, left - 1, d2, by omega, by go_num, rfl, by have := hleft.out; omega, hJ2, hD4, by omega, by omega, hB4⟩
            case measure => simp [intOf]; omega
      · obtain rfl : t = n := by omega
        have hn8 := hJ.out.n
        have hmt := hJ.out.m
        have hP8 := hJ.out.P
        have cR := Lib.hid (readL (d := d) 0 (by omega) (by omega) wr hD.out)
        obtain ⟨er, her⟩ : ∃ er, er = d.rerr 0 := ⟨_, rfl⟩
        have her2 : Hid (er = if d.dn = true then 7 else 0) := Lib.hid (by rw [her]; unfold DS.rerr; split; rfl; rw [if_neg (by omega)])
        rw [← her] at cR
        clear hD her
        go_wp2_with fail
        refine cR.out.mono ?_
        rintro e4 w4 ⟨v4, rfl, hv4, ho4, hD4, hb4⟩
        have hv : ∃ A4 c4 n4, v4 = .slice A4 n4 c4 := by
          by_cases h0 : er = 0
          · obtain ⟨A4, c4, e⟩ := (ho4 h0).form
            exact ⟨A4, c4, 512, e⟩
          · exact ⟨none, 0, 0, hv4 h0⟩
        obtain ⟨A4, c4, n4, rfl⟩ := hv
        have hB4 := Lib.hid (bel_eld hb.out hb4)
        have hs4 := hb4.size
        have cD := Lib.hid (downL w4 hD4)
        have cC := Lib.hid (crashL (d := d) none 0 0 (fun _ => 0) (fun _ => 0) (Nat.le_refl _) (by simp [maxLen]) (by omega) (by omega) (by omega) (fun i hi => by rw [hn8]; exact hP8 i hi) w4 hD4 SsIs.nil (fun a e _ => by cases e))
        clear cR hD4 hb4 hb hv4 ho4
        go_wp2_with fail
        refine cD.out.mono ?_
        rintro e5 w5 ⟨rfl, rfl⟩
        go_wp2_with fail
        refine cC.out.mono ?_
        rintro e6 w6 ⟨rfl, hD6, ht6⟩
        have hs6 := ht6.size
        have hB6 := Lib.hid (hB4.out.trans (ht6.below (by omega) (fun k h1 h2 => by omega)))
        have cR2 := Lib.hid (readL (d := d.crash (fun _ => 0) (fun _ => 0) 0) 0 (by show d.n ≤ 4096; omega) (by show 0 ≤ 100000; omega) w6 hD6)
        have he0 : (d.crash (fun _ => 0) (fun _ => 0) 0).rerr 0 = 0 := by unfold DS.rerr; rw [if_neg (by show ¬ false = true; simp), if_neg (by show ¬ ((0 : Int) < 0 ∨ ((d.n : Nat) : Int) ≤ 0); omega)]
        rw [he0] at cR2
        clear cC cD ht6 hD6
        go_wp2_with fail
        refine cR2.out.mono ?_
        rintro e7 w7 ⟨v7, rfl, _, ho7, hD7, hb7⟩
        obtain ⟨A7, c7, rfl⟩ := (ho7 trivial).form
        have hB7 := Lib.hid (bel_eld hB6.out hb7)
        replace hD7 := Lib.hid hD7
        clear ho7 hb7 cR2
        go_wp2_with fail
        refine (hfix.out w7).mono ?_
        rintro e8 w8 ⟨rfl, hb8⟩
        have hB8 := Lib.hid (bel_eld hB7.out hb8)
        have cD8 := Lib.hid (downL w8 (hD7.out.kept hb8))
        have hdc : (d.crash (fun _ => 0) (fun _ => 0) 0).dn = false := rfl
        rw [hdc] at cD8
        clear hb8 hdc
        cases hdn : d.dn with
        | true =>
          have e7 : er = 7 := by rw [her2.out, if_pos hdn]
          subst e7
          go_wp2_with fail
          refine cD8.out.mono ?_
          rintro e9 w9 ⟨rfl, rfl⟩
          go_wp2_with fail
          go_ret
          exact ⟨rfl, hB8.out⟩
        | false =>
          have e7 : er = 0 := by rw [her2.out, if_neg (by rw [hdn]; simp)]
          subst e7
          go_wp2_with fail
          refine cD8.out.mono ?_
          rintro e9 w9 ⟨rfl, rfl⟩
          go_wp2_with fail
          go_ret
          exact ⟨rfl, hB8.out⟩
end Go.Proofs.Ytnbfnlpepnbppaa
