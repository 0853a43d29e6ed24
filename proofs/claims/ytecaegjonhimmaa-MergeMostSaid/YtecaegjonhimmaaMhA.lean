/-
  MergeMost, walked.
-/
import Derived.Test.YtecaegjonhimmaaMgY
namespace Go.Proofs.Ytecaegjonhimmaa
set_option linter.unusedVariables false
set_option linter.unusedSimpArgs false
open Go.RowKit Go.Shelf

theorem RestIs.item {w : World} {lo hi n c : Nat} {A : Option Addr} {R : List (Nat → Int)} {m j : Nat} (h : RestIs w lo hi (.slice A n c) R m) (hj : m + j < R.length) :
    ∃ b o, A = some ⟨b, o, none⟩ ∧ b < w.heap.size ∧ w.cell? ⟨b, o + j * 4, none⟩ = some (.int .u64 (atL R (m + j) 0)) ∧ w.cell? ⟨b, o + j * 4 + 1, none⟩ = some (.int .u64 (atL R (m + j) 1)) ∧ w.cell? ⟨b, o + j * 4 + 2, none⟩ = some (.int .u64 (atL R (m + j) 2)) ∧ w.cell? ⟨b, o + j * 4 + 3, none⟩ = some (.int .u8 (atL R (m + j) 3)) := by
  obtain ⟨A', c', e9, _, _, hs, _⟩ := h
  injection e9 with f1 f2 f3
  subst f1
  obtain ⟨b, o, e, hl, hc⟩ := hs (by omega)
  have q := hc j (by omega)
  exact ⟨b, o, e, hl, by simpa [icl] using q 0 _ rfl, by simpa [icl] using q 1 _ rfl, by simpa [icl] using q 2 _ rfl, by simpa [icl] using q 3 _ rfl⟩
theorem RestIs.adv {w : World} {lo hi n c : Nat} {A : Option Addr} {R : List (Nat → Int)} {m k : Nat} (h : RestIs w lo hi (.slice A n c) R m) (hk : m + k ≤ R.length) :
    RestIs w lo hi (.slice (if c = k then A else Option.map (fun x => x.add (k * 4)) A) (n - k) (c - k)) R (m + k) := by
  obtain ⟨A', c', e9, h1, h2, hs, h5⟩ := h
  injection e9 with f1 f2 f3
  subst f1 f2 f3
  refine ⟨_, c - k, by rw [Nat.sub_sub], by omega, by omega, fun hp => ?_, fun a ha => ?_⟩
  · rw [if_neg (by omega)]
    obtain ⟨b, o, e, hl, hc⟩ := hs (by omega)
    subst e
    refine ⟨b, o + k * 4, by simp [Addr.add], hl, fun j hj => ?_⟩
    have := hc (k + j) (by omega)
    rw [show o + k * 4 + j * 4 = o + (k + j) * 4 by omega]
    dsimp only
    rw [show m + k + j = m + (k + j) by omega]
    exact this
  · split at ha
    · exact h5 a ha
    · cases A with
      | none => cases ha
      | some a0 =>
        cases ha
        have := h5 a0 rfl
        unfold Addr.add
        split <;> exact this
theorem atL_some {R l : List (Nat → Int)} {m j : Nat} (h : l = (R.drop m).take l.length) (hj : j < l.length) : atL R (m + j) = atL l j := by
  rw [h, ← atL_drop]
  unfold atL
  rw [List.getD_eq_getElem?_getD, List.getD_eq_getElem?_getD, List.getElem?_take, if_pos hj]

set_option maxRecDepth 4000 in
set_option maxHeartbeats 8000000 in
theorem mergeMost_any (dn : Bool) (A : Option Addr) (n c : Nat) (L : Nat → List (Nat → Int)) (hn : n ≤ c) (hc : c ≤ maxLen) (P : Option Addr) (np pc : Nat) (q : Nat → Int) (hnp : np ≤ pc) (hpc : pc ≤ maxLen) (w : World) (hL : LsIs w A n L) (hP : SlIs w P np (fun j => .int .i8 (q j))) (hq : ∀ i, -128 ≤ q i ∧ q i < 128) :
    Calls Try.prog 4 #[.bool dn, .slice A n c, .slice P np pc] w fun r w' => r = .returned (.bool true) ∧ Below w.heap.size w w' := by
  have HG := Lib.hid (great_any A n c L hn hc w hL)
  replace hL := Lib.hid hL
  replace hP := Lib.hid hP
  replace hq := Lib.hid hq
  unfold maxLen at hpc
  go_enter Try.func4, Try.ntmps4
  go_wp2_with fail
  refine HG.out.mono ?_
  rintro e1 w1 ⟨b, rfl, hb, hB1⟩
  replace hB1 := Lib.hid hB1
  cases b with
  | true =>
    go_wp2_with fail
    refine (fixed_any w1).mono ?_
    rintro e2 w2 ⟨rfl, hB2⟩
    go_wp2_with fail
    go_ret
    exact ⟨rfl, bel_eld hB1.out hB2⟩
  | false =>
    by_cases h100p : 100 < np
    · go_wp2_with fail
      refine (fixed_any w1).mono ?_
      rintro e2 w2 ⟨rfl, hB2⟩
      go_wp2_with fail
      go_ret
      exact ⟨rfl, bel_eld hB1.out hB2⟩
    · obtain ⟨h20, h100⟩ := hb rfl
      have hL1 := Lib.hid (hL.out.kept hB1.out)
      have HM := Lib.hid (merged_any dn A n c L hn hc h20 h100 w1 hL1.out)
      replace h100 := Lib.hid h100
      clear hb HG
      go_wp2_with fail
      refine HM.out.mono ?_
      rintro e2 w2 ⟨B, bx, rb, rfl, hok, hT, hMA, hBw, hB2⟩
      have hL2 := Lib.hid (hL1.out.kept hB2)
      have HR := Lib.hid (refmerge_any dn A n c L hn hc h20 h100.out bx rb w2 hL2.out)
      have hBl := hMA.ltB
      have hB12 := Lib.hid (bel_eld hB1.out hB2)
      have hsz1 := hB1.out.size
      have hsz2 := hB2.size
      obtain ⟨S, hS⟩ : ∃ S, S = ofSys n bx rb L := ⟨_, rfl⟩
      rw [← hS] at hok hT hMA HR
      replace hS := Lib.hid hS
      replace hT := Lib.hid hT
      replace hMA := Lib.hid hMA
      replace hok := Lib.hid hok
      clear hB2 HM
      go_wp2_with fail
      refine HR.out.mono ?_
      rintro e3 w3 ⟨R, p, v, hr, hD, rfl, hLI, hob, hlen, hB3⟩
      have hRs := Lib.hid (hLI.rest hob)
      have hMA3 := Lib.hid ((hMA.out.mono (G' := fun k => w1.heap.size ≤ k ∧ (k < w2.heap.size ∨ w3.heap.size ≤ k)) (fun k h1 h2 => ⟨h2, Or.inl h1⟩)).kept hok.out hB3)
      have hB13 := Lib.hid (bel_eld hB12.out hB3)
      have hsz3 := hB3.size
      replace hr := Lib.hid hr
      replace hD := Lib.hid hD
      clear hob hB3 HR hMA hLI
      go_wp2_with fail
      go_loopw [8, 32] (fun v i wr => ∃ (m t : Nat) (hd : Nat → Nat), m ≤ R.length ∧ t ≤ np ∧ i = .int .i64 t ∧ Hid (Runs S dn (fun _ => 0) (R.take m) hd) ∧ Hid (MAt S wr B dn hd (fun k => w1.heap.size ≤ k ∧ (k < w2.heap.size ∨ w3.heap.size ≤ k))) ∧ Hid (Below w.heap.size w wr) ∧ Hid (RestIs wr w2.heap.size w3.heap.size v R m) ∧ w3.heap.size ≤ wr.heap.size) (fun _ i _ => np - (intOf i).toNat)
      case atStart => exact ⟨0, 0, fun _ => 0, by omega, by omega, rfl, Lib.hid (by simpa using Runs.nil), hMA3, hB13, hRs, by omega⟩
      case round =>
        clear hMA3 hB13 hRs
        obtain ⟨m, t, hd, hm, ht, rfl, hrm, hM, hB, hRs, hsz⟩ := hrel
        have hBT : ¬ S.T B := fun h => by have := (hT.out _ h).2; omega
        by_cases hlt : t < np
        · obtain ⟨pb, po, hPe, hpl, hpcs⟩ := hP.out (by omega)
          subst hPe
          have p0 : wr.cell? ⟨pb, po + t, none⟩ = some (.int .i8 (q t)) := keepc (hB.out) (hpcs t hlt)
          have hpl2 : pb < wr.heap.size := by have := hB.out.size; omega
          obtain ⟨z1, z2⟩ := hq.out t
          generalize q t = z at *
          have cM := Lib.hid (most_at S B dn hd (fun k => (w1.heap.size ≤ k ∧ (k < w2.heap.size ∨ w3.heap.size ≤ k)) ∧ k < wr.heap.size) wr z hok.out hBT (hM.out.mono (fun k h1 h2 => ⟨h2, h1⟩)) (by omega) (by omega))
          obtain ⟨A8, c8, e8, r1, r2, r3, r4⟩ := hRs.out
          subst e8
          replace r3 := Lib.hid r3
          replace r4 := Lib.hid r4
          unfold maxLen at r2
          clear hpcs
          go_wp2_with fail
          refine cM.out.mono ?_
          rintro e4 w4 ⟨l, hd4, v4, hr4, hn4, rfl, hL4, hM4, ht4⟩
          obtain ⟨g1, g2, g3, g4⟩ := runs_more_of hr.out hD.out hrm.out hm hr4 hn4
          have hsz4 := ht4.size
          have hfar : ∀ k, (S.T k ∨ k = B ∨ ((w1.heap.size ≤ k ∧ (k < w2.heap.size ∨ w3.heap.size ≤ k)) ∧ k < wr.heap.size)) → w1.heap.size ≤ k ∧ (k < w2.heap.size ∨ w3.heap.size ≤ k) ∧ k < wr.heap.size := fun k h => by
            rcases h with h | h | h
            · have := hT.out _ h; omega
            · omega
            · omega
          have hRs4 := Lib.hid (hRs.out.tch ht4 (fun k h1 h2 h => by have := hfar k h; omega))
          have hM5 := Lib.hid (hM4.mono (G' := fun k => w1.heap.size ≤ k ∧ (k < w2.heap.size ∨ w3.heap.size ≤ k)) (fun k h1 h2 => by
            rcases h2 with h2 | h2
            · exact h2.1
            · omega))
          have hB5 := Lib.hid (hB.out.trans (ht4.below hB.out.size (fun k hk h => by have := hfar _ h; omega)))
          obtain ⟨A4, c4, rfl, s1, s2⟩ := hL4.form
          unfold maxLen at s2
          replace hL4 := Lib.hid hL4
          replace g1 := Lib.hid g1
          replace g4 := Lib.hid g4
          clear hfar ht4 hM4 hM hB cM hr4 hn4 hRs
          go_upto_region 12 with fail
          have hk : (if ((R.length - m : Nat) : Int) < (if z < 0 then 0 else z) then ((R.length - m : Nat) : Int) else if z < 0 then 0 else z) = ((l.length : Nat) : Int) := by
            rw [g3]; split <;> split <;> omega
          rw [hk]
          clear hk
          rw [Int.toNat_natCast]
          generalize (if z < 0 then 0 else z) = zz
          clear g3
          obtain ⟨k, hk⟩ : ∃ k, k = l.length := ⟨_, rfl⟩
          rw [← hk] at g2 hL4 s1 g4
          rw [← hk]
          replace hk := Lib.hid hk
          have hkc : k ≤ c8 := by omega
          go_upto_region 14 with fail
          go_upto_region 15 with fail
          go_loopw [55] (fun i wi => ∃ (j : Nat), j ≤ k ∧ i = .int .i64 j ∧ Hid (Below w4.heap.size w4 wi)) (fun i _ => k - (intOf i).toNat)
          case atStart => exact ⟨0, by omega, rfl, Below.refl _ _⟩
          case round =>
            obtain ⟨j, hj, rfl, hbi⟩ := hrel
            by_cases hjl : j < k
            · obtain ⟨b1, o1, e1, hb1, x0, x1, x2, x3⟩ := (hL4.out.kept hbi.out).item (i := j) (by rw [← hk.out]; exact hjl)
              obtain ⟨b2, o2, e2, hb2, y0, y1, y2, y3⟩ := (hRs4.out.kept hbi.out).item (j := j) (by omega)
              have hx := atL_some g1.out (j := j) (by rw [← hk.out]; exact hjl)
              rw [hx] at y0 y1 y2 y3
              clear hx
              subst e1
              subst e2
              obtain ⟨x, hx⟩ : ∃ x, x = atL l j := ⟨_, rfl⟩
              rw [← hx] at x0 x1 x2 x3 y0 y1 y2 y3
              clear hx
              have cI := fun W => item_any x W
              unfold itV at cI
              replace cI := Lib.hid cI
              go_upto_region 17 with fail
              first | (with_reducible refine rgrow2 (by kernel_rfl) (by kernel_rfl) ?_) | (refine rgrow (by kernel_rfl) (by kernel_rfl) ?_)
              repeat (go_big_quiet_step (((go_at_call 12; exact grow_call (cI.out _)))))
              refine wpQuiet_nil ?_
              intro dr
              go_wp2_with fail
              go_roundw
              case rel => exact ⟨j + 1, by omega, by go_num, Lib.hid (hbi.out.trans ((grow_below _ _).mono hbi.out.size))⟩
              case measure => simp [intOf]; omega
            · obtain rfl : j = k := by omega
              go_wp2_with fail
              go_roundw
              case rel =>
                refine ⟨m + j, t + 1, hd4, g2, by omega, by go_num, g4, Lib.hid (hM5.out.kept hok.out hbi.out), Lib.hid (bel_eld hB5.out hbi.out), Lib.hid ((hRs4.out.kept hbi.out).adv g2), ?_⟩
                have := hbi.out.size
                omega
              case measure => simp [intOf]; omega
        · obtain rfl : t = np := by omega
          go_wp2_with fail
          refine (fixed_any wr).mono ?_
          rintro e4 w4 ⟨rfl, hB4⟩
          go_wp2_with fail
          go_ret
          exact ⟨rfl, bel_eld hB.out hB4⟩
end Go.Proofs.Ytecaegjonhimmaa
