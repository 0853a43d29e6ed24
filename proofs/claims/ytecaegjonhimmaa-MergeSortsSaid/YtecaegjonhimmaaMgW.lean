/-
  MergeAll, walked.
-/
import Derived.Test.YtecaegjonhimmaaMgV
namespace Go.Proofs.Ytecaegjonhimmaa
set_option linter.unusedVariables false
set_option linter.unusedSimpArgs false
open Go.RowKit Go.Shelf

theorem LI.item {w : World} {e : TypeId} {A : Option Addr} {n c i : Nat} {l : List (Nat → Int)} (h : LI e w (.slice A n c) l) (hi : i < l.length) :
    ∃ b o, A = some ⟨b, o, none⟩ ∧ b < w.heap.size ∧ w.cell? ⟨b, o + i * 4, none⟩ = some (.int .u64 (atL l i 0)) ∧ w.cell? ⟨b, o + i * 4 + 1, none⟩ = some (.int .u64 (atL l i 1)) ∧ w.cell? ⟨b, o + i * 4 + 2, none⟩ = some (.int .u64 (atL l i 2)) ∧ w.cell? ⟨b, o + i * 4 + 3, none⟩ = some (.int .u8 (atL l i 3)) := by
  obtain ⟨A', c', e9, _, _, hs⟩ := OwnS.ssis h (fun _ => rfl)
  injection e9 with f1 f2 f3
  subst f1
  exact ssis_at hs hi
/-- the next one of a run is the list's next -/
theorem Runs.nth {S : Sys} {dn : Bool} {hd0 hd hd' : Nat → Nat} {R : List (Nat → Int)} {m b : Nat} (h : Runs S dn hd0 R hd) (h' : Runs S dn hd0 (R.take m) hd') (hm : m < R.length) (hb : Best S dn hd' b) : S.X b (hd' b) = atL R m ∧ Runs S dn hd0 (R.take (m + 1)) (updN hd' b (hd' b + 1)) := by
  have hs := h'.snoc hb
  have hl : (R.take m ++ [S.X b (hd' b)]).length = m + 1 := by simp; omega
  have e := h.take hs (by omega)
  rw [hl] at e
  rw [e] at hs
  refine ⟨?_, hs⟩
  have e2 : atL (R.take m ++ [S.X b (hd' b)]) m = S.X b (hd' b) := by
    have := atL_new (l := R.take m) (x := S.X b (hd' b))
    rwa [List.length_take, Nat.min_eq_left (by omega)] at this
  rw [← e2, e]
  unfold atL
  rw [List.getD_eq_getElem?_getD, List.getD_eq_getElem?_getD, List.getElem?_take, if_pos (by omega)]
theorem Runs.more {S : Sys} {dn : Bool} {hd0 hd hd' : Nat → Nat} {R : List (Nat → Int)} {m : Nat} (h : Runs S dn hd0 R hd) (h' : Runs S dn hd0 (R.take m) hd') (hm : m < R.length) (hD : Done S hd') : False := by
  have := h'.max hD h
  rw [List.length_take] at this
  omega
set_option maxRecDepth 4000 in
set_option maxHeartbeats 8000000 in
theorem mergeAll_any (dn : Bool) (A : Option Addr) (n c : Nat) (L : Nat → List (Nat → Int)) (hn : n ≤ c) (hc : c ≤ maxLen) (w : World) (hL : LsIs w A n L) :
    Calls Try.prog 3 #[.bool dn, .slice A n c] w fun r w' => r = .returned (.bool true) ∧ Below w.heap.size w w' := by
  have HG := Lib.hid (great_any A n c L hn hc w hL)
  replace hL := Lib.hid hL
  go_enter Try.func3, Try.ntmps3
  go_wp2_with fail
  refine HG.out.mono ?_
  rintro e1 w1 ⟨b, rfl, hb, hB1⟩
  replace hB1 := Lib.hid hB1
  cases b with
  | true =>
    go_wp2_with fail
    refine (fixed_any w1).mono ?_
    rintro e2 w2 ⟨rfl, hB2⟩
    go_wp2_with fail
    go_ret
    exact ⟨rfl, bel_eld hB1.out hB2⟩
  | false =>
    obtain ⟨h20, h100⟩ := hb rfl
    have hL1 := Lib.hid (hL.out.kept hB1.out)
    have HM := Lib.hid (merged_any dn A n c L hn hc h20 h100 w1 hL1.out)
    replace h100 := Lib.hid h100
    clear hb HG
    go_wp2_with fail
    refine HM.out.mono ?_
    rintro e2 w2 ⟨B, bx, rb, rfl, hok, hT, hMA, hBw, hB2⟩
    have hL2 := Lib.hid (hL1.out.kept hB2)
    have HR := Lib.hid (refmerge_any dn A n c L hn hc h20 h100.out bx rb w2 hL2.out)
    have hBl := hMA.ltB
    have hB12 := Lib.hid (bel_eld hB1.out hB2)
    have hsz1 := hB1.out.size
    have hsz2 := hB2.size
    obtain ⟨S, hS⟩ : ∃ S, S = ofSys n bx rb L := ⟨_, rfl⟩
    rw [← hS] at hok hT hMA HR
    replace hS := Lib.hid hS
    replace hT := Lib.hid hT
    replace hMA := Lib.hid hMA
    replace hok := Lib.hid hok
    clear hB2 HM
    go_wp2_with fail
    refine HR.out.mono ?_
    rintro e3 w3 ⟨R, p, v, hr, hD, rfl, hLI, hob, hlen, hB3⟩
    obtain ⟨A1, c1, rfl, q1, q2⟩ := hLI.form
    have hRb : Hid (∀ k, (Value.slice A1 R.length c1).ownBlock = some k → w2.heap.size ≤ k ∧ k < w3.heap.size) := Lib.hid (fun k hk => ⟨hob k hk, hLI.lt k hk⟩)
    unfold maxLen at q2
    have hMA3 := Lib.hid ((hMA.out.mono (G' := fun k => w1.heap.size ≤ k ∧ (k < w2.heap.size ∨ w3.heap.size ≤ k)) (fun k h1 h2 => ⟨h2, Or.inl h1⟩)).kept hok.out hB3)
    have hB13 := Lib.hid (bel_eld hB12.out hB3)
    have hsz3 := hB3.size
    replace hr := Lib.hid hr
    replace hD := Lib.hid hD
    replace hLI := Lib.hid hLI
    clear hob hB3 HR hMA
    go_wp2_with fail
    go_loopw [24] (fun i wr => ∃ (m : Nat) (hd : Nat → Nat), m ≤ R.length ∧ i = .int .i64 m ∧ Hid (Runs S dn (fun _ => 0) (R.take m) hd) ∧ Hid (MAt S wr B dn hd (fun k => w1.heap.size ≤ k ∧ (k < w2.heap.size ∨ w3.heap.size ≤ k))) ∧ Hid (Below w.heap.size w wr) ∧ Hid (LI 33 wr (.slice A1 R.length c1) R) ∧ w3.heap.size ≤ wr.heap.size) (fun i _ => R.length - (intOf i).toNat)
    case atStart => exact ⟨0, fun _ => 0, by omega, rfl, Lib.hid (by simpa using Runs.nil), hMA3, hB13, hLI, by omega⟩
    case round =>
      clear hMA3 hB13 hLI
      obtain ⟨m, hd, hm, rfl, hrm, hM, hB, hLI, hsz⟩ := hrel
      have hBT : ¬ S.T B := fun h => by have := (hT.out _ h).2; omega
      by_cases hlt : m < R.length
      · obtain ⟨b, o, e, hbl, x0, x1, x2, x3⟩ := hLI.out.item hlt
        subst e
        obtain ⟨x, hx⟩ : ∃ x, x = atL R m := ⟨_, rfl⟩
        rw [← hx] at x0 x1 x2 x3
        replace hx := Lib.hid hx
        have cN := Lib.hid (fun W (hW : Below wr.heap.size wr W) => next_at S B dn hd (fun k => (w1.heap.size ≤ k ∧ (k < w2.heap.size ∨ w3.heap.size ≤ k)) ∧ k < wr.heap.size) W hok.out hBT ((hM.out.mono (fun k h1 h2 => ⟨h2, h1⟩)).kept hok.out hW))
        go_wp2_with fail
        refine (cN.out _ (bel_alloc (Below.refl _ _) _)).mono ?_
        rintro e4 w4 ⟨hd4, hNR, hM4, ht4⟩
        have hsz4 := ht4.size
        simp at hsz4
        have hfar : ∀ k, (S.T k ∨ k = B ∨ ((w1.heap.size ≤ k ∧ (k < w2.heap.size ∨ w3.heap.size ≤ k)) ∧ k < wr.heap.size)) → w1.heap.size ≤ k ∧ (k < w2.heap.size ∨ w3.heap.size ≤ k) ∧ k < wr.heap.size := fun k h => by
          rcases h with h | h | h
          · have := hT.out _ h; omega
          · omega
          · omega
        have hQ4 := (Blk.new wr 33 #[.int .u64 (x 0), .int .u64 (x 1), .int .u64 (x 2), .int .u8 (x 3)]).tch ht4 (fun h => by have := hfar _ h; omega)
        have hLI4 := Lib.hid ((hLI.out.kept (bel_alloc (Below.refl _ _) _)).tch ht4 (fun k hk h => by have := hfar _ h; have := hRb.out _ hk; omega))
        have hM5 := Lib.hid (hM4.mono (G' := fun k => w1.heap.size ≤ k ∧ (k < w2.heap.size ∨ w3.heap.size ≤ k)) (fun k h1 h2 => by
          rcases h2 with h2 | h2
          · exact h2.1
          · simp at h2; omega))
        have hB5 := Lib.hid ((bel_alloc hB.out _).trans (ht4.below (by have := hB.out.size; simp; omega) (fun k hk h => by have := hfar _ h; omega)))
        clear hfar ht4 hM4 hM hLI hB cN
        rcases hNR with ⟨b4, hb4, rfl, rfl⟩ | ⟨hall, rfl, rfl⟩
        · obtain ⟨hx4, hr4⟩ := hr.out.nth hrm.out hlt hb4
          rw [hx4, ← hx.out]
          unfold itV
          replace hr4 := Lib.hid hr4
          clear hx4 hb4
          go_upto_region 10 with fail
          refine abs_wp (fun Y => Below w4.heap.size w4 Y ∧ Blk Y w4.heap.size 34 #[.int .u64 (x 0), .int .u64 (x 1), .int .u64 (x 2), .int .u8 (x 3)]) ⟨bel_alloc (Below.refl _ _) _, Blk.new _ _ _⟩ ?_
          rintro Y ⟨hbY, gY⟩
          have qY := hQ4.kept hbY
          have y0 := (gY).cell 0
          have y1 := (gY).cell 1
          have y2 := (gY).cell 2
          have y3 := (gY).cell 3
          have yf0 := (gY).frozen 0
          have yf1 := (gY).frozen 1
          have yf2 := (gY).frozen 2
          have yf3 := (gY).frozen 3
          have yl := (gY).lt
          have q0 := (qY).cell 0
          have q1 := (qY).cell 1
          have q2 := (qY).cell 2
          have q3 := (qY).cell 3
          have qf0 := (qY).frozen 0
          have qf1 := (qY).frozen 1
          have qf2 := (qY).frozen 2
          have qf3 := (qY).frozen 3
          have ql := (qY).lt
          have cI := fun W => item_any x W
          unfold itV at cI
          replace cI := Lib.hid cI
          have hszY := hbY.size
          replace hbY := Lib.hid hbY
          clear gY qY hQ4
          first | (with_reducible refine rgrow2 (by kernel_rfl) (by kernel_rfl) ?_) | (refine rgrow (by kernel_rfl) (by kernel_rfl) ?_)
          repeat (go_big_quiet_step (((go_at_call 12; exact grow_call (cI.out _)))))
          refine wpQuiet_nil ?_
          intro dr
          go_wp2_with fail
          go_roundw
          case rel => exact ⟨m + 1, _, by omega, by go_num, hr4, Lib.hid ((hM5.out.kept hok.out hbY.out).kept hok.out (grow_below _ _)), Lib.hid ((bel_eld hB5.out hbY.out).trans ((grow_below _ _).mono (by have := hB5.out.size; omega))), Lib.hid ((hLI4.out.kept hbY.out).kept (grow_below _ _)), by have := grow_size Y dr; omega⟩
          case measure => simp [intOf]; omega
        · exact (hr.out.more hrm.out hlt hall).elim
      · obtain rfl : m = R.length := by omega
        have hrm2 := hrm.out
        rw [List.take_length] at hrm2
        obtain ⟨_, rfl⟩ := hr.out.det hrm2 rfl
        have cN := Lib.hid (next_at S B dn _ _ wr hok.out hBT hM.out)
        go_wp2_with fail
        refine cN.out.mono ?_
        rintro e4 w4 ⟨hd4, hNR, hM4, ht4⟩
        rcases hNR with ⟨b4, hb4, rfl, rfl⟩ | ⟨hall, rfl, rfl⟩
        · exact (hb4.not_done hD.out).elim
        · have hB5 := Lib.hid (hB.out.trans (ht4.below hB.out.size (fun k hk h => by
            rcases h with h | h | h
            · have := hT.out _ h; omega
            · omega
            · omega)))
          replace hM4 := Lib.hid hM4
          clear ht4
          unfold itV
          dsimp only
          go_upto_region 14 with fail
          refine abs_wp (fun Y => Below w4.heap.size w4 Y ∧ Blk Y w4.heap.size 34 #[.int .u64 0, .int .u64 0, .int .u64 0, .int .u8 0]) ⟨bel_alloc (Below.refl _ _) _, Blk.new _ _ _⟩ ?_
          rintro Y ⟨hbY, gY⟩
          have hMY := Lib.hid (hM4.out.kept hok.out hbY)
          have hBY := Lib.hid (bel_eld hB5.out hbY)
          clear hM4 hB5 hbY
          go_wp2_with fail
          refine (fixed_any Y).mono ?_
          rintro e5 w5 ⟨rfl, hb5⟩
          have g5 := gY.kept hb5
          have z0 := (g5).cell 0
          have z1 := (g5).cell 1
          have z2 := (g5).cell 2
          have z3 := (g5).cell 3
          have zf0 := (g5).frozen 0
          have zf1 := (g5).frozen 1
          have zf2 := (g5).frozen 2
          have zf3 := (g5).frozen 3
          have zl := (g5).lt
          have cM := Lib.hid (most_at S B dn _ _ w5 3 hok.out hBT (hMY.out.kept hok.out hb5) (by omega) (by omega))
          have hB6 := Lib.hid (bel_eld hBY.out hb5)
          clear hMY hBY hb5 g5 gY
          go_wp2_with fail
          refine cM.out.mono ?_
          rintro e6 w6 ⟨l, hd6, v, hr6, hn6, rfl, hL6, _, ht6⟩
          obtain rfl := hr6.none hall
          obtain ⟨A6, c6, rfl, _, _⟩ := hL6.form
          have hB7 := Lib.hid (hB6.out.trans (ht6.below hB6.out.size (fun k hk h => by
            rcases h with h | h | h
            · have := hT.out _ h; omega
            · omega
            · rcases h with h | h
              · omega
              · omega)))
          clear hL6 ht6 cM hr6 hn6
          simp only [List.length_nil]
          go_wp2_with fail
          go_ret
          exact ⟨rfl, hB7.out⟩
end Go.Proofs.Ytecaegjonhimmaa
